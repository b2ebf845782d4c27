import Derived.Test.YtcgdjembdjdlhaaGreatDoorVmC
set_option linter.all false
namespace Go.VM
open Go
section
variable {P : Program} {N : FK} {ops : Array Oper} {q : List VOper}
def unl (listed:Array Bool):Nat:=listed.toList.count false
theorem unl_pos {listed:Array Bool} {i:Nat} (h:listed.getD i true=false):unl (listed.setIfInBounds i true)+1=unl listed:=by
 have hi:i<listed.size:=by
  rcases Nat.lt_or_ge i listed.size with h'|h'
  ·exact h'
  ·simp [Array.getElem?_eq_none h'] at h
 have hg:listed.toList[i]'(by simpa using hi)=false:=by simpa [hi] using h
 unfold unl;rw [Array.toList_setIfInBounds,List.count_set (by simpa using hi),hg];have hp:0<listed.toList.count false:=List.count_pos_iff.2 (by rw [← hg];exact List.getElem_mem _);have e1:(true==false)=false:=rfl;have e2:(false==false)=true:=rfl;simp only [e1,e2,if_true,Bool.false_eq_true,if_false];omega
theorem AAny_J {K : Env → Heap → Prop} (J : Array Bool → Env → Heap → Prop) (hlen : ops.size = q.length)
  (hstep:∀ listed e h,J listed e h→∀ i∈Region.ready .any ops listed,∀ o,q[i]?=some o→o.guard=none∧Zaq P e h o.op (fun v h'=>J (listed.setIfInBounds i true) (e.put o.dst v) h'))
  (hend:∀ listed e h,J listed e h→Region.ready .any ops listed=[]→K e h):∀ (n:Nat) (listed:Array Bool) (e:Env) (h:Heap),unl listed≤n→J listed e h→AAny P ops q (fun _=>h) (fun _ _ _=>True) (List.range ops.size) K n listed e h
 | 0,listed,e,h,hn,H=>by
  have h0:Region.ready .any ops listed=[]:=by
   rw [List.eq_nil_iff_forall_not_mem];intro i hi;have:=unl_pos (mem_ready.1 hi).1;omega
  exact ⟨h0,hend _ _ _ H h0⟩
 | n+1,listed,e,h,hn,H=>by
  refine ⟨fun h0=>hend _ _ _ H h0,fun i hi o ho=>?_⟩;have hlt:i<ops.size:=by rw [hlen];exact (List.getElem?_eq_some_iff.1 ho).1
  have hu:=unl_pos (mem_ready.1 hi).1;have s:=hstep _ _ _ H i hi o ho;refine (Zbn (List.mem_range.2 hlt)).2 ⟨s.1,s.2.mono fun v h' k=>⟨trivial,?_⟩⟩;have:=AAny_J J hlen hstep hend n _ (e.put o.dst v) h' (by omega) k;exact AAny_hq this
where
 AAny_hq {K:Env→Heap→Prop} {f g:Nat→Heap}:∀ {n:Nat} {listed:Array Bool} {e:Env} {h:Heap},AAny P ops q f (fun _ _ _=>True) (List.range ops.size) K n listed e h→AAny P ops q g (fun _ _ _=>True) (List.range ops.size) K n listed e h:=by
  intro n
  induction n with
  | zero=>exact fun h=>h
  | succ n ih =>
   intro listed e h H;refine ⟨H.1,fun i hi o ho=>?_⟩;have s:=H.2 i hi o ho;have hlt:i<ops.size:=by
    obtain ⟨_,o,ho,_⟩:=mem_ready.1 hi;exact (Array.getElem?_eq_some_iff.1 ho).1
   have s':=(Zbn (List.mem_range.2 hlt)).1 s;exact (Zbn (List.mem_range.2 hlt)).2 ⟨s'.1,s'.2.mono fun v h' k=>⟨trivial,ih k.2⟩⟩
theorem VW_drawJ {Q : Exit → Env → Heap → Prop} {e : Env} {h : Heap} {id : Nat} {ops : Array Oper} {q : List VOper} (l : List Nat) (h3 : cOpers P N.n ops ops.toList = some q) (hm : P.follows .mixedOrders = true)
  (J:Array Bool→Env→Heap→Prop) (hJ:J (Array.replicate ops.size false) e h)
  (hstep:∀ listed e h,J listed e h→∀ i∈Region.ready .any ops listed,∀ o,q[i]?=some o→o.guard=none∧Zaq P e h o.op (fun v h'=>J (listed.setIfInBounds i true) (e.put o.dst v) h'))
  (hend:∀ listed e h,J listed e h→Region.ready .any ops listed=[]→Q .normal (Env.keep l e) h):VW P N (.other (.region id ops true)) Q e h:=by
 intro c hc;have hc':c=.region id ops true:=by
  cases c
  case region id' ops' draw' =>
   obtain ⟨p,h3',h'|h'|h'⟩:=Zbw hc
   ·obtain ⟨_,h'⟩:=h';cases h'
   ·obtain ⟨_,_,h'|h'⟩:=h'
    ·obtain ⟨_,h'⟩:=h';cases h'
    ·cases h'
   ·simp only [Zbr] at hc;rw [h3'] at hc;simp only at hc;split at hc
    ·split at hc
     ·split at hc<;>simp at hc
     ·simpa using hc
    ·simp at hc
  all_goals
   simp only [Zbr,Option.map_eq_some_iff] at hc
   first
   |(simp at hc;done)
   |(split at hc<;>simp at hc;done)
   |(simpa using hc)
 subst hc';obtain ⟨hlen,_⟩:=Zcw h3;rw [Array.length_toList] at hlen;intro g w a r he hd hs;refine wpIn_region_any hm ?_;have hu:unl (Array.replicate ops.size false)≤ops.size:=by
  unfold unl;refine Nat.le_trans (List.count_le_length) ?_;simp
 have hany:=AAny_J (P:=P) (K:=fun e' h'=>Q .normal (Env.keep l e') h') J hlen hstep hend ops.size _ e h hu hJ;refine any_sound (N:=N) h3 (fun _ _=>True) ?_ (fun _ _ _ _ _ _=>trivial) (fun _ _ _ _ _ _ _ _=>trivial) (Q:=fun x a' w'=>∃ g' e' h',Q x e' h'∧Rel g' w' h'∧Zar g' a' e'∧N.dok x a'.defers h'∧a'.tmps.size=N.n∧Evo g w h g' w' h') (g0:=g) (w0:=w) (h0:=h)
  (fun g' w' h' a' e' k1 k2 k3 k4 k5 k6=>⟨g',_,h',k1,k2,k3.keep l,k4,k5,k6⟩) _ _ e h hany trivial g _ a (r.drew _) he hd hs (Evo.drew _ _ _ _)
 intro listed h' i vo _ hi hiE _
 exfalso
 obtain ⟨_,o,ho,_⟩:=mem_ready.1 hi;exact hiE (List.mem_range.2 (Array.getElem?_eq_some_iff.1 ho).1)
end
end Go.VM
