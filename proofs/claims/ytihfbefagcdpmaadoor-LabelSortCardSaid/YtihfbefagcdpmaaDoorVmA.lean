import Derived.Test.YtihfbefagcdpmaaDoorVm5
import Derived.Scope
import Derived.Deep.LoopGhost
import Derived.OpenShut
import Derived.DataReads
set_option linter.all false
namespace Go.VM
open Go
structure VOper where
  dst : Option Nat
  op : VOp
  guard : Option (Nat × Bool)
  deriving Inhabited
abbrev ZM (d s : Nat) : VOper := ⟨some d, .mv (.t s), none⟩
abbrev ZO (d : Nat) (o : VOp) : VOper := ⟨some d, o, none⟩
abbrev ZN (o : VOp) : VOper := ⟨none, o, none⟩
abbrev ZG (d : Nat) (o : VOp) (g : Nat) (b : Bool) : VOper := ⟨some d, o, some (g, b)⟩
inductive VC where
  | skip
  | region (ops : List VOper) (draw : Bool)
  | draw2 (ops : List VOper) (late : List Bool)
  | seq (a b : VC)
  | cond (c : VA) (thn els : VC)
  | block (id : Nat) (body : VC)
  | loop (body : VC)
  | scope (body : VC)
  | exit (id : Nat)
  | ret
  | other (c : Code)
  deriving Inhabited
def cGuard (ops:Array Oper):Option (Nat × Bool) → Option (Option (Nat × Bool))
  | none=>some none
  | some (j,want)=>match (ops[j]?).bind (·.dst) with
    | some d=>some (some (d,want))
    | none=>none
def dstB (N:Nat):Option Nat → Bool
  | some d=>decide (d < N)
  | none=>true
def cOpers (P:Program) (N:Nat) (ops:Array Oper):List Oper → Option (List VOper)
  | []=>some []
  | o :: r=>match cOp P o,cGuard ops o.guard,cOpers P N ops r with
    | some op,some gd,some q=>if dstB N o.dst then some (⟨o.dst,op,gd⟩ :: q) else none
    | _,_,_=>none
def VOp.vas:VOp → List VA
  | .mv a | .un _ a | .conv _ a | .strid a | .b2s a | .s2b a | .faddr _ a | .fld _ _ _ a | .ext a _ | .len _ a | .box _ a | .load _ _ a | .isnil _ a=>[a]
  | .pick a b c=>[a,b,c]
  | .alloc _ | .mkmap=>[]
  | .build _ ps=>ps.map fun p=>p.2.2
  | .bslice _ _ _ ps=>ps.map fun p=>p.2
  | .store _ a b | .bin _ a b | .binb _ a b | .eqs _ _ a b | .iaddr _ a b | .idx a b | .app _ _ _ _ a b=>[a,b]
  | .mkfn _ x y=>x ++ y
  | .slice _ _ a lo hi=>a :: (lo.toList ++ hi.toList)
  | .mm _ l=>l
  | .lookup _ _ _ a b=>[a,b]
  | .mlen a=>[a]
  | .mapset _ a b c=>[a,b,c]
  | .call _ l=>l
  | .callv f l=>f :: l
  | .px _ l=>l
  | .fx _ l=>l
  | .nd _ a=>[a]
  | .other _=>[]
def VOp.closed:VOp → Bool
  | .other _=>false
  | _=>true
def VOp.simple:VOp → Bool
  | .alloc _ | .box .. | .store .. | .app .. | .mapset .. | .mkmap | .fx .. | .nd ..=>true
  | _=>false
def VOp.det:VOp → Bool
  | .bslice ..=>true
  | op=>op.pure
def VOper.reads (o:VOper):List Nat :=
  (o.op.vas.filterMap fun | .t n=>some n | _=>none) ++ (match o.guard with | some (d,_)=>[d] | none=>[])
def VOper.apart (x y:VOper):Bool :=
  (match x.dst with | some d=>!y.reads.contains d && y.dst != some d | none=>true) && (match y.dst with | some d=>!x.reads.contains d | none=>true)
def effAt (q:List VOper) (k:Nat):Bool:=match q[k]? with | some o=>o.op.simple | none=>false
def Zbf (ops:Array Oper) (listed:Array Bool):Nat → Nat → Nat → Bool
  | 0,_,_=>false
  | f + 1,k,j=>match ops[j]? with
    | some o=>o.after.any fun e=>Region.binds .any e && (e.on == k || (!(listed.getD e.on true) && Zbf ops listed f k e.on))
    | none=>false
def freeB (ops:Array Oper) (q:List VOper) (listed:Array Bool) (k:Nat):Bool :=
  (List.range ops.size).all fun j=>j == k || listed.getD j true ||
    Zbf ops listed ops.size k j ||
    (match q[k]?,q[j]? with
    | some x,some y=>x.apart y && !(x.op.simple && y.op.simple) && (!x.op.simple || y.op.det)
    | _,_=>false)
def drawB (ops:Array Oper) (q:List VOper):Nat → Nat → Array Bool → Bool
  | 0,_,listed=>(Region.ready .any ops listed).isEmpty
  | n + 1,k,listed=>(Region.ready .any ops listed).contains k && freeB ops q listed k && q.all (fun o=>o.op.closed) && drawB ops q n (k + 1) (listed.setIfInBounds k true)
def VOp.writes:VOp → Bool
  | .store .. | .mapset .. | .app .. | .fx ..=>true
  | _=>false
def Zbg (q:List VOper) (k:Nat):Bool:=match q[k]? with | some o=>o.op.writes | none=>false
def lateB (ops:Array Oper) (q:List VOper) (i:Nat):Bool:=(List.range ops.size).all fun j=>!(Zbg q j) || Zbf ops (Array.replicate ops.size false) ops.size i j
def lateL (ops:Array Oper) (q:List VOper):List Bool:=(List.range ops.size).map (lateB ops q)
def cCode (P:Program) (N:Nat):Code → Option VC
  | .skip=>some .skip
  | .region id ops draw=>match cOpers P N ops ops.toList with
    | some q=>if draw then (if P.follows .mixedOrders && drawB ops q ops.size 0 (Array.replicate ops.size false) then (if q.any (fun o=>o.op.writes) then some (.draw2 q (lateL ops q)) else some (.region q true)) else some (.other (.region id ops draw))) else some (.region q false)
    | none=>none
  | .seq a b=>match cCode P N a,cCode P N b with
    | some x,some y=>some (.seq x y)
    | _,_=>none
  | .cond c a b=>match cA c,cCode P N a,cCode P N b with
    | some v,some x,some y=>some (.cond v x y)
    | _,_,_=>none
  | .block id c=>(cCode P N c).map (.block id)
  | .loop c=>(cCode P N c).map .loop
  | .scope c=>(cCode P N c).map .scope
  | .exit id=>some (.exit id)
  | .ret=>some .ret
  | .label _=>some .skip
  | c=>some (.other c)
def guardOf (want:Bool):PV → Option Bool
  | .bool b=>some (b == want)
  | .undef=>some false
  | _=>none
def GuardW (P:Program) (e:Env) (h:Heap) (op:VOp) (c:Bool) (K:PV → Heap → Prop):Prop :=
  match op.pure with
  | true=>(c = true → pok e h op) ∧ K (gd c (pval e h op)) h
  | false=>(c = true → Zaf P e h op K) ∧ (c = false → K .undef h)
def OpsW (P:Program):List VOper → (Env → Heap → Prop) → Env → Heap → Prop
  | [],K,e,h=>K e h
  | o :: r,K,e,h=>match o.guard with
    | none=>Zaf P e h o.op (fun v h'=>OpsW P r K (e.put o.dst v) h')
    | some (d,want)=>match guardOf want (e.get d) with
      | some c=>GuardW P e h o.op c (fun v h'=>OpsW P r K (e.put o.dst v) h')
      | none=>False
def AW (P:Program) (N:Nat) (c:Code) (Q:Exit → Env → Heap → Prop) (e:Env) (h:Heap):Prop :=
  ∀ g w a,Rel g w h → Zao g a e → a.defers = [] → a.tmps.size = N →
    c.wp P (fun x a' w'=>∃ g' e' h',Q x e' h' ∧ Rel g' w' h' ∧ Zao g' a' e' ∧ a'.defers = [] ∧ a'.tmps.size = N ∧ Evo g w h g' w' h') a w
theorem put_size (a:Act) (d:Option Nat) (v:Value):(a.put d v).tmps.size = a.tmps.size ∧ (a.put d v).defers = a.defers:=by
  cases d <;> simp [Act.put]
theorem yielded_of {g : Gh} {a : Act} {e : Env} (he : Zao g a e) {ops : Array Oper} {j : Nat} {want : Bool} {d : Nat} (hd : (ops[j]?).bind (·.dst) = some d) {c : Bool} (hc : guardOf want (e.get d) = some c) :
    (yielded ops a.tmps j == some want) = c:=by
  have hv:=he d
  unfold yielded
  rw [hd]
  simp only [Option.bind_some]
  cases hp:e.get d <;> simp only [hp,guardOf,Option.some.injEq] at hc <;> try (cases hc; done)
  case undef =>
    subst hc
    rw [hp] at hv
    by_cases hlt:d < a.tmps.size
    · have e1:a.tmps.getD d Go.undef = a.tmps[d]:=by simp [Array.getD,hlt]
      rw [e1] at hv
      rw [Array.getElem?_eq_getElem hlt]
      generalize a.tmps[d] = v at hv
      cases hv
      rfl
    · rw [Array.getElem?_eq_none (by omega)]; rfl
  case bool b =>
    subst hc
    rw [hp] at hv
    by_cases hlt:d < a.tmps.size
    · have e1:a.tmps.getD d Go.undef = a.tmps[d]:=by simp [Array.getD,hlt]
      rw [e1] at hv
      rw [Array.getElem?_eq_getElem hlt,hv.bool_inv]
      cases b <;> cases want <;> rfl
    · have e1:a.tmps.getD d Go.undef = Go.undef:=by simp [Array.getD,hlt]
      rw [e1] at hv
      cases hv
theorem ops_sound {P : Program} {N : Nat} {ops : Array Oper} {Q : Exit → Act → World → Prop} {K : Env → Heap → Prop} {g0 : Gh} {w0 : World} {h0 : Heap}
    (hQ:∀ g w h a e,K e h → Rel g w h → Zao g a e → a.defers = [] → a.tmps.size = N → Evo g0 w0 h0 g w h → Q .normal a w) :
    ∀ (l:List Oper) (q:List VOper) (k:Nat) (e:Env) (h:Heap),(∀ j,l[j]? = ops[k + j]?) → cOpers P N ops l = some q → OpsW P q K e h →
      ∀ g w a,Rel g w h → Zao g a e → a.defers = [] → a.tmps.size = N → Evo g0 w0 h0 g w h → wpOps P ops Q ((List.range l.length).map (k + ·)) a w
  | [],q,k,e,h,_,hc,hw,g,w,a,r,he,hd,hs,hev=>by
    simp only [cOpers,Option.some.injEq] at hc; subst hc
    exact hQ g w h a e hw r he hd hs hev
  | o :: l,q,k,e,h,hl,hc,hw,g,w,a,r,he,hd,hs,hev=>by
    have h0:ops[k]? = some o:=by simpa using (hl 0).symm
    have hl':∀ j,l[j]? = ops[(k + 1) + j]?:=fun j=>by have:=hl (j + 1); simpa [Nat.add_assoc,Nat.add_comm 1 j] using this
    simp only [cOpers] at hc
    split at hc
    case h_2=>cases hc
    rename_i op gu qs h1 h2 h3
    have hdst:dstB N o.dst = true:=by
      by_cases hh:dstB N o.dst = true
      · exact hh
      · rw [if_neg hh] at hc; cases hc
    rw [if_pos hdst] at hc
    simp only [Option.some.injEq] at hc; subst hc
    have hdlt:∀ t,o.dst = some t → t < a.tmps.size:=by
      intro t ht
      rw [ht] at hdst
      rw [hs]; simpa [dstB] using hdst
    have hlist:(List.range (o :: l).length).map (k + ·) = k :: (List.range l.length).map ((k + 1) + ·):=by
      simp only [List.length_cons,List.range_succ_eq_map,List.map_cons,Nat.add_zero,List.map_map]
      congr 1
      apply List.map_congr_left
      intro x _
      simp only [Function.comp]
      omega
    rw [hlist,wpOps_cons]
    unfold wpOp
    simp only [h0]
    have next : ∀ (v : Value) (pv : PV) (g' : Gh) (w' : World) (h' : Heap), OpsW P qs K (e.put o.dst pv) h' → Rep g' v pv → Rel g' w' h' → Evo g w h g' w' h' →
        wpOps P ops Q ((List.range l.length).map ((k + 1) + ·)) (a.put o.dst v) w':=by
      intro v pv g' w' h' hk hv hr hev'
      exact ops_sound hQ l qs (k + 1) _ _ hl' h3 hk g' w' _ hr ((he.mono hev'.le).put hv hdlt) (by rw [(put_size a o.dst v).2]; exact hd) (by rw [(put_size a o.dst v).1]; exact hs) (hev.trans hev')
    have skip:OpsW P qs K (e.put o.dst .undef) h → wpOps P ops Q ((List.range l.length).map ((k + 1) + ·)) (a.put o.dst Go.undef) w :=
      fun hk=>next Go.undef .undef g w h hk .undef r (Evo.refl _ _ _)
    have run:Zaf P e h op (fun v h'=>OpsW P qs K (e.put o.dst v) h') → o.wp P a w (wpOps P ops Q ((List.range l.length).map ((k + 1) + ·))) Q :=
      fun hsw=>stepW_sound h1 hsw g w a _ Q r he next
    simp only [OpsW] at hw
    unfold Region.wanted
    cases hog:o.guard with
    | none =>
      rw [hog] at h2
      simp only [cGuard,Option.some.injEq] at h2; subst h2
      simp only [if_true]
      exact .inl (run hw)
    | some jw =>
      obtain ⟨j,want⟩:=jw
      rw [hog] at h2
      simp only [cGuard] at h2
      split at h2
      case h_2=>cases h2
      rename_i d hdd
      simp only [Option.some.injEq] at h2; subst h2
      simp only at hw
      split at hw
      case h_2=>exact hw.elim
      rename_i c hcg
      have hy:=yielded_of he hdd hcg
      simp only [hy]
      simp only [GuardW] at hw
      cases c
      · simp only [Bool.false_eq_true,if_false]
        apply skip
        split at hw
        · have:=hw.2; simpa [gd] using this
        · exact hw.2 rfl
      · simp only [if_true]
        left
        apply run
        split at hw
        · rename_i hpure
          have h2':=hw.2
          simp only [gd,if_true] at h2'
          have h1':=hw.1 rfl
          cases op <;> first | exact ⟨h1',h2'⟩ | simp [VOp.pure] at hpure
        · exact hw.1 rfl
theorem AW_region {P : Program} {N : Nat} {id : Nat} {ops : Array Oper} {q : List VOper} {Q : Exit → Env → Heap → Prop} {e : Env} {h : Heap} (l : List Nat) (hc : cOpers P N ops ops.toList = some q) (hw : OpsW P q (fun e' h' => Q .normal (Env.keep l e') h') e h) :
    AW P N (.region id ops false) Q e h:=by
  intro g w a r he hd hs
  apply wp_region
  have:=ops_sound (P:=P) (N:=N) (ops:=ops) (Q:=fun x a' w'=>∃ g' e' h',Q x e' h' ∧ Rel g' w' h' ∧ Zao g' a' e' ∧ a'.defers = [] ∧ a'.tmps.size = N ∧ Evo g w h g' w' h') (K:=fun e' h'=>Q .normal (Env.keep l e') h') (g0:=g) (w0:=w) (h0:=h)
    (fun g' w' h' a' e' k1 k2 k3 k4 k5 k6=>⟨g',_,h',k1,k2,k3.keep l,k4,k5,k6⟩) ops.toList q 0 e h (fun j=>by simp) hc hw g w a r he hd hs (Evo.refl _ _ _)
  simpa using this
section rules
variable {P : Program} {N : Nat} {Q : Exit → Env → Heap → Prop} {e : Env} {h : Heap}
theorem AW.mono {c:Code} {Q':Exit → Env → Heap → Prop} (H:AW P N c Q e h) (hq:∀ x e h,Q x e h → Q' x e h):AW P N c Q' e h :=
  fun g w a r he hd hs=>wp_mono (H g w a r he hd hs) fun _ _ _ ⟨g',e',h',k1,k⟩=>⟨g',e',h',hq _ _ _ k1,k⟩
theorem AW.weaken {c:Code} {e':Env} {h':Heap} (he:e'.le e) (hh:h'.le h) (H:AW P N c Q e' h'):AW P N c Q e h :=
  fun g w a r er hd hs=>wp_mono (H g w a (r.weaken hh) (er.le he) hd hs) fun _ _ _ ⟨g',e2,h2,k1,k2,k3,k4,k5,k6⟩=>⟨g',e2,h2,k1,k2,k3,k4,k5,k6.weakenL hh⟩
theorem AW.keep {c:Code} (l:List Nat) (H:AW P N c Q (Env.keep l e) h):AW P N c Q e h :=
  fun g w a r er hd hs=>H g w a r (er.keep l) hd hs
theorem AW_skip (H:Q .normal e h):AW P N .skip Q e h:=fun g w a r he hd hs=>wp_skip ⟨g,e,h,H,r,he,hd,hs,Evo.refl _ _ _⟩
theorem AW_label {l:Nat} (H:Q .normal e h):AW P N (.label l) Q e h:=fun g w a r he hd hs=>wp_label ⟨g,e,h,H,r,he,hd,hs,Evo.refl _ _ _⟩
theorem AW_exit {id:Nat} (H:Q (.exit id) e h):AW P N (.exit id) Q e h:=fun g w a r he hd hs=>wp_exit ⟨g,e,h,H,r,he,hd,hs,Evo.refl _ _ _⟩
theorem AW_ret (H:Q .ret e h):AW P N .ret Q e h:=fun g w a r he hd hs=>wp_ret ⟨g,e,h,H,r,he,hd,hs,Evo.refl _ _ _⟩
def Zae (K:Env → Heap → Prop) (Q:Exit → Env → Heap → Prop):Exit → Env → Heap → Prop
  | .normal,e,h=>K e h
  | x,e,h=>Q x e h
theorem AW_seq {x y:Code} (H:AW P N x (Zae (AW P N y Q) Q) e h):AW P N (.seq x y) Q e h:=by
  intro g w a r he hd hs
  apply wp_seq
  refine wp_mono (H g w a r he hd hs) fun ex a' w' ⟨g',e',h',k1,k2,k3,k4,k5,k6⟩=>?_
  cases ex with
  | normal=>exact wp_mono (k1 g' w' a' k2 k3 k4 k5) fun _ _ _ ⟨g2,e2,h2,m1,m2,m3,m4,m5,m6⟩=>⟨g2,e2,h2,m1,m2,m3,m4,m5,k6.trans m6⟩
  | exit id=>exact ⟨g',e',h',k1,k2,k3,k4,k5,k6⟩
  | goto l=>exact ⟨g',e',h',k1,k2,k3,k4,k5,k6⟩
  | ret=>exact ⟨g',e',h',k1,k2,k3,k4,k5,k6⟩
  | panic ch=>exact ⟨g',e',h',k1,k2,k3,k4,k5,k6⟩
  | outgrown=>exact ⟨g',e',h',k1,k2,k3,k4,k5,k6⟩
theorem AW_cond {c:Operand} {v:VA} {x y:Code} {b:Bool} (hc:cA c = some v) (hb:v.ev e = .bool b) (ht:b = true → AW P N x Q e h) (hf:b = false → AW P N y Q e h):AW P N (.cond c x y) Q e h:=by
  intro g w a r he hd hs
  have:=Zam he hc
  rw [hb] at this
  exact wp_cond_split this.bool_inv (fun hh=>ht hh g w a r he hd hs) (fun hh=>hf hh g w a r he hd hs)
def Za2 (id:Nat) (Q:Exit → Env → Heap → Prop):Exit → Env → Heap → Prop
  | .exit id',e,h=>if id' = id then Q .normal e h else Q (.exit id') e h
  | x,e,h=>Q x e h
theorem AW_block {id:Nat} {c:Code} (H:AW P N c (Za2 id Q) e h):AW P N (.block id c) Q e h:=by
  intro g w a r he hd hs
  apply wp_block
  refine wp_mono (H g w a r he hd hs) fun ex a' w' ⟨g',e',h',k1,k⟩=>?_
  cases ex with
  | exit id' =>
    simp only [Za2] at k1
    simp only [Exit.inBlock]
    split at k1
    · rename_i hid; rw [if_pos hid]; exact ⟨g',e',h',k1,k⟩
    · rename_i hid; rw [if_neg hid]; exact ⟨g',e',h',k1,k⟩
  | normal=>exact ⟨g',e',h',k1,k⟩
  | goto l=>exact ⟨g',e',h',k1,k⟩
  | ret=>exact ⟨g',e',h',k1,k⟩
  | panic ch=>exact ⟨g',e',h',k1,k⟩
  | outgrown=>exact ⟨g',e',h',k1,k⟩
theorem AW_loop {c : Code} {σ : Type} (st : σ → Env × Heap) (μ : σ → Nat) (s0 : σ) (h1 : (st s0).1.le e) (h2 : (st s0).2.le h)
    (round:∀ s,AW P N c (Zae (fun e' h'=>∃ s',(st s').1.le e' ∧ (st s').2.le h' ∧ μ s' < μ s) Q) (st s).1 (st s).2):AW P N (.loop c) Q e h:=by
  intro g w a r he hd hs
  refine wp_loop_ghost (fun n a' w'=>∃ s g',μ s = n ∧ Rel g' w' (st s).2 ∧ Zao g' a' (st s).1 ∧ a'.defers = [] ∧ a'.tmps.size = N ∧ Evo g w h g' w' (st s).2) (μ s0)
    ⟨s0,g,rfl,r.weaken h2,he.le h1,hd,hs,(Evo.refl g w h).weakenR h2⟩ ?_
  rintro n a' w' ⟨s,g',rfl,r',he',hd',hs',hev⟩
  refine wp_mono (round s g' w' a' r' he' hd' hs') fun ex a2 w2 ⟨g2,e2,hh2,k1,k2,k3,k4,k5,k6⟩=>?_
  cases ex with
  | normal =>
    obtain ⟨s',l1,l2,l3⟩:=k1
    exact ⟨μ s',l3,s',g2,rfl,k2.weaken l2,k3.le l1,k4,k5,(hev.trans k6).weakenR l2⟩
  | exit id=>exact ⟨g2,e2,hh2,k1,k2,k3,k4,k5,hev.trans k6⟩
  | goto l=>exact ⟨g2,e2,hh2,k1,k2,k3,k4,k5,hev.trans k6⟩
  | ret=>exact ⟨g2,e2,hh2,k1,k2,k3,k4,k5,hev.trans k6⟩
  | panic ch=>exact ⟨g2,e2,hh2,k1,k2,k3,k4,k5,hev.trans k6⟩
  | outgrown=>exact ⟨g2,e2,hh2,k1,k2,k3,k4,k5,hev.trans k6⟩
end rules
def VW (P:Program) (N:Nat) (vc:VC) (Q:Exit → Env → Heap → Prop) (e:Env) (h:Heap):Prop:=∀ c,cCode P N c = some vc → AW P N c Q e h
section vrules
variable {P : Program} {N : Nat} {Q : Exit → Env → Heap → Prop} {e : Env} {h : Heap}
theorem VW.mono {c:VC} {Q':Exit → Env → Heap → Prop} (H:VW P N c Q e h) (hq:∀ x e h,Q x e h → Q' x e h):VW P N c Q' e h:=fun x hx=>(H x hx).mono hq
theorem VW.weaken {c:VC} {e':Env} {h':Heap} (he:e'.le e) (hh:h'.le h) (H:VW P N c Q e' h'):VW P N c Q e h:=fun x hx=>(H x hx).weaken he hh
theorem Zak (H:Q .normal e h):VW P N .skip Q e h:=by
  intro c hc
  cases c <;> simp only [cCode,Option.map_eq_some_iff] at hc
  case skip=>exact AW_skip H
  case label=>exact AW_label H
  case seq=>split at hc <;> simp at hc
  case cond=>split at hc <;> simp at hc
  case region=>(repeat' (split at hc)) <;> simp at hc
  all_goals simp at hc
theorem VW_exit {id:Nat} (H:Q (.exit id) e h):VW P N (.exit id) Q e h:=by
  intro c hc
  cases c <;> simp only [cCode,Option.map_eq_some_iff] at hc
  case exit id'=>simp only [Option.some.injEq,VC.exit.injEq] at hc; subst hc; exact AW_exit H
  case seq=>split at hc <;> simp at hc
  case cond=>split at hc <;> simp at hc
  case region=>(repeat' (split at hc)) <;> simp at hc
  all_goals simp at hc
theorem Zal (H:Q .ret e h):VW P N .ret Q e h:=by
  intro c hc
  cases c <;> simp only [cCode,Option.map_eq_some_iff] at hc
  case ret=>exact AW_ret H
  case seq=>split at hc <;> simp at hc
  case cond=>split at hc <;> simp at hc
  case region=>(repeat' (split at hc)) <;> simp at hc
  all_goals simp at hc
theorem Zac {x y:VC} (H:VW P N x (Zae (VW P N y Q) Q) e h):VW P N (.seq x y) Q e h:=by
  intro c hc
  cases c <;> simp only [cCode,Option.map_eq_some_iff] at hc
  case seq a b =>
    split at hc
    · rename_i p q h1 h2
      simp only [Option.some.injEq,VC.seq.injEq] at hc
      obtain ⟨rfl,rfl⟩:=hc
      refine AW_seq ((H a h1).mono fun ex e' h' hk=>?_)
      cases ex with
      | normal=>exact hk b h2
      | exit id=>exact hk
      | goto l=>exact hk
      | ret=>exact hk
      | panic ch=>exact hk
      | outgrown=>exact hk
    · cases hc
  case cond=>split at hc <;> simp at hc
  case region=>(repeat' (split at hc)) <;> simp at hc
  all_goals simp at hc
theorem Zai {v:VA} {x y:VC} {b:Bool} (hb:v.ev e = .bool b) (ht:b = true → VW P N x Q e h) (hf:b = false → VW P N y Q e h):VW P N (.cond v x y) Q e h:=by
  intro c hc
  cases c <;> simp only [cCode,Option.map_eq_some_iff] at hc
  case cond op a b' =>
    split at hc
    · rename_i p q s h1 h2 h3
      simp only [Option.some.injEq,VC.cond.injEq] at hc
      obtain ⟨rfl,rfl,rfl⟩:=hc
      exact AW_cond h1 hb (fun hh=>ht hh a h2) (fun hh=>hf hh b' h3)
    · cases hc
  case seq=>split at hc <;> simp at hc
  case region=>(repeat' (split at hc)) <;> simp at hc
  all_goals simp at hc
theorem Za0 {id:Nat} {x:VC} (H:VW P N x (Za2 id Q) e h):VW P N (.block id x) Q e h:=by
  intro c hc
  cases c <;> simp only [cCode,Option.map_eq_some_iff] at hc
  case block id' a =>
    obtain ⟨p,h1,h2⟩:=hc
    simp only [VC.block.injEq] at h2
    obtain ⟨rfl,rfl⟩:=h2
    exact AW_block (H a h1)
  case seq=>split at hc <;> simp at hc
  case cond=>split at hc <;> simp at hc
  case region=>(repeat' (split at hc)) <;> simp at hc
  all_goals simp at hc
def scopeQ (Q:Exit → Env → Heap → Prop):Exit → Env → Heap → Prop
  | .goto _,_,_=>False
  | x,e,h=>Q x e h
theorem VW_scope {x:VC} (H:VW P N x (scopeQ Q) e h):VW P N (.scope x) Q e h:=by
  intro c hc
  cases c <;> simp only [cCode,Option.map_eq_some_iff] at hc
  case scope a =>
    obtain ⟨p,h1,h2⟩:=hc
    simp only [VC.scope.injEq] at h2
    subst h2
    intro g w act r he hd hs
    refine wp_scope_straight (wp_mono (H a h1 g w act r he hd hs) fun ex a' w' ⟨g',e',h',k1,k⟩=>?_)
    cases ex with
    | goto l=>exact k1
    | normal=>exact ⟨g',e',h',k1,k⟩
    | exit id=>exact ⟨g',e',h',k1,k⟩
    | ret=>exact ⟨g',e',h',k1,k⟩
    | panic ch=>exact ⟨g',e',h',k1,k⟩
    | outgrown=>exact ⟨g',e',h',k1,k⟩
  case seq=>split at hc <;> simp at hc
  case cond=>split at hc <;> simp at hc
  case region=>(repeat' (split at hc)) <;> simp at hc
  all_goals simp at hc
theorem VW_loop {x : VC} {σ : Type} (st : σ → Env × Heap) (μ : σ → Nat) (s0 : σ) (h1 : (st s0).1.le e) (h2 : (st s0).2.le h)
    (round:∀ s,VW P N x (Zae (fun e' h'=>∃ s',(st s').1.le e' ∧ (st s').2.le h' ∧ μ s' < μ s) Q) (st s).1 (st s).2):VW P N (.loop x) Q e h:=by
  intro c hc
  cases c <;> simp only [cCode,Option.map_eq_some_iff] at hc
  case loop a =>
    obtain ⟨p,h3,h4⟩:=hc
    simp only [VC.loop.injEq] at h4
    subst h4
    exact AW_loop st μ s0 h1 h2 fun s=>round s a h3
  case seq=>split at hc <;> simp at hc
  case cond=>split at hc <;> simp at hc
  case region=>(repeat' (split at hc)) <;> simp at hc
  all_goals simp at hc
theorem cCode_region {id : Nat} {ops : Array Oper} {draw : Bool} {vc : VC} (hc : cCode P N (.region id ops draw) = some vc) : ∃ q, cOpers P N ops ops.toList = some q ∧
    (draw = false ∧ vc = .region q false ∨ draw = true ∧ (P.follows .mixedOrders && drawB ops q ops.size 0 (Array.replicate ops.size false)) = true ∧ (q.any (fun o=>o.op.writes) = false ∧ vc = .region q true ∨ vc = .draw2 q (lateL ops q)) ∨ ∃ c,vc = .other c):=by
  simp only [cCode] at hc
  split at hc
  · rename_i q h3
    refine ⟨q,h3,?_⟩
    split at hc
    · rename_i hd
      split at hc
      · rename_i hB
        split at hc
        · simp only [Option.some.injEq] at hc
          exact .inr (.inl ⟨hd,hB,.inr hc.symm⟩)
        · rename_i hw
          simp only [Option.some.injEq] at hc
          exact .inr (.inl ⟨hd,hB,.inl ⟨by simpa using hw,hc.symm⟩⟩)
      · simp only [Option.some.injEq] at hc
        exact .inr (.inr ⟨_,hc.symm⟩)
    · rename_i hd
      simp only [Option.some.injEq] at hc
      exact .inl ⟨by simpa using hd,hc.symm⟩
  · cases hc
theorem Zaa {q:List VOper} (l:List Nat) (H:OpsW P q (fun e' h'=>Q .normal (Env.keep l e') h') e h):VW P N (.region q false) Q e h:=by
  intro c hc
  cases c
  case region id ops draw =>
    obtain ⟨p,h3,h | h | h⟩:=cCode_region hc
    · obtain ⟨rfl,h⟩:=h
      simp only [VC.region.injEq,and_true] at h
      subst h
      exact AW_region l h3 H
    · rcases h.2.2 with ⟨_,h⟩ | h <;> simp at h
    · obtain ⟨c,h⟩:=h; cases h
  all_goals
    simp only [cCode,Option.map_eq_some_iff] at hc
    first
    | (simp at hc; done)
    | (split at hc <;> simp at hc)
def Za1:Nat → List PV → Env
  | _,[]=>[]
  | k,a :: r=>(k,a) :: Za1 (k + 1) r
theorem argEnv_get:∀ (l:List PV) (k t:Nat),(Za1 k l).get t = if k ≤ t ∧ t < k + l.length then PV.nth l (t - k) else .any
  | [],k,t=>by simp [Za1,Env.get]; intro h1 h2; omega
  | a :: r,k,t=>by
    simp only [Za1,Env.get,argEnv_get r]
    by_cases h1:k = t
    · subst h1; simp [PV.nth]
    · rw [if_neg h1]
      by_cases h2:k + 1 ≤ t ∧ t < k + 1 + r.length
      · rw [if_pos h2,if_pos ⟨by omega,by simp; omega⟩]
        have:t - k = (t - (k + 1)) + 1:=by omega
        rw [this]; simp [PV.nth]
      · rw [if_neg h2,if_neg (by simp; omega)]
inductive RS where
  | t (n : Nat)
  | c (n : Nat) (agg : Bool) (s : Nat)
  deriving Inhabited
def RS.ev (e:Env) (h:Heap):RS → PV
  | .t n=>e.get n
  | .c n g s=>aggV g ((Za3 h (e.get n)).take s)
def RS.ok (e:Env) (h:Heap):RS → Prop
  | .t _=>True
  | .c n g s=>locOk h (e.get n) ∧ s ≤ (Za3 h (e.get n)).length ∧ (g = false → s = 1)
def Zas (e:Env) (h:Heap):List RS → Prop
  | []=>True
  | x :: r=>x.ok e h ∧ Zas e h r
def resV (e:Env) (h:Heap):List RS → PV
  | [t]=>t.ev e h
  | ts=>.tup (ts.map (RS.ev e h))
def retQ (rs:List RS) (K:PV → Heap → Prop):Exit → Env → Heap → Prop
  | .normal,e,h=>Zas e h rs ∧ K (resV e h rs) h
  | .ret,e,h=>Zas e h rs ∧ K (resV e h rs) h
  | _,_,_=>False
def rsOf (P:Program):List ResultVar → Option (List RS)
  | []=>some []
  | .tmp t :: r=>(rsOf P r).map (.t t :: ·)
  | .cell a t :: r=>match aggOf P t,szOf P t,rsOf P r with
    | some g,some s,some q=>some (.c a g s :: q)
    | _,_,_=>none
theorem rs_run {P : Program} {g : Gh} {w : World} {h : Heap} {e : Env} {a : Act} (hr : Rel g w h) (he : Zao g a e) (F : ResultVar → Sem Value) (hF : ∀ t, F (.tmp t) = pure (a.tmps.getD t Go.undef)) (hG : ∀ c t, F (.cell c t) = (do loadVar t (← asAddr (a.tmps.getD c Go.undef)))) :
    ∀ {l:List ResultVar} {ts:List RS},rsOf P l = some ts → Zas e h ts →
    ∃ vs:List Value,(l.mapM F).run P w = .ok vs w ∧ vs.length = ts.length ∧ ∀ j,j < ts.length → Rep g (vs.getD j Go.undef) (PV.nth (ts.map (RS.ev e h)) j)
  | [],ts,hs,_=>by simp only [rsOf,Option.some.injEq] at hs; subst hs; exact ⟨[],rfl,rfl,fun j hj=>by simp at hj⟩
  | .tmp t :: r,ts,hs,ok=>by
    simp only [rsOf,Option.map_eq_some_iff] at hs
    obtain ⟨q,hq,rfl⟩:=hs
    obtain ⟨vs,e1,e2,e3⟩:=rs_run hr he F hF hG hq ok.2
    refine ⟨a.tmps.getD t Go.undef :: vs,by simp only [List.mapM_cons,hF,Sem.run_bind,Sem.run_pure,Result.andThen_ok,e1],by simp [e2],fun j hj=>?_⟩
    cases j with
    | zero=>simpa [PV.nth,RS.ev] using he t
    | succ j=>simpa [PV.nth] using e3 j (by simpa using hj)
  | .cell c t :: r,ts,hs,ok=>by
    simp only [rsOf] at hs
    split at hs
    case h_2=>cases hs
    rename_i b s q hb hsz hq
    simp only [Option.some.injEq] at hs; subst hs
    obtain ⟨⟨o1,o2,o3⟩,ok'⟩:=ok
    obtain ⟨vs,e1,e2,e3⟩:=rs_run hr he F hF hG hq ok'
    obtain ⟨v,hv,hrep⟩:=load_sound (P:=P) (w:=w) (h:=h) (a:=a) (e:=e) (x:=.tmp c) (va:=.t c) hr he rfl hb hsz ⟨o1,o2,o3⟩
    obtain ⟨bl,o,us,hval,_⟩:=loc_cells hr (he c) o1
    have hrun:(F (.cell c t)).run P w = .ok v w:=by
      rw [hG]
      have e5:a.eval (.tmp c) = a.tmps.getD c Go.undef:=rfl
      rw [e5,hval] at hv
      rw [hval]
      simpa [Instr.loadAt,Instr.sureAddr,asAddr] using hv
    refine ⟨v :: vs,by simp only [List.mapM_cons,Sem.run_bind,hrun,Sem.run_pure,Result.andThen_ok,e1],by simp [e2],fun j hj=>?_⟩
    cases j with
    | zero=>simpa [PV.nth,RS.ev,pval,VA.ev] using hrep
    | succ j=>simpa [PV.nth] using e3 j (by simpa using hj)
theorem results_run {P : Program} {w : World} {fn : Func} {ts : List RS} {h : Heap} (hs : rsOf P fn.results.toList = some ts) {g : Gh} {a : Act} {e : Env} (hr : Rel g w h) (he : Zao g a e) (hok : Zas e h ts) :
    ∃ v,(results fn a.tmps).run P w = .ok v w ∧ Rep g v (resV e h ts):=by
  unfold results
  obtain ⟨vs,e1,e2,e3⟩:=rs_run (P:=P) hr he (fun
    | .tmp t=>pure (a.tmps.getD t Go.undef)
    | .cell c t=>do loadVar t (← asAddr (a.tmps.getD c Go.undef))) (fun t=>rfl) (fun c t=>rfl) hs hok
  rw [Sem.run_bind,Array.mapM_eq_mapM_toList,Sem.run_map]
  generalize hX:Sem.run P (List.mapM _ fn.results.toList) w = X
  have hX':X = .ok vs w:=hX.symm.trans e1
  rw [hX']
  simp only [Result.andThen_ok,Sem.run_pure]
  refine ⟨_,rfl,?_⟩
  match ts,vs,e2 with
  | [t],[v],_=>simpa [resV,PV.nth] using e3 0 (by simp)
  | [],[],_=>exact .tup _ _ rfl (fun j hj=>by simp at hj)
  | t :: u :: r,v :: x :: vs,e2 =>
    have hne:¬ (v :: x :: vs).toArray.size = 1:=by simp
    rw [dif_neg hne]
    refine .tup _ _ (by simpa using e2) (fun j hj=>?_)
    have:=e3 j (by simpa using hj)
    simpa [Array.getD_eq_getD_getElem?] using this
theorem Zar {f : FuncId} {fn : Func} {c : Code} {vc : VC} {ts : List RS} {args : List PV} {K : PV → Heap → Prop} (hf : P.funcs[f]? = some fn) (hok : fnOk P f = true) (hb : fn.body = some c) (hr : rsOf P fn.results.toList = some ts)
    (hn:args.length ≤ fn.ntmps) (hc:cCode P fn.ntmps c = some vc) (H:VW P fn.ntmps vc (retQ ts K) (Za1 0 args) h):ACall P f args h K:=by
  refine ⟨hok,fun g w vals r ha=>?_⟩
  refine calls_of_wp hf hb ?_
  have he:Zao g { tmps:=vals ++ Array.replicate (fn.ntmps - vals.size) Go.undef,defers:=[] } (Za1 0 args):=by
    intro t
    rw [argEnv_get]
    by_cases h1:0 ≤ t ∧ t < 0 + args.length
    · rw [if_pos h1]
      have hlt:t < vals.size:=by rw [ha.1]; omega
      have e1:(vals ++ Array.replicate (fn.ntmps - vals.size) Go.undef).getD t Go.undef = vals.getD t Go.undef:=by
        simp [Array.getD_eq_getD_getElem?,Array.getElem?_append_left hlt]
      show Rep g ((vals ++ Array.replicate (fn.ntmps - vals.size) Go.undef).getD t Go.undef) _
      rw [e1]
      exact ha.2 t (by omega)
    · rw [if_neg h1]; exact .any _
  refine wp_mono (H c hc g w _ r he rfl (by simp [ha.1]; omega)) fun x a' w' ⟨g',e',h',k1,k2,k3,k4,k5,k6⟩=>?_
  have fin:Zas e' h' ts ∧ K (resV e' h' ts) h' → bodyPost P fn (fun x w'=>∃ v p g' h',x = .returned v ∧ K p h' ∧ Rep g' v p ∧ Rel g' w' h' ∧ Evo g w h g' w' h') .ret a' w':=by
    rintro ⟨ho,hk⟩
    obtain ⟨v,hv,hrep⟩:=results_run (P:=P) (w:=w') hr k2 k3 ho
    exact ⟨k4,v,hv,v,_,g',h',rfl,hk,hrep,k2,k6⟩
  cases x with
  | normal=>exact fin k1
  | ret=>exact fin k1
  | exit id=>exact k1.elim
  | goto l=>exact k1.elim
  | panic ch=>exact k1.elim
  | outgrown=>exact k1.elim
end vrules
end Go.VM
namespace Go.VM
open Go
noncomputable def frzM (g:Gh) (w:World) (h:Heap) (b o:Nat):Option Value:=by
  classical
  exact match g.m b o with
    | some v=>some v
    | none => if ∃ id z es x, h.get id = some (.arr false z es) ∧ g.β id = some x ∧ x.1 = b then
        (match w.cell? ⟨b,o,none⟩ with
        | some v=>if v.oneCell' = true then some v else none
        | none=>none)
      else none
noncomputable def frzMM (g:Gh) (w:World) (h:Heap) (b:Nat):Option MK:=by
  classical
  exact match g.m.mm b with
    | some e=>some e
    | none => if ∃ id es x, h.get id = some (.map es) ∧ g.β id = some x ∧ x.1 = b then
        (match w.heap[b]? with
        | some (.map ents c)=>some (.map ents c)
        | _=>none)
      else none
theorem frzMM_old {g:Gh} {w:World} {h:Heap} {b:Nat} {e:MK} (hm:g.m.mm b = some e):frzMM g w h b = some e:=by
  unfold frzMM; simp [hm]
theorem frzMM_new {g : Gh} {w : World} {h : Heap} {b clock : Nat} {e : Array MapEntry} (hm : g.m.mm b = none) {id : Nat} {es : List (PV × PV)} {x : Nat × Nat × Nat × Nat} (h1 : h.get id = some (.map es)) (h2 : g.β id = some x) (h3 : x.1 = b)
    (hc:w.heap[b]? = some (.map e clock)):frzMM g w h b = some (.map e clock):=by
  unfold frzMM
  rw [hm]
  simp only
  rw [if_pos ⟨id,es,x,h1,h2,h3⟩,hc]
theorem frzMM_inv {g:Gh} {w:World} {h:Heap} {b:Nat} {e:MK} (hm:frzMM g w h b = some e):g.m.mm b = some e ∨ (Owned g h b ∧ ∃ ents clock,e = .map ents clock ∧ w.heap[b]? = some (.map ents clock)):=by
  unfold frzMM at hm
  split at hm
  · rename_i v' hv; simp only [Option.some.injEq] at hm; subst hm; exact .inl hv
  · split at hm
    · rename_i hex
      obtain ⟨id,es,x,h1,h2,h3⟩:=hex
      split at hm
      · rename_i ents clock hc; simp only [Option.some.injEq] at hm; subst hm; exact .inr ⟨⟨id,_,x,h1,rfl,h2,h3⟩,ents,clock,rfl,hc⟩
      · cases hm
    · cases hm
theorem frzM_old {g:Gh} {w:World} {h:Heap} {b o:Nat} {v:Value} (hm:g.m b o = some v):frzM g w h b o = some v:=by
  unfold frzM; simp [hm]
theorem frzM_new {g : Gh} {w : World} {h : Heap} {b o : Nat} {v : Value} (hm : g.m b o = none) {id z : Nat} {es : List (List PV)} {x : Nat × Nat × Nat × Nat} (h1 : h.get id = some (.arr false z es)) (h2 : g.β id = some x) (h3 : x.1 = b)
    (hc:w.cell? ⟨b,o,none⟩ = some v) (ho:v.oneCell' = true):frzM g w h b o = some v:=by
  unfold frzM
  rw [hm]
  simp only
  rw [if_pos ⟨id,z,es,x,h1,h2,h3⟩,hc]
  simp [ho]
theorem frzM_inv {g:Gh} {w:World} {h:Heap} {b o:Nat} {v:Value} (hm:frzM g w h b o = some v):g.m b o = some v ∨ (Owned g h b ∧ w.cell? ⟨b,o,none⟩ = some v ∧ v.oneCell' = true):=by
  unfold frzM at hm
  split at hm
  · rename_i v' hv; simp only [Option.some.injEq] at hm; subst hm; exact .inl hv
  · split at hm
    · rename_i hex
      obtain ⟨id,z,es,x,h1,h2,h3⟩:=hex
      split at hm
      · split at hm
        · rename_i v' hv ho; simp only [Option.some.injEq] at hm; subst hm; exact .inr ⟨⟨id,_,x,h1,rfl,h2,h3⟩,hv,ho⟩
        · cases hm
      · cases hm
    · cases hm
noncomputable def frz (g:Gh) (w:World) (h:Heap):Gh:=⟨⟨frzM g w h,frzMM g w h,fun b l hp=>⟨frzMM_old (g.m.kn b l hp).1,fun j hj=>frzM_old ((g.m.kn b l hp).2 j hj)⟩⟩,g.β⟩
theorem frz_le (g:Gh) (w:World) (h:Heap):g.le (frz g w h):=⟨fun _ _ _ e=>frzM_old e,fun _ _ e=>e,fun _ _ e=>frzMM_old e⟩
theorem frz_rel {g:Gh} {w:World} {h:Heap} (r:Rel g w h):Rel (frz g w h) w ⟨[],h.top⟩ :=
  ⟨fun b o v e => by rcases frzM_inv e with h1 | ⟨_, h1, h2⟩
                     · exact r.mem b o v h1
                     · exact ⟨h1,h2⟩,
   fun b e he => by rcases frzMM_inv he with h1 | ⟨_, en, cl, rfl, h1⟩
                    · exact r.mmem b e h1
                    · exact h1,
   fun id hid=>⟨(r.fin id hid).1,rfl⟩,fun id ab e=>by simp [Heap.get,HL.get] at e,fun id id' x x' ab ab' _ e=>by simp [Heap.get,HL.get] at e⟩
def Gh.bare (g:Gh):Gh:=⟨g.m,fun _=>none⟩
theorem Rel.bare {g:Gh} {w:World} {h:Heap} (r:Rel g w h):Rel g.bare w Heap.nil :=
  ⟨r.mem,r.mmem,fun id _=>⟨rfl,rfl⟩,fun id ab e=>by simp [Heap.get,HL.get,Heap.nil] at e,fun id id' x x' ab ab' _ e=>by simp [Heap.get,HL.get,Heap.nil] at e⟩
def Zat (l:List PV):Prop:=∀ x ∈ l,Closed x
theorem Zat.args {g:Gh} {vals:Array Value} {l:List PV} (hc:Zat l) (ha:Args g vals l):Args g.bare vals l :=
  ⟨ha.1,fun j hj=>by
    refine hc _ ?_ g _ (ha.2 j hj)
    simp only [PV.nth,List.getD_eq_getElem?_getD,List.getElem?_eq_getElem hj,Option.getD_some]
    exact List.getElem_mem hj⟩
def View (h:Heap) (r p:PV):Prop:=∀ g w v,Rel g w h → Rep g v r → Rep (frz g w h) v p
theorem View.refl (h:Heap) (r:PV):View h r r:=fun g w v _ hv=>hv.mono (frz_le g w h)
theorem View.nil (h:Heap) (z:Nat):View h .nilsl (.sl z []):=fun g w v _ hv=>by cases hv; exact .slE _ _ _
theorem View.own {h:Heap} {id off len z:Nat} {fz:Bool} {es:List (List PV)} (hg:h.get id = some (.arr fz z es)) (hle:off + len ≤ es.length):View h (.own id off len) (.sl z ((es.drop off).take len)):=by
  intro g w v r hv
  cases hv with
  | ownE ao=>simp only [List.take_zero]; exact .slE _ _ _
  | own _ _ _ cap b o n z' a hb ha hc hn =>
    subst ha
    rcases r.blk id _ hg with ⟨hb0,_⟩ | ⟨b',o',n',z'',hb',hlt,hlive,hok⟩
    · rw [hb] at hb0; cases hb0
    · rw [hb] at hb'
      simp only [Option.some.injEq,Prod.mk.injEq] at hb'
      obtain ⟨rfl,rfl,rfl,rfl⟩:=hb'
      obtain ⟨rfl,hz,hle',c,ty,h1,h2,h3⟩:=hok
      refine .sl b (o + off * z) len cap z _ _ (fun i j=>c.getD (o + (off + i) * z + j) Go.undef) rfl (by simp; omega) hc (fun i hi=>?_) (fun i j hi hj=>?_) (fun i j hi hj=>?_)
      · rw [row_take _ _ _ hi,row_drop]; exact hz _ (by omega)
      · obtain ⟨e1,e2,e3⟩:=h3 (off + i) j (by omega) hj
        have e4:o + off * z + i * z + j = o + (off + i) * z + j:=by rw [Nat.add_mul]; omega
        rw [e4]
        cases fz
        · have hin : o + (off + i) * z + j < c.size := by
            have:=Zax (n:=es.length) (z:=z) (show off + i < es.length by omega) hj
            omega
          exact frzM_new ((hlive rfl).1 _) hg hb rfl (by simp [World.cell?,h1,hin,Array.getD]) e1
        · exact frzM_old (e3 rfl)
      · obtain ⟨e1,e2,e3⟩:=h3 (off + i) j (by omega) hj
        rw [row_take _ _ _ hi,row_drop]
        exact e2.mono (frz_le g w h)
theorem View.map {h:Heap} {id:Nat} {es q:List (PV × PV)} (hg:h.get id = some (.map es)) (hl:es.length = q.length) (hv:∀ (i:Nat) (a b:PV × PV),es[i]? = some a → q[i]? = some b → View h a.1 b.1 ∧ View h a.2 b.2):View h (.mp id) (.rmp q):=by
  intro g w v r hr
  cases hr with
  | mp _ b o n z hb =>
    rcases r.blk id _ hg with ⟨_,fz,zz,hh⟩ | ⟨b',o',n',z',hb',hlt,hlive,hok⟩
    · cases hh
    · rw [hb] at hb'
      simp only [Option.some.injEq,Prod.mk.injEq] at hb'
      obtain ⟨rfl,rfl,rfl,rfl⟩:=hb'
      obtain ⟨ents,clock,e1,e2,e3,_⟩:=hok
      have pick:∀ (i:Nat) (p:PV × PV),q[i]? = some p → ∃ a,es[i]? = some a:=by
        intro i p hp
        have:=(List.getElem?_eq_some_iff.1 hp).1
        exact ⟨es[i],List.getElem?_eq_getElem (by omega)⟩
      refine .rmp b ents q (frzMM_new (hlive rfl).2 hg hb rfl e1) (by omega) (fun i e p he hp=>?_) (fun i e p he hp=>?_)
      · obtain ⟨a,ha⟩:=pick i p hp
        exact (hv i a p ha hp).1 g w _ r (e3 i e a he ha).1
      · obtain ⟨a,ha⟩:=pick i p hp
        exact (hv i a p ha hp).2 g w _ r (e3 i e a he ha).2
theorem closed_rmp {es:List (PV × PV)} (h:∀ e ∈ es,Closed e.1 ∧ Closed e.2):Closed (.rmp es):=by
  intro g v hv
  cases hv with
  | rmp b ents es hm hl hk hv =>
    exact .rmp b ents es hm hl (fun i e p he hp=>(h p (List.mem_of_getElem? hp)).1 g _ (hk i e p he hp)) (fun i e p he hp=>(h p (List.mem_of_getElem? hp)).2 g _ (hv i e p he hp))
theorem View.tup {h:Heap} {l q:List PV} (hl:l.length = q.length) (hv:∀ j,j < q.length → View h (PV.nth l j) (PV.nth q j)):View h (.tup l) (.tup q):=by
  intro g w v r hr
  obtain ⟨vs,rfl,hs,hrr⟩:=hr.tup_inv
  exact .tup _ _ (by omega) (fun j hj=>hv j hj g w _ r (hrr j (by omega)))
def Views (h:Heap):List PV → List PV → Prop
  | [],[]=>True
  | a :: r,b :: q=>View h a b ∧ Views h r q
  | _,_=>False
theorem Views.args {g:Gh} {w:World} {h:Heap} (r:Rel g w h) {vals:Array Value} {l q:List PV} (hv:Views h l q) (ha:Args g vals l):Args (frz g w h) vals q:=by
  have key:∀ (l q:List PV),Views h l q → l.length = q.length ∧ ∀ j,j < q.length → View h (PV.nth l j) (PV.nth q j):=by
    intro l
    induction l with
    | nil=>intro q hv; cases q with
      | nil=>exact ⟨rfl,fun j hj=>by simp at hj⟩
      | cons b q=>exact hv.elim
    | cons a l ih=>intro q hv; cases q with
      | nil=>exact hv.elim
      | cons b q =>
        obtain ⟨h1,h2⟩:=hv
        obtain ⟨i1,i2⟩:=ih q h2
        refine ⟨by simp [i1],fun j hj=>?_⟩
        cases j with
        | zero=>exact h1
        | succ j=>exact i2 j (by simpa using hj)
  obtain ⟨k1,k2⟩:=key l q hv
  exact ⟨by rw [ha.1,k1],fun j hj=>k2 j hj g w _ r (ha.2 j (by omega))⟩
theorem Closed.of_scalar {p:PV} (h:Scalar p):Closed p:=fun g v hv=>h g v hv _
theorem scalar_int (k:IntKind) (n:Int):Scalar (.int k n):=fun g v hv g'=>by cases hv; exact .int _ _
theorem scalar_bool (b:Bool):Scalar (.bool b):=fun g v hv g'=>by cases hv; exact .bool _
theorem scalar_str (s:List UInt8):Scalar (.str s):=fun g v hv g'=>by cases hv; exact .str _ _ ‹_›
theorem scalar_tup {l:List PV} (h:∀ x ∈ l,Scalar x):Scalar (.tup l):=by
  intro g v hv g'
  obtain ⟨vs,rfl,hs,hr⟩:=hv.tup_inv
  refine .tup _ _ hs (fun j hj=>?_)
  refine h _ ?_ g _ (hr j hj) g'
  simp only [PV.nth,List.getD_eq_getElem?_getD,List.getElem?_eq_getElem hj,Option.getD_some]
  exact List.getElem_mem hj
theorem scalar_agg {l:List PV} (h:∀ x ∈ l,Scalar x):Scalar (.agg l):=by
  intro g v hv g'
  obtain ⟨vs,rfl,hs,ho,hr⟩:=hv.agg_inv
  refine .agg _ _ hs ho (fun j hj=>?_)
  refine h _ ?_ g _ (hr j hj) g'
  simp only [PV.nth,List.getD_eq_getElem?_getD,List.getElem?_eq_getElem hj,Option.getD_some]
  exact List.getElem_mem hj
theorem closed_nilsl:Closed .nilsl:=fun g v hv=>by cases hv; exact .nilsl
theorem closed_tup {l:List PV} (h:∀ x ∈ l,Closed x):Closed (.tup l):=by
  intro g v hv
  obtain ⟨vs,rfl,hs,hr⟩:=hv.tup_inv
  refine .tup _ _ hs (fun j hj=>?_)
  refine h _ ?_ g _ (hr j hj)
  simp only [PV.nth,List.getD_eq_getElem?_getD,List.getElem?_eq_getElem hj,Option.getD_some]
  exact List.getElem_mem hj
theorem closed_agg {l:List PV} (h:∀ x ∈ l,Closed x):Closed (.agg l):=by
  intro g v hv
  obtain ⟨vs,rfl,hs,ho,hr⟩:=hv.agg_inv
  refine .agg _ _ hs ho (fun j hj=>?_)
  refine h _ ?_ g _ (hr j hj)
  simp only [PV.nth,List.getD_eq_getElem?_getD,List.getElem?_eq_getElem hj,Option.getD_some]
  exact List.getElem_mem hj
theorem closed_sl {z:Nat} {es:List (List PV)} (h:∀ e ∈ es,∀ x ∈ e,Closed x):Closed (.sl z es):=by
  intro g v hv
  cases hv with
  | slE=>exact .slE _ _ _
  | sl b o len cap z a es vs ha hl hc hz hm hr =>
    refine .sl b o len cap z a es vs ha hl hc hz hm (fun i j hi hj=>?_)
    have hi':i < es.length:=by omega
    have hz':=hz i hi
    refine h (PV.row es i) ?_ _ ?_ g _ (hr i j hi hj)
    · simp only [PV.row,List.getD_eq_getElem?_getD,List.getElem?_eq_getElem hi',Option.getD_some]
      exact List.getElem_mem hi'
    · have hj':j < (PV.row es i).length:=by omega
      simp only [PV.nth,List.getD_eq_getElem?_getD,List.getElem?_eq_getElem hj',Option.getD_some]
      exact List.getElem_mem hj'
theorem Zbb {cs:List PV} (h:∀ x ∈ cs,Closed x):Closed (.ro cs):=by
  intro g v hv
  cases hv with
  | ro b o a cs vs ha hm hr =>
    refine .ro b o a cs vs ha hm (fun j hj=>?_)
    refine h _ ?_ g _ (hr j hj)
    simp only [PV.nth,List.getD_eq_getElem?_getD,List.getElem?_eq_getElem hj,Option.getD_some]
    exact List.getElem_mem hj
structure MemExt (g : Gh) (w : World) (m' : Mem) (w' : World) : Prop where
  old : ∀ b o v, g.m b o = some v → m' b o = some v
  ok : ∀ b o v, m' b o = some v → w'.cell? ⟨b, o, none⟩ = some v ∧ v.oneCell' = true
  new : ∀ b o v, m' b o = some v → g.m b o = some v ∨ w.heap.size ≤ b
  oldM : ∀ b e, g.m.mm b = some e → m'.mm b = some e
  okM : ∀ b e, m'.mm b = some e → e.At w'.heap[b]?
  newM : ∀ b e, m'.mm b = some e → g.m.mm b = some e ∨ w.heap.size ≤ b
def Za8 (P:Program) (f:FuncId) (args:List PV) (p:PV):Prop :=
  fnOk P f = true ∧ Zat args ∧ ∀ g w (vals:Array Value),Rel g w Heap.nil → Args g vals args →
    Calls P f vals w fun x w'=>∃ v m',x = .returned v ∧ Rep ⟨m',fun _=>none⟩ v p ∧ MemExt g w m' w' ∧ RowKit.Below w.heap.size w w'
theorem Zaj {P:Program} {f:FuncId} {args:List PV} {p:PV} (H:ACall P f args Heap.nil (fun r h'=>View h' r p)) (hp:Closed p) (hargs:Zat args):Za8 P f args p:=by
  refine ⟨H.1,hargs,fun g w vals r ha=>(H.2 g w vals r ha).mono ?_⟩
  rintro x w' ⟨v,q,g',h',rfl,h1,h2,h3,h4⟩
  have hno:∀ b,¬ Owned g Heap.nil b:=by rintro b ⟨id,ab,x,e,_⟩; simp [Heap.get,HL.get,Heap.nil] at e
  refine ⟨v,(frz g' w' h').m,rfl,hp _ _ (h1 g' w' v h3 h2),⟨fun b o v e=>frzM_old (h4.le.1 _ _ _ e),fun b o v e=>?_,fun b o v e=>?_,fun b e he=>frzMM_old (h4.le.2.2 _ _ he),fun b e he=>(frz_rel h3).mmem b e he,fun b e he=>?_⟩,⟨h4.os,h4.tape,h4.output,h4.size,fun k hk=>h4.block k hk (hno k)⟩⟩
  · exact (frz_rel h3).mem b o v e
  · rcases frzM_inv e with e1 | ⟨e1,_⟩
    · rcases h4.mem b o v e1 with e2 | e2 | e2
      · exact .inl e2
      · exact .inr e2
      · exact (hno _ e2).elim
    · rcases h4.own b e1 with e2 | e2
      · exact (hno _ e2).elim
      · exact .inr e2
  · rcases frzMM_inv he with e1 | ⟨e1,_⟩
    · rcases h4.mmem b e e1 with e2 | e2 | e2
      · exact .inl e2
      · exact .inr e2
      · exact (hno _ e2).elim
    · rcases h4.own b e1 with e2 | e2
      · exact (hno _ e2).elim
      · exact .inr e2
section
variable {P : Program} {f : FuncId} {args : List PV} {p : PV} {h : Heap}
theorem Rel.below {g:Gh} {w w':World} (r:Rel g w h) {m':Mem} (hm:MemExt g w m' w') (hb:RowKit.Below w.heap.size w w'):Rel ⟨m',g.β⟩ w' h ∧ Evo g w h ⟨m',g.β⟩ w' h:=by
  have hle:g.le ⟨m',g.β⟩:=⟨hm.old,fun _ _ e=>e,hm.oldM⟩
  refine ⟨⟨hm.ok,hm.okM,r.fin,fun id ab e=>?_,r.apart⟩,⟨hle,hb.os,hb.tape,hb.output,hb.size,fun b h1 _=>hb.block b h1,fun b o v e=>(hm.new b o v e).imp id .inl,fun b e he=>(hm.newM b e he).imp id .inl,fun b ho=>.inl ho⟩⟩
  rcases r.blk id ab e with h1 | ⟨b,o,n,z,h1,h2,h3,h4⟩
  · exact .inl h1
  · refine .inr ⟨b,o,n,z,h1,Nat.lt_of_lt_of_le h2 hb.size,fun hl=>⟨fun x=>?_,?_⟩,AB.ok_move h4 hle (hb.block b h2)⟩
    · show m' b x = Option.none
      cases hx:m' b x with
      | none=>rfl
      | some v =>
        rcases hm.new b x v hx with h5 | h5
        · rw [(h3 hl).1 x] at h5; cases h5
        · omega
    · show m'.mm b = Option.none
      cases hx:m'.mm b with
      | none=>rfl
      | some e =>
        rcases hm.newM b e hx with h5 | h5
        · rw [(h3 hl).2] at h5; cases h5
        · omega
def Za9 (P:Program) (f:FuncId) (args:List PV) (h:Heap) (p:PV):Prop :=
  Za8 P f args p ∨ ∃ q,Views h args q ∧ Za8 P f q p ∧ Scalar p
theorem Za9.run (H : Za9 P f args h p) {g : Gh} {w : World} {vals : Array Value} (r : Rel g w h) (ha : Args g vals args) :
    Calls P f vals w fun x w'=>∃ v g',x = .returned v ∧ Rep g' v p ∧ Rel g' w' h ∧ Evo g w h g' w' h:=by
  rcases H with H | ⟨q,hv,H,hs⟩
  · refine (H.2.2 g.bare w vals r.bare (H.2.1.args ha)).mono ?_
    rintro x w' ⟨v,m',rfl,h1,h2,h3⟩
    obtain ⟨R,E⟩:=r.below (m':=m') (w':=w') ⟨h2.old,h2.ok,h2.new,h2.oldM,h2.okM,h2.newM⟩ h3
    have hle:Gh.le ⟨m',fun _=>none⟩ ⟨m',g.β⟩:=⟨fun _ _ _ e=>e,(fun _ _ e=>by cases e),fun _ _ e=>e⟩
    exact ⟨v,⟨m',g.β⟩,rfl,h1.mono hle,R,E⟩
  · refine (H.2.2 (frz g w h).bare w vals (frz_rel r).bare (H.2.1.args (hv.args r ha))).mono ?_
    rintro x w' ⟨v,m',rfl,h1,h2,h3⟩
    obtain ⟨R,E⟩:=r.below (m':=g.m) (w':=w') ⟨fun _ _ _ e=>e,fun b o v e=>h2.ok b o v (h2.old b o v (frzM_old e)),fun _ _ _ e=>.inl e,fun _ _ e=>e,fun b e he=>h2.okM b e (h2.oldM b e (frzMM_old he)),fun _ _ e=>.inl e⟩ h3
    exact ⟨v,_,rfl,hs _ _ h1 _,R,E⟩
theorem Za9.fn (H:Za9 P f args h p):fnOk P f = true:=by
  rcases H with H | ⟨q,hv,H,hs⟩ <;> exact H.1
theorem Za9.call {K:PV → Heap → Prop} (H:Za9 P f args h p) (hk:K p h):ACall P f args h K:=by
  refine ⟨H.fn,fun g w vals r ha=>(H.run r ha).mono ?_⟩
  rintro x w' ⟨v,g',rfl,h1,h2,h3⟩
  exact ⟨v,p,g',h,rfl,hk,h1,h2,h3⟩
theorem Zah {K:PV → Heap → Prop} (H:Za8 P f args p) (hk:K p h):ACall P f args h K:=Za9.call (.inl H) hk
theorem ACall.mono {K K':PV → Heap → Prop} (H:ACall P f args h K) (hk:∀ p h,K p h → K' p h):ACall P f args h K' :=
  ⟨H.1,fun g w vals r ha=>(H.2 g w vals r ha).mono fun x w' ⟨v,p,g',h',h1,h2,h3⟩=>⟨v,p,g',h',h1,hk _ _ h2,h3⟩⟩
end
end Go.VM
namespace Go.VM
open Go
def Agree (l:List VA) (e e':Env):Prop:=∀ a ∈ l,a.ev e = a.ev e'
theorem Agree.map {l:List VA} {e e':Env} (h:Agree l e e'):l.map (VA.ev e) = l.map (VA.ev e'):=List.map_congr_left h
theorem fill_congr {e e':Env}:∀ (ps:List (Nat × Nat × VA)) (cs:List PV),Agree (ps.map fun p=>p.2.2) e e' → fillV e cs ps = fillV e' cs ps
  | [],_,_=>rfl
  | (o,s,a) :: r,cs,h=>by
    simp only [fillV]
    rw [h a (by simp),fill_congr r _ (fun x hx=>h x (by simp only [List.map_cons,List.mem_cons]; exact .inr hx))]
theorem fillOk_congr {e e':Env} (n:Nat):∀ (ps:List (Nat × Nat × VA)),Agree (ps.map fun p=>p.2.2) e e' → fillOk e n ps = fillOk e' n ps
  | [],_=>rfl
  | (o,s,a) :: r,h=>by
    simp only [fillOk]
    rw [h a (by simp),fillOk_congr n r (fun x hx=>h x (by simp only [List.map_cons,List.mem_cons]; exact .inr hx))]
theorem elems_congr {e e':Env}:∀ (ps:List (Nat × VA)) (rows:List (List PV)),Agree (ps.map fun p=>p.2) e e' → Za6 e rows ps = Za6 e' rows ps
  | [],_,_=>rfl
  | (i,a) :: r,rows,h=>by
    simp only [Za6]
    rw [h a (by simp),elems_congr r _ (fun x hx=>h x (by simp only [List.map_cons,List.mem_cons]; exact .inr hx))]
theorem elemsOk_congr {e e':Env} (z n:Nat):∀ (ps:List (Nat × VA)),Agree (ps.map fun p=>p.2) e e' → Zbi e z n ps = Zbi e' z n ps
  | [],_=>rfl
  | (i,a) :: r,h=>by
    simp only [Zbi]
    rw [h a (by simp),elemsOk_congr z n r (fun x hx=>h x (by simp only [List.map_cons,List.mem_cons]; exact .inr hx))]
theorem opt_congr {e e':Env} (o:Option VA) (h:∀ a ∈ o.toList,a.ev e = a.ev e'):o.map (VA.ev e) = o.map (VA.ev e'):=by
  cases o with
  | none=>rfl
  | some a=>simp [h a (by simp)]
theorem pval_congr {e e':Env} {h:Heap} {op:VOp} (ha:Agree op.vas e e'):pval e h op = pval e' h op:=by
  cases op <;> simp only [VOp.vas,Agree,List.mem_cons,List.not_mem_nil,or_false,forall_eq_or_imp,forall_eq] at ha <;> simp only [pval]
  case mv a=>rw [ha]
  case un op a=>rw [ha]
  case conv k a=>rw [ha]
  case strid a=>rw [ha]
  case faddr o a=>rw [ha]
  case fld g o s a=>rw [ha]
  case ext a i=>rw [ha]
  case len st a=>rw [ha]
  case mlen a=>rw [ha]
  case lookup kk zr ok a b=>rw [ha.1,ha.2]
  case load g s a=>rw [ha]
  case pick a b c=>rw [ha.1,ha.2.1,ha.2.2]
  case build zr ps=>rw [fill_congr ps zr ha]
  case bin op a b=>rw [ha.1,ha.2]
  case binb op a b=>rw [ha.1,ha.2]
  case eqs n ks a b=>rw [ha.1,ha.2]
  case iaddr z a b=>rw [ha.1,ha.2]
  case idx a b=>rw [ha.1,ha.2]
  case mkfn f x y =>
    rw [List.map_congr_left (fun a h=>ha a (List.mem_append_left _ h)),List.map_congr_left (f:=VA.ev e) (g:=VA.ev e') (fun a h=>ha a (List.mem_append_right _ h))]
  case slice st z a lo hi =>
    rw [ha.1,opt_congr lo (fun x hx=>ha.2 x (List.mem_append_left _ hx)),opt_congr hi (fun x hx=>ha.2 x (List.mem_append_right _ hx))]
  case px k l=>rw [Agree.map (l:=l) ha]
  case mm mx l =>
    match l,ha with
    | [],_=>rfl
    | [a],_=>rfl
    | [a,b],ha=>simp only [List.mem_cons,List.not_mem_nil,or_false,forall_eq_or_imp,forall_eq] at ha; show mmV mx (a.ev e) (b.ev e) = mmV mx (a.ev e') (b.ev e'); rw [ha.1,ha.2]
    | _ :: _ :: _ :: _,_=>rfl
theorem pok_congr {e e':Env} {h:Heap} {op:VOp} (ha:Agree op.vas e e'):pok e h op = pok e' h op:=by
  cases op <;> simp only [VOp.vas,Agree,List.mem_cons,List.not_mem_nil,or_false,forall_eq_or_imp,forall_eq] at ha <;> simp only [pok]
  case un op a=>rw [ha]
  case conv k a=>rw [ha]
  case strid a=>rw [ha]
  case faddr o a=>rw [ha]
  case fld g o s a=>rw [ha]
  case ext a i=>rw [ha]
  case len st a=>rw [ha]
  case mlen a=>rw [ha]
  case lookup kk zr ok a b=>rw [ha.1,ha.2]
  case load g s a=>rw [ha]
  case pick a b c=>rw [ha.1]
  case build zr ps=>rw [fillOk_congr _ ps ha]
  case bin op a b=>rw [ha.1,ha.2]
  case binb op a b=>rw [ha.1,ha.2]
  case eqs n ks a b=>rw [ha.1,ha.2]
  case iaddr z a b=>rw [ha.1,ha.2]
  case idx a b=>rw [ha.1,ha.2]
  case slice st z a lo hi =>
    rw [ha.1,opt_congr lo (fun x hx=>ha.2 x (List.mem_append_left _ hx)),opt_congr hi (fun x hx=>ha.2 x (List.mem_append_right _ hx))]
  case px k l=>rw [Agree.map (l:=l) ha]
  case mm mx l =>
    match l,ha with
    | [],_=>rfl
    | [a],_=>rfl
    | [a,b],ha=>simp only [List.mem_cons,List.not_mem_nil,or_false,forall_eq_or_imp,forall_eq] at ha; show (isInt (a.ev e) ∧ isInt (b.ev e)) = (isInt (a.ev e') ∧ isInt (b.ev e')); rw [ha.1,ha.2]
    | _ :: _ :: _ :: _,_=>rfl
theorem StepW_congr {P:Program} {e e':Env} {h:Heap} {op:VOp} {K:PV → Heap → Prop} (hc:op.closed = true) (ha:Agree op.vas e e'):Zaf P e h op K = Zaf P e' h op K:=by
  have h1:=pval_congr (h:=h) ha
  have h2:=pok_congr (h:=h) ha
  cases op <;> simp only [VOp.vas,Agree,List.mem_cons,List.not_mem_nil,or_false,forall_eq_or_imp,forall_eq] at ha <;> simp only [Zaf] <;> (try (rw [h1,h2]; done))
  case box n a=>rw [ha]
  case bslice z n zr ps=>rw [elemsOk_congr z n ps ha,elems_congr ps _ ha]
  case store s a b=>rw [ha.1,ha.2]
  case mapset kk a b c=>rw [ha.1,ha.2.1,ha.2.2]
  case app z b zr st x y=>rw [ha.1,ha.2]
  case call f l=>rw [Agree.map ha]
  case callv f l=>rw [ha.1,Agree.map (l:=l) ha.2]
  case fx k l=>rw [Agree.map (l:=l) ha]
  case nd neg a=>rw [ha]
  case other o=>simp [VOp.closed] at hc
theorem Zaf.mono {P:Program} {e:Env} {h:Heap} {op:VOp} {K K':PV → Heap → Prop} (hk:∀ v h,K v h → K' v h) (H:Zaf P e h op K):Zaf P e h op K':=by
  cases op <;> simp only [Zaf] at H ⊢ <;> first
    | exact ⟨H.1,hk _ _ H.2⟩
    | exact ⟨H.1,fun b h1 h2=>hk _ _ (H.2 b h1 h2)⟩
    | exact hk _ _ H
    | exact ⟨H.1,H.2.1,hk _ _ H.2.2⟩
    | exact ⟨H.1,H.2.1,H.2.2.1,H.2.2.2.1,hk _ _ H.2.2.2.2⟩
    | exact ACall.mono H hk
    | (split at H <;> first | exact ACall.mono H hk | exact H)
    | exact fun g w a next Q r he hn=>H g w a next Q r he (fun v pv g' w' h' k=>hn v pv g' w' h' (hk _ _ k))
    | exact H
theorem notNil_isNil {p:PV} (h:notNil p = true):isNil p = false:=by
  cases p <;> first | rfl | (simp [notNil] at h)
theorem Zaf.out {P:Program} {e:Env} {h:Heap} {op:VOp} {K:PV → Heap → Prop} {A:Prop} (hs:op.simple = true) (H:Zaf P e h op (fun v h'=>A ∧ K v h')):A:=by
  cases op <;> simp only [VOp.simple] at hs <;> simp only [Zaf] at H <;> first
    | exact H.1
    | exact H.2.1
    | exact H.2.2.1
    | exact H.2.2.2.2.1
    | exact (H.2 (isNil _) (fun h=>h) (fun h=>notNil_isNil h)).1
    | cases hs
def QuietV (P:Program) (hq:Heap) (e:Env) (op:VOp) (v:PV):Prop :=
  match op with
  | .call f args=>Za9 P f (args.map (VA.ev e)) hq v
  | .callv f args=>(match f.ev e with
    | .fn (.func f) first cap=>Za9 P f (first ++ args.map (VA.ev e) ++ cap) hq v
    | _=>False)
  | .bslice z n zr ps=>Zbi e z n ps ∧ v = .sl z (Za6 e (List.replicate n zr) ps)
  | op=>op.pure = true ∧ pok e hq op ∧ v = pval e hq op
theorem Zbl {P:Program} {hq:Heap} {e e':Env} {op:VOp} {v:PV} (hc:op.closed = true) (ha:Agree op.vas e e'):QuietV P hq e op v = QuietV P hq e' op v:=by
  have h1:=pval_congr (h:=hq) ha
  have h2:=pok_congr (h:=hq) ha
  cases op <;> simp only [VOp.vas,Agree,List.mem_cons,List.not_mem_nil,or_false,forall_eq_or_imp,forall_eq] at ha <;> simp only [QuietV] <;> (try (rw [h1,h2]; done))
  case bslice z n zr ps=>rw [elemsOk_congr z n ps ha,elems_congr ps _ ha]
  case call f l=>rw [Agree.map ha]
  case callv f l=>rw [ha.1,Agree.map (l:=l) ha.2]
def dval (e:Env) (hq:Heap):VOp → PV
  | .bslice z n zr ps=>.sl z (Za6 e (List.replicate n zr) ps)
  | op=>pval e hq op
theorem QuietV.det {P:Program} {hq:Heap} {e:Env} {op:VOp} {v:PV} (hd:op.det = true) (h:QuietV P hq e op v):v = dval e hq op:=by
  cases op <;> simp only [VOp.det,VOp.pure] at hd <;> first | exact h.2.2 | exact h.2 | cases hd
theorem dval_congr {hq:Heap} {e e':Env} {op:VOp} (ha:Agree op.vas e e'):dval e hq op = dval e' hq op:=by
  have h1:=pval_congr (h:=hq) ha
  cases op <;> first | exact h1 | skip
  rename_i z n zr ps
  simp only [dval]
  rw [elems_congr ps _ ha]
def gOf (o:VOper) (e:Env) (c:Bool):Prop:=match o.guard with | none=>c = true | some (d,want)=>guardOf want (e.get d) = some c
def AStep (P:Program) (hqf:Nat → Heap) (Z:Nat → Heap → Heap → Prop) (E:List Nat) (i:Nat) (o:VOper) (e:Env) (h:Heap) (K:Env → Heap → Prop):Prop :=
  if i ∈ E then o.guard = none ∧ Zaf P e h o.op (fun v h'=>Z i h h' ∧ K (e.put o.dst v) h')
  else ∃ c,gOf o e c ∧ ∃ v,(c = true → QuietV P (hqf i) e o.op v) ∧ K (e.put o.dst (gd c v)) h
theorem agree_put {o:VOper} {e:Env} {d:Option Nat} {v:PV} (hd:∀ t,d = some t → t ∉ o.reads):Agree o.op.vas (e.put d v) e ∧ ∀ c,gOf o (e.put d v) c ↔ gOf o e c:=by
  cases d with
  | none=>exact ⟨fun _ _=>rfl,fun _=>Iff.rfl⟩
  | some t =>
    have ht:=hd t rfl
    constructor
    · intro a ha
      cases a with
      | c p=>rfl
      | t n =>
        have hne:t ≠ n:=by
          rintro rfl
          exact ht (List.mem_append_left _ (List.mem_filterMap.2 ⟨_,ha,rfl⟩))
        simp [VA.ev,Env.put,Env.get,hne]
    · intro c
      unfold gOf
      cases hg:o.guard with
      | none=>exact Iff.rfl
      | some dw =>
        obtain ⟨d,want⟩:=dw
        have hne:t ≠ d:=by
          rintro rfl
          exact ht (List.mem_append_right _ (by rw [hg]; simp))
        simp [Env.put,Env.get,hne]
theorem apart_spec {x y:VOper} (h:x.apart y = true):(∀ t,x.dst = some t → t ∉ y.reads) ∧ (∀ t,y.dst = some t → t ∉ x.reads) ∧ ∀ t,x.dst = some t → y.dst ≠ some t:=by
  simp only [VOper.apart,Bool.and_eq_true] at h
  obtain ⟨h1,h2⟩:=h
  refine ⟨fun t ht=>?_,fun t ht=>?_,fun t ht=>?_⟩
  · rw [ht] at h1; simp at h1; exact h1.1
  · rw [ht] at h2; simpa using h2
  · rw [ht] at h1; simp at h1; exact h1.2
def Env.eqv (e e':Env):Prop:=∀ t,e.get t = e'.get t
theorem put_swap (e:Env) {x y:Option Nat} (u v:PV) (h:∀ t,x = some t → y ≠ some t):((e.put x u).put y v).eqv ((e.put y v).put x u):=by
  intro t
  cases x with
  | none=>rfl
  | some a =>
    cases y with
    | none=>rfl
    | some b =>
      have hab:a ≠ b:=fun hh=>h a rfl (by rw [hh])
      simp only [Env.put,Env.get]
      by_cases h1:b = t
      · subst h1; simp [hab]
      · simp [h1]
def Inv (K:Env → Heap → Prop):Prop:=∀ e e' h,e.eqv e' → K e h → K e' h
theorem eqv_put {e e':Env} (h:e.eqv e') (d:Option Nat) (v:PV):(e.put d v).eqv (e'.put d v):=by
  intro t
  cases d with
  | none=>exact h t
  | some a=>simp only [Env.put,Env.get]; rw [h t]
theorem eqv_ev {e e':Env} (h:e.eqv e') (a:VA):a.ev e = a.ev e':=by
  cases a with
  | t n=>exact h n
  | c p=>rfl
theorem eqv_gOf {e e':Env} (h:e.eqv e') (o:VOper) (c:Bool):gOf o e c ↔ gOf o e' c:=by
  unfold gOf
  split
  · exact Iff.rfl
  · rw [h]
section
variable {P : Program} {hqf : Nat → Heap} {Z : Nat → Heap → Heap → Prop} {E : List Nat}
theorem AStep.mono {i:Nat} {o:VOper} {e:Env} {h:Heap} {K K':Env → Heap → Prop} (hk:∀ e h,K e h → K' e h) (H:AStep P hqf Z E i o e h K):AStep P hqf Z E i o e h K':=by
  unfold AStep at *
  split
  · rename_i hi
    rw [if_pos hi] at H
    exact ⟨H.1,H.2.mono fun v h' k=>⟨k.1,hk _ _ k.2⟩⟩
  · rename_i hi
    rw [if_neg hi] at H
    obtain ⟨c,h1,v,h2,h3⟩:=H
    exact ⟨c,h1,v,h2,hk _ _ h3⟩
theorem AStep.inv {i:Nat} {o:VOper} (hc:o.op.closed = true) {K:Env → Heap → Prop} (hK:Inv K):Inv (fun e h=>AStep P hqf Z E i o e h K):=by
  intro e e' h hee H
  unfold AStep at *
  have ha:Agree o.op.vas e e':=fun a _=>eqv_ev hee a
  split
  · rename_i hi
    rw [if_pos hi] at H
    refine ⟨H.1,?_⟩
    rw [← StepW_congr hc ha]
    exact H.2.mono fun v h' k=>⟨k.1,hK _ _ _ (eqv_put hee _ _) k.2⟩
  · rename_i hi
    rw [if_neg hi] at H
    obtain ⟨c,h1,v,h2,h3⟩:=H
    refine ⟨c,(eqv_gOf hee o c).1 h1,v,fun hh=>?_,hK _ _ _ (eqv_put hee _ _) h3⟩
    rw [← Zbl hc ha]; exact h2 hh
theorem AStep_E {i:Nat} (hi:i ∈ E) {o:VOper} {e:Env} {h:Heap} {K:Env → Heap → Prop}:AStep P hqf Z E i o e h K ↔ (o.guard = none ∧ Zaf P e h o.op (fun v h'=>Z i h h' ∧ K (e.put o.dst v) h')):=by
  unfold AStep; rw [if_pos hi]
theorem AStep_q {i:Nat} (hi:i ∉ E) {o:VOper} {e:Env} {h:Heap} {K:Env → Heap → Prop}:AStep P hqf Z E i o e h K ↔ ∃ c,gOf o e c ∧ ∃ v,(c = true → QuietV P (hqf i) e o.op v) ∧ K (e.put o.dst (gd c v)) h:=by
  unfold AStep; rw [if_neg hi]
def VOp.sure:VOp → Bool
  | .alloc _ | .box .. | .store .. | .app .. | .mapset .. | .mkmap | .fx ..=>true
  | _=>false
theorem Zaf.sure {P:Program} {e:Env} {h:Heap} {op:VOp} {K:PV → Heap → Prop} (hs:op.sure = true) (H:Zaf P e h op K):∃ v0 h0,K v0 h0 ∧ ∀ K':PV → Heap → Prop,K' v0 h0 → Zaf P e h op K':=by
  cases op <;> simp only [VOp.sure] at hs <;> simp only [Zaf] at H ⊢ <;> first
    | exact ⟨_,_,H,fun K' k=>k⟩
    | exact ⟨_,_,H.2.2.2.2,fun K' k=>⟨H.1,H.2.1,H.2.2.1,H.2.2.2.1,k⟩⟩
    | exact ⟨_,_,H.2.2,fun K' k=>⟨H.1,H.2.1,k⟩⟩
    | exact ⟨_,_,H.2,fun K' k=>⟨H.1,k⟩⟩
    | cases hs
theorem AStep.swap {i j : Nat} {oi oj : VOper} {e : Env} {h : Heap} {K : Env → Heap → Prop} (hK : Inv K) (hap : oi.apart oj = true) (ci : oi.op.closed = true) (cj : oj.op.closed = true)
    (hE:¬ (i ∈ E ∧ j ∈ E)) (hs:i ∈ E → oi.op.simple = true ∧ (oj.op.det || oi.op.sure) = true) (H:AStep P hqf Z E i oi e h (fun e1 h1=>AStep P hqf Z E j oj e1 h1 K)) :
    AStep P hqf Z E j oj e h (fun e1 h1=>AStep P hqf Z E i oi e1 h1 K):=by
  obtain ⟨a1,a2,a3⟩:=apart_spec hap
  have gi:∀ v,Agree oi.op.vas (e.put oj.dst v) e ∧ ∀ c,gOf oi (e.put oj.dst v) c ↔ gOf oi e c:=fun v=>agree_put a2
  have gj:∀ v,Agree oj.op.vas (e.put oi.dst v) e ∧ ∀ c,gOf oj (e.put oi.dst v) c ↔ gOf oj e c:=fun v=>agree_put a1
  by_cases hi:i ∈ E
  · have hj:j ∉ E:=fun hj=>hE ⟨hi,hj⟩
    obtain ⟨s1,s2⟩:=hs hi
    obtain ⟨h1,h2⟩:=(AStep_E hi).1 H
    rw [Bool.or_eq_true] at s2
    rcases s2 with s2 | s2
    rotate_left
    · obtain ⟨v0,h0,⟨z0,k0⟩,back⟩:=Zaf.sure s2 h2
      obtain ⟨c,c1,v',c2,c3⟩:=(AStep_q hj).1 k0
      refine (AStep_q hj).2 ⟨c,((gj v0).2 c).1 c1,v',fun hh=>by have:=c2 hh; rw [Zbl cj (gj v0).1] at this; exact this,?_⟩
      refine (AStep_E hi).2 ⟨h1,?_⟩
      rw [StepW_congr ci (gi _).1]
      exact back _ ⟨z0,hK _ _ _ (put_swap e _ _ a3) c3⟩
    have key:∃ c,gOf oj e c ∧ (c = true → QuietV P (hqf j) e oj.op (dval e (hqf j) oj.op)):=by
      refine Zaf.out (K:=fun _ _=>True) s1 (h2.mono fun v h' k=>⟨?_,trivial⟩)
      obtain ⟨c,c1,v',c2,c3⟩:=(AStep_q hj).1 k.2
      refine ⟨c,((gj v).2 c).1 c1,fun hh=>?_⟩
      have hv:=c2 hh
      have e1:=hv.det s2
      rw [Zbl cj (gj v).1] at hv
      rw [dval_congr (gj v).1] at e1
      rw [← e1]; exact hv
    obtain ⟨c,c1,c2⟩:=key
    refine (AStep_q hj).2 ⟨c,c1,dval e (hqf j) oj.op,c2,?_⟩
    refine (AStep_E hi).2 ⟨h1,?_⟩
    rw [StepW_congr ci (gi _).1]
    refine h2.mono fun v h' k=>⟨k.1,?_⟩
    obtain ⟨c',d1,v',d2,d3⟩:=(AStep_q hj).1 k.2
    have hcc:c' = c:=by
      have:=((gj v).2 c').1 d1
      unfold gOf at this c1
      cases hg:oj.guard with
      | none=>rw [hg] at this c1; rw [this,c1]
      | some dw=>rw [hg] at this c1; simp only at this c1; rw [this] at c1; exact Option.some.inj c1
    subst hcc
    have hgd:gd c' v' = gd c' (dval e (hqf j) oj.op):=by
      cases c'
      · rfl
      · have:=(d2 rfl).det s2
        rw [dval_congr (gj v).1] at this
        simp [gd,this]
    rw [hgd] at d3
    exact hK _ _ _ (put_swap e _ _ a3) d3
  · obtain ⟨c,c1,v,c2,H⟩:=(AStep_q hi).1 H
    by_cases hj:j ∈ E
    · obtain ⟨h1,h2⟩:=(AStep_E hj).1 H
      refine (AStep_E hj).2 ⟨h1,?_⟩
      rw [StepW_congr cj (gj _).1] at h2
      refine h2.mono fun u h' k=>⟨k.1,?_⟩
      refine (AStep_q hi).2 ⟨c,((gi u).2 c).2 c1,v,fun hh=>?_,hK _ _ _ (put_swap e _ _ a3) k.2⟩
      rw [Zbl ci (gi u).1]; exact c2 hh
    · obtain ⟨c',d1,u,d2,d3⟩:=(AStep_q hj).1 H
      refine (AStep_q hj).2 ⟨c',((gj _).2 c').1 d1,u,fun hh=>?_,?_⟩
      · have:=d2 hh
        rw [Zbl cj (gj _).1] at this; exact this
      · refine (AStep_q hi).2 ⟨c,((gi _).2 c).2 c1,v,fun hh=>?_,hK _ _ _ (put_swap e _ _ a3) d3⟩
        rw [Zbl ci (gi _).1]; exact c2 hh
end
end Go.VM
namespace Go.VM
open Go
theorem cOpers_get {P : Program} {N : Nat} {ops : Array Oper} : ∀ {l : List Oper} {q : List VOper}, cOpers P N ops l = some q → l.length = q.length ∧
    ∀ (i:Nat) (o:Oper),l[i]? = some o → ∃ vo,q[i]? = some vo ∧ cOp P o = some vo.op ∧ vo.dst = o.dst ∧ cGuard ops o.guard = some vo.guard ∧ ∀ d,o.dst = some d → d < N
  | [],q,h=>by simp only [cOpers,Option.some.injEq] at h; subst h; exact ⟨rfl,fun i o ho=>by simp at ho⟩
  | o :: r,q,h=>by
    simp only [cOpers] at h
    split at h
    case h_2=>cases h
    rename_i op gu qs h1 h2 h3
    have hdst:dstB N o.dst = true:=by
      by_cases hh:dstB N o.dst = true
      · exact hh
      · rw [if_neg hh] at h; cases h
    rw [if_pos hdst] at h
    simp only [Option.some.injEq] at h; subst h
    obtain ⟨i1,i2⟩:=cOpers_get h3
    refine ⟨by simp [i1],fun i o' ho=>?_⟩
    cases i with
    | zero =>
      simp only [List.getElem?_cons_zero,Option.some.injEq] at ho; subst ho
      exact ⟨_,rfl,h1,rfl,h2,fun d hd=>by rw [hd] at hdst; simpa [dstB] using hdst⟩
    | succ i=>exact i2 i o' (by simpa using ho)
theorem View.weaken {h h':Heap} {p q:PV} (hl:h.le h') (v:View h p q):View h' p q:=by
  intro g w x r hx
  have hle:(frz g w h).le (frz g w h'):=by
    refine ⟨fun b o y e=>?_,fun _ _ e=>e,fun b o e=>?_⟩
    rotate_left
    · have e':frzMM g w h b = some o:=e
      show frzMM g w h' b = some o
      rcases frzMM_inv e' with h1 | ⟨_,en,c5,rfl,k5⟩
      · exact frzMM_old h1
      · cases hm:g.m.mm b with
        | some v' =>
          have this:=r.mmem b v' hm
          cases v' with
          | map e' =>
            have this:w.heap[b]? = some (.map e' _):=this
            rw [k5] at this; simp only [Option.some.injEq,Obj.map.injEq] at this; rw [this.1,this.2]
            exact frzMM_old hm
          | cells c'=>obtain ⟨_,_,this⟩:=this; rw [k5] at this; cases this
        | none =>
          unfold frzMM at e'
          rw [hm] at e'
          simp only at e'
          split at e'
          · rename_i hex
            obtain ⟨id,es,x,j1,j2,j3⟩:=hex
            exact frzMM_new hm (Heap.le_get hl _ _ j1) j2 j3 k5
          · cases e'
    show frzM g w h' b o = some y
    have e':frzM g w h b o = some y:=e
    rcases frzM_inv e' with h1 | ⟨_,k5,k6⟩
    · exact frzM_old h1
    · cases hm:g.m b o with
      | some v' =>
        have:=(r.mem b o v' hm).1
        rw [k5] at this; simp only [Option.some.injEq] at this; subst this
        exact frzM_old hm
      | none =>
        unfold frzM at e'
        rw [hm] at e'
        simp only at e'
        split at e'
        · rename_i hex
          obtain ⟨id,z,es,x,j1,j2,j3⟩:=hex
          exact frzM_new hm (Heap.le_get hl _ _ j1) j2 j3 k5 k6
        · cases e'
  exact (v g w x (r.weaken hl) hx).mono hle
theorem Views.weaken {h h':Heap} (hl:h.le h'):∀ {l q:List PV},Views h l q → Views h' l q
  | [],[],_=>trivial
  | a :: r,b :: q,⟨h1,h2⟩=>⟨h1.weaken hl,Views.weaken hl h2⟩
  | [],_ :: _,h=>h.elim
  | _ :: _,[],h=>h.elim
theorem Za9.weaken {P:Program} {f:FuncId} {args:List PV} {h h':Heap} {p:PV} (hl:h.le h') (H:Za9 P f args h p):Za9 P f args h' p :=
  H.imp id fun ⟨q,h1,h2⟩=>⟨q,h1.weaken hl,h2⟩
section
variable {P : Program} {N : Nat} {ops : Array Oper} {q : List VOper} {hq : Heap} {hqf : Nat → Heap} {Z : Nat → Heap → Heap → Prop} {E : List Nat}
theorem cOp_bslice {o : Oper} {z n : Nat} {zr : List PV} {ps : List (Nat × VA)} (hc : cOp P o = some (.bslice z n zr ps)) :
    ∃ t ty parts,o.op = .buildSlice t n parts ∧ P.underlying t = some (.slice ty) ∧ szOf P ty = some z ∧ zeroOf P ty = some zr ∧ cElems parts.toList = some ps ∧ n * z ≤ 2 ^ 20 ∧ zr.length = z ∧ z ≠ 0:=by
  unfold cOp at hc
  split at hc
  · cases hc
  rename_i hraw
  clear hraw
  split at hc
  · rename_i vo hx
    simp only [Option.some.injEq] at hc; subst hc
    exact (cX_ext hx).elim
  rename_i hn0
  clear hn0
  replace hc:cOp0 P o = some (.bslice z n zr ps):=by
    split at hc
    · rename_i v hv
      simp only [Option.some.injEq] at hc
      rw [hv,hc]
    · simp at hc
  obtain ⟨dst,oper,type,pos,after,guard⟩:=o
  cases oper
  case buildSlice t n' parts =>
    simp only [cOp0] at hc
    split at hc
    · rename_i ty hu
      split at hc
      · rename_i z' zr' ps' h1 h2 h3
        split at hc
        · rename_i hcond
          simp only [Option.some.injEq,VOp.bslice.injEq] at hc
          obtain ⟨rfl,rfl,rfl,rfl⟩:=hc
          simp only [Bool.and_eq_true,decide_eq_true_eq,beq_iff_eq,bne_iff_ne,ne_eq] at hcond
          exact ⟨t,ty,parts,rfl,hu,h1,h2,h3,hcond.1.1,hcond.1.2,hcond.2⟩
        · cases hc
      · cases hc
    · cases hc
  case call c =>
    exfalso
    simp only [cOp0,cCall] at hc
    (repeat' (split at hc)) <;> simp at hc
  case makeMap t r =>
    exfalso
    cases r <;> simp [cOp0] at hc
  case slice t x lo hi mx =>
    exfalso
    cases mx with
    | some m=>simp [cOp0] at hc
    | none =>
      simp only [cOp0] at hc
      (repeat' (split at hc)) <;> first | (simp at hc; done) | (obtain ⟨x,_,hx⟩:=Option.map_eq_some_iff.1 hc; cases hx)
  all_goals
    exfalso
    simp only [cOp0] at hc
    first
    | (simp at hc; done)
    | ((repeat' (split at hc)) <;> first | (simp at hc; done) | (cases hc; done) | (obtain ⟨x,_,hx⟩:=Option.map_eq_some_iff.1 hc; cases hx))
theorem quiet_run {o:Oper} {op:VOp} {e:Env} {h:Heap} {v:PV} (hc:cOp P o = some op) (hl:hq.le h) (H:QuietV P hq e op v):OpS P o e h (fun v' h'=>v' = v ∧ h' = h):=by
  by_cases hp:op.pure = true
  · have H' : pok e hq op ∧ v = pval e hq op := by
      cases op <;> first | exact H.2 | simp [VOp.pure] at hp
    refine OpS.of_value fun g w a r he=>?_
    obtain ⟨x,e1,e2⟩:=pure_sound hc hp H'.1 (r.weaken hl) he
    exact ⟨x,v,g,w,h,e1,⟨rfl,rfl⟩,by rw [H'.2]; exact e2,r,Evo.refl _ _ _⟩
  · cases op <;> simp only [VOp.pure,not_true_eq_false] at hp <;> simp only [QuietV] at H <;> try (exact (Bool.false_ne_true H.1).elim)
    case bslice z n zr ps =>
      obtain ⟨hok,rfl⟩:=H
      obtain ⟨t,ty,parts,ho,hu,h1,h2,h3,h4,h5,h6⟩:=cOp_bslice hc
      exact bslice_frozen ho hu h1 h2 h3 h4 h5 h6 hok ⟨rfl,rfl⟩
    case call f args =>
      have:Zaf P e h (.call f args) (fun v' h'=>v' = v ∧ h' = h):=Za9.call (H.weaken hl) ⟨rfl,rfl⟩
      exact stepW_sound hc this
    case callv f args =>
      have:Zaf P e h (.callv f args) (fun v' h'=>v' = v ∧ h' = h):=by
        simp only [Zaf]
        split at H
        · rename_i hpv
          try rw [hpv]
          exact Za9.call (K:=fun v' h'=>v' = v ∧ h' = h) (Za9.weaken hl H) ⟨rfl,rfl⟩
        · exact H.elim
      exact stepW_sound hc this
def Shp (h0 h:Heap):Prop:=∀ id fz z es,h0.get id = some (.arr fz z es) → ∃ fz' es',h.get id = some (.arr fz' z es')
def VOp.isIaddr:VOp → Bool
  | .iaddr ..=>true
  | _=>false
def QOk (op:VOp) (h0 h:Heap):Prop:=h0.le h ∨ (op.isIaddr = true ∧ Shp h0 h)
theorem quiet_run2 {o:Oper} {op:VOp} {e:Env} {h:Heap} {v:PV} (hc:cOp P o = some op) (hl:QOk op hq h) (H:QuietV P hq e op v):OpS P o e h (fun v' h'=>v' = v ∧ h' = h):=by
  rcases hl with hl | ⟨hi,hl⟩
  · exact quiet_run hc hl H
  · cases op <;> simp only [VOp.isIaddr,Bool.false_eq_true] at hi
    rename_i z a i
    obtain ⟨_,hok,hv⟩:=H
    have hok':pok e h (.iaddr z a i):=by
      obtain ⟨k1,k2,k3,k4⟩:=hok
      refine ⟨k1,k2,k3,?_⟩
      split at k4
      · exact k4
      · rename_i id off len hp
        split at k4
        · rename_i fz z' es hg
          obtain ⟨fz',es',hg'⟩:=hl id fz z' es hg
          simp only [hg']; exact k4
        · exact k4.elim
      · exact k4.elim
    refine OpS.of_value fun g w act r he=>?_
    obtain ⟨x,e1,e2⟩:=pure_sound hc rfl hok' r he
    exact ⟨x,v,g,w,h,e1,⟨rfl,rfl⟩,by rw [hv]; exact e2,r,Evo.refl _ _ _⟩
def AAny (P:Program) (ops:Array Oper) (q:List VOper) (hqf:Nat → Heap) (Z:Nat → Heap → Heap → Prop) (E:List Nat) (K:Env → Heap → Prop):Nat → Array Bool → Env → Heap → Prop
  | 0,listed,e,h=>Region.ready .any ops listed = [] ∧ K e h
  | n + 1,listed,e,h=>(Region.ready .any ops listed = [] → K e h) ∧ ∀ i ∈ Region.ready .any ops listed,∀ o,q[i]? = some o → AStep P hqf Z E i o e h (AAny P ops q hqf Z E K n (listed.setIfInBounds i true))
theorem AAny.inv {K:Env → Heap → Prop} (hK:Inv K) (hc:∀ o ∈ q,o.op.closed = true):∀ (n:Nat) (listed:Array Bool),Inv (AAny P ops q hqf Z E K n listed)
  | 0,listed=>fun e e' h hee H=>⟨H.1,hK _ _ _ hee H.2⟩
  | n + 1,listed=>fun e e' h hee H=>⟨fun h0=>hK _ _ _ hee (H.1 h0),fun i hi o ho=>AStep.inv (hc o (List.mem_of_getElem? ho)) (AAny.inv hK hc n _) e e' h hee (H.2 i hi o ho)⟩
theorem behind_ready {listed:Array Bool} {i j:Nat} (hj:j ∈ Region.ready .any ops listed) (hi:listed.getD i true = false):∀ f,Zbf ops listed f i j = false
  | 0=>rfl
  | f + 1=>by
    obtain ⟨_,goj,hgoj,hall⟩:=mem_ready.1 hj
    simp only [Zbf,hgoj]
    rw [Bool.eq_false_iff]
    intro hh
    rw [Array.any_eq_true'] at hh
    obtain ⟨x,hx,hxx⟩:=hh
    simp only [Bool.and_eq_true,Bool.or_eq_true,beq_iff_eq,Bool.not_eq_true'] at hxx
    have h1:=hall x hx hxx.1
    have h2:listed.getD x.on true = true:=by
      rcases Nat.lt_or_ge x.on listed.size with h' | h'
      · simp [h'] at h1; simp [h',h1]
      · simp [Array.getElem?_eq_none h'] at h1
    rcases hxx.2 with h3 | ⟨h3,_⟩
    · rw [h3] at h2; rw [h2] at hi; cases hi
    · rw [h2] at h3; cases h3
theorem behind_mono {listed:Array Bool} {i j:Nat} (hj:∀ f,Zbf ops listed f i j = false):∀ (f k:Nat),Zbf ops listed f i k = true → Zbf ops (listed.setIfInBounds j true) f i k = true
  | 0,k,h=>by cases h
  | f + 1,k,h=>by
    simp only [Zbf] at h ⊢
    split at h
    · rw [Array.any_eq_true'] at h ⊢
      obtain ⟨x,hx,hxx⟩:=h
      refine ⟨x,hx,?_⟩
      simp only [Bool.and_eq_true,Bool.or_eq_true,beq_iff_eq,Bool.not_eq_true'] at hxx ⊢
      refine ⟨hxx.1,?_⟩
      rcases hxx.2 with h3 | ⟨h3,h4⟩
      · exact .inl h3
      · right
        have hne:j ≠ x.on:=by rintro rfl; rw [hj f] at h4; cases h4
        exact ⟨by rw [getD_set_ne true hne]; exact h3,behind_mono hj f x.on h4⟩
    · cases h
theorem AAny.first {K : Env → Heap → Prop} (hK : Inv K) (hc : ∀ o ∈ q, o.op.closed = true) (hlen : ops.size = q.length) {i : Nat} {oi : VOper} (hi : q[i]? = some oi) :
    ∀ (fuel:Nat) (listed:Array Bool) (e:Env) (h:Heap),
      (∀ (j:Nat) (oj:VOper) (goj:Oper),q[j]? = some oj → ops[j]? = some goj → j ≠ i → listed.getD j true = false → Zbf ops listed ops.size i j = false →
        oi.apart oj = true ∧ ¬ (i ∈ E ∧ j ∈ E) ∧ (i ∈ E → oi.op.simple = true ∧ (oj.op.det || oi.op.sure) = true)) →
      i ∈ Region.ready .any ops listed → AStep P hqf Z E i oi e h (AAny P ops q hqf Z E K fuel (listed.setIfInBounds i true)) → AAny P ops q hqf Z E K (fuel + 1) listed e h:=by
  intro fuel
  induction fuel with
  | zero =>
    intro listed e h hfree hr H
    refine ⟨fun h0=>(by rw [h0] at hr; cases hr),fun j hj o ho=>?_⟩
    by_cases hji:j = i
    · subst hji; rw [hi] at ho; simp only [Option.some.injEq] at ho; subst ho; exact H
    · exfalso
      have hnr:Region.ready .any ops (listed.setIfInBounds i true) ≠ []:=by
        intro h0
        have:=ready_mono hj hji
        rw [h0] at this; cases this
      obtain ⟨hjun,goj,hgoj,hall⟩:=mem_ready.1 hj
      have hbr:=behind_ready hj (mem_ready.1 hr).1
      have hnot:=hbr ops.size
      obtain ⟨f1,f2,f3⟩:=hfree j o goj ho hgoj hji hjun hnot
      apply hnr
      by_cases hiE:i ∈ E
      · exact Zaf.out (K:=fun _ _=>True) (f3 hiE).1 (((AStep_E hiE).1 H).2.mono fun v h' k=>⟨k.2.1,trivial⟩)
      · obtain ⟨c,_,v,_,k⟩:=(AStep_q hiE).1 H
        exact k.1
  | succ fuel ih =>
    intro listed e h hfree hr H
    refine ⟨fun h0=>(by rw [h0] at hr; cases hr),fun j hj oj hoj=>?_⟩
    by_cases hji:j = i
    · subst hji; rw [hi] at hoj; simp only [Option.some.injEq] at hoj; subst hoj; exact H
    · obtain ⟨hjun,goj,hgoj,hall⟩:=mem_ready.1 hj
      have hbr:=behind_ready hj (mem_ready.1 hr).1
      have hnot:=hbr ops.size
      obtain ⟨f1,f2,f3⟩:=hfree j oj goj hoj hgoj hji hjun hnot
      have H2:AStep P hqf Z E i oi e h (fun e1 h1=>AStep P hqf Z E j oj e1 h1 (AAny P ops q hqf Z E K fuel ((listed.setIfInBounds i true).setIfInBounds j true))) :=
        H.mono fun e1 h1 k=>k.2 j (ready_mono hj hji) oj hoj
      have H3:=AStep.swap (AAny.inv hK hc fuel _) f1 (hc oi (List.mem_of_getElem? hi)) (hc oj (List.mem_of_getElem? hoj)) f2 f3 H2
      have hfree' : ∀ (k : Nat) (ok : VOper) (gok : Oper), q[k]? = some ok → ops[k]? = some gok → k ≠ i → (listed.setIfInBounds j true).getD k true = false → Zbf ops (listed.setIfInBounds j true) ops.size i k = false →
          oi.apart ok = true ∧ ¬ (i ∈ E ∧ k ∈ E) ∧ (i ∈ E → oi.op.simple = true ∧ (ok.op.det || oi.op.sure) = true):=fun k ok gok hk hgk hki hun hno=>by
        have hno':Zbf ops listed ops.size i k = false:=by
          cases hb:Zbf ops listed ops.size i k with
          | false=>rfl
          | true=>rw [behind_mono hbr _ _ hb] at hno; cases hno
        refine hfree k ok gok hk hgk hki ?_ hno'
        by_cases hjk:j = k
        · subst hjk; exact hjun
        · rw [getD_set_ne true hjk] at hun; exact hun
      refine AStep.mono (fun e1 h1 k=>?_) H3
      refine ih (listed.setIfInBounds j true) e1 h1 hfree' (ready_mono hr (Ne.symm hji)) ?_
      rw [Array.setIfInBounds_comm _ _ hji]
      exact k
theorem any_sound {K : Env → Heap → Prop} {Q : Exit → Act → World → Prop} {g0 : Gh} {w0 : World} {h0 : Heap} (hcq : cOpers P N ops ops.toList = some q) (I : Array Bool → Heap → Prop)
    (I1:∀ listed h i vo,I listed h → i ∈ Region.ready .any ops listed → i ∉ E → q[i]? = some vo → QOk vo.op (hqf i) h) (I2:∀ listed h i,I listed h → i ∈ Region.ready .any ops listed → i ∉ E → I (listed.setIfInBounds i true) h)
    (I3:∀ listed h i h',I listed h → i ∈ Region.ready .any ops listed → i ∈ E → Z i h h' → I (listed.setIfInBounds i true) h')
    (hQ:∀ g w h a e,K e h → Rel g w h → Zao g a e → a.defers = [] → a.tmps.size = N → Evo g0 w0 h0 g w h → Q .normal a w) :
    ∀ (n:Nat) (listed:Array Bool) (e:Env) (h:Heap),AAny P ops q hqf Z E K n listed e h → I listed h →
      ∀ g w a,Rel g w h → Zao g a e → a.defers = [] → a.tmps.size = N → Evo g0 w0 h0 g w h → wpAny P .any ops Q n listed a w
  | 0,listed,e,h,H,hl,g,w,a,r,he,hd,hs,hev=>⟨H.1,hQ g w h a e H.2 r he hd hs hev⟩
  | n + 1,listed,e,h,H,hl,g,w,a,r,he,hd,hs,hev=>by
    refine ⟨fun h0=>hQ g w h a e (H.1 h0) r he hd hs hev,fun i hi=>?_⟩
    obtain ⟨_,o,ho,_⟩:=mem_ready.1 hi
    obtain ⟨vo,h1,h2,h3,h4,h5⟩:=(cOpers_get hcq).2 i o (by simpa using ho)
    have H1:=H.2 i hi vo h1
    unfold wpOp
    rw [ho]
    simp only
    have hdlt:∀ t,o.dst = some t → t < a.tmps.size:=fun t ht=>by rw [hs]; exact h5 t ht
    have next : ∀ (v : Value) (pv : PV) (g' : Gh) (w' : World) (h' : Heap), AAny P ops q hqf Z E K n (listed.setIfInBounds i true) (e.put o.dst pv) h' → I (listed.setIfInBounds i true) h' → Rep g' v pv → Rel g' w' h' → Evo g w h g' w' h' →
        wpAny P .any ops Q n (listed.setIfInBounds i true) (a.put o.dst v) w':=by
      intro v pv g' w' h' hk hl' hv hr hev'
      exact any_sound hcq I I1 I2 I3 hQ n _ _ _ hk hl' g' w' _ hr ((he.mono hev'.le).put hv hdlt) (by rw [(put_size a o.dst v).2]; exact hd) (by rw [(put_size a o.dst v).1]; exact hs) (hev.trans hev')
    by_cases hiE:i ∈ E
    · obtain ⟨k1,k2⟩:=(AStep_E hiE).1 H1
      rw [k1] at h4
      have hog:o.guard = none:=by
        cases hg:o.guard with
        | none=>rfl
        | some jw =>
          obtain ⟨j,want⟩:=jw
          rw [hg] at h4
          simp only [cGuard] at h4
          split at h4 <;> simp at h4
      simp only [Region.wanted,hog,if_true]
      left
      refine stepW_sound h2 k2 g w a _ Q r he ?_
      rintro v pv g' w' h' ⟨m1,m2⟩ m3 m4 m5
      rw [h3] at m2
      exact next v pv g' w' h' m2 (I3 listed h i h' hl hi hiE m1) m3 m4 m5
    · obtain ⟨c,k1,v,k2,k3⟩:=(AStep_q hiE).1 H1
      rw [h3] at k3
      have hw:Region.wanted o (yielded ops a.tmps) = c:=by
        unfold gOf at k1
        cases hg:o.guard with
        | none =>
          rw [hg] at h4
          simp only [cGuard,Option.some.injEq] at h4
          rw [← h4] at k1
          simp only at k1
          simp [Region.wanted,hg,k1]
        | some jw =>
          obtain ⟨j,want⟩:=jw
          rw [hg] at h4
          simp only [cGuard] at h4
          split at h4
          · rename_i d hdd
            simp only [Option.some.injEq] at h4
            rw [← h4] at k1
            simp only at k1
            simp only [Region.wanted,hg]
            exact yielded_of he hdd k1
          · cases h4
      rw [hw]
      cases c
      · simp only [Bool.false_eq_true,if_false]
        exact next Go.undef .undef g w h (by simpa [gd] using k3) (I2 listed h i hl hi hiE) .undef r (Evo.refl _ _ _)
      · simp only [if_true]
        left
        refine quiet_run2 h2 (I1 listed h i vo hl hi hiE h1) (k2 rfl) g w a _ Q r he ?_
        rintro v' pv g' w' h' ⟨rfl,rfl⟩ m3 m4 m5
        exact next v' pv g' w' h' (by simpa [gd] using k3) (I2 listed h' i hl hi hiE) m3 m4 m5
def dok (e:Env) (hq:Heap):VOp → Prop
  | .bslice z n _ ps=>Zbi e z n ps
  | op=>pok e hq op
def QW (P:Program) (hq:Heap) (e:Env) (op:VOp) (c:Bool) (K:PV → Prop):Prop :=
  match op.det with
  | true=>(c = true → dok e hq op) ∧ K (gd c (dval e hq op))
  | false=>∃ v,(c = true → QuietV P hq e op v) ∧ K (gd c v)
def DrawW (P:Program) (hq:Heap):List VOper → (Env → Heap → Prop) → Env → Heap → Prop
  | [],K,e,h=>K e h
  | o :: r,K,e,h=>match o.op.simple,o.guard with
    | true,none=>Zaf P e h o.op (fun v h'=>hq.le h' ∧ DrawW P hq r K (e.put o.dst v) h')
    | true,some _=>False
    | false,none=>QW P hq e o.op true (fun v=>DrawW P hq r K (e.put o.dst v) h)
    | false,some (d,want)=>(match guardOf want (e.get d) with
      | some c=>QW P hq e o.op c (fun v=>DrawW P hq r K (e.put o.dst v) h)
      | none=>False)
theorem det_quiet {e:Env} {op:VOp} (hd:op.det = true) (h:dok e hq op):QuietV P hq e op (dval e hq op):=by
  cases op <;> simp only [VOp.det,VOp.pure] at hd <;> first | exact ⟨rfl,h,rfl⟩ | exact ⟨h,rfl⟩ | cases hd
def DrawG (P:Program) (hqf:Nat → Heap) (Z:Nat → Heap → Heap → Prop):Nat → List VOper → (Env → Heap → Prop) → Env → Heap → Prop
  | _,[],K,e,h=>K e h
  | k,o :: r,K,e,h=>match o.op.simple,o.guard with
    | true,none=>Zaf P e h o.op (fun v h'=>Z k h h' ∧ DrawG P hqf Z (k + 1) r K (e.put o.dst v) h')
    | true,some _=>False
    | false,none=>QW P (hqf k) e o.op true (fun v=>DrawG P hqf Z (k + 1) r K (e.put o.dst v) h)
    | false,some (d,want)=>(match guardOf want (e.get d) with
      | some c=>QW P (hqf k) e o.op c (fun v=>DrawG P hqf Z (k + 1) r K (e.put o.dst v) h)
      | none=>False)
theorem DrawW.toG {P:Program} {hq:Heap} {K:Env → Heap → Prop}:∀ {q:List VOper} {k:Nat} {e:Env} {h:Heap},DrawW P hq q K e h → DrawG P (fun _=>hq) (fun _ _ h'=>hq.le h') k q K e h
  | [],_,_,_,H=>H
  | o :: r,k,e,h,H=>by
    have qm:∀ {c:Bool} {K1 K2:PV → Prop},(∀ v,K1 v → K2 v) → QW P hq e o.op c K1 → QW P hq e o.op c K2:=by
      intro c K1 K2 hk H
      unfold QW at H ⊢
      split at H
      · exact ⟨H.1,hk _ H.2⟩
      · obtain ⟨v,v1,v2⟩:=H
        exact ⟨v,v1,hk _ v2⟩
    simp only [DrawW] at H
    simp only [DrawG]
    split at H
    · exact H.mono fun v h' kk=>⟨kk.1,DrawW.toG kk.2⟩
    · exact H.elim
    · exact qm (fun v hv=>DrawW.toG hv) H
    · split at H
      · exact qm (fun v hv=>DrawW.toG hv) H
      · exact H.elim
def effIdx (q:List VOper):List Nat:=(List.range q.length).filter (effAt q)
theorem lex_sound {K : Env → Heap → Prop} (hK : Inv K) (hlen : ops.size = q.length) : ∀ (l : List VOper) (k : Nat) (listed : Array Bool) (e : Env) (h : Heap), (∀ j, l[j]? = q[k + j]?) →
    drawB ops q l.length k listed = true → (∀ o ∈ q,o.op.closed = true) → DrawG P hqf Z k l K e h → AAny P ops q hqf Z (effIdx q) K l.length listed e h
  | [],_,listed,e,h,_,hB,_,H=>⟨by simpa [drawB] using hB,H⟩
  | o :: l,k,listed,e,h,hl,hB,hc,H=>by
    have h0:q[k]? = some o:=by simpa using (hl 0).symm
    have hkl:k < q.length:=(List.getElem?_eq_some_iff.1 h0).1
    simp only [List.length_cons,drawB,Bool.and_eq_true] at hB
    obtain ⟨⟨⟨hr,hf⟩,_⟩,hB'⟩:=hB
    have hl':∀ j,l[j]? = q[(k + 1) + j]?:=fun j=>by have:=hl (j + 1); simpa [Nat.add_assoc,Nat.add_comm 1 j] using this
    have hE:k ∈ effIdx q ↔ o.op.simple = true:=by
      simp only [effIdx,List.mem_filter,List.mem_range,effAt,h0]
      exact ⟨fun h=>h.2,fun h=>⟨hkl,h⟩⟩
    have hEj:∀ (j:Nat) (oj:VOper),q[j]? = some oj → (j ∈ effIdx q ↔ oj.op.simple = true):=by
      intro j oj hj
      have hjl:j < q.length:=(List.getElem?_eq_some_iff.1 hj).1
      simp only [effIdx,List.mem_filter,List.mem_range,effAt,hj]
      exact ⟨fun h=>h.2,fun h=>⟨hjl,h⟩⟩
    refine AAny.first hK hc hlen h0 l.length listed e h ?_ (by simpa using hr) ?_
    · intro j oj goj hj hgj hjk hun hno
      have hjl:j < ops.size:=(Array.getElem?_eq_some_iff.1 hgj).1
      simp only [freeB,List.all_eq_true,List.mem_range] at hf
      have hfj:=hf j hjl
      rw [h0,hj,hun] at hfj
      simp only [hno,Bool.or_false,Bool.or_eq_true,beq_iff_eq,Bool.and_eq_true,Bool.not_eq_true',Bool.and_eq_false_iff] at hfj
      rcases hfj with hfj | hfj
      · exact absurd hfj hjk
      · obtain ⟨⟨g1,g2⟩,g3⟩:=hfj
        refine ⟨g1,fun ⟨x1,x2⟩=>?_,fun x1=>?_⟩
        · rw [hE] at x1; rw [hEj j oj hj] at x2
          rcases g2 with g2 | g2
          · rw [x1] at g2; cases g2
          · rw [x2] at g2; cases g2
        · have x1':=hE.1 x1
          refine ⟨x1',?_⟩
          rcases g3 with g3 | g3
          · rw [x1'] at g3; cases g3
          · rw [g3]; rfl
    · have ih : ∀ e' h', DrawG P hqf Z (k + 1) l K e' h' → AAny P ops q hqf Z (effIdx q) K l.length (listed.setIfInBounds k true) e' h' :=
        fun e' h' H'=>lex_sound hK hlen l (k + 1) _ e' h' hl' hB' hc H'
      have hq2:∀ c,gOf o e c → QW P (hqf k) e o.op c (fun v=>DrawG P hqf Z (k + 1) l K (e.put o.dst v) h) → o.op.simple = false → AStep P hqf Z (effIdx q) k o e h (AAny P ops q hqf Z (effIdx q) K l.length (listed.setIfInBounds k true)):=by
        intro c hg hQ hs
        have hnE:k ∉ effIdx q:=fun hh=>by have:=hE.1 hh; rw [hs] at this; cases this
        refine (AStep_q hnE).2 ⟨c,hg,?_⟩
        unfold QW at hQ
        split at hQ
        · rename_i hd
          exact ⟨_,fun hh=>det_quiet hd (hQ.1 hh),ih _ _ hQ.2⟩
        · obtain ⟨v,v1,v2⟩:=hQ
          exact ⟨v,v1,ih _ _ v2⟩
      simp only [DrawG] at H
      split at H
      · rename_i hs hg
        exact (AStep_E (hE.2 hs)).2 ⟨hg,H.mono fun v h' kk=>⟨kk.1,ih _ _ kk.2⟩⟩
      · exact H.elim
      · rename_i hs hg
        exact hq2 true (by simp [gOf,hg]) H hs
      · rename_i hs hg
        split at H
        · rename_i c hgc
          exact hq2 c (by simp [gOf,hg,hgc]) H hs
        · exact H.elim
theorem keep_eqv {e e':Env} (h:e.eqv e'):∀ (l:List Nat),Env.keep l e = Env.keep l e'
  | []=>rfl
  | t :: l=>by simp only [Env.keep]; rw [h t,keep_eqv h l]
theorem VW_draw {Q:Exit → Env → Heap → Prop} {e:Env} {h:Heap} (l:List Nat) (hq:Heap) (hl:hq.le h) (H:DrawW P hq q (fun e' h'=>Q .normal (Env.keep l e') h') e h):VW P N (.region q true) Q e h:=by
  intro c hc
  cases c
  case region id ops draw =>
    obtain ⟨p,h3,h' | h' | h'⟩:=cCode_region hc
    · obtain ⟨_,h'⟩:=h'
      simp at h'
    · obtain ⟨hd,hB,h' | h'⟩:=h'
      · obtain ⟨_,h'⟩:=h'
        simp only [VC.region.injEq,and_true] at h'
        subst h'
        subst hd
        simp only [Bool.and_eq_true] at hB
        obtain ⟨hm,hB⟩:=hB
        obtain ⟨hlen,_⟩:=cOpers_get h3
        rw [Array.length_toList] at hlen
        have hcl:∀ o ∈ q,o.op.closed = true:=by
          cases q with
          | nil=>intro o ho; cases ho
          | cons x xs =>
            rw [hlen] at hB
            simp only [List.length_cons,drawB,Bool.and_eq_true] at hB
            exact fun o ho=>List.all_eq_true.1 hB.1.2 o ho
        intro g w a r he hd hs
        refine wp_region_any hm ?_
        have hany:=lex_sound (P:=P) (K:=fun e' h'=>Q .normal (Env.keep l e') h') (fun e1 e2 h1 hee hk=>by have hk':Q .normal (Env.keep l e1) h1:=hk; rw [keep_eqv hee l] at hk'; exact hk') hlen q 0 (Array.replicate ops.size false) e h (fun j=>by simp) (by rw [← hlen]; exact hB) hcl H.toG
        rw [← hlen] at hany
        exact any_sound (N:=N) h3 (fun _ h=>hq.le h) (fun _ _ _ _ hi _ _ _=>.inl hi) (fun _ _ _ hi _ _=>hi) (fun _ _ _ _ _ _ _ hz=>hz) (Q:=fun x a' w'=>∃ g' e' h',Q x e' h' ∧ Rel g' w' h' ∧ Zao g' a' e' ∧ a'.defers = [] ∧ a'.tmps.size = N ∧ Evo g w h g' w' h') (g0:=g) (w0:=w) (h0:=h)
          (fun g' w' h' a' e' k1 k2 k3 k4 k5 k6=>⟨g',_,h',k1,k2,k3.keep l,k4,k5,k6⟩) _ _ e h hany hl g _ a (r.drew _) he hd hs (Evo.drew _ _ _ _)
      · cases h'
    · obtain ⟨c,h'⟩:=h'; cases h'
  all_goals
    simp only [cCode,Option.map_eq_some_iff] at hc
    first
    | (simp at hc; done)
    | (split at hc <;> simp at hc)
theorem behind_listed {listed : Array Bool} (hdown : ∀ (j : Nat) (o : Oper), listed[j]? = some true → ops[j]? = some o → ∀ x ∈ o.after, Region.binds .any x = true → listed[x.on]? = some true) {i : Nat} :
    ∀ (f j:Nat),Zbf ops (Array.replicate ops.size false) f i j = true → listed[j]? = some true → listed[i]? = some true
  | 0,_,h,_=>by cases h
  | f + 1,j,h,hj=>by
    simp only [Zbf] at h
    split at h
    · rename_i o ho
      rw [Array.any_eq_true'] at h
      obtain ⟨x,hx,hxx⟩:=h
      simp only [Bool.and_eq_true,Bool.or_eq_true,beq_iff_eq] at hxx
      have h1:=hdown j o hj ho x hx hxx.1
      rcases hxx.2 with h3 | ⟨_,h4⟩
      · rw [← h3]; exact h1
      · exact behind_listed hdown f x.on h4 h1
    · cases h
def hq3 (q:List VOper) (late:List Bool) (big mid small:Heap) (i:Nat):Heap :=
  if late.getD i false then big else if (match q[i]? with | some o=>o.op.isIaddr | none=>false) then mid else small
def zed3 (q:List VOper) (big mid small:Heap) (i:Nat) (h h':Heap):Prop:=small.le h' ∧ (Zbg q i = false → big.le h → big.le h') ∧ (Shp mid h → Shp mid h')
theorem VW_draw2 {Q : Exit → Env → Heap → Prop} {e : Env} {h : Heap} {late : List Bool} (l : List Nat) (big mid small : Heap) (hl : big.le h) (hls : small.le h) (hm : Shp mid h)
    (H:DrawG P (hq3 q late big mid small) (zed3 q big mid small) 0 q (fun e' h'=>Q .normal (Env.keep l e') h') e h):VW P N (.draw2 q late) Q e h:=by
  intro c hc
  cases c
  case region id ops draw =>
    obtain ⟨p,h3,h' | h' | h'⟩:=cCode_region hc
    · obtain ⟨_,h'⟩:=h'
      cases h'
    · obtain ⟨hd,hB,h' | h'⟩:=h'
      · obtain ⟨_,h'⟩:=h'
        cases h'
      · simp only [VC.draw2.injEq] at h'
        obtain ⟨h5,h6⟩:=h'
        subst h5
        subst hd
        simp only [Bool.and_eq_true] at hB
        obtain ⟨hmm,hB⟩:=hB
        have hm0:=hm
        obtain ⟨hlen,_⟩:=cOpers_get h3
        rw [Array.length_toList] at hlen
        have hcl:∀ o ∈ q,o.op.closed = true:=by
          cases q with
          | nil=>intro o ho; cases ho
          | cons x xs =>
            rw [hlen] at hB
            simp only [List.length_cons,drawB,Bool.and_eq_true] at hB
            exact fun o ho=>List.all_eq_true.1 hB.1.2 o ho
        have hlate:∀ i,late.getD i false = true → ∀ j,Zbg q j = true → Zbf ops (Array.replicate ops.size false) ops.size i j = true:=by
          intro i hi j hj
          have hjl:j < ops.size:=by
            unfold Zbg at hj
            split at hj
            · rename_i o ho; have:=(List.getElem?_eq_some_iff.1 ho).1; omega
            · cases hj
          rw [h6] at hi
          simp only [lateL,List.getD_eq_getElem?_getD,List.getElem?_map] at hi
          cases hr:(List.range ops.size)[i]? with
          | none=>rw [hr] at hi; simp at hi
          | some k =>
            rw [hr] at hi
            have hk:k = i:=by
              obtain ⟨_,h9⟩:=List.getElem?_eq_some_iff.1 hr
              simpa using h9.symm
            subst hk
            simp only [Option.map_some,Option.getD_some,lateB,List.all_eq_true,List.mem_range] at hi
            have:=hi j hjl
            simpa [hj] using this
        intro g w a r he hd hs
        refine wp_region_any hmm ?_
        have hany:=lex_sound (P:=P) (K:=fun e' h'=>Q .normal (Env.keep l e') h') (fun e1 e2 h1 hee hk=>by have hk':Q .normal (Env.keep l e1) h1:=hk; rw [keep_eqv hee l] at hk'; exact hk') hlen q 0 (Array.replicate ops.size false) e h (fun j=>by simp) (by rw [← hlen]; exact hB) hcl H
        rw [← hlen] at hany
        have hset:∀ (listed:Array Bool) (i j:Nat),(listed.setIfInBounds i true).getD j true = false → listed.getD j true = false ∧ i ≠ j:=by
          intro listed i j hj
          by_cases hij:i = j
          · subst hij
            rcases Nat.lt_or_ge i listed.size with h' | h'
            · simp [Array.getD,h'] at hj
            · simp [Array.getD,Nat.not_lt.2 h'] at hj
          · rw [getD_set_ne true hij] at hj; exact ⟨hj,hij⟩
        have hdown : ∀ (listed : Array Bool) (i : Nat), i ∈ Region.ready .any ops listed → (∀ (j : Nat) (o : Oper), listed[j]? = some true → ops[j]? = some o → ∀ x ∈ o.after, Region.binds .any x = true → listed[x.on]? = some true) →
            ∀ (j:Nat) (o:Oper),(listed.setIfInBounds i true)[j]? = some true → ops[j]? = some o → ∀ x ∈ o.after,Region.binds .any x = true → (listed.setIfInBounds i true)[x.on]? = some true:=by
          intro listed i hi i2 j o hj ho x hx hb
          have keep:∀ (k:Nat),listed[k]? = some true → (listed.setIfInBounds i true)[k]? = some true:=by
            intro k hk
            rw [Array.getElem?_setIfInBounds]
            split
            · rename_i hik; subst hik
              have:=(Array.getElem?_eq_some_iff.1 hk).1
              simp [this]
            · exact hk
          by_cases hij:i = j
          · subst hij
            obtain ⟨_,o',ho',hall⟩:=mem_ready.1 hi
            rw [ho] at ho'; simp only [Option.some.injEq] at ho'; subst ho'
            refine keep _ ?_
            have h8:=hall x hx hb
            rcases Nat.lt_or_ge x.on listed.size with h7 | h7
            · simp [Array.getD,h7] at h8; simp [h7,h8]
            · simp [Array.getD,Nat.not_lt.2 h7] at h8
          · rw [Array.getElem?_setIfInBounds_ne hij] at hj
            exact keep _ (i2 j o hj ho x hx hb)
        refine any_sound (N:=N) h3 (fun listed h=>(small.le h ∧ listed.size = ops.size) ∧ (∀ (j:Nat) (o:Oper),listed[j]? = some true → ops[j]? = some o → ∀ x ∈ o.after,Region.binds .any x = true → listed[x.on]? = some true) ∧ ((∀ j,Zbg q j = true → listed.getD j true = false) → big.le h) ∧ Shp mid h) ?_ ?_ ?_ (Q:=fun x a' w'=>∃ g' e' h',Q x e' h' ∧ Rel g' w' h' ∧ Zao g' a' e' ∧ a'.defers = [] ∧ a'.tmps.size = N ∧ Evo g w h g' w' h') (g0:=g) (w0:=w) (h0:=h)
          (fun g' w' h' a' e' k1 k2 k3 k4 k5 k6=>⟨g',_,h',k1,k2,k3.keep l,k4,k5,k6⟩) _ _ e h hany ⟨⟨hls,by simp⟩,fun j o hj=>by (simp [Array.getElem?_replicate] at hj),fun _=>hl,hm0⟩ g _ a (r.drew _) he hd hs (Evo.drew _ _ _ _)
        · rintro listed h' i vo ⟨⟨i1,i0⟩,i2,i3,i4⟩ hi _ hvo
          simp only [hq3,hvo]
          split
          · rename_i hli
            refine .inl (i3 fun j hj=>?_)
            have hb:=hlate i hli j hj
            have hi0:=(mem_ready.1 hi).1
            have hjl':j < ops.size:=by
              unfold Zbg at hj
              split at hj
              · rename_i o ho; have:=(List.getElem?_eq_some_iff.1 ho).1; omega
              · cases hj
            cases hjl:listed.getD j true with
            | false=>rfl
            | true =>
              exfalso
              have hjs:listed[j]? = some true:=by
                have h7:j < listed.size:=by omega
                simp [Array.getD,h7] at hjl; simp [h7,hjl]
              have:=behind_listed i2 ops.size j hb hjs
              rcases Nat.lt_or_ge i listed.size with h7 | h7
              · simp [Array.getD,h7] at hi0; simp [h7,hi0] at this
              · simp [Array.getElem?_eq_none h7] at this
          · split
            · rename_i hia
              exact .inr ⟨hia,i4⟩
            · exact .inl i1
        · rintro listed h' i ⟨⟨i1,i0⟩,i2,i3,i4⟩ hi _
          exact ⟨⟨i1,by simpa using i0⟩,hdown listed i hi i2,(fun hw=>i3 fun j hj=>(hset listed i j (hw j hj)).1),i4⟩
        · rintro listed h' i h'' ⟨⟨i1,i0⟩,i2,i3,i4⟩ hi _ ⟨z1,z2,z3⟩
          refine ⟨⟨z1,by simpa using i0⟩,hdown listed i hi i2,(fun hw=>?_),z3 i4⟩
          refine z2 ?_ (i3 fun j hj=>(hset listed i j (hw j hj)).1)
          cases hwi:Zbg q i with
          | false=>rfl
          | true=>exact absurd rfl (hset listed i i (hw i hwi)).2
    · obtain ⟨c,h'⟩:=h'; cases h'
  all_goals
    simp only [cCode,Option.map_eq_some_iff] at hc
    first
    | (simp at hc; done)
    | (split at hc <;> simp at hc)
theorem VW_drawS {Q:Exit → Env → Heap → Prop} {e:Env} {h:Heap} (l:List Nat) (hl:h.le h) (H:DrawW P h q (fun e' h'=>Q .normal (Env.keep l e') h') e h):VW P N (.region q true) Q e h:=VW_draw l h hl H
end
end Go.VM
namespace Go.VM
open Go
def KnownW (W:World):Prop:=∀ b l,known.lookup b = some l → (∃ t fr,W.heap[b]? = some (.cells l.toArray t fr)) ∧ ∀ v ∈ l,v.oneCell' = true
noncomputable def g0 (W:World):Gh:=by
  classical
  exact if hk:KnownW W then ⟨⟨fun b o=>match W.cell? ⟨b,o,none⟩ with | some v=>if v.oneCell' = true then some v else none | none=>none,fun b=>(known.lookup b).map fun l=>.cells l.toArray,fun b l hl=>by
    obtain ⟨⟨t,fr,h1⟩,h3⟩:=hk b l hl
    refine ⟨by rw [hl]; rfl,fun j hj=>?_⟩
    have hc:W.cell? ⟨b,j,none⟩ = some l[j]:=by
      rw [World.cell?,h1]
      simp [hj]
    have hd:l.getD j Go.undef = l[j]:=by simp [List.getD,hj]
    rw [hc,hd]
    simp only
    rw [if_pos (h3 _ (List.getElem_mem hj))]⟩,fun _=>none⟩
  else ⟨⟨fun b o=>(known.lookup b).bind fun l=>l[o]?,fun b=>(known.lookup b).map fun l=>.cells l.toArray,fun b l hl=>⟨by rw [hl]; rfl,fun j hj=>by rw [hl]; simp [List.getD,hj]⟩⟩,fun _=>none⟩
theorem g0_c {W:World} (hk:KnownW W) (b o:Nat):(g0 W).m b o = match W.cell? ⟨b,o,none⟩ with | some v=>if v.oneCell' = true then some v else none | none=>none:=by unfold g0; rw [dif_pos hk]
theorem g0_mm (W:World) (b:Nat):(g0 W).m.mm b = (known.lookup b).map fun l=>.cells l.toArray:=by unfold g0; split <;> rfl
theorem g0_β (W:World) (i:Nat):(g0 W).β i = none:=by unfold g0; split <;> rfl
theorem g0_m {W:World} (hk:KnownW W) {b o:Nat} {v:Value} (h:W.cell? ⟨b,o,none⟩ = some v) (h1:v.oneCell' = true):(g0 W).m b o = some v:=by simp [g0_c hk,h,h1]
theorem g0_rel (W:World) (hk:KnownW W):Rel (g0 W) W Heap.nil:=by
  refine ⟨fun b o v h=>?_,fun b e h=>?_,fun i _=>⟨g0_β W i,rfl⟩,fun id ab h=>by simp [Heap.get,HL.get,Heap.nil] at h,fun id id' x x' ab ab' _ h=>by simp [Heap.get,HL.get,Heap.nil] at h⟩
  · rw [g0_c hk] at h
    split at h
    · rename_i u hu
      split at h
      · simp only [Option.some.injEq] at h; subst h; exact ⟨hu,‹_›⟩
      · cases h
    · cases h
  · rw [g0_mm] at h
    simp only [Option.map_eq_some_iff] at h
    obtain ⟨l,hl,rfl⟩:=h
    exact (hk _ _ hl).1
def CRep (g:Gh) (cs:List Value) (ps:List PV):Prop:=cs.length = ps.length ∧ ∀ j,j < ps.length → (cs.getD j Go.undef).oneCell' = true ∧ Rep g (cs.getD j Go.undef) (PV.nth ps j)
theorem CRep.one {g:Gh} {v:Value} {p:PV} (h1:v.oneCell' = true) (h:Rep g v p):CRep g [v] [p]:=by
  refine ⟨rfl,fun j hj=>?_⟩
  obtain rfl:j = 0:=by simpa using hj
  exact ⟨h1,h⟩
theorem CRep.nil {g:Gh}:CRep g [] []:=⟨rfl,fun j hj=>by simp at hj⟩
theorem CRep.append {g:Gh} {a b:List Value} {p q:List PV} (h:CRep g a p) (k:CRep g b q):CRep g (a ++ b) (p ++ q):=by
  refine ⟨by simp [h.1,k.1],fun j hj=>?_⟩
  simp only [PV.nth,List.getD_eq_getElem?_getD]
  by_cases hlt:j < p.length
  · rw [List.getElem?_append_left (by rw [h.1]; exact hlt),List.getElem?_append_left hlt]
    have:=h.2 j hlt
    simpa [PV.nth,List.getD_eq_getElem?_getD] using this
  · rw [List.getElem?_append_right (by rw [h.1]; omega),List.getElem?_append_right (by omega),h.1]
    have:=k.2 (j - p.length) (by simp at hj; omega)
    simpa [PV.nth,List.getD_eq_getElem?_getD] using this
structure Reads (P : Program) (W : World) (n : Nat) (t : TypeId) {α : Type} (ok : α → Prop) (enc : α → List PV) : Prop where
  run : ∀ (_ : KnownW W) (H : Type) (en : TypeId × Value → H) (base : Nat) (spare : Nat → Bool) (held : Bool) (cs : List Value) (x : DataW H × List MemPlace), DataW.trod en P W base spare held n t cs = some x → ∃ a, ok a ∧ CRep (g0 W) cs (enc a)
section
variable {P : Program} {W : World} {n : Nat} {t : TypeId}
theorem Reads.map {α β:Type} {ok:α → Prop} {enc:α → List PV} {ok':β → Prop} {enc':β → List PV} (f:α → β) (h:Reads P W n t ok enc) (ho:∀ a,ok a → ok' (f a)) (he:∀ a,enc' (f a) = enc a):Reads P W n t ok' enc':=by
  constructor; intro hk H en base spare held cs x hx
  obtain ⟨a,h1,h2⟩:=h.run hk H en base spare held cs x hx
  exact ⟨f a,ho a h1,by rw [he]; exact h2⟩
theorem reads_zero {α:Type} {ok:α → Prop} {enc:α → List PV}:Reads P W 0 t ok enc:=by
  constructor; intro hk H en base spare held cs x hx
  simp [DataW.trod] at hx
theorem reads_string (ht:P.underlying t = some .string):Reads P W n t (fun a:List UInt8=>a.length ≤ maxLen) (fun a=>[.str a]):=by
  constructor; intro hk H en base spare held cs x hx
  cases n with
  | zero=>simp [DataW.trod] at hx
  | succ n =>
    unfold DataW.trod at hx
    rw [ht] at hx
    split at hx <;> try (simp_all; done)
    rename_i s heq
    split at hx
    case isFalse=>cases hx
    rename_i hc
    refine ⟨s.data.toList,?_,CRep.one rfl (.str _ _ rfl)⟩
    simpa using hc
theorem reads_slice {e : TypeId} {z : Nat} {α : Type} {ok : α → Prop} {enc : α → List PV} (ht : P.underlying t = some (.slice e)) (hz : P.cellsOf e = z) (h0 : z ≠ 0) (hl : ∀ a, (enc a).length = z) (h : Reads P W n e ok enc) :
    Reads P W (n + 1) t (fun l:List α=>l.length ≤ maxLen ∧ ∀ a ∈ l,ok a) (fun l=>[.sl z (l.map enc)]):=by
  constructor; intro hk H en base spare held cs x hx
  rcases DataW.trod_slice ht hx with ⟨rfl,rfl⟩ | ⟨a,len,cap,elems,rest,m,hm,rfl,rfl,hb,hlc,hcap,hel,hread,_,_⟩
  · exact ⟨[],⟨by simp,by simp⟩,CRep.one rfl (.slE _ _ _)⟩
  obtain rfl:n = m:=by omega
  rw [hz] at hread
  by_cases hlen:len = 0
  · subst hlen
    exact ⟨[],⟨by simp,by simp⟩,CRep.one rfl (.slE _ _ _)⟩
  have each:∀ i:Fin len,∃ b,ok b ∧ ∀ j,j < z → ∃ v,W.cell? (a.add (i.val * z) |>.add j) = some v ∧ v.oneCell' = true ∧ Rep (g0 W) v (PV.nth (enc b) j):=by
    intro i
    have hr:=hread i.val i.isLt
    rw [List.getElem?_eq_getElem (by rw [hel]; exact i.isLt)] at hr
    obtain ⟨ci,hc,hx⟩:=Option.bind_eq_some_iff.1 hr
    obtain ⟨b,hb1,hb2⟩:=h.run hk H en base spare held ci _ hx
    obtain ⟨_,hcl,hcells⟩:=World.cells?_some hc
    refine ⟨b,hb1,fun j hj=>?_⟩
    have h1:=hb2.2 j (by rw [hl]; exact hj)
    refine ⟨ci.getD j Go.undef,?_,h1⟩
    rw [hcells j hj,List.getD_eq_getElem?_getD,List.getElem?_eq_getElem (by omega)]
    rfl
  obtain ⟨f,hf⟩:=Classical.axiomOfChoice each
  have hspot:a.spot = none:=by
    obtain ⟨v,hv,_⟩:=(hf ⟨0,by omega⟩).2 0 (by omega)
    simp only [Nat.zero_mul,Addr.add,if_true] at hv
    unfold World.cell? at hv
    split at hv
    · split at hv
      · cases hv
      · rename_i hs; simpa using hs
    · cases hv
  have hadd:∀ k j,((a.add k).add j) = ⟨a.block,a.off + k + j,none⟩:=by
    intro k j
    obtain ⟨b,o,sp⟩:=a
    simp only at hspot
    subst hspot
    simp only [Addr.add]
    by_cases hk:k = 0 <;> by_cases hj:j = 0 <;> simp [hk,hj]
  refine ⟨List.ofFn f,⟨by simp; omega,fun b hb=>?_⟩,CRep.one rfl ?_⟩
  · obtain ⟨i,rfl⟩:=(List.mem_ofFn).1 hb
    exact (hf i).1
  · have hrow : ∀ i (hi : i < len), PV.row ((List.ofFn f).map enc) i = enc (f ⟨i, hi⟩) := by
      intro i hi
      simp [PV.row,List.getD_eq_getElem?_getD,hi]
    refine .sl a.block a.off len cap z a _ (fun i j=>(W.cell? ⟨a.block,a.off + i * z + j,none⟩).getD Go.undef) (by cases a; simp_all) (by simp) hlc (fun i hi=>?_) (fun i j hi hj=>?_) (fun i j hi hj=>?_)
    · rw [hrow i hi,hl]
    · obtain ⟨v,hv,h1,h2⟩:=(hf ⟨i,hi⟩).2 j hj
      rw [hadd] at hv
      have e1:W.cell? ⟨a.block,a.off + i * z + j,none⟩ = some v:=hv
      rw [e1]
      exact g0_m hk e1 h1
    · obtain ⟨v,hv,h1,h2⟩:=(hf ⟨i,hi⟩).2 j hj
      rw [hadd] at hv
      have e1:W.cell? ⟨a.block,a.off + i * z + j,none⟩ = some v:=hv
      rw [e1,hrow i hi]
      exact h2
structure FReads (P : Program) (W : World) (n : Nat) (fs : List Field) (o : Nat) {α : Type} (ok : α → Prop) (enc : α → List PV) : Prop where
  run : ∀ (_ : KnownW W) (H : Type) (en : TypeId × Value → H) (base : Nat) (spare : Nat → Bool) (held : Bool) (cs : List Value),
    (∀ f ∈ fs, ∃ x, DataW.trod en P W base spare held n f.type ((cs.drop f.offset).take (P.cellsOf f.type)) = some x) → ∃ a, ok a ∧ CRep (g0 W) ((cs.drop o).take (enc a).length) (enc a)
theorem Reads.agg (hk : KnownW W) {α : Type} {ok : α → Prop} {enc : α → List PV} {H : Type} {en : TypeId × Value → H} {base : Nat} {spare : Nat → Bool} {held : Bool} {vs : Array Value} {d : DataW H} {ps : List MemPlace}
    (h:∀ n,Reads P W n t ok enc) (hd:DataW.Trod en P W base spare held t (.agg vs) d ps):∃ a,ok a ∧ Rep (g0 W) (.agg vs) (.agg (enc a)):=by
  obtain ⟨fuel,hx⟩:=hd
  obtain ⟨a,a1,a2,a3⟩:=(h fuel).run hk H en base spare held _ _ hx
  simp only [Value.cells] at a2 a3
  refine ⟨a,a1,.agg _ _ (by simpa using a2) (fun j hj=>?_) (fun j hj=>?_)⟩
  · have:=(a3 j hj).1; simpa [Array.getD_eq_getD_getElem?] using this
  · have:=(a3 j hj).2; simpa [Array.getD_eq_getD_getElem?] using this
theorem Reads.one (hk : KnownW W) {α : Type} {ok : α → Prop} {enc : α → PV} {H : Type} {en : TypeId × Value → H} {base : Nat} {spare : Nat → Bool} {held : Bool} {v : Value} {d : DataW H} {ps : List MemPlace}
    (h:∀ n,Reads P W n t ok (fun a=>[enc a])) (hv:v.cells = #[v]) (hd:DataW.Trod en P W base spare held t v d ps):∃ a,ok a ∧ Rep (g0 W) v (enc a):=by
  obtain ⟨fuel,hx⟩:=hd
  obtain ⟨a,a1,a2,a3⟩:=(h fuel).run hk H en base spare held _ _ hx
  rw [hv] at a3
  exact ⟨a,a1,(a3 0 (by simp)).2⟩
end
theorem cells_slice {P:Program} {W:World} {t e:TypeId} {r:Reach} {b':Nat} {v:Value} (ht:P.underlying t = some (.slice e)) (hv:Value.okWide P W r b' t v):v.cells = #[v]:=by
  unfold Value.okWide at hv
  rw [ht] at hv
  cases v <;> first | rfl | (exfalso; simp [Cell.okWide,Cell.ok,ht] at hv)
theorem reads_arg1 {P : Program} {W : World} (hk : KnownW W) {params : Array TypeId} {args : Array Value} {base : Nat} (hval : ∀ (j : Nat) t v, params[j]? = some t → args[j]? = some v → Value.okWide P W .any base t v) (j : Nat) {t : TypeId} {v : Value} (h1 : params[j]? = some t) (h2 : args[j]? = some v)
    {α:Type} {ok:α → Prop} {enc:α → PV} {H:Type} {en:TypeId × Value → H} {b':Nat} {spare:Nat → Bool} {held:Bool} {d:DataW H} {ps:List MemPlace}
    (hc:Value.okWide P W .any base t v → v.cells = #[v]) (h:∀ n,Reads P W n t ok (fun a=>[enc a])) (hd:DataW.Trod en P W b' spare held t v d ps):∃ a,ok a ∧ Rep (g0 W) v (enc a) :=
  Reads.one hk h (hc (hval j t v h1 h2)) hd
section
variable {H : Type} {enc : TypeId × Value → H} {P : Program}
theorem trodAll_below (hl : laidOutB P = true) {W W' : World} (hb : RowKit.Below W.heap.size W W') : ∀ {ts : List TypeId} {vs : List Value} {ds : List (DataW H)} {ps : List MemPlace}, (∀ t ∈ ts, P.readableRec t = true ∧ t < P.types.size) →
    DataW.TrodAll enc P W 0 (fun _=>true) true ts vs ds ps → (∀ x ∈ ps,x.block < W.heap.size) → DataW.TrodAll enc P W' 0 (fun b=>decide (b < W.heap.size)) true ts vs ds ps
  | [],[],[],ps,_,h,_=>h
  | t :: ts,v :: vs,d :: ds,ps,hts,h,hlt=>by
    obtain ⟨p,q,h1,h2,rfl⟩:=h
    refine ⟨p,q,RowKit.Below.trod hl (hts t (by simp)).1 (hts t (by simp)).2 h1 hb (fun x hx=>hlt x (by simp [hx])),trodAll_below hl hb (fun t ht=>hts t (by simp [ht])) h2 (fun x hx=>hlt x (by simp [hx])),rfl⟩
  | [],_ :: _,_,_,_,h,_=>h.elim
  | [],[],_ :: _,_,_,h,_=>h.elim
  | _ :: _,[],_,_,_,h,_=>h.elim
  | _ :: _,_ :: _,[],_,_,h,_=>h.elim
theorem post_below {f : Func} {s : ChangeSpec} {W W' : World} {args : Array Value} {ds gs : List (DataW H)} {before : List MemPlace} {bt : TypeId} (hlaid : laidOutB P = true) (hts : ∀ t ∈ f.params.toList, P.readableRec t = true ∧ t < P.types.size)
    (hrt:f.resultTypes = #[bt]) (hbt:P.underlying bt = some .bool) (hv:s.vars = []) (h1:(s.fn H (ds ++ gs)).results = [.lit (.bool true)]) (h2:(s.fn H (ds ++ gs)).args = ds) (h3:(s.fn H (ds ++ gs)).vars = [])
    (hW:DataW.Whole enc P f.params.toList s.vars false W args.toList ds gs before) (hb:RowKit.Below W.heap.size W W'):s.post enc P f false true false false W args (.bool true) W':=by
  have hW':=hW
  obtain ⟨p,q,hA,hV,rfl,hfz,hnd⟩:=hW
  rw [hv] at hV
  obtain ⟨rfl,rfl⟩:=ChangeShapes.trodVars_none hV
  refine ⟨ds,[],p ++ [],[],p,[],hW',?_,?_,?_,hb.frame _,fun h=>by cases h⟩
  · rw [h1,hrt]
    exact trodAll_cons_mk (RowKit.shut_bool hbt _) ChangeShapes.trodAll_mk0
  · rw [h2]
    exact trodAll_below hlaid hb hts hA (fun x hx=>hW'.lt x (by simp [hx]))
  · rw [h3,hv]; exact rfl
end
end Go.VM
namespace Go.VM
open Go
abbrev Str:=List UInt8
def i64 (n:Int):Prop:=(Lit.int .i64 n).wf = true
def okS (s:Str):Prop:=s.length ≤ maxLen
def okL {α:Type} (ok:α → Prop) (l:List α):Prop:=l.length ≤ maxLen ∧ ∀ a ∈ l,ok a
abbrev pI (n:Int):PV:=.int .i64 n
structure Wd where
  text : Str
  act : Int
  item : Int
  at' : Int
  deriving DecidableEq, Inhabited
def Wd.enc (w:Wd):List PV:=[.str w.text,pI w.act,pI w.item,pI w.at']
def Wd.ok (w:Wd):Prop:=okS w.text ∧ i64 w.act ∧ i64 w.item ∧ i64 w.at'
inductive Un where
  | mk (act item n kind : Int) (label : Str) (head words : List Wd) (kids : List Un)
  deriving Inhabited
namespace Un
def act:Un → Int | .mk a _ _ _ _ _ _ _=>a
def item:Un → Int | .mk _ a _ _ _ _ _ _=>a
def n:Un → Int | .mk _ _ a _ _ _ _ _=>a
def kind:Un → Int | .mk _ _ _ a _ _ _ _=>a
def label:Un → Str | .mk _ _ _ _ a _ _ _=>a
def head:Un → List Wd | .mk _ _ _ _ _ a _ _=>a
def words:Un → List Wd | .mk _ _ _ _ _ _ a _=>a
def kids:Un → List Un | .mk _ _ _ _ _ _ _ a=>a
mutual
def enc : Un → List PV
  | .mk a i n k l h w ks => [pI a, pI i, pI n, pI k, .str l, .sl 4 (h.map Wd.enc), .sl 4 (w.map Wd.enc), .sl 8 (encs ks)]
def encs : List Un → List (List PV)
  | [] => []
  | u :: r => enc u :: encs r
end
theorem encs_map:∀ l:List Un,encs l = l.map enc
  | []=>rfl
  | u :: r=>by simp only [encs,List.map_cons,encs_map r]
theorem enc_eq (u:Un):u.enc = [pI u.act,pI u.item,pI u.n,pI u.kind,.str u.label,.sl 4 (u.head.map Wd.enc),.sl 4 (u.words.map Wd.enc),.sl 8 (u.kids.map Un.enc)]:=by
  cases u; simp only [enc,encs_map]; rfl
inductive ok : Un → Prop
  | mk (u : Un) (h1 : i64 u.act) (h2 : i64 u.item) (h3 : i64 u.n) (h4 : i64 u.kind) (h5 : okS u.label) (h6 : okL Wd.ok u.head) (h7 : okL Wd.ok u.words) (h8 : u.kids.length ≤ maxLen) (h9 : ∀ k ∈ u.kids, ok k) : ok u
end Un
structure St where
  kind : Int
  label : Str
  deriving DecidableEq, Inhabited
def St.enc (s:St):List PV:=[pI s.kind,.str s.label]
def St.ok (s:St):Prop:=i64 s.kind ∧ okS s.label
structure Sta where
  kind : Int
  day : Int
  event : Str
  deriving DecidableEq, Inhabited
def Sta.enc (s:Sta):List PV:=[pI s.kind,pI s.day,.str s.event]
def Sta.ok (s:Sta):Prop:=i64 s.kind ∧ i64 s.day ∧ okS s.event
inductive It where
  | mk (kind : Int) (at' to : List St) (wher nth : Int) (unit : Un) (old new : List Str) (label forr : Str) (start : Sta) (act item day : Int) (event : Str) (by' : List It)
  deriving Inhabited
namespace It
def kind:It → Int | .mk a _ _ _ _ _ _ _ _ _ _ _ _ _ _ _=>a
def at':It → List St | .mk _ a _ _ _ _ _ _ _ _ _ _ _ _ _ _=>a
def to:It → List St | .mk _ _ a _ _ _ _ _ _ _ _ _ _ _ _ _=>a
def wher:It → Int | .mk _ _ _ a _ _ _ _ _ _ _ _ _ _ _ _=>a
def nth:It → Int | .mk _ _ _ _ a _ _ _ _ _ _ _ _ _ _ _=>a
def unit:It → Un | .mk _ _ _ _ _ a _ _ _ _ _ _ _ _ _ _=>a
def old:It → List Str | .mk _ _ _ _ _ _ a _ _ _ _ _ _ _ _ _=>a
def new:It → List Str | .mk _ _ _ _ _ _ _ a _ _ _ _ _ _ _ _=>a
def label:It → Str | .mk _ _ _ _ _ _ _ _ a _ _ _ _ _ _ _=>a
def forr:It → Str | .mk _ _ _ _ _ _ _ _ _ a _ _ _ _ _ _=>a
def start:It → Sta | .mk _ _ _ _ _ _ _ _ _ _ a _ _ _ _ _=>a
def act:It → Int | .mk _ _ _ _ _ _ _ _ _ _ _ a _ _ _ _=>a
def item:It → Int | .mk _ _ _ _ _ _ _ _ _ _ _ _ a _ _ _=>a
def day:It → Int | .mk _ _ _ _ _ _ _ _ _ _ _ _ _ a _ _=>a
def event:It → Str | .mk _ _ _ _ _ _ _ _ _ _ _ _ _ _ a _=>a
def by':It → List It | .mk _ _ _ _ _ _ _ _ _ _ _ _ _ _ _ a=>a
def strs (l:List Str):PV:=.sl 1 (l.map fun s=>[.str s])
mutual
def enc : It → List PV
  | .mk k a t w n u o e l f s ac it d ev b => [pI k, .sl 2 (a.map St.enc), .sl 2 (t.map St.enc), pI w, pI n,
      pI u.act, pI u.item, pI u.n, pI u.kind, .str u.label, .sl 4 (u.head.map Wd.enc), .sl 4 (u.words.map Wd.enc), .sl 8 (u.kids.map Un.enc), strs o, strs e, .str l, .str f, pI s.kind, pI s.day, .str s.event, pI ac, pI it, pI d, .str ev, .sl 25 (encs b)]
def encs : List It → List (List PV)
  | [] => []
  | u :: r => enc u :: encs r
end
theorem encs_map:∀ l:List It,encs l = l.map enc
  | []=>rfl
  | u :: r=>by simp only [encs,List.map_cons,encs_map r]
theorem enc_eq (x : It) : x.enc = [pI x.kind, .sl 2 (x.at'.map St.enc), .sl 2 (x.to.map St.enc), pI x.wher, pI x.nth,
      pI x.unit.act,pI x.unit.item,pI x.unit.n,pI x.unit.kind,.str x.unit.label,.sl 4 (x.unit.head.map Wd.enc),.sl 4 (x.unit.words.map Wd.enc),.sl 8 (x.unit.kids.map Un.enc),strs x.old,strs x.new,.str x.label,.str x.forr,
      pI x.start.kind,pI x.start.day,.str x.start.event,pI x.act,pI x.item,pI x.day,.str x.event,.sl 25 (x.by'.map It.enc)]:=by
  cases x; simp only [enc,encs_map]; rfl
inductive ok : It → Prop
  | mk (x : It) (h1 : i64 x.kind) (h2 : okL St.ok x.at') (h3 : okL St.ok x.to) (h4 : i64 x.wher) (h5 : i64 x.nth) (h6 : x.unit.ok) (h7 : okL okS x.old) (h8 : okL okS x.new) (h9 : okS x.label) (h10 : okS x.forr) (h11 : x.start.ok)
      (h12 : i64 x.act) (h13 : i64 x.item) (h14 : i64 x.day) (h15 : okS x.event) (h16 : x.by'.length ≤ maxLen) (h17 : ∀ k ∈ x.by', ok k) : ok x
end It
structure EI where
  act : Int
  item : Int
  day : Int
  it : It
  deriving Inhabited
def EI.enc (e:EI):List PV:=pI e.act :: pI e.item :: pI e.day :: e.it.enc
def EI.ok (e:EI):Prop:=i64 e.act ∧ i64 e.item ∧ i64 e.day ∧ e.it.ok
structure Ac where
  number : Int
  title : Str
  day : Int
  start : Sta
  items : List It
  deriving Inhabited
def Ac.enc (a:Ac):List PV:=[pI a.number,.str a.title,pI a.day,pI a.start.kind,pI a.start.day,.str a.start.event,.sl 25 (a.items.map It.enc)]
def Ac.ok (a:Ac):Prop:=i64 a.number ∧ okS a.title ∧ i64 a.day ∧ a.start.ok ∧ okL It.ok a.items
structure Gz where
  number : Int
  day : Int
  prior : Str
  acts : List Ac
  deriving Inhabited
def Gz.enc (g:Gz):List PV:=[pI g.number,pI g.day,.str g.prior,.sl 7 (g.acts.map Ac.enc)]
def Gz.ok (g:Gz):Prop:=i64 g.number ∧ i64 g.day ∧ okS g.prior ∧ okL Ac.ok g.acts
structure Sp where
  frm : Int
  to : Int
  deriving DecidableEq, Inhabited
def Sp.enc (s:Sp):List PV:=[pI s.frm,pI s.to]
def Sp.ok (s:Sp):Prop:=i64 s.frm ∧ i64 s.to
section
variable {P : Program} {W : World}
theorem reads_sl {t e : TypeId} {z : Nat} {α : Type} {ok : α → Prop} {enc : α → List PV} (ht : P.underlying t = some (.slice e)) (hz : P.cellsOf e = z) (h0 : z ≠ 0) (hl : ∀ a, (enc a).length = z) (n : Nat) (h : ∀ m, m < n → Reads P W m e ok enc) :
    Reads P W n t (okL ok) (fun l=>[.sl z (l.map enc)]):=by
  cases n with
  | zero=>exact reads_zero
  | succ n=>exact reads_slice ht hz h0 hl (h n (by omega))
def fd (nm:String) (ty off:Nat) (tag pkg:String) (bo:Nat) (emb:Bool):Field:={ name:=nm,type:=ty,offset:=off,embedded:=emb,tag:=tag,pkgPath:=pkg,byteOffset:=bo }
end
end Go.VM
namespace Go.VM
open Go
theorem rowm {α:Type} {l:List α} {enc:α → List PV} {k:Nat} (h:k < l.length):(l.map enc).getD k [] = enc l[k]:=by
  simp [List.getD_eq_getElem?_getD,h]
theorem w64 {n:Int} (h1:-9223372036854775808 ≤ n) (h2:n ≤ 9223372036854775807):IntKind.i64.wrap n = n:=by
  simp only [IntKind.wrap,IntKind.signed,IntKind.bits]
  simp
  omega
theorem len_ne {α:Type} {a b:List α} (h:a.length ≠ b.length):a ≠ b:=fun e=>h (by rw [e])
theorem take_step {α:Type} {a b:List α} {k:Nat} (h:a.take k = b.take k) (ha:k < a.length) (hb:k < b.length) (he:a[k] = b[k]):a.take (k + 1) = b.take (k + 1):=by
  rw [List.take_add_one,List.take_add_one,h]; simp [ha,hb,he]
theorem get_ne {α:Type} {a b:List α} {k:Nat} (ha:k < a.length) (hb:k < b.length) (he:a[k] ≠ b[k]):a ≠ b:=by
  rintro rfl; exact he rfl
theorem take_all {α:Type} {a b:List α} (hl:a.length = b.length) (h:a.take a.length = b.take a.length):a = b:=by
  rw [List.take_length] at h
  rw [h,List.take_of_length_le (by omega)]
section
variable {P : Program} {f : FuncId} {args : List PV} {h : Heap} {K : PV → Heap → Prop}
end
section
variable {P : Program} {N : Nat} {Q : Exit → Env → Heap → Prop} {K : Env → Heap → Prop} {e : Env} {h : Heap} {dst : Option Nat} {op : VOp} {d : Nat} {w : Bool} {r : List VOper}
theorem Zab:OpsW P [] K e h = K e h:=rfl
theorem Zad:OpsW P (⟨dst,op,none⟩ :: r) K e h = Zaf P e h op (fun v h'=>OpsW P r K (e.put dst v) h'):=rfl
theorem GuardW_true {K:PV → Heap → Prop}:GuardW P e h op true K = Zaf P e h op K:=by
  unfold GuardW
  cases hp:op.pure
  · simp
  · simp only [gd,if_true,true_implies]
    cases op <;> first | rfl | simp [VOp.pure] at hp
theorem GuardW_false {K:PV → Heap → Prop}:GuardW P e h op false K = K .undef h:=by
  unfold GuardW
  cases hp:op.pure
  · simp
  · simp [gd]
theorem Zbc (hd:e.get d = .bool w):OpsW P (⟨dst,op,some (d,w)⟩ :: r) K e h = Zaf P e h op (fun v h'=>OpsW P r K (e.put dst v) h'):=by
  simp only [OpsW,hd,guardOf,beq_self_eq_true,GuardW_true]
theorem OpsW_x (hd:e.get d = .bool (!w)):OpsW P (⟨dst,op,some (d,w)⟩ :: r) K e h = OpsW P r K (e.put dst .undef) h:=by
  have:((!w) == w) = false:=by cases w <;> rfl
  simp only [OpsW,hd,guardOf,this,GuardW_false]
theorem OpsW_xt (hd:e.get d = .bool false):OpsW P (⟨dst,op,some (d,true)⟩ :: r) K e h = OpsW P r K (e.put dst .undef) h:=OpsW_x hd
theorem OpsW_xf (hd:e.get d = .bool true):OpsW P (⟨dst,op,some (d,false)⟩ :: r) K e h = OpsW P r K (e.put dst .undef) h:=OpsW_x hd
theorem OpsW_u (hd:e.get d = .undef):OpsW P (⟨dst,op,some (d,w)⟩ :: r) K e h = OpsW P r K (e.put dst .undef) h:=by
  simp only [OpsW,hd,guardOf,GuardW_false]
theorem OpsW_split {X:Bool} (hd:e.get d = .bool X) (H1:X = w → Zaf P e h op (fun v h'=>OpsW P r K (e.put dst v) h')) (H0:X = (!w) → OpsW P r K (e.put dst .undef) h):OpsW P (⟨dst,op,some (d,w)⟩ :: r) K e h:=by
  by_cases hx:X = w
  · subst hx; rw [Zbc hd]; exact H1 rfl
  · have hx':X = (!w):=by cases X <;> cases w <;> simp_all
    subst hx'; rw [OpsW_x hd]; exact H0 rfl
theorem OpsW.mono {K':Env → Heap → Prop} (hk:∀ e h,K e h → K' e h):∀ {q:List VOper} {e:Env} {h:Heap},OpsW P q K e h → OpsW P q K' e h
  | [],_,_,H=>hk _ _ H
  | ⟨dst,op,none⟩ :: r,e,h,H=>by
    rw [Zad] at H ⊢
    exact Zaf.mono (fun _ _ H'=>OpsW.mono hk H') H
  | ⟨dst,op,some (d,w)⟩ :: r,e,h,H=>by
    simp only [OpsW] at H ⊢
    split at H
    · rename_i c hc
      cases c
      · rw [GuardW_false] at H ⊢; exact OpsW.mono hk H
      · rw [GuardW_true] at H ⊢; exact Zaf.mono (fun _ _ H'=>OpsW.mono hk H') H
    · exact H.elim
theorem QW_false {hq:Heap} {K:PV → Prop}:QW P hq e op false K = K .undef:=by
  unfold QW
  cases op.det
  · simp [gd]
  · simp [gd]
theorem DrawW_y {hq : Heap} (hd : e.get d = .bool w) : DrawW P hq (⟨dst, op, some (d, w)⟩ :: r) K e h = (match op.simple with
    | true=>False
    | false=>QW P hq e op true (fun v=>DrawW P hq r K (e.put dst v) h)):=by
  cases hs:op.simple <;> simp only [DrawW,hs,hd,guardOf,beq_self_eq_true]
theorem DrawW_x {hq : Heap} (hd : e.get d = .bool (!w)) : DrawW P hq (⟨dst, op, some (d, w)⟩ :: r) K e h = (match op.simple with
    | true=>False
    | false=>DrawW P hq r K (e.put dst .undef) h):=by
  have:((!w) == w) = false:=by cases w <;> rfl
  cases hs:op.simple <;> simp only [DrawW,hs,hd,guardOf,this,QW_false]
theorem DrawW_xt {hq : Heap} (hd : e.get d = .bool false) : DrawW P hq (⟨dst, op, some (d, true)⟩ :: r) K e h = (match op.simple with
    | true=>False
    | false=>DrawW P hq r K (e.put dst .undef) h):=DrawW_x hd
theorem DrawW_nil {hq:Heap}:DrawW P hq [] K e h = K e h:=rfl
theorem DrawW_n {hq : Heap} : DrawW P hq (⟨dst, op, none⟩ :: r) K e h = (match op.simple with
    | true=>Zaf P e h op (fun v h'=>hq.le h' ∧ DrawW P hq r K (e.put dst v) h')
    | false=>QW P hq e op true (fun v=>DrawW P hq r K (e.put dst v) h)):=by
  cases hs:op.simple <;> simp only [DrawW,hs]
theorem VW.weakenE {c:VC} {e':Env} (he:e'.le e) (H:VW P N c Q e' h):VW P N c Q e h:=fun x hx g w a r er hd hs=>H x hx g w a r (Zao.le he er) hd hs
theorem VW_seqE {q:List VOper} {y:VC} {σ:Type} (l:List Nat) (st:σ → Env) (h1:OpsW P q (fun e' h'=>∃ s,(st s).le (Env.keep l e') ∧ h' = h) e h) (h2:∀ s,VW P N y Q (st s) h):VW P N (.seq (.region q false) y) Q e h :=
  Zac (Zaa l (h1.mono fun _ _ ⟨s,a,b⟩=>by subst b; exact VW.weakenE a (h2 s)))
end
section
variable {P : Program} {N : Nat} {Q : Exit → Env → Heap → Prop} {e : Env} {h : Heap}
theorem VW_own0 {c:VC} (t z:Nat) (he:e.get t = .nilsl) (H:VW P N c Q (e.put (some t) (.own h.top 0 0)) (h.push (.arr false z []))):VW P N c Q e h:=by
  intro x hx g w a r hr hd hs
  obtain ⟨r1,r2⟩:=r.none none z w rfl rfl rfl rfl
  have hr':Zao g a (e.put (some t) (.own h.top 0 0)):=by
    intro k
    simp only [Env.put,Env.get]
    split
    · rename_i hk; subst hk
      have:=hr t
      rw [he] at this
      generalize a.tmps.getD t Go.undef = v at this
      cases this
      exact .ownE _ _ _
    · exact hr k
  refine wp_mono (H x hx g w a r1 hr' hd hs) fun ex a' w' ⟨g',e',h',k1,k2,k3,k4,k5,k6⟩=>⟨g',e',h',k1,k2,k3,k4,k5,r2.trans k6⟩
end
section
variable {P : Program} {f : FuncId} {args : List PV} {h : Heap} {K : PV → Heap → Prop}
theorem ACall.drop (H:ACall P f args h (fun p h'=>∃ h0,h0.le h' ∧ K p h0)):ACall P f args h K :=
  ⟨H.1,fun g w vals r ha=>(H.2 g w vals r ha).mono fun x w' ⟨v,p,g',h',h1,⟨h0,hl,hk⟩,h3,h4,h5⟩=>⟨v,p,g',h0,h1,hk,h3,h4.weaken hl,h5.weakenR hl⟩⟩
end
end Go.VM
namespace Go.VM
open Go
theorem cI (n:Int):Closed (pI n):=Closed.of_scalar (scalar_int _ _)
theorem cS (s:Str):Closed (.str s):=Closed.of_scalar (scalar_str _)
theorem cB (b:Bool):Closed (.bool b):=Closed.of_scalar (scalar_bool _)
theorem closed_fn0 (f:Fn):Closed (.fn f [] []):=fun g v hv=>by
  cases hv with
  | fn _ fs cs _ _ s1 s2 r1 r2=>exact .fn f fs cs [] [] s1 s2 (fun j hj=>by simp at hj) (fun j hj=>by simp at hj)
theorem Zay {α:Type} {z:Nat} {enc:α → List PV} {l:List α} (h:∀ a ∈ l,∀ x ∈ enc a,Closed x):Closed (.sl z (l.map enc)) :=
  closed_sl (fun e he x hx=>by obtain ⟨a,ha,rfl⟩:=List.mem_map.1 he; exact h a ha x hx)
theorem Wd.closed (w:Wd):∀ x ∈ w.enc,Closed x:=by
  intro x hx; simp only [Wd.enc,List.mem_cons,List.not_mem_nil,or_false] at hx
  rcases hx with rfl | rfl | rfl | rfl <;> first | exact cS _ | exact cI _
theorem St.closed (w:St):∀ x ∈ w.enc,Closed x:=by
  intro x hx; simp only [St.enc,List.mem_cons,List.not_mem_nil,or_false] at hx
  rcases hx with rfl | rfl <;> first | exact cS _ | exact cI _
theorem closed_sc (l:List Int):Closed (.sl 1 (l.map fun x=>[pI x])):=Zay (fun a _ x hx=>by simp only [List.mem_cons,List.not_mem_nil,or_false] at hx; subst hx; exact cI _)
theorem Sp.closed (w:Sp):∀ x ∈ w.enc,Closed x:=by
  intro x hx; simp only [Sp.enc,List.mem_cons,List.not_mem_nil,or_false] at hx
  rcases hx with rfl | rfl <;> exact cI _
theorem closed_sps (l:List Sp):Closed (.sl 2 (l.map Sp.enc)):=Zay (fun w _=>w.closed)
theorem closed_strs (l:List Str):Closed (It.strs l):=Zay (fun a _ x hx=>by simp only [List.mem_cons,List.not_mem_nil,or_false] at hx; subst hx; exact cS _)
theorem Un.closed (u:Un):∀ x ∈ u.enc,Closed x:=by
  rw [Un.enc_eq]
  intro x hx; simp only [List.mem_cons,List.not_mem_nil,or_false] at hx
  rcases hx with rfl | rfl | rfl | rfl | rfl | rfl | rfl | rfl
  · exact cI _
  · exact cI _
  · exact cI _
  · exact cI _
  · exact cS _
  · exact Zay (fun w _=>w.closed)
  · exact Zay (fun w _=>w.closed)
  · exact Zay (fun k hk=>Un.closed k)
termination_by SizeOf.sizeOf u
decreasing_by
  match u,hk with
  | .mk _ _ _ _ _ _ _ ks,hk =>
    have h1:SizeOf.sizeOf k < SizeOf.sizeOf ks:=List.sizeOf_lt_of_mem hk
    rw [Un.mk.sizeOf_spec]; omega
theorem It.closed (u:It):∀ x ∈ u.enc,Closed x:=by
  rw [It.enc_eq]
  intro x hx; simp only [List.mem_cons,List.not_mem_nil,or_false] at hx
  rcases hx with rfl | rfl | rfl | rfl | rfl | rfl | rfl | rfl | rfl | rfl | rfl | rfl | rfl | rfl | rfl | rfl | rfl | rfl | rfl | rfl | rfl | rfl | rfl | rfl | rfl
  all_goals first | exact cI _ | exact cS _ | exact closed_strs _ | exact Zay (fun w _=>Wd.closed w) | exact Zay (fun w _=>St.closed w) | exact Zay (fun w _=>Un.closed w) | skip
  exact Zay (fun k hk=>It.closed k)
termination_by SizeOf.sizeOf u
decreasing_by
  match u,hk with
  | .mk _ _ _ _ _ _ _ _ _ _ _ _ _ _ _ ks,hk =>
    have h1:SizeOf.sizeOf k < SizeOf.sizeOf ks:=List.sizeOf_lt_of_mem hk
    rw [It.mk.sizeOf_spec]; omega
theorem EI.closed (e:EI):∀ x ∈ e.enc,Closed x:=by
  intro x hx; simp only [EI.enc,List.mem_cons] at hx
  rcases hx with rfl | rfl | rfl | hx
  · exact cI _
  · exact cI _
  · exact cI _
  · exact It.closed _ x hx
theorem Ac.closed (a:Ac):∀ x ∈ a.enc,Closed x:=by
  intro x hx; simp only [Ac.enc,List.mem_cons,List.not_mem_nil,or_false] at hx
  rcases hx with rfl | rfl | rfl | rfl | rfl | rfl | rfl
  all_goals first | exact cI _ | exact cS _ | exact Zay (fun w _=>It.closed w)
theorem Za5 (l:List EI):Closed (.sl 28 (l.map EI.enc)):=Zay (fun w _=>w.closed)
theorem closed_acs (l:List Ac):Closed (.sl 7 (l.map Ac.enc)):=Zay (fun w _=>w.closed)
end Go.VM
namespace Go.VM
open Go
def HL.dec:List (Nat × AB) → Nat → Prop
  | [],_=>True
  | (k,_) :: r,b=>k < b ∧ HL.dec r k
def HOk (h:Heap):Prop:=HL.dec h.l h.top
theorem HL.dec_mono:∀ {l:List (Nat × AB)} {b b':Nat},HL.dec l b → b ≤ b' → HL.dec l b'
  | [],_,_,_,_=>trivial
  | (k,_) :: r,b,b',h,hb=>⟨Nat.lt_of_lt_of_le h.1 hb,h.2⟩
theorem HL.le_self:∀ {l:List (Nat × AB)} {b:Nat} {f:Nat → Option AB},HL.dec l b → (∀ t,t < b → HL.get l t = f t ∨ HL.get l t = none) → HL.le l f
  | [],_,_,_,_=>trivial
  | (k,v) :: r,b,f,h,hf=>by
    refine ⟨?_,HL.le_self h.2 (fun t ht=>?_)⟩
    · have:=hf k h.1
      simpa [HL.get,eq_comm] using this
    · have h1:=hf t (by have:=h.1; omega)
      have:k ≠ t:=by omega
      simpa [HL.get,this] using h1
theorem HOk.le_refl {h:Heap} (ok:HOk h):h.le h:=⟨Nat.le_refl _,HL.le_self ok fun _ _=>.inl rfl⟩
theorem HOk.push {h:Heap} (ok:HOk h) (x:AB):HOk (h.push x):=⟨Nat.lt_succ_self _,ok⟩
theorem HL.dec_del:∀ {l:List (Nat × AB)} {b:Nat} (k:Nat),HL.dec l b → HL.dec (HL.del l k) b
  | [],_,_,_=>trivial
  | (j,v) :: r,b,k,h=>by
    simp only [HL.del]
    split
    · exact HL.dec_del k (HL.dec_mono h.2 (Nat.le_of_lt h.1))
    · exact ⟨h.1,HL.dec_del k h.2⟩
theorem HL.dec_set:∀ {l:List (Nat × AB)} {b:Nat} (k:Nat) (x:AB),HL.dec l b → HL.dec (HL.set l k x) b
  | [],_,_,_,_=>trivial
  | (j,v) :: r,b,k,x,h=>by
    simp only [HL.set]
    split
    · exact ⟨h.1,HL.dec_del k h.2⟩
    · exact ⟨h.1,HL.dec_set k x h.2⟩
theorem HOk.del {h:Heap} (ok:HOk h) (k:Nat):HOk (h.del k):=HL.dec_del k ok
theorem HOk.set {h:Heap} (ok:HOk h) (k:Nat) (x:AB):HOk (h.set k x):=HL.dec_set k x ok
theorem HOk.Zba {h:Heap} (ok:HOk h) (k:Option Nat):HOk (Go.VM.Zba h k):=by cases k <;> first | exact ok | exact ok.del _
def HL.only (p:Nat → Bool):List (Nat × AB) → List (Nat × AB)
  | []=>[]
  | (k,v) :: r=>bif p k then (k,v) :: HL.only p r else HL.only p r
end Go.VM
namespace Go.VM
open Go
def PCallS (P:Program) (f:FuncId) (args:List PV) (S:PV → Prop):Prop :=
  fnOk P f = true ∧ Zat args ∧ ∀ g w (vals:Array Value),Rel g w Heap.nil → Args g vals args →
    Calls P f vals w fun x w'=>∃ v p m',x = .returned v ∧ S p ∧ Rep ⟨m',fun _=>none⟩ v p ∧ MemExt g w m' w' ∧ RowKit.Below w.heap.size w w'
theorem PCallS.mono {P:Program} {f:FuncId} {args:List PV} {S S':PV → Prop} (H:PCallS P f args S) (hs:∀ p,S p → S' p):PCallS P f args S' :=
  ⟨H.1,H.2.1,fun g w vals r ha=>(H.2.2 g w vals r ha).mono fun x w' ⟨v,p,m',h1,h2,h3⟩=>⟨v,p,m',h1,hs p h2,h3⟩⟩
end Go.VM
