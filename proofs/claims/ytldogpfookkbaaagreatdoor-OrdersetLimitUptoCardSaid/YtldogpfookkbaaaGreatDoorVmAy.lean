import Derived.Test.YtldogpfookkbaaaGreatDoorVmC
set_option linter.all false
namespace Go.VM
open Go
section
variable {P : Program} {N : FK} {ops : Array Oper} {q : List VOper}
def unl (listed:Array Bool):Nat:=listed.toList.count false
theorem unl_pos {listed:Array Bool} {i:Nat} (h:listed.getD i true=false):unl (listed.setIfInBounds i true)+1=unl listed:=by
 have hi:i<listed.size:=by
  rcases Nat.lt_or_ge i listed.size with h'|h'
  ·exact h'
  ·simp [Array.getElem?_eq_none h'] at h
 have hg:listed.toList[i]'(by simpa using hi)=false:=by simpa [hi] using h
 unfold unl;rw [Array.toList_setIfInBounds,List.count_set (by simpa using hi),hg];have hp:0<listed.toList.count false:=List.count_pos_iff.2 (by rw [← hg];exact List.getElem_mem _);have e1:(true==false)=false:=rfl;have e2:(false==false)=true:=rfl;simp only [e1,e2,if_true,Bool.false_eq_true,if_false];omega
theorem AAny_J {K : Env → Heap → Prop} (J : Array Bool → Env → Heap → Prop) (hlen : ops.size = q.length)
  (hstep:∀ listed e h,J listed e h→∀ i∈Region.ready .any ops listed,∀ o,q[i]?=some o→o.guard=none∧Zam P e h o.op (fun v h'=>J (listed.setIfInBounds i true) (e.put o.dst v) h'))
  (hend:∀ listed e h,J listed e h→Region.ready .any ops listed=[]→K e h):∀ (n:Nat) (listed:Array Bool) (e:Env) (h:Heap),unl listed≤n→J listed e h→AAny P ops q (fun _=>h) (fun _ _ _=>True) (List.range ops.size) K n listed e h
 | 0,listed,e,h,hn,H=>by
  have h0:Region.ready .any ops listed=[]:=by
   rw [List.eq_nil_iff_forall_not_mem];intro i hi;have:=unl_pos (mem_ready.1 hi).1;omega
  exact ⟨h0,hend _ _ _ H h0⟩
 | n+1,listed,e,h,hn,H=>by
  refine ⟨fun h0=>hend _ _ _ H h0,fun i hi o ho=>?_⟩;have hlt:i<ops.size:=by rw [hlen];exact (List.getElem?_eq_some_iff.1 ho).1
  have hu:=unl_pos (mem_ready.1 hi).1;have s:=hstep _ _ _ H i hi o ho;refine (AStep_E (List.mem_range.2 hlt)).2 ⟨s.1,s.2.mono fun v h' k=>⟨trivial,?_⟩⟩;have:=AAny_J J hlen hstep hend n _ (e.put o.dst v) h' (by omega) k;exact AAny_hq this
where
 AAny_hq {K:Env→Heap→Prop} {f g:Nat→Heap}:∀ {n:Nat} {listed:Array Bool} {e:Env} {h:Heap},AAny P ops q f (fun _ _ _=>True) (List.range ops.size) K n listed e h→AAny P ops q g (fun _ _ _=>True) (List.range ops.size) K n listed e h:=by
  intro n
  induction n with
  | zero=>exact fun h=>h
  | succ n ih =>
   intro listed e h H;refine ⟨H.1,fun i hi o ho=>?_⟩;have s:=H.2 i hi o ho;have hlt:i<ops.size:=by
    obtain ⟨_,o,ho,_⟩:=mem_ready.1 hi;exact (Array.getElem?_eq_some_iff.1 ho).1
   have s':=(AStep_E (List.mem_range.2 hlt)).1 s;exact (AStep_E (List.mem_range.2 hlt)).2 ⟨s'.1,s'.2.mono fun v h' k=>⟨trivial,ih k.2⟩⟩
theorem VW_drawJ {Q : Exit → Env → Heap → Prop} {e : Env} {h : Heap} {id : Nat} {ops : Array Oper} {q : List VOper} (l : List Nat) (h3 : cOpers P N.n ops ops.toList = some q) (hm : P.follows .mixedOrders = true)
  (J:Array Bool→Env→Heap→Prop) (hJ:J (Array.replicate ops.size false) e h)
  (hstep:∀ listed e h,J listed e h→∀ i∈Region.ready .any ops listed,∀ o,q[i]?=some o→o.guard=none∧Zam P e h o.op (fun v h'=>J (listed.setIfInBounds i true) (e.put o.dst v) h'))
  (hend:∀ listed e h,J listed e h→Region.ready .any ops listed=[]→Q .normal (Env.keep l e) h):VW P N (.other (.region id ops true)) Q e h:=by
 intro c hc;have hc':c=.region id ops true:=by
  cases c
  case region id' ops' draw' =>
   obtain ⟨p,h3',h'|h'|h'⟩:=Zbd hc
   ·obtain ⟨_,h'⟩:=h';cases h'
   ·obtain ⟨_,_,h'|h'⟩:=h'
    ·obtain ⟨_,h'⟩:=h';cases h'
    ·cases h'
   ·simp only [Za7] at hc;rw [h3'] at hc;simp only at hc;split at hc
    ·split at hc
     ·split at hc<;>simp at hc
     ·simpa using hc
    ·simp at hc
  all_goals
   simp only [Za7,Option.map_eq_some_iff] at hc
   first
   |(simp at hc;done)
   |(split at hc<;>simp at hc;done)
   |(simpa using hc)
 subst hc';obtain ⟨hlen,_⟩:=cOpers_get h3;rw [Array.length_toList] at hlen;intro g w a r he hd hs;refine wpIn_region_any hm ?_;have hu:unl (Array.replicate ops.size false)≤ops.size:=by
  unfold unl;refine Nat.le_trans (List.count_le_length) ?_;simp
 have hany:=AAny_J (P:=P) (K:=fun e' h'=>Q .normal (Env.keep l e') h') J hlen hstep hend ops.size _ e h hu hJ;refine any_sound (N:=N) h3 (fun _ _=>True) ?_ (fun _ _ _ _ _ _=>trivial) (fun _ _ _ _ _ _ _ _=>trivial) (Q:=fun x a' w'=>∃ g' e' h',Q x e' h'∧Rel g' w' h'∧Zah g' a' e'∧N.dok x a'.defers h'∧a'.tmps.size=N.n∧Evo g w h g' w' h') (g0:=g) (w0:=w) (h0:=h)
  (fun g' w' h' a' e' k1 k2 k3 k4 k5 k6=>⟨g',_,h',k1,k2,k3.keep l,k4,k5,k6⟩) _ _ e h hany trivial g _ a (r.drew _) he hd hs (Evo.drew _ _ _ _)
 intro listed h' i vo _ hi hiE _
 exfalso
 obtain ⟨_,o,ho,_⟩:=mem_ready.1 hi;exact hiE (List.mem_range.2 (Array.getElem?_eq_some_iff.1 ho).1)
end
end Go.VM
namespace Go.VM.Ap
open Go Go.VM
def depsOf (ops:Array Oper) (i:Nat):List Nat:=match ops[i]? with
  | some o=>(o.after.toList.filter (Region.binds .any)).map (·.on)
  | none=>[]
theorem ready_deps {ops:Array Oper} {listed:Array Bool} {i:Nat}:i∈Region.ready .any ops listed↔i<ops.size∧listed.getD i true=false∧∀ x∈depsOf ops i,listed.getD x false=true:=by
 rw [mem_ready];unfold depsOf;constructor
 ·rintro ⟨h1,o,ho,h2⟩;refine ⟨(Array.getElem?_eq_some_iff.1 ho).1,h1,?_⟩;rw [ho];intro x hx;obtain ⟨y,hy,rfl⟩:=List.mem_map.1 hx;obtain ⟨h3,h4⟩:=List.mem_filter.1 hy;exact h2 y (by simpa using h3) h4
 ·rintro ⟨h0,h1,h2⟩;refine ⟨h1,ops[i],Array.getElem?_eq_getElem h0,?_⟩;rw [Array.getElem?_eq_getElem h0] at h2;intro x hx hb;exact h2 _ (List.mem_map.2 ⟨x,List.mem_filter.2 ⟨by simpa using hx,hb⟩,rfl⟩)
def Has (h:Heap) (c:Nat) (x:AB):Prop:=h.get c=some x∧c<h.top
theorem Has.push {h:Heap} {c:Nat} {x:AB} (y:AB) (H:Has h c x):Has (h.push y) c x:=⟨by rw [Heap.get_push,if_neg (by have:=H.2;omega)];exact H.1,Nat.lt_succ_of_lt H.2⟩
theorem Has.new (h:Heap) (y:AB):Has (h.push y) h.top y:=⟨by rw [Heap.get_push,if_pos rfl],Nat.lt_succ_self _⟩
theorem Has.set {h:Heap} {c d:Nat} {x y:AB} (H:Has h c x) (hcd:d≠c):Has (h.set d y) c x:=⟨by rw [Heap.get_set,if_neg hcd];exact H.1,H.2⟩
theorem Has.wrote {h:Heap} {c:Nat} {x y:AB} (H:Has h c x):Has (h.set c y) c y:=⟨by rw [Heap.get_set,if_pos rfl,H.1];rfl,H.2⟩
theorem Has.del {h:Heap} {c d:Nat} {x:AB} (H:Has h c x) (hcd:d≠c):Has (h.del d) c x:=⟨by rw [Heap.get_del,if_neg hcd];exact H.1,H.2⟩
def vbox (v:PV):AB:=.arr false 1 [[v]]
def setP (p:Nat→Bool) (i:Nat):Nat→Bool:=fun j=>if j=i then true else p j
theorem OpS_zs {P : Program} {o : Oper} {e : Env} {h : Heap} {K : PV → Heap → Prop} {t ty : TypeId} {V : Value} {z : Nat} {zs : List PV} (ho : o.op = .buildSlice t 1 #[(0, .const V)]) (hu : P.underlying t = some (.slice ty)) (hs : szOf P ty = some z) (hz : zeroOf P ty = some zs)
  (hV:∀ g,Rep g V (.agg zs)) (hzl:zs.length=z) (hz0:z≠0) (hz1:z≤1000) (H:K (.own h.top 0 1) (h.push (.arr false z [zs]))):OpS P o e h K:=by
 refine OpS.of_value fun g w a r he=>?_;have he':Zah g ({ a with tmps:=#[V] }:Act) [(0,.agg zs)]:=by
  intro j
  match j with
  | 0=>exact hV g
  | j+1=>exact .any _
 obtain ⟨out,hrun,o2,hrows,hz',_⟩:=bslice_run (P:=P) (o:={ o with op:=.buildSlice t 1 #[(0,.tmp 0)] }) (e:=[(0,.agg zs)]) (ps:=[(0,.t 0)]) rfl hu hs hz rfl (by omega) hzl hz0 ⟨by simp [VA.ev,Env.get,PV.fits,hzl],Nat.one_pos,trivial⟩ w he';have e1:(execOp a.eval o).run P w=(execOp ({ a with tmps:=#[V] }:Act).eval { o with op:=.buildSlice t 1 #[(0,.tmp 0)] }).run P w:=by
  simp [execOp,ho,Act.eval]
 have hE:Za9 [(0,.agg zs)] (List.replicate 1 zs) [(0,.t 0)]=[zs]:=rfl;rw [hE] at hrows hz';obtain ⟨g',f2,f3,f4,f5⟩:=new_row r out ty z [zs] hz' hrows;exact ⟨_,_,g',_,_,e1.trans hrun,H,.own h.top 0 1 1 w.heap.size 0 out.size z ⟨w.heap.size,0,none⟩ f3 (by simp) (Nat.le_refl _) (by rw [o2];omega),f4,f5⟩
def OldAt (ip ia ix:Nat) (h:Heap) (at0:PV) (rows:List (List PV)):Prop :=
 (at0=.nilsl∧rows=[])∨∃ io,at0=.own io 0 rows.length∧Has h io (.arr false 8 rows)∧io≠ip∧io≠ia∧io≠ix
theorem OldAt.push {ip ia ix:Nat} {h:Heap} {at0:PV} {rows:List (List PV)} (x:AB) (H:OldAt ip ia ix h at0 rows):OldAt ip ia ix (h.push x) at0 rows:=by
 rcases H with H|⟨io,h1,h2,h3⟩
 ·exact .inl H
 ·exact .inr ⟨io,h1,h2.push _,h3⟩
def Fr (h0 h:Heap) (ia:Nat) (at0:PV):Prop:=∀ c y,c≠ia→oldId at0≠some c→Has h0 c y→Has h c y
structure ApJ (h0 : Heap) (ip ia ix : Nat) (pv at0 : PV) (zs x : List PV) (rows : List (List PV)) (p : Nat → Bool) (e : Env) (h : Heap) (b d : Nat) (va : PV) (y : List PV) : Prop where
 e2 : e.get 2 = .loc ia 0 0
 e3 : e.get 3 = .loc ix 0 0
 e9 : p 0 = true → e.get 9 = at0
 e10 : p 1 = true → e.get 10 = .agg x
 e11 : p 2 = true → e.get 11 = PV.int .i64 (rows.length : Int)
 e12 : p 3 = true → e.get 12 = .own b 0 1
 e13 : p 4 = true → e.get 13 = .own d 0 (rows.length + 1)
 e14 : p 5 = true → e.get 14 = .loc d rows.length 0
 hp : Has h ip (vbox pv)
 hx : Has h ix (.arr false 8 [x])
 ha : Has h ia (vbox va)
 ho : p 4 = false → OldAt ip ia ix h at0 rows
 hb : p 3 = true → p 4 = false → Has h b (.arr false 8 [zs])
 hd : p 4 = true → Has h d (.arr false 8 (rows ++ [y]))
 va0 : p 7 = false → va = at0
 va1 : p 7 = true → va = .own d 0 (rows.length + 1)
 y0 : y.length = 8
 y1 : p 6 = true → y = x
 p54 : p 5 = true → p 4 = true
 p64 : p 6 = true → p 4 = true
 p74 : p 7 = true → p 4 = true
 dn : p 4 = true → d ≠ ip ∧ d ≠ ia ∧ d ≠ ix
 q4 : p 4 = true → p 0 = true ∧ p 1 = true ∧ p 2 = true ∧ p 3 = true
 tp : h.top = h0.top + (bif p 3 then 1 else 0) + (bif p 4 then 1 else 0)
 dd : p 4 = true → d = h0.top + 1
 fr : Fr h0 h ia at0
 pa : ip ≠ ia
 ax : ia ≠ ix
def qAp (o3:Oper) (B:Nat) (zs:List PV):List VOper:=[⟨(some 9),(.load false 1 (.t 2)),none⟩,⟨(some 10),(.load true 8 (.t 3)),none⟩,⟨(some 11),(.len false (.t 9)),none⟩,⟨(some 12),(.other o3),none⟩,⟨(some 13),(.app 8 B zs false (.t 9) (.t 12)),none⟩,⟨(some 14),(.iaddr 8 (.t 13) (.t 11)),none⟩,⟨none,(.store 8 (.t 14) (.t 10)),none⟩,⟨none,(.store 1 (.t 2) (.t 13)),none⟩]
section
variable {P : Program} {N : FK} {Q : Exit → Env → Heap → Prop} {e : Env} {h : Heap} {id : Nat} {ops : Array Oper} {o3 : Oper}
theorem VW_ap {B : Nat} {zs x : List PV} (lk : List Nat) (hx3 : ops[3]? = some o3) (h3 : cOpers P N.n ops ops.toList = some (qAp o3 B zs)) (hm : P.follows .mixedOrders = true) (hsz : ops.size = 8)
  (hdeps:(List.range 8).map (depsOf ops)=[[],[],[0],[],[0,3,0,1,2,3],[4,2,0,1,2,3,4],[5,1,4,0,1,2,3,4],[4,4,0,1,2,3,4]])
  {t ty:TypeId} {V:Value} (ho3:o3.op=.buildSlice t 1 #[(0,.const V)]) (hu:P.underlying t=some (.slice ty)) (hsz3:szOf P ty=some 8) (hzo:zeroOf P ty=some zs) (hV:∀ g,Rep g V (.agg zs))
  (hz:zs.length=8) (hxl:x.length=8) (hB:B≤1000) {ip ia ix:Nat} {pv at0:PV} {rows:List (List PV)} (hn:rows.length≤1000000)
  (he2:e.get 2=.loc ia 0 0) (he3:e.get 3=.loc ix 0 0) (hp:Has h ip (vbox pv)) (hx:Has h ix (.arr false 8 [x])) (ha:Has h ia (vbox at0)) (ho:OldAt ip ia ix h at0 rows) (hpa:ip≠ia) (hax:ia≠ix)
  (H:∀ (e':Env) (h':Heap) (d:Nat),h'.top=h.top+2→d=h.top+1→Fr h h' ia at0→Has h' ip (vbox pv)→Has h' ia (vbox (.own d 0 (rows.length+1)))→Has h' d (.arr false 8 (rows++[x]))→d≠ip→d≠ia→Q .normal (Env.keep lk e') h'):VW P N (.other (.region id ops true)) Q e h:=by
 have hdep:∀ i,i<8→depsOf ops i=[[],[],[0],[],[0,3,0,1,2,3],[4,2,0,1,2,3,4],[5,1,4,0,1,2,3,4],[4,4,0,1,2,3,4]].getD i []:=by
  intro i hi;rw [← hdeps,List.getD_eq_getElem?_getD,List.getElem?_map,List.getElem?_range hi];rfl
 generalize hH0:h=h0 at H;refine VW_drawJ lk h3 hm (fun listed e h=>listed.size=8∧∃ b d va y,ApJ h0 ip ia ix pv at0 zs x rows (fun i=>listed.getD i false) e h b d va y) ?_ ?_ ?_
 ·refine ⟨by simp [hsz],0,0,at0,x,?_⟩;have hf:∀ i,(Array.replicate ops.size false).getD i false=false:=by
   intro i;simp only [Array.getD_eq_getD_getElem?,Array.getElem?_replicate];split<;>rfl
  subst hH0;have tp0:h.top=h.top+(bif (Array.replicate ops.size false).getD 3 false then 1 else 0)+(bif (Array.replicate ops.size false).getD 4 false then 1 else 0):=by rw [hf,hf];rfl
  have fr0:Fr h h ia at0:=fun _ _ _ _ H=>H;constructor<;>first|exact tp0|exact fr0|exact he2|exact he3|exact hp|exact hx|exact ha|exact hpa|exact hax|exact hxl|(intro _;exact ho)|(intro _;rfl)|(intro h;rw [hf] at h;cases h)|(intro h;simp only [hf] at h;cases h)
 ·rintro listed e h ⟨hs12,b,d,va,y,J⟩ i hi o ho;obtain ⟨hi1,hi2,hi3⟩:=ready_deps.1 hi;rw [hsz] at hi1;rw [hdep i hi1] at hi3;have hpi:listed.getD i false=false:=by
   have hlt:i<listed.size:=by omega
   simpa [hlt] using hi2
  have hset:(fun j=>(listed.setIfInBounds i true).getD j false)=setP (fun j=>listed.getD j false) i:=by
   funext j
   unfold setP;by_cases e:j=i
   ·subst e;rw [if_pos rfl];have hlt:j<listed.size:=by omega
    simp [hlt]
   ·rw [if_neg e];exact getD_set_ne false (Ne.symm e)
  have hsz':(listed.setIfInBounds i true).size=8:=by rw [Array.size_setIfInBounds];exact hs12
  rw [hset];generalize hp:(fun j=>listed.getD j false)=p at J;have hpp:∀ j,p j=listed.getD j false:=fun j=>by rw [← hp]
  rw [← hpp] at hpi
  replace hi3:∀ x,x∈[[],[],[0],[],[0,3,0,1,2,3],[4,2,0,1,2,3,4],[5,1,4,0,1,2,3,4],[4,4,0,1,2,3,4]].getD i []→p x=true:=fun x hx=>by rw [hpp];exact hi3 x hx
  clear hpp hp hset hi2;have hcs:i=0∨i=1∨i=2∨i=3∨i=4∨i=5∨i=6∨i=7:=by omega
  rcases hcs with rfl|rfl|rfl|rfl|rfl|rfl|rfl|rfl
  ·simp only [qAp,List.getElem?_cons_zero,List.getElem?_cons_succ,Option.some.injEq] at ho;subst ho;refine ⟨rfl,?_⟩;have n4:p 4=false:=by
    cases h7:p 4 with
    | false=>rfl
    | true=>have:=(J.q4 h7).1;rw [hpi] at this;cases this
   have p7:p 7=false:=by
    cases h7:p 7 with
    | false=>rfl
    | true=>have:=J.p74 h7;rw [n4] at this;cases this
   have h2:=J.ha.1;simp only [Zam,pok,pval,VA.ev,J.e2,locOk,Za2,h2,vbox];exact ⟨⟨Nat.one_pos,Nat.le_refl _,fun h=>h⟩,hsz',b,d,va,y,{ J with e9:=fun _=>J.va0 p7,q4:=fun h=>⟨rfl,(J.q4 h).2⟩ }⟩
  ·simp only [qAp,List.getElem?_cons_zero,List.getElem?_cons_succ,Option.some.injEq] at ho;subst ho;refine ⟨rfl,?_⟩;have h2:=J.hx.1;simp only [Zam,pok,pval,VA.ev,J.e3,locOk,Za2,h2];refine ⟨⟨Nat.one_pos,?_,?_⟩,hsz',b,d,va,y,{ J with e10:=fun _=>?_,q4:=fun h=>⟨(J.q4 h).1,rfl,(J.q4 h).2.2⟩ }⟩
   ·show 8≤x.length;omega
   ·intro h;cases h
   ·show PV.agg (List.take 8 x)=.agg x;rw [← hxl,List.take_length]
  ·simp only [qAp,List.getElem?_cons_zero,List.getElem?_cons_succ,Option.some.injEq] at ho;subst ho;refine ⟨rfl,?_⟩;have n4:p 4=false:=by
    cases h7:p 4 with
    | false=>rfl
    | true=>have:=(J.q4 h7).2.2.1;rw [hpi] at this;cases this
   have h0:=J.ho n4;simp only [Zam,pok,pval,VA.ev,J.e9 (hi3 0 (by simp))];refine ⟨?_,hsz',b,d,va,y,{ J with e11:=fun _=>?_,q4:=fun h=>⟨(J.q4 h).1,(J.q4 h).2.1,rfl,(J.q4 h).2.2.2⟩ }⟩
   ·rcases h0 with ⟨rfl,_⟩|⟨io,rfl,_⟩<;>simp [lenOk]
   ·rcases h0 with ⟨rfl,rfl⟩|⟨io,rfl,_⟩<;>rfl
  ·simp only [qAp,List.getElem?_cons_zero,List.getElem?_cons_succ,Option.some.injEq] at ho;subst ho;refine ⟨rfl,?_⟩;have n4:p 4=false:=by
    cases h7:p 4 with
    | false=>rfl
    | true=>have:=(J.q4 h7).2.2.2;rw [hpi] at this;cases this
   simp only [Zam];refine OpS_zs ho3 hu hsz3 hzo hV hz (by decide) (by decide) ⟨hsz',h.top,d,va,y,{ J with e12:=fun _=>rfl,tp:=(by have:=J.tp;rw [hpi] at this;show h.top+1=_;rw [this];simp [setP];omega),fr:=fun c y h1 h2 h3=>(J.fr c y h1 h2 h3).push _,hp:=J.hp.push _,hx:=J.hx.push _,ha:=J.ha.push _,ho:=fun hh=>(J.ho hh).push _,hb:=fun _ _=>Has.new _ _,hd:=fun hh=>(J.hd hh).push _,q4:=fun h=>⟨(J.q4 h).1,(J.q4 h).2.1,(J.q4 h).2.2.1,rfl⟩ }⟩
  ·simp only [qAp,List.getElem?_cons_zero,List.getElem?_cons_succ,Option.some.injEq] at ho;subst ho;refine ⟨rfl,?_⟩;have d0:=hi3 0 (by simp);have d1:=hi3 1 (by simp);have d2:=hi3 2 (by simp);have d3:=hi3 3 (by simp);have h0:=J.ho hpi;have h1:=J.hb d3 hpi;have n5:p 5=true→False:=fun h=>by have:=J.p54 h;rw [hpi] at this;cases this
   have n6:p 6=true→False:=fun h=>by have:=J.p64 h;rw [hpi] at this;cases this
   have n7:p 7=true→False:=fun h=>by have:=J.p74 h;rw [hpi] at this;cases this
   have hS:Zar h (.own b 0 1)=[zs]:=by simp only [Zar,h1.1];rfl
   have hSo:srcOk h false 8 (.own b 0 1):=by simp only [srcOk,h1.1];exact ⟨trivial,trivial,Nat.le_refl _⟩
   have hO:Zbb h at0=rows∧oldOk h 8 at0:=by
    rcases h0 with ⟨rfl,rfl⟩|⟨io,rfl,h5,_⟩
    ·exact ⟨rfl,trivial⟩
    ·refine ⟨?_,?_⟩
     ·simp only [Zbb,h5.1,List.drop_zero,List.take_length]
     ·simp only [oldOk,h5.1,Nat.zero_add,Nat.le_refl,and_self]
   have hk:∀ c y,c=ip∨c=ia∨c=ix→Has h c y→Has (Za1 h (oldId at0)) c y:=fun c y hc HH=>by
    rcases h0 with ⟨rfl,_⟩|⟨io,rfl,h5,h6,h7,h8⟩
    ·exact HH
    ·exact HH.del (by rcases hc with rfl|rfl|rfl<;>assumption)
   have hk2:∀ c y,oldId at0≠some c→Has h c y→Has (Za1 h (oldId at0)) c y:=fun c y hc HH=>by
    rcases h0 with ⟨rfl,_⟩|⟨io,rfl,h5,h6,h7,h8⟩
    ·exact HH
    ·exact HH.del (fun e=>hc (by rw [← e];rfl))
   have ht:(Za1 h (oldId at0)).top=h.top:=killed_top _ _;simp only [Zam,VA.ev,J.e9 d0,J.e12 d3,hS,hO.1,List.length_cons,List.length_nil,Nat.zero_add];have hN:=Has.new (Za1 h (oldId at0)) (.arr false 8 (rows++[zs]));rw [ht] at hN;refine ⟨hO.2,hSo,by omega,?_,hsz',b,h.top,va,zs,{ J with e13:=fun _=>rfl,tp:=(by have:=J.tp;rw [hpi,d3] at this;show (Za1 h (oldId at0)).top+1=_;rw [ht,this];simp [setP,d3]),dd:=fun _=>(by have:=J.tp;rw [hpi,d3] at this;simpa using this),fr:=fun c y h1 h2 h3=>(hk2 c y h2 (J.fr c y h1 h2 h3)).push _,e14:=fun h=>(n5 h).elim,hp:=(hk _ _ (.inl rfl) J.hp).push _,hx:=(hk _ _ (.inr (.inr rfl)) J.hx).push _,ha:=(hk _ _ (.inr (.inl rfl)) J.ha).push _,ho:=fun h=>(by cases h),hb:=fun _ h=>(by cases h),hd:=fun _=>hN,va1:=fun h=>(n7 h).elim,y0:=hz,y1:=fun h=>(n6 h).elim,p54:=fun _=>rfl,p64:=fun _=>rfl,p74:=fun _=>rfl,dn:=fun _=>⟨?_,?_,?_⟩,q4:=fun _=>⟨d0,d1,d2,d3⟩ }⟩
   ·exact Nat.le_trans (Nat.mul_le_mul (Nat.add_le_add_right hn 1) hB) (by decide)
   ·have:=J.hp.2;omega
   ·have:=J.ha.2;omega
   ·have:=J.hx.2;omega
  ·simp only [qAp,List.getElem?_cons_zero,List.getElem?_cons_succ,Option.some.injEq] at ho;subst ho;refine ⟨rfl,?_⟩;have d4:=hi3 4 (by simp);have d2:=hi3 2 (by simp);have h1:=(J.hd d4).1;simp only [Zam,pok,pval,VA.ev,J.e13 d4,J.e11 d2];refine ⟨⟨trivial,?_,?_,?_⟩,hsz',b,d,va,y,{ J with e14:=fun _=>?_,p54:=fun _=>d4 }⟩
   ·simp [numOf]
   ·simp [numOf,lenV];omega
   ·simp only [h1]
   ·show PV.loc d (0+(rows.length:Int).toNat) 0=_;rw [Nat.zero_add,Int.toNat_natCast]
  ·simp only [qAp,List.getElem?_cons_zero,List.getElem?_cons_succ,Option.some.injEq] at ho;subst ho;refine ⟨rfl,?_⟩;have d4:=hi3 4 (by simp);have d5:=hi3 5 (by simp);have d1:=hi3 1 (by simp);have h1:=J.hd d4;have h2:=h1.1;obtain ⟨n1,n2,n3⟩:=J.dn d4;have hrow:(rows++[y]).set rows.length (overlay (PV.row (rows++[y]) rows.length) 0 x)=rows++[x]:=by
    have e1:PV.row (rows++[y]) rows.length=y:=by simp [PV.row,List.getD_eq_getElem?_getD]
    have e2:overlay y 0 x=x:=by
     unfold overlay;rw [List.take_zero,List.nil_append,Nat.zero_add,hxl,← J.y0,List.drop_length,List.append_nil]
    rw [e1,e2];simp
   simp only [Zam,VA.ev,J.e14 d5,J.e10 d1,storeOk,storeV,h2,PV.cells,hrow];refine ⟨⟨by simp [PV.fits,hxl],trivial,by simp,Nat.le_refl _⟩,hsz',b,d,va,x,{ J with hp:=J.hp.set n1,hx:=J.hx.set n3,ha:=J.ha.set n2,ho:=fun h=>?_,hb:=fun _ h=>?_,fr:=fun c y h1 h2 h3=>(J.fr c y h1 h2 h3).set (by have:=h3.2;have:=J.dd d4;omega),hd:=fun _=>h1.wrote,y0:=hxl,y1:=fun _=>rfl,p64:=fun _=>d4 }⟩
   ·exact absurd (show p 4=false from h) (by rw [d4];simp)
   ·exact absurd (show p 4=false from h) (by rw [d4];simp)
  ·simp only [qAp,List.getElem?_cons_zero,List.getElem?_cons_succ,Option.some.injEq] at ho;subst ho;refine ⟨rfl,?_⟩;have d4:=hi3 4 (by simp);have h1:=J.ha;have h2:=h1.1;obtain ⟨n1,n2,n3⟩:=J.dn d4;simp only [Zam,VA.ev,J.e2,J.e13 d4,storeOk,storeV,h2,vbox];refine ⟨⟨rfl,trivial,Nat.one_pos,Nat.le_refl _⟩,hsz',b,d,.own d 0 (rows.length+1),y,{ J with hp:=J.hp.set (Ne.symm J.pa),hx:=J.hx.set J.ax,fr:=fun c y h1 h2 h3=>(J.fr c y h1 h2 h3).set (Ne.symm h1),ha:=h1.wrote,ho:=fun h=>?_,hb:=fun _ h=>?_,hd:=fun hh=>(J.hd hh).set (Ne.symm n2),va0:=fun h=>(by cases h),va1:=fun _=>rfl,p74:=fun _=>d4 }⟩
   ·exact absurd (show p 4=false from h) (by rw [d4];simp)
   ·exact absurd (show p 4=false from h) (by rw [d4];simp)
 ·rintro listed e h ⟨hs12,b,d,va,y,J⟩ hr;have nr:∀ i,i<8→(∀ x∈[[],[],[0],[],[0,3,0,1,2,3],[4,2,0,1,2,3,4],[5,1,4,0,1,2,3,4],[4,4,0,1,2,3,4]].getD i [],listed.getD x false=true)→listed.getD i false=true:=by
   intro i hi hx;cases hq:listed.getD i false with
   | true=>rfl
   | false =>
    exfalso
    have hm:i∈Region.ready .any ops listed:=ready_deps.2 ⟨by omega,by
     have hlt:i<listed.size:=by omega
     simpa [hlt] using hq,by rw [hdep i hi];exact hx⟩
    rw [hr] at hm;cases hm
  have q0:=nr 0 (by omega) (by simp);have q1:=nr 1 (by omega) (by simp);have q2:=nr 2 (by omega) (by simpa using q0);have q3:=nr 3 (by omega) (by simp);have hl:∀ (l:List Nat),(∀ x∈l,x=0∨x=1∨x=2∨x=3)→∀ x∈l,listed.getD x false=true:=fun l h x hx=>by
   rcases h x hx with rfl|rfl|rfl|rfl<;>assumption
  have q4:=nr 4 (by omega) (hl _ (by simp));have q5:=nr 5 (by omega) (fun x hx=>by simp at hx;rcases hx with rfl|rfl|rfl|rfl|rfl|rfl|rfl<;>assumption);have q6:=nr 6 (by omega) (fun x hx=>by simp at hx;rcases hx with rfl|rfl|rfl|rfl|rfl|rfl|rfl|rfl<;>assumption);have q7:=nr 7 (by omega) (fun x hx=>by simp at hx;rcases hx with rfl|rfl|rfl|rfl|rfl|rfl|rfl<;>assumption);have hv:=J.va1 q7;have hy:=J.y1 q6;subst hv hy;exact H e h d (by have:=J.tp;rw [q3,q4] at this;exact this) (J.dd q4) J.fr J.hp J.ha (J.hd q4) (J.dn q4).1 (J.dn q4).2.1
end
end Go.VM.Ap
