import Derived.Test.YtcgdjembdjdlhaaGreatDoorVmAx
import Derived.Test.YtcgdjembdjdlhaaGreatDoorVmAy
import Derived.Test.YtcgdjembdjdlhaaGreatDoorY3
import Derived.Test.YtcgdjembdjdlhaaGreatDoorVmPk
import Derived.Test.YtcgdjembdjdlhaaGreatDoorC0
import Derived.Test.YtcgdjembdjdlhaaGreatDoorY1
import Derived.Test.YtcgdjembdjdlhaaGreatDoorVmZ
set_option linter.all false
set_option maxRecDepth 20000
set_option maxHeartbeats 0
namespace Go.VM
open Go
def depsOf (ops:Array Oper) (i:Nat):List Nat:=match ops[i]? with
  | some o=>(o.after.toList.filter (Region.binds .any)).map (·.on)
  | none=>[]
theorem ready_deps {ops:Array Oper} {listed:Array Bool} {i:Nat}:i∈Region.ready .any ops listed↔i<ops.size∧listed.getD i true=false∧∀ x∈depsOf ops i,listed.getD x false=true:=by
 rw [mem_ready];unfold depsOf;constructor
 ·rintro ⟨h1,o,ho,h2⟩;refine ⟨(Array.getElem?_eq_some_iff.1 ho).1,h1,?_⟩;rw [ho];intro x hx;obtain ⟨y,hy,rfl⟩:=List.mem_map.1 hx;obtain ⟨h3,h4⟩:=List.mem_filter.1 hy;exact h2 y (by simpa using h3) h4
 ·rintro ⟨h0,h1,h2⟩;refine ⟨h1,ops[i],Array.getElem?_eq_getElem h0,?_⟩;rw [Array.getElem?_eq_getElem h0] at h2;intro x hx hb;exact h2 _ (List.mem_map.2 ⟨x,List.mem_filter.2 ⟨by simpa using hx,hb⟩,rfl⟩)
def Has (h:Heap) (c:Nat) (x:AB):Prop:=h.get c=some x∧c<h.top
theorem Has.push {h:Heap} {c:Nat} {x:AB} (y:AB) (H:Has h c x):Has (h.push y) c x:=⟨by rw [Heap.get_push,if_neg (by have:=H.2;omega)];exact H.1,Nat.lt_succ_of_lt H.2⟩
theorem Has.new (h:Heap) (y:AB):Has (h.push y) h.top y:=⟨by rw [Heap.get_push,if_pos rfl],Nat.lt_succ_self _⟩
theorem Has.set {h:Heap} {c d:Nat} {x y:AB} (H:Has h c x) (hcd:d≠c):Has (h.set d y) c x:=⟨by rw [Heap.get_set,if_neg hcd];exact H.1,H.2⟩
theorem Has.wrote {h:Heap} {c:Nat} {x y:AB} (H:Has h c x):Has (h.set c y) c y:=⟨by rw [Heap.get_set,if_pos rfl,H.1];rfl,H.2⟩
def zrow (n:Nat):AB:=.arr false 1 (List.replicate n [PV.int .i64 0])
def vbox (v:PV):AB:=.arr false 1 [[v]]
structure TwoJ (w l : PV) (n : Nat) (p : Nat → Bool) (e : Env) (h : Heap) (a b c d : Nat) (vc vd : PV) : Prop where
 e2 : e.get 2 = .ro [w]
 e3 : e.get 3 = .ro [l]
 e19 : p 0 = true → e.get 19 = l
 e20 : p 1 = true → e.get 20 = pI n
 e21 : p 2 = true → e.get 21 = pI (n + 1 : Nat)
 e23 : p 4 = true → e.get 23 = l
 e24 : p 5 = true → e.get 24 = pI n
 e25 : p 6 = true → e.get 25 = pI (n + 1 : Nat)
 e22 : p 3 = true → e.get 22 = .own a 0 (n + 1)
 e26 : p 7 = true → e.get 26 = .own b 0 (n + 1)
 e7 : p 8 = true → e.get 7 = .loc c 0 0
 e8 : p 9 = true → e.get 8 = .loc d 0 0
 ha : p 3 = true → Has h a (zrow (n + 1))
 hb : p 7 = true → Has h b (zrow (n + 1))
 hc : p 8 = true → Has h c (vbox vc)
 hd : p 9 = true → Has h d (vbox vd)
 vc1 : p 10 = true → vc = .own a 0 (n + 1)
 vd1 : p 11 = true → vd = .own b 0 (n + 1)
 p10 : p 10 = true → p 3 = true ∧ p 8 = true
 p11 : p 11 = true → p 7 = true ∧ p 9 = true
 ab : p 3 = true → p 7 = true → a ≠ b
 ac : p 3 = true → p 8 = true → a ≠ c
 ad : p 3 = true → p 9 = true → a ≠ d
 bc : p 7 = true → p 8 = true → b ≠ c
 bd : p 7 = true → p 9 = true → b ≠ d
 cd : p 8 = true → p 9 = true → c ≠ d
def setP (p:Nat→Bool) (i:Nat):Nat→Bool:=fun j=>if j=i then true else p j
def qTwo (o3 o7:Oper):List VOper:=[⟨(some 19),(.load false 1 (.t 3)),none⟩,⟨(some 20),(.len false (.t 19)),none⟩,⟨(some 21),(.bin .add (.t 20) (.c (.int .i64 1))),none⟩,⟨(some 22),(.other o3),none⟩,⟨(some 23),(.load false 1 (.t 3)),none⟩,⟨(some 24),(.len false (.t 23)),none⟩,⟨(some 25),(.bin .add (.t 24) (.c (.int .i64 1))),none⟩,⟨(some 26),(.other o7),none⟩,⟨(some 7),(.alloc [.nilsl]),none⟩,⟨(some 8),(.alloc [.nilsl]),none⟩,⟨none,(.store 1 (.t 7) (.t 22)),none⟩,⟨none,(.store 1 (.t 8) (.t 26)),none⟩]
section
variable {P : Program} {N : FK} {Q : Exit → Env → Heap → Prop} {e : Env} {h : Heap} {id : Nat} {ops : Array Oper} {o3 o7 : Oper}
theorem VW_two (lk : List Nat) (hx3 : ops[3]? = some o3) (hx7 : ops[7]? = some o7) (h3 : cOpers P N.n ops ops.toList = some (qTwo o3 o7)) (hm : P.follows .mixedOrders = true) (hsz : ops.size = 12)
  (hdeps:(List.range 12).map (depsOf ops)=[[],[0],[1],[2,2],[],[4],[5],[6,6],[],[],[8,3,0,1,2,3,8,9],[9,7,10,0,1,2,3,4,5,6,7,8,9,10]])
  {t el:TypeId} (ho3:o3.op=.makeSlice t (.tmp 21) (.tmp 21)) (ho7:o7.op=.makeSlice t (.tmp 25) (.tmp 25)) (ht:P.underlying t=some (.slice el)) (hinf:((P.info? el).map fun i=>(i.zero,i.size,i.bytes))=some (some (.int .i64 0),1,8))
  {w:PV} {rows:List (List PV)} (hn:rows.length≤100000) (he2:e.get 2=.ro [w]) (he3:e.get 3=.ro [.sl 1 rows])
  (H:∀ (e':Env) (h':Heap) (a b c d:Nat),e'.get 2=.ro [w]→e'.get 3=.ro [.sl 1 rows]→e'.get 7=.loc c 0 0→e'.get 8=.loc d 0 0→Has h' a (zrow (rows.length+1))→Has h' b (zrow (rows.length+1))→Has h' c (vbox (.own a 0 (rows.length+1)))→Has h' d (vbox (.own b 0 (rows.length+1))) →
   a≠b→a≠c→a≠d→b≠c→b≠d→c≠d→Q .normal (Env.keep lk e') h'):VW P N (.other (.region id ops true)) Q e h:=by
 have hdep:∀ i,i<12→depsOf ops i=[[],[0],[1],[2,2],[],[4],[5],[6,6],[],[],[8,3,0,1,2,3,8,9],[9,7,10,0,1,2,3,4,5,6,7,8,9,10]].getD i []:=by
  intro i hi;rw [← hdeps,List.getD_eq_getElem?_getD,List.getElem?_map,List.getElem?_range hi];rfl
 refine VW_drawJ lk h3 hm (fun listed e h=>listed.size=12∧∃ a b c d vc vd,TwoJ w (.sl 1 rows) rows.length (fun i=>listed.getD i false) e h a b c d vc vd) ?_ ?_ ?_
 ·refine ⟨by simp [hsz],0,0,0,0,.nilsl,.nilsl,?_⟩;have hf:∀ i,(Array.replicate ops.size false).getD i false=false:=by
   intro i;simp only [Array.getD_eq_getD_getElem?,Array.getElem?_replicate];split<;>rfl
  constructor<;>first|exact he2|exact he3|(intro h;rw [hf] at h;cases h)|(intro h;simp only [hf] at h;cases h)
 ·rintro listed e h ⟨hs12,a,b,c,d,vc,vd,J⟩ i hi o ho;obtain ⟨hi1,hi2,hi3⟩:=ready_deps.1 hi;rw [hsz] at hi1;rw [hdep i hi1] at hi3;have hpi:listed.getD i false=false:=by
   have hlt:i<listed.size:=by omega
   simpa [hlt] using hi2
  have hset:(fun j=>(listed.setIfInBounds i true).getD j false)=setP (fun j=>listed.getD j false) i:=by
   funext j
   unfold setP;by_cases e:j=i
   ·subst e;rw [if_pos rfl];have hlt:j<listed.size:=by omega
    simp [hlt]
   ·rw [if_neg e];exact getD_set_ne false (Ne.symm e)
  have hsz':(listed.setIfInBounds i true).size=12:=by rw [Array.size_setIfInBounds];exact hs12
  rw [hset];generalize hp:(fun j=>listed.getD j false)=p at J;have hpp:∀ j,p j=listed.getD j false:=fun j=>by rw [← hp]
  rw [← hpp] at hpi
  replace hi3:∀ x,x∈[[],[0],[1],[2,2],[],[4],[5],[6,6],[],[],[8,3,0,1,2,3,8,9],[9,7,10,0,1,2,3,4,5,6,7,8,9,10]].getD i []→p x=true:=fun x hx=>by rw [hpp];exact hi3 x hx
  clear hpp hp hset hi2;have hcs:i=0∨i=1∨i=2∨i=3∨i=4∨i=5∨i=6∨i=7∨i=8∨i=9∨i=10∨i=11:=by omega
  have w1:IntKind.i64.wrap ((rows.length:Int)+1)=((rows.length+1:Nat):Int):=w64 (by omega) (by omega);rcases hcs with rfl|rfl|rfl|rfl|rfl|rfl|rfl|rfl|rfl|rfl|rfl|rfl
  ·simp only [qTwo,List.getElem?_cons_zero,List.getElem?_cons_succ,Option.some.injEq] at ho;subst ho;refine ⟨rfl,?_⟩;simp only [Zaq,pok,pval,VA.ev,J.e3];exact ⟨⟨trivial,Nat.le_refl _,fun h=>h⟩,hsz',a,b,c,d,vc,vd,{ J with e19:=fun _=>rfl }⟩
  ·simp only [qTwo,List.getElem?_cons_zero,List.getElem?_cons_succ,Option.some.injEq] at ho;subst ho;refine ⟨rfl,?_⟩;simp only [Zaq,pok,pval,VA.ev,J.e19 (hi3 0 (by simp))];exact ⟨by simp [lenOk],hsz',a,b,c,d,vc,vd,{ J with e20:=fun _=>rfl }⟩
  ·simp only [qTwo,List.getElem?_cons_zero,List.getElem?_cons_succ,Option.some.injEq] at ho;subst ho;refine ⟨rfl,?_⟩;simp only [Zaq,pok,pval,VA.ev,J.e20 (hi3 1 (by simp))];exact ⟨rfl,hsz',a,b,c,d,vc,vd,{ J with e21:=fun _=>congrArg (PV.int .i64) w1 }⟩
  ·simp only [qTwo,List.getElem?_cons_zero,List.getElem?_cons_succ,Option.some.injEq] at ho;subst ho;refine ⟨rfl,?_⟩;simp only [Zaq];have e1:=J.e21 (hi3 2 (by simp));have nn:p 10≠true:=fun hh=>by have:=(J.p10 hh).1;rw [hpi] at this;cases this
   refine OpS_make (n:=rows.length+1) (kx:=.i64) (ky:=.i64) (va:=.t 21) (vb:=.t 21) ho3 ht hinf rfl rfl e1 e1 (by omega) ?_;exact ⟨hsz',h.top,b,c,d,vc,vd,{ J with e22:=fun _=>rfl,ha:=fun _=>Has.new _ _,hb:=fun hh=>(J.hb hh).push _,hc:=fun hh=>(J.hc hh).push _,hd:=fun hh=>(J.hd hh).push _,vc1:=fun hh=>absurd hh nn,p10:=fun hh=>absurd hh nn,ab:=fun _ hh=>by { have:=(J.hb hh).2;omega },ac:=fun _ hh=>by { have:=(J.hc hh).2;omega },ad:=fun _ hh=>by { have:=(J.hd hh).2;omega } }⟩
  ·simp only [qTwo,List.getElem?_cons_zero,List.getElem?_cons_succ,Option.some.injEq] at ho;subst ho;refine ⟨rfl,?_⟩;simp only [Zaq,pok,pval,VA.ev,J.e3];exact ⟨⟨trivial,Nat.le_refl _,fun h=>h⟩,hsz',a,b,c,d,vc,vd,{ J with e23:=fun _=>rfl }⟩
  ·simp only [qTwo,List.getElem?_cons_zero,List.getElem?_cons_succ,Option.some.injEq] at ho;subst ho;refine ⟨rfl,?_⟩;simp only [Zaq,pok,pval,VA.ev,J.e23 (hi3 4 (by simp))];exact ⟨by simp [lenOk],hsz',a,b,c,d,vc,vd,{ J with e24:=fun _=>rfl }⟩
  ·simp only [qTwo,List.getElem?_cons_zero,List.getElem?_cons_succ,Option.some.injEq] at ho;subst ho;refine ⟨rfl,?_⟩;simp only [Zaq,pok,pval,VA.ev,J.e24 (hi3 5 (by simp))];exact ⟨rfl,hsz',a,b,c,d,vc,vd,{ J with e25:=fun _=>congrArg (PV.int .i64) w1 }⟩
  ·simp only [qTwo,List.getElem?_cons_zero,List.getElem?_cons_succ,Option.some.injEq] at ho;subst ho;refine ⟨rfl,?_⟩;simp only [Zaq];have e1:=J.e25 (hi3 6 (by simp));have nn:p 11≠true:=fun hh=>by have:=(J.p11 hh).1;rw [hpi] at this;cases this
   refine OpS_make (n:=rows.length+1) (kx:=.i64) (ky:=.i64) (va:=.t 25) (vb:=.t 25) ho7 ht hinf rfl rfl e1 e1 (by omega) ?_;exact ⟨hsz',a,h.top,c,d,vc,vd,{ J with e26:=fun _=>rfl,hb:=fun _=>Has.new _ _,ha:=fun hh=>(J.ha hh).push _,hc:=fun hh=>(J.hc hh).push _,hd:=fun hh=>(J.hd hh).push _,vd1:=fun hh=>absurd hh nn,p11:=fun hh=>absurd hh nn,ab:=fun hh _=>by { have:=(J.ha hh).2;omega },bc:=fun _ hh=>by { have:=(J.hc hh).2;omega },bd:=fun _ hh=>by { have:=(J.hd hh).2;omega } }⟩
  ·simp only [qTwo,List.getElem?_cons_zero,List.getElem?_cons_succ,Option.some.injEq] at ho;subst ho;refine ⟨rfl,?_⟩;simp only [Zaq];have nn:p 10≠true:=fun hh=>by have:=(J.p10 hh).2;rw [hpi] at this;cases this
   exact ⟨hsz',a,b,h.top,d,.nilsl,vd,{ J with e7:=fun _=>rfl,hc:=fun _=>Has.new _ _,ha:=fun hh=>(J.ha hh).push _,hb:=fun hh=>(J.hb hh).push _,hd:=fun hh=>(J.hd hh).push _,vc1:=fun hh=>absurd hh nn,p10:=fun hh=>absurd hh nn,ac:=fun hh _=>by { have:=(J.ha hh).2;omega },bc:=fun hh _=>by { have:=(J.hb hh).2;omega },cd:=fun _ hh=>by { have:=(J.hd hh).2;omega } }⟩
  ·simp only [qTwo,List.getElem?_cons_zero,List.getElem?_cons_succ,Option.some.injEq] at ho;subst ho;refine ⟨rfl,?_⟩;simp only [Zaq];have nn:p 11≠true:=fun hh=>by have:=(J.p11 hh).2;rw [hpi] at this;cases this
   exact ⟨hsz',a,b,c,h.top,vc,.nilsl,{ J with e8:=fun _=>rfl,hd:=fun _=>Has.new _ _,ha:=fun hh=>(J.ha hh).push _,hb:=fun hh=>(J.hb hh).push _,hc:=fun hh=>(J.hc hh).push _,vd1:=fun hh=>absurd hh nn,p11:=fun hh=>absurd hh nn,ad:=fun hh _=>by { have:=(J.ha hh).2;omega },bd:=fun hh _=>by { have:=(J.hb hh).2;omega },cd:=fun hh _=>by { have:=(J.hc hh).2;omega } }⟩
  ·simp only [qTwo,List.getElem?_cons_zero,List.getElem?_cons_succ,Option.some.injEq] at ho;subst ho;refine ⟨rfl,?_⟩;have p3:=hi3 3 (by simp);have p8:=hi3 8 (by simp);have h1:=J.hc p8;have h2:=h1.1;simp only [Zaq,VA.ev,J.e7 p8,J.e22 p3,storeOk,storeV,h2,vbox];exact ⟨⟨rfl,trivial,Nat.one_pos,Nat.le_refl _⟩,hsz',a,b,c,d,.own a 0 (rows.length+1),vd,{ J with ha:=fun hh=>(J.ha hh).set (J.ac p3 p8).symm,hb:=fun hh=>(J.hb hh).set (J.bc hh p8).symm,hc:=fun _=>h1.wrote,hd:=fun hh=>(J.hd hh).set (J.cd p8 hh),vc1:=fun _=>rfl,p10:=fun _=>⟨p3,p8⟩ }⟩
  ·simp only [qTwo,List.getElem?_cons_zero,List.getElem?_cons_succ,Option.some.injEq] at ho;subst ho;refine ⟨rfl,?_⟩;have p7:=hi3 7 (by simp);have p9:=hi3 9 (by simp);have h1:=J.hd p9;have h2:=h1.1;simp only [Zaq,VA.ev,J.e8 p9,J.e26 p7,storeOk,storeV,h2,vbox];exact ⟨⟨rfl,trivial,Nat.one_pos,Nat.le_refl _⟩,hsz',a,b,c,d,vc,.own b 0 (rows.length+1),{ J with ha:=fun hh=>(J.ha hh).set (J.ad hh p9).symm,hb:=fun hh=>(J.hb hh).set (J.bd hh p9).symm,hc:=fun hh=>(J.hc hh).set (J.cd hh p9).symm,hd:=fun _=>h1.wrote,vd1:=fun _=>rfl,p11:=fun _=>⟨p7,p9⟩ }⟩
 ·rintro listed e h ⟨hs12,a,b,c,d,vc,vd,J⟩ hr;have nr:∀ i,i<12→(∀ x∈[[],[0],[1],[2,2],[],[4],[5],[6,6],[],[],[8,3,0,1,2,3,8,9],[9,7,10,0,1,2,3,4,5,6,7,8,9,10]].getD i [],listed.getD x false=true)→listed.getD i false=true:=by
   intro i hi hx;cases hq:listed.getD i false with
   | true=>rfl
   | false =>
    exfalso
    have hm:i∈Region.ready .any ops listed:=ready_deps.2 ⟨by omega,by
     have hlt:i<listed.size:=by omega
     simpa [hlt] using hq,by rw [hdep i hi];exact hx⟩
    rw [hr] at hm;cases hm
  have q0:=nr 0 (by omega) (by simp);have q1:=nr 1 (by omega) (by simpa using q0);have q2:=nr 2 (by omega) (by simpa using q1);have q3:=nr 3 (by omega) (by simpa using q2);have q4:=nr 4 (by omega) (by simp);have q5:=nr 5 (by omega) (by simpa using q4);have q6:=nr 6 (by omega) (by simpa using q5);have q7:=nr 7 (by omega) (by simpa using q6);have q8:=nr 8 (by omega) (by simp);have q9:=nr 9 (by omega) (by simp);have hl10:∀ x∈[8,3,0,1,2,3,8,9],listed.getD x false=true:=by
   intro x hx;simp only [List.mem_cons,List.not_mem_nil,or_false] at hx;rcases hx with rfl|rfl|rfl|rfl|rfl|rfl|rfl|rfl<;>assumption
  have q10:=nr 10 (by omega) hl10;have hl11:∀ x∈[9,7,10,0,1,2,3,4,5,6,7,8,9,10],listed.getD x false=true:=by
   intro x hx;simp only [List.mem_cons,List.not_mem_nil,or_false] at hx;rcases hx with rfl|rfl|rfl|rfl|rfl|rfl|rfl|rfl|rfl|rfl|rfl|rfl|rfl|rfl<;>assumption
  have q11:=nr 11 (by omega) hl11;have hvc:=J.vc1 q10;have hvd:=J.vd1 q11;subst hvc hvd;exact H e h a b c d J.e2 J.e3 (J.e7 q8) (J.e8 q9) (J.ha q3) (J.hb q7) (J.hc q8) (J.hd q9) (J.ab q3 q7) (J.ac q3 q8) (J.ad q3 q9) (J.bc q7 q8) (J.bd q7 q9) (J.cd q8 q9)
end
end Go.VM
namespace Go.VM
open Go
def nxtF (w:Int) (l:List Str) (j:Nat):Int:=if j<l.length then (nextN w l j:Int) else 0
def brkS (w:Int) (l:List Str) (i a b c d f:Nat) (R N:List (List PV)) (k:Nat) (L:List (Nat×AB)):Prop :=
 ∃ (bb:Int) (aa:Nat),L=brkL l.length i a b c d f (R.set i [pI (mxV bb)]) (N.set i [pI aa])∧(bb = -1∨(0≤bb∧bb≤100040000))∧Zaw w l i=Zcr w l (Zaw w l) i (l.length+1-k) k bb∧nextN w l i=scanA w l (Zaw w l) i (l.length+1-k) k bb aa
theorem brk_aft {n i a b c d f t t':Nat} {R N R' N':List (List PV)} {S:List (Nat×AB)→Prop} (hd:Dist a b c d f t) (h:t≤t') (hS:S (brkL n i a b c d f R' N')):Aft (brkL n i a b c d f R N) t S ⟨brkL n i a b c d f R' N',t'⟩:=by
 obtain ⟨⟨h1,h2,h3,h4,h5,h6,h7,h8,h9,h10⟩,h11,h12,h13,h14,h15⟩:=hd;refine ⟨_,t',h,rfl,hS,?_,?_,?_,?_⟩
 ·simp only [brkL,Nod,List.map_cons,List.map_nil,List.nodup_cons,List.mem_cons,List.not_mem_nil,or_false,not_or,not_false_eq_true,List.nodup_nil,and_true];omega
 ·intro q hq;simp only [brkL,List.mem_cons,List.not_mem_nil,or_false] at hq;rcases hq with rfl|rfl|rfl|rfl|rfl<;>simp only []<;>omega
 ·intro q hq
  left
  simp only [brkL,List.mem_cons,List.not_mem_nil,or_false,exists_eq_or_imp,exists_eq_left] at hq ⊢;rcases hq with rfl|rfl|rfl|rfl|rfl<;>simp
 ·intro q hq;simp only [brkL,List.mem_cons,List.not_mem_nil,or_false] at hq;rcases hq with rfl|rfl|rfl|rfl|rfl<;>rfl
end Go.VM
namespace Go.Proofs.YtcgdjembdjdlhaaGreatDoor.w
open Go Go.VM
def c_linebreak_Break : VC := (ZR [ZO 2 (.box 1 (.t 0)),ZO 3 (.box 1 (.t 1)),ZO 4 (.mv (.c .nilsl)),ZO 5 (.mv (.c (.int .i64 0)))] (.seq (ZR [ZO 13 (.load false 1 (.t 2)),ZO 14 (.load false 1 (.t 3)),ZO 15 (.call 134 [.t 13,.t 14]),ZM 6 15] (ZR [ZM 16 6,ZO 17 (.bin .neq (.t 16) (.c (.int .i64 0)))] (.cond (.t 17) (ZR [ZM 18 6,ZO 4 (.mv (.c .nilsl)),ZM 5 18] .ret) .skip))) (.seq (.other (Code.region 4 #[{ dst := some 19,op := Op.load 37 (Operand.tmp 3),type := 37,pos := "linebreak.go:46",after := #[],guard := none },{ dst := some 20,op := Op.call { callee := Callee.builtin Builtin.len,args := #[Operand.tmp 19],argTypes := #[37] },type := 3,pos := "linebreak.go:46",after := #[{ on := 0,ground := Ground.data }],guard := none },{ dst := some 21,op := Op.binOp BinOp.add 3 (Operand.tmp 20) (Operand.const (Value.int IntKind.i64 1)) 3,type := 3,pos := "linebreak.go:46",after := #[{ on := 1,ground := Ground.data }],guard := none },{ dst := some 22,op := Op.makeSlice 60 (Operand.tmp 21) (Operand.tmp 21),type := 60,pos := "linebreak.go:46",after := #[{ on := 2,ground := Ground.data },{ on := 2,ground := Ground.data }],guard := none },{ dst := some 23,op := Op.load 37 (Operand.tmp 3),type := 37,pos := "linebreak.go:46",after := #[],guard := none },{ dst := some 24,op := Op.call { callee := Callee.builtin Builtin.len,args := #[Operand.tmp 23],argTypes := #[37] },type := 3,pos := "linebreak.go:46",after := #[{ on := 4,ground := Ground.data }],guard := none },{ dst := some 25,op := Op.binOp BinOp.add 3 (Operand.tmp 24) (Operand.const (Value.int IntKind.i64 1)) 3,type := 3,pos := "linebreak.go:46",after := #[{ on := 5,ground := Ground.data }],guard := none },{ dst := some 26,op := Op.makeSlice 60 (Operand.tmp 25) (Operand.tmp 25),type := 60,pos := "linebreak.go:46",after := #[{ on := 6,ground := Ground.data },{ on := 6,ground := Ground.data }],guard := none },{ dst := some 7,op := Op.alloc 60,type := 0,pos := "linebreak.go:46",after := #[],guard := none },{ dst := some 8,op := Op.alloc 60,type := 0,pos := "linebreak.go:46",after := #[],guard := none },{ dst := none,op := Op.store 60 (Operand.tmp 7) (Operand.tmp 22),type := 0,pos := "linebreak.go:46",after := #[{ on := 8,ground := Ground.data },{ on := 3,ground := Ground.data },{ on := 0,ground := Ground.phase },{ on := 1,ground := Ground.phase },{ on := 2,ground := Ground.phase },{ on := 3,ground := Ground.phase },{ on := 4,ground := Ground.textOnly Departure.lateStores },{ on := 5,ground := Ground.textOnly Departure.lateStoresUnsure },{ on := 6,ground := Ground.textOnly Departure.lateStores },{ on := 7,ground := Ground.textOnly Departure.lateStoresUnsure },{ on := 8,ground := Ground.phase },{ on := 9,ground := Ground.phase }],guard := none },{ dst := none,op := Op.store 60 (Operand.tmp 8) (Operand.tmp 26),type := 0,pos := "linebreak.go:46",after := #[{ on := 9,ground := Ground.data },{ on := 7,ground := Ground.data },{ on := 10,ground := Ground.chain },{ on := 0,ground := Ground.phase },{ on := 1,ground := Ground.phase },{ on := 2,ground := Ground.phase },{ on := 3,ground := Ground.phase },{ on := 4,ground := Ground.phase },{ on := 5,ground := Ground.phase },{ on := 6,ground := Ground.phase },{ on := 7,ground := Ground.phase },{ on := 8,ground := Ground.phase },{ on := 9,ground := Ground.phase },{ on := 10,ground := Ground.phase }],guard := none }] true : Code)) (.seq (ZR [ZO 27 (.load false 1 (.t 3)),ZO 28 (.len false (.t 27)),ZO 29 (.mv (.c (.int .i64 0)))] (.block 0 (.loop (ZR [ZO 30 (.bin .lss (.t 29) (.t 28))] (.seq (.cond (.t 30) .skip (.exit 0)) (.seq (.block 1 (ZR [ZM 31 29,ZM 9 31] (ZR [ZO 32 (.load false 1 (.t 3)),ZO 33 (.len false (.t 32)),ZO 34 (.bin .sub (.t 33) (.c (.int .i64 1))),ZM 35 9,ZO 36 (.bin .sub (.t 34) (.t 35)),ZO 10 (.alloc [.int .i64 0]),ZN (.store 1 (.t 10) (.t 36))] (ZR [ZO 37 (.load false 1 (.t 7)),ZO 38 (.load false 1 (.t 10)),ZO 39 (.iaddr 1 (.t 37) (.t 38)),ZN (.store 1 (.t 39) (.c (.int .i64 9223372036854775807)))] (.region [ZO 40 (.load false 1 (.t 2)),ZO 41 (.load false 1 (.t 10)),ZO 42 (.load false 1 (.t 3)),ZO 43 (.mkfn (.func 136) [] [.t 2,.t 7,.t 3,.t 10,.t 8]),ZO 44 (.call 135 [.t 40,.t 41,.t 42,.t 43])] false))))) (.region [ZO 45 (.bin .add (.t 29) (.c (.int .i64 1))),ZM 29 45] false))))))) (ZR [ZO 11 (.mv (.c .nilsl))] (.seq (ZR [ZO 12 (.mv (.c (.int .i64 0)))] (.block 2 (.loop (.seq (ZR [ZM 46 12,ZO 47 (.load false 1 (.t 3)),ZO 48 (.len false (.t 47)),ZO 49 (.bin .lss (.t 46) (.t 48))] (.cond (.t 49) .skip (.exit 2))) (.block 3 (ZR [ZO 50 (.load false 1 (.t 8)),ZM 51 12,ZO 52 (.iaddr 1 (.t 50) (.t 51)),ZO 53 (.load false 1 (.t 52)),ZM 12 53] (.region [ZM 54 11,ZM 55 12,ZO 56 (.bslice 1 1 [.int .i64 0] [(0,(.t 55))]),ZO 57 (.app 1 8 [.int .i64 0] false (.t 54) (.t 56)),ZM 11 57] false))))))) (ZR [ZM 58 11,ZM 4 58,ZO 5 (.mv (.c (.int .i64 0)))] .ret)))))))
theorem brk_step {w : Int} {l : List Str} (hf : FitW w l) (hl : l.length ≤ 1024) {i a b c d f : Nat} {R N : List (List PV)} (hne : a ≠ b ∧ a ≠ c ∧ a ≠ d ∧ a ≠ f ∧ b ≠ c ∧ b ≠ d ∧ b ≠ f ∧ c ≠ d ∧ c ≠ f ∧ d ≠ f) (hRl : R.length = l.length + 1) (hNl : N.length = l.length + 1)
  (hR:∀ k,i<k→k≤l.length→R.getD k []=[pI (Zaw w l k)]) {k:Nat} {L:List (Nat×AB)} {t:Nat} (hik:i<k) (hk:k≤l.length) (hfit:llen l i k≤w) (hS:brkS w l i a b c d f R N k L) (hlt:∀ q∈L,q.1<t) :
  Zal Tryz.prog 136 (pI k::pI (llen l i k)::[.ro [pI w],.loc c 0 0,.ro [It.strs l],.loc f 0 0,.loc d 0 0]) ⟨L,t⟩ (fun _ h'=>Aft L t (brkS w l i a b c d f R N (k+1)) h'):=by
 obtain ⟨bb,aa,rfl,hbb,hsc,hsa⟩:=hS;have hd:Dist a b c d f t:=⟨hne,hlt _ (List.mem_cons_of_mem _ (List.mem_cons_of_mem _ (List.mem_cons_of_mem _ List.mem_cons_self))),hlt _ (List.mem_cons_of_mem _ (List.mem_cons_of_mem _ (List.mem_cons_of_mem _ (List.mem_cons_of_mem _ List.mem_cons_self)))),hlt _ (List.mem_cons_of_mem _ List.mem_cons_self),hlt _ (List.mem_cons_of_mem _ (List.mem_cons_of_mem _ List.mem_cons_self)),hlt _ List.mem_cons_self⟩;have hcb:=costAt_bd hf k;have hcv:=candV_bd hf hik hfit;have efu:l.length+1-k=(l.length-k)+1:=by omega
 have efv:l.length+1-(k+1)=l.length-k:=by omega
 rw [efu,Zcr,if_pos ⟨hk,hfit⟩] at hsc;rw [efu,scanA,if_pos ⟨hk,hfit⟩] at hsa;have hn0:k=l.length→Zaw w l k=0:=fun h=>by rw [h];exact costAt_end w l
 refine Zal.mono (sp_lb_Break_1 w l (cv:=Zci w l (Zaw w l) i k) (bk:=Zaw w l k) (bb:=bb) (R:=R.set i [pI (mxV bb)]) (N:=N.set i [pI aa]) (ll:=llen l i k) hd hl hk hik ⟨llen_pos hik,hfit⟩ hf.2.1 (by rw [List.length_set];exact hRl) (by rw [List.length_set];exact hNl) (by rw [set_get_ne _ (by omega)];exact hR k hik hk) (set_get _ (by omega)) (by rw [set_get _ (by omega)];rfl) (by omega) hbb rfl hn0) ?_;rintro r h' rfl;by_cases hc:bb<0∨Zci w l (Zaw w l) i k<bb
 ·rw [if_pos hc] at hsc;rw [if_pos hc] at hsa;rw [if_pos hc,if_pos hc,List.set_set,List.set_set];refine brk_aft hd (Nat.le_refl _) ⟨Zci w l (Zaw w l) i k,k,?_,.inr (by omega),by rw [efv];exact hsc,by rw [efv];exact hsa⟩;have:mxV (Zci w l (Zaw w l) i k)=Zci w l (Zaw w l) i k:=by unfold mxV;rw [if_neg (by omega)]
  rw [this]
 ·rw [if_neg hc] at hsc;rw [if_neg hc] at hsa;rw [if_neg hc,if_neg hc];exact brk_aft hd (Nat.le_refl _) ⟨bb,aa,rfl,hbb,by rw [efv];exact hsc,by rw [efv];exact hsa⟩
theorem brk_end {w:Int} {l:List Str} (hf:FitW w l) {i a b c d f k:Nat} {R N:List (List PV)} {L:List (Nat×AB)} (hS:brkS w l i a b c d f R N k L) (hk:k≤l.length+1) (hex:k≤l.length→w<llen l i k):L=brkL l.length i a b c d f (R.set i [pI (Zaw w l i)]) (N.set i [pI (nextN w l i)]):=by
 obtain ⟨bb,aa,rfl,hbb,hsc,hsa⟩:=hS;have hs:Zcr w l (Zaw w l) i (l.length+1-k) k bb=bb∧scanA w l (Zaw w l) i (l.length+1-k) k bb aa=aa:=by
  by_cases hkn:k≤l.length
  ·have hx:=hex hkn;rw [show l.length+1-k=(l.length-k)+1 by omega,Zcr,scanA,if_neg (by omega),if_neg (by omega)];exact ⟨rfl,rfl⟩
  ·rw [show l.length+1-k=0 by omega,Zcr,scanA];exact ⟨rfl,rfl⟩
 rw [hs.1] at hsc;rw [hs.2] at hsa;have:=costAt_bd hf i;rw [← hsc,← hsa];unfold mxV;rw [if_neg (by omega)]
theorem sp_lb_Break (w:Int) (l:List Str) (hl:l.length≤1000000):Zak Tryz.prog 75 [pI w,It.strs l] (.tup [endsV (Za9 w l),pI (Zbu w l)]):=by
 have WR:=sp_lb_wrong w l hl;refine Zad ?_ (closed_brk _ _) (closed_ws _ _);refine Gn (vc:=c_linebreak_Break) [.t 4,.t 5] Tryz.func75 ?_;unfold c_linebreak_Break;try dsimp only [ZM,ZO,ZN,ZG,ZR,ZU]
 unfold It.strs at WR ⊢;unfold Za9;refine Rp0 [2,3] ?_;refine Zat [(2,.ro [pI w]),(3,.ro [.sl 1 (l.map fun s=>[PV.str s])])] ⟨View.loc (z:=1) (fz:=false) (es:=[[pI w]]) rfl (by simp) rfl (by simp),View.loc (z:=1) (fz:=false) (es:=[[.sl 1 (l.map fun s=>[PV.str s])]]) rfl (by simp) rfl (by simp),trivial⟩ ?_;refine Zaa ?_;refine Rp0 [2,3,6] ?_;refine Zao WR ?_;by_cases hw0:Zbu w l=0
 ·obtain ⟨hf,hl2⟩:=wrongL_fit hw0;rw [hw0];have hn:((0:Int) != 0)=false:=rfl;refine Rp1 [2,3,17] hn ?_;refine Fp0 ?_;have hrl:(l.map fun s=>[PV.str s]).length=l.length:=List.length_map _;generalize hrw:(l.map fun s=>[PV.str s])=rows at hrl ⊢;refine Zaa (Zbl (σ:={ x:Nat×Nat×Nat×Nat×Nat//(x.1≠x.2.1∧x.1≠x.2.2.1∧x.1≠x.2.2.2.1∧x.2.1≠x.2.2.1∧x.2.1≠x.2.2.2.1∧x.2.2.1≠x.2.2.2.1)∧x.1<x.2.2.2.2∧x.2.1<x.2.2.2.2∧x.2.2.1<x.2.2.2.2∧x.2.2.2.1<x.2.2.2.2 })
   (fun x=>([(2,.ro [pI w]),(3,.ro [.sl 1 rows]),(7,.loc x.1.2.2.1 0 0),(8,.loc x.1.2.2.2.1 0 0)],⟨[(x.1.2.2.1,vbox (.own x.1.1 0 (l.length+1))),(x.1.2.2.2.1,vbox (.own x.1.2.1 0 (l.length+1))),(x.1.1,zrow (l.length+1)),(x.1.2.1,zrow (l.length+1))],x.1.2.2.2.2⟩)) ?_ (fun x=>?_))
  ·refine VW_two [2,3,7,8] rfl rfl (by kernel_rfl) (by kernel_rfl) (by kernel_rfl) (by kernel_rfl) rfl rfl Tryz.underlying60 (by kernel_rfl) (w:=pI w) (rows:=rows) (by omega) rfl rfl ?_;intro e' h' a b c d h2 h3 h7 h8 ha hb hc hd n1 n2 n3 n4 n5 n6;rw [hrl] at ha hb hc hd;refine Sp0 ?_;refine ⟨⟨(a,b,c,d,h'.top),⟨n1,n2,n3,n4,n5,n6⟩,ha.2,hb.2,hc.2,hd.2⟩,?_⟩;exact ⟨⟨h2,h3,h7,h8⟩,Nat.le_refl _,hc.1,hd.1,ha.1,hb.1⟩
  obtain ⟨⟨a,b,c,d,t⟩,⟨n1,n2,n3,n4,n5,n6⟩,l1,l2,l3,l4⟩:=x;simp only [] at n1 n2 n3 n4 n5 n6 l1 l2 l3 l4 ⊢;have hz1:zrow (l.length+1)=.arr false 1 (rowX l.length (Zaw w l) 0):=by unfold zrow;rw [rowX_zero _ _ (costAt_end w l)]
  have hz2:zrow (l.length+1)=.arr false 1 (rowX l.length (nxtF w l) 0):=by unfold zrow;rw [rowX_zero l.length (nxtF w l) (by unfold nxtF;rw [if_neg (Nat.lt_irrefl _)])]
  have hheap:(⟨[(c,vbox (.own a 0 (l.length+1))),(d,vbox (.own b 0 (l.length+1))),(a,zrow (l.length+1)),(b,zrow (l.length+1))],t⟩:Heap)=⟨[(c,.arr false 1 [[.own a 0 (l.length+1)]]),(d,.arr false 1 [[.own b 0 (l.length+1)]]),(a,.arr false 1 (rowX l.length (Zaw w l) 0)),(b,.arr false 1 (rowX l.length (nxtF w l) 0))],t⟩:=by
   rw [← hz1,← hz2];rfl
  rw [hheap];have qq:=N4 a b c d;refine Zaa ?_;refine Rp1 [2,3,7,8,28,29] hrl ?_;refine Zab ?_;refine Zah (σ:={ x:Nat×Nat//x.1≤l.length∧t≤x.2 }) (fun x=>([(2,.ro [pI w]),(3,.ro [.sl 1 rows]),(7,.loc c 0 0),(8,.loc d 0 0),(28,pI l.length),(29,pI x.1.1)],⟨[(c,.arr false 1 [[.own a 0 (l.length+1)]]),(d,.arr false 1 [[.own b 0 (l.length+1)]]),(a,.arr false 1 (rowX l.length (Zaw w l) x.1.1)),(b,.arr false 1 (rowX l.length (nxtF w l) x.1.1))],x.1.2⟩)) (fun x=>l.length-x.1.1) ⟨(0,t),Nat.zero_le _,Nat.le_refl _⟩ ?_ ?_ ?_
  ·exact Fn1 qq
  ·exact Sr1 qq
  rintro ⟨⟨m,t2⟩,hm,ht2⟩;simp only [] at hm ht2 ⊢;refine Rp1 [2,3,7,8,28,29,30] qq ?_;refine Zaa ?_;refine Zac rfl (fun h1=>?_) (fun h1=>?_)
  ·have hml:m<l.length:=by simp only [decide_eq_true_eq] at h1;omega
   obtain ⟨i,hi⟩:∃ i:Nat,i=l.length-(m+1):=⟨_,rfl⟩;have hil:i<l.length:=by omega
   have hii:(l.length:Int)-1-m=(i:Int):=by omega
   have hR1:=rowX_len l.length (Zaw w l) m;have hN1:=rowX_len l.length (nxtF w l) m;have hRg:∀ k,i<k→k≤l.length→(rowX l.length (Zaw w l) m).getD k []=[pI (Zaw w l k)]:=fun k h1 h2=>rowX_get _ _ _ (by omega) h2;have hRs:=rowX_set l.length (Zaw w l) hml hi;have hNs:=rowX_set l.length (nxtF w l) hml hi;have hN0:=rowX_same l.length (nxtF w l) (m:=m) (i:=i) (by omega);have hRo:((rowX l.length (Zaw w l) m).getD i []).drop 1=[]:=by rw [List.getD_eq_getElem?_getD,rowX_getE _ _ _ (by omega)];rfl
   have hnx:nxtF w l i=(nextN w l i:Int):=by unfold nxtF;rw [if_pos hil]
   rw [hnx] at hNs;generalize rowX l.length (Zaw w l) m=R at hR1 hRg hRs hRo ⊢;generalize rowX l.length (nxtF w l) m=N at hN1 hNs hN0 ⊢;refine Kp0 ?_;have qq:=N5 a b c d t2;refine Zaa ?_;refine Zab ?_;refine Rp1 [2,3,7,8,9,28,29] qq ?_;refine Zaa (Zae [2,3,7,8,9,10,28,29] ?_);simp only [vmL,Nat.reduceEqDiff,Nat.reduceLT,hrl,w64 (n:=(l.length:Int)-1) (by omega) (by omega),w64 (n:=(l.length:Int)-1-m) (by omega) (by omega),hii,w64 (n:=(i:Int)) (by omega) (by omega),qq];refine Rp1 [2,3,7,8,9,10,28,29] (x3 hR1 hRo qq) ?_;refine Ok ?_;have hmx:(9223372036854775807:Int)=mxV (-1):=rfl;have hd5:a≠b∧a≠c∧a≠d∧a≠t2∧b≠c∧b≠d∧b≠t2∧c≠d∧c≠t2∧d≠t2:=by omega
   have hD:Dist a b c d t2 (t2+1):=⟨hd5,by omega,by omega,by omega,by omega,by omega⟩;have hA:=brk_aft (n:=l.length) (i:=i) (R:=R) (N:=N) (R':=R.set i [pI (mxV (-1))]) (N':=N.set i [pI (0:Nat)]) (S:=brkS w l i a b c d t2 R N (i+1)) hD (Nat.le_refl _) ⟨-1,0,rfl,.inl rfl,by rw [show l.length+1-(i+1)=l.length-i by omega];exact costAt_scan w l hil,by rw [show l.length+1-(i+1)=l.length-i by omega];rfl⟩;obtain ⟨L0,t0,-,hL0,hS0,hnod0,hlt0,-,hlive0⟩:=hA;simp only [Heap.mk.injEq] at hL0;obtain ⟨rfl,rfl⟩:=hL0;have E:=sp_lb_each w l hf hl2 (fn:=136) (cap:=[.ro [pI w],.loc c 0 0,.ro [It.strs l],.loc t2 0 0,.loc d 0 0]) (S:=brkS w l i a b c d t2 R N) hil
    (fun k L t h1 h2 h3 h4 h5 _ _=>brk_step hf hl2 hd5 hR1 hN1 hRg h1 h2 h3 h4 h5) _ (t2+1) hS0 hlt0 hnod0 hlive0
   unfold It.strs brkL at E;rw [hrw,← hmx] at E;have hN0':N.set i [pI (0:Nat)]=N:=hN0;rw [hN0'] at E;refine rp1 [2,3,7,8,28,29] qq ?_;refine Zal.mono E ?_;rintro r h' ⟨L',t',ht',rfl,⟨k,hk1,hk2,hS',hex⟩,-,-,-,-⟩;have hL:=brk_end hf hS' hk2 hex;rw [hRs,hNs] at hL;subst hL;unfold brkL;have qq:=N5 a b c d t2;refine rp1 [2,3,7,8,28,29] (x2 (ad1 (a:=m) (by omega)) qq) ?_;refine ⟨⟨(m+1,t'),hml,by show t≤t';omega⟩,?_⟩;exact Fn1 qq
  ·have hml:m=l.length:=by simp only [decide_eq_false_iff_not] at h1;omega
   subst hml;refine Ep0 ?_;have hNg:∀ i,i<l.length→(rowX l.length (nxtF w l) l.length).getD i []=[pI (nextN w l i:Nat)]:=fun i hi=>by
    rw [rowX_get _ _ _ (by omega) (by omega)];unfold nxtF;rw [if_pos hi]
   have hNl:=rowX_len l.length (nxtF w l) l.length;generalize rowX l.length (nxtF w l) l.length=R at hNg hNl ⊢;generalize rowX l.length (Zaw w l) l.length=R0;have qq:=N5 a b c d t2;refine Rp1 [3,8,11] qq ?_;refine VW_own0 11 1 rfl ?_;refine Sp1 qq ?_;refine Zaa ?_;refine Rp1 [3,8,11,12] qq ?_;refine Zab ?_;refine Zah (σ:={ x:Nat×List Nat×Nat×Nat//x.1≤l.length∧x.2.1.length≤x.1∧(x.2.2.1<x.2.2.2∧b<x.2.2.2∧d<x.2.2.2∧x.2.2.1≠b∧x.2.2.1≠d)∧endsF w l l.length 0=x.2.1++endsF w l l.length x.1 }) (fun x=>([(3,.ro [.sl 1 rows]),(8,.loc d 0 0),(11,.own x.1.2.2.1 0 x.1.2.1.length),(12,pI x.1.1)],⟨[(x.1.2.2.1,.arr false 1 (x.1.2.1.map fun e=>[pI (e:Nat)])),(d,.arr false 1 [[.own b 0 (l.length+1)]]),(b,.arr false 1 R)],x.1.2.2.2⟩)) (fun x=>l.length-x.1.1) ⟨(0,[],t2,t2+1),Nat.zero_le _,Nat.le_refl _,by simp only [];omega,rfl⟩ ?_ ?_ ?_
   ·exact Fn1 qq
   ·exact Sr1 qq
   rintro ⟨⟨i,acc,id,t3⟩,hi,hac,hid,hen⟩;simp only [] at hi hac hid hen ⊢;have qq:=N3 id d b;refine Zaa ?_;refine Rp1 [3,8,11,12,49] (x2 hrl qq) ?_;refine Zac rfl (fun h1=>?_) (fun h1=>?_)
   ·have hil:i<l.length:=by simp only [decide_eq_true_eq] at h1;omega
    have Nx:=next_spec hf hil;have hst:=endsF_step hf l.length hil (by omega);rw [hst] at hen;have hgi:=hNg i hil;generalize nextN w l i=e at Nx hen hgi;refine Kp0 ?_;refine Zab ?_;refine Rp1 [3,8,11,12] (x3 hNl hgi qq) ?_;refine Ok ?_;have hale:(acc.map fun e=>[pI (e:Nat)]).length=acc.length:=List.length_map _;have hatk:List.take acc.length (acc.map fun e=>[pI (e:Nat)])=acc.map fun e=>[pI (e:Nat)]:=List.take_of_length_le (by omega);have haccE:(acc++[e]).map (fun e=>[pI (e:Nat)])=acc.map (fun e=>[pI (e:Nat)])++[[pI (e:Nat)]]:=by rw [List.map_append];rfl
    have haccL:(acc++[e]).length=acc.length+1:=by simp
    have qq:=N6 id d b t3 (t3+1) (t3+1+1);refine rp1 [3,8,11,12] (x3 hale hatk qq) ?_;refine ⟨by omega,by omega,?_⟩;refine ⟨⟨(e,acc++[e],t3+1,t3+2),Nx.2.1,by show (acc++[e]).length≤e;omega,by simp only [];omega,by show _=acc++[e]++_;rw [hen];simp⟩,?_⟩;simp only [haccE,haccL]
    all_goals exact Fn1 qq
   ·have hil:i=l.length:=by simp only [decide_eq_false_iff_not] at h1;omega
    subst hil;rw [endsF_done (i:=l.length) (f:=l.length) (Nat.lt_irrefl _),List.append_nil] at hen;rw [hen];have qq:=N3 id d b;refine Ep0 ?_;refine Rp1 [4,5] qq ?_;refine Tp0 ?_;exact View.tup2 (View.own_all (fz:=false) (by simp [Heap.get,HL.get]) (by rw [List.length_map])) (View.refl _ _)
 ·rw [if_neg hw0];have hn:(Zbu w l != 0)=true:=by simp [hw0]
  refine Rp1 [6,17] hn ?_;refine Ct ?_;refine Rp0 [4,5] ?_;refine Tp0 ?_;exact View.tup2 (View.nil _ _) (View.refl _ _)
end Go.Proofs.YtcgdjembdjdlhaaGreatDoor.w
namespace Go.VM
open Go
def okC (c:UInt8):Bool:=decide (33≤c.toNat)&&decide (c.toNat≤126)
def wordB (s:Str):Bool:=decide (1≤s.length)&&(decide (s.length≤24)&&s.all okC)
def textsV (l:List Str):Bool:=decide (l.length≤256)&&l.all wordB
def rowB (l:List Wd):Bool:=textsV (l.map Wd.text)
end Go.VM
namespace Go.Proofs.YtcgdjembdjdlhaaGreatDoor.w
open Go Go.VM
def c_wordseq_word_1:VC:=(ZR [ZO 2 (.mv (.c (.bool false)))] (ZR [ZM 3 0,ZO 4 (.bin .lss (.t 3) (.c (.int .u8 33))),ZM 5 4,ZG 6 (.mv (.t 0)) 5 false,ZG 7 (.bin .gtr (.t 6) (.c (.int .u8 126))) 5 false,ZO 8 (.pick (.t 5) (.c (.bool true)) (.t 7)),ZM 2 8] .ret))
def c_wordseq_word : VC := (ZR [ZO 2 (.mv (.c (.bool false)))] (ZR [ZO 3 (.mv (.c (.fn (.func 270) [] [])))] (ZR [ZM 4 0,ZO 5 (.bin .neq (.t 4) (.c (.str []))),ZM 6 5,ZG 7 (.mv (.t 0)) 6 true,ZG 8 (.len true (.t 7)) 6 true,ZG 9 (.bin .leq (.t 8) (.c (.int .i64 24))) 6 true,ZO 10 (.pick (.t 6) (.t 9) (.c (.bool false))),ZM 11 10,ZG 12 (.mv (.t 0)) 11 true,ZG 13 (.other ({ dst := some 13,op := Op.convert 9 152 (Operand.tmp 12),type := 152,pos := "wordseq.go:14",after := #[{ on := 8,ground := Ground.data },{ on := 7,ground := Ground.guard }],guard := some (7,true) } : Oper)) 11 true,ZG 14 (.mv (.t 3)) 11 true,ZG 15 (.call 271 [.t 13,.t 14]) 11 true,ZG 16 (.un .not (.t 15)) 11 true,ZO 17 (.pick (.t 11) (.t 16) (.c (.bool false))),ZM 2 17] .ret)))
def c_wordseq_Valid_1:VC:=(ZR [ZO 2 (.mv (.c (.bool false)))] (ZR [ZM 3 0,ZO 4 (.call 266 [.t 3]),ZO 5 (.un .not (.t 4)),ZM 2 5] .ret))
def c_wordseq_Valid:VC:=(ZR [ZO 2 (.mv (.c (.bool false)))] (ZR [ZM 3 0,ZO 4 (.len false (.t 3)),ZO 5 (.bin .leq (.t 4) (.c (.int .i64 256))),ZM 6 5,ZG 7 (.mv (.t 0)) 6 true,ZG 8 (.call 177 [.t 7,(.c (.fn (.func 265) [] []))]) 6 true,ZG 9 (.un .not (.t 8)) 6 true,ZO 10 (.pick (.t 6) (.t 9) (.c (.bool false))),ZM 2 10] .ret))
def c_unit_row:VC:=(ZR [ZO 2 (.mv (.c (.bool false)))] (ZR [ZO 3 (.mv (.c .nilsl))] (.seq (ZR [ZM 6 0,ZO 7 (.len false (.t 6)),ZO 8 (.mv (.c (.int .i64 0)))] (.block 0 (.loop (ZR [ZO 9 (.bin .lss (.t 8) (.t 7))] (.seq (.cond (.t 9) .skip (.exit 0)) (.seq (.block 1 (ZR [ZO 10 (.iaddr 4 (.t 6) (.t 8)),ZO 11 (.load true 4 (.t 10)),ZO 5 (.alloc [(.str []),.int .i64 0,.int .i64 0,.int .i64 0]),ZN (.store 4 (.t 5) (.t 11))] (.region [ZM 12 3,ZO 13 (.faddr 0 (.t 5)),ZO 14 (.load false 1 (.t 13)),ZO 15 (.bslice 1 1 [(.str [])] [(0,(.t 14))]),ZO 16 (.app 1 16 [(.str [])] false (.t 12) (.t 15)),ZM 3 16] false))) (.region [ZO 17 (.bin .add (.t 8) (.c (.int .i64 1))),ZM 8 17] false))))))) (ZR [ZM 18 0,ZO 19 (.len false (.t 18)),ZO 20 (.bin .leq (.t 19) (.c (.int .i64 256))),ZM 21 20,ZG 22 (.mv (.t 3)) 21 true,ZG 23 (.call 250 [.t 22]) 21 true,ZO 24 (.pick (.t 21) (.t 23) (.c (.bool false))),ZM 2 24] .ret))))
def c_pandectref06_Texts:VC:=(ZR [ZO 2 (.mv (.c .nilsl))] (ZR [ZO 5 (.fx (.mk0 1) []),ZM 3 5] (.seq (ZR [ZO 4 (.mv (.c (.int .i64 0)))] (.block 0 (.loop (.seq (ZR [ZM 6 4,ZM 7 0,ZO 8 (.len false (.t 7)),ZO 9 (.bin .lss (.t 6) (.t 8))] (.cond (.t 9) .skip (.exit 0))) (.seq (.block 1 (.region [ZM 12 3,ZM 13 0,ZM 14 4,ZO 15 (.iaddr 4 (.t 13) (.t 14)),ZO 16 (.faddr 0 (.t 15)),ZO 17 (.load false 1 (.t 16)),ZO 18 (.bslice 1 1 [(.str [])] [(0,(.t 17))]),ZO 19 (.app 1 16 [(.str [])] false (.t 12) (.t 18)),ZM 3 19] false)) (.region [ZM 10 4,ZO 11 (.bin .add (.t 10) (.c (.int .i64 1))),ZM 4 11] false)))))) (ZR [ZM 20 3,ZM 2 20] .ret))))
theorem c_lo (c:UInt8):decide ((c.toNat:Int)<33) = !(decide (33≤c.toNat)):=by
 by_cases h:33≤c.toNat
 ·rw [decide_eq_true h,decide_eq_false (by omega)];rfl
 ·rw [decide_eq_false h,decide_eq_true (by omega)];rfl
theorem c_hi (c:UInt8):decide ((126:Int)<(c.toNat:Int)) = !(decide (c.toNat≤126)):=by
 by_cases h:c.toNat≤126
 ·rw [decide_eq_true h,decide_eq_false (by omega)];rfl
 ·rw [decide_eq_false h,decide_eq_true (by omega)];rfl
theorem sp_wordseq_word_1 (c:UInt8):Zak Tryz.prog 270 [.int .u8 (c.toNat:Int)] (.bool (!(okC c))):=by
 refine Gp (vc:=c_wordseq_word_1) [.t 2] (cB _) Tryz.func270 ?_;unfold c_wordseq_word_1;try dsimp only [ZM,ZO,ZN,ZG,ZR,ZU]
 refine Rp0 [0] ?_;refine Zaa (Zae [2] ?_);unfold okC;have h1:=c_lo c;have h2:=c_hi c;cases d1:decide (33≤c.toNat) with
 | false =>
  rw [d1] at h1;simp only [vmL,Nat.reduceEqDiff,reduceCtorEq,h1,h2,d1,Bool.not_false,Bool.not_true];exact Tv0
 | true =>
  rw [d1] at h1;refine Sp1 (x3 h1 h2 d1) ?_;exact Tv0
theorem ne_len (s:Str):(s != [])=decide (1≤s.length):=by cases s<;>simp
theorem any_not {α:Type} (l:List α) (p:α→Bool):(!(l.any fun c=>!(p c)))=l.all p:=by
 induction l with
 | nil=>rfl
 | cons a r ih=>rw [List.any_cons,List.all_cons,← ih];cases p a<;>simp
theorem sp_wordseq_word (s:Str) (hl:s.length≤1000000):Zak Tryz.prog 266 [.str s] (.bool (wordB s)):=by
 have H:=sp_ContainsFunc_byte s 270 [] (fun c=>!(okC c)) hl (by intro x hx;cases hx) (fun x _=>sp_wordseq_word_1 x);have hany:=any_not s okC;have h1:=ne_len s;have h2:decide ((s.length:Int)≤24)=decide (s.length≤24):=decide_eq_decide.2 (by omega);refine Gp (vc:=c_wordseq_word) [.t 2] (cB _) Tryz.func266 ?_;unfold c_wordseq_word;try dsimp only [ZM,ZO,ZN,ZG,ZR,ZU]
 refine Rp0 [0] ?_;refine Rp0 [0,3] ?_;refine Zaa (Zae [2] ?_);unfold wordB;rw [← hany];cases d1:decide (1≤s.length) with
 | false =>
  rw [d1] at h1;refine Sp1 h1 ?_;exact Tv0
 | true =>
 rw [d1] at h1;cases d2:decide (s.length≤24) with
 | false =>
  rw [d2] at h2;refine Sp1 (x2 h1 h2) ?_;exact Tv0
 | true =>
  rw [d2] at h2;refine Sp1 (x2 h1 h2) ?_;refine OpS_bytes (el:=5) rfl Tryz.underlying9 (by kernel_rfl) (by kernel_rfl) rfl rfl ?_
  skip
  refine Ap0 H ?_;exact Tv0
theorem sp_wordseq_Valid_1 (s:Str) (hl:s.length≤1000000):Zak Tryz.prog 265 [.str s] (.bool (!(wordB s))):=by
 refine Gp (vc:=c_wordseq_Valid_1) [.t 2] (cB _) Tryz.func265 ?_;unfold c_wordseq_Valid_1;try dsimp only [ZM,ZO,ZN,ZG,ZR,ZU]
 refine Rp0 [0] ?_;refine Rp0 [2] ?_;refine Ap0 (sp_wordseq_word s hl) ?_;exact Tv0
theorem sp_wordseq_Valid (l:List Str) (hl:l.length≤1000000) (ht:∀ s∈l,s.length≤1000000):Zak Tryz.prog 250 [.sl 1 (l.map fun x=>[PV.str x])] (.bool (textsV l)):=by
 have H:=sp_ContainsFunc_string l 265 [] (fun c=>!(wordB c)) hl (by intro x hx;cases hx) (fun x hx=>sp_wordseq_Valid_1 x (ht x hx));have hany:=any_not l wordB;have h2:decide ((l.length:Int)≤256)=decide (l.length≤256):=decide_eq_decide.2 (by omega);refine Gp (vc:=c_wordseq_Valid) [.t 2] (cB _) Tryz.func250 ?_;unfold c_wordseq_Valid;try dsimp only [ZM,ZO,ZN,ZG,ZR,ZU]
 refine Rp0 [0] ?_;refine Zaa (Zae [2] ?_);unfold textsV;rw [← hany];cases d2:decide (l.length≤256) with
 | false =>
  rw [d2] at h2;refine Sp1 (x2 @xlm h2) ?_;exact Tv0
 | true =>
  rw [d2] at h2;refine Sp1 (x2 @xlm h2) ?_;refine Ap0 H ?_;exact Tv0
theorem texts_step {l:List Wd} {k:Nat} (h:k<l.length):(l.take (k+1)).map (fun w=>[PV.str w.text])=(l.take k).map (fun w=>[PV.str w.text])++[[PV.str l[k].text]]:=by
 rw [List.take_add_one,List.getElem?_eq_getElem h,List.map_append];rfl
theorem texts_map (l:List Wd):(l.map Wd.text).map (fun x=>[PV.str x])=l.map fun w=>[PV.str w.text]:=by rw [List.map_map];rfl
theorem sp_unit_row (l:List Wd) (hl:l.length≤1000000) (ht:∀ w∈l,w.text.length≤1000000):Zak Tryz.prog 227 [.sl 4 (l.map Wd.enc)] (.bool (rowB l)):=by
 have V:=sp_wordseq_Valid (l.map Wd.text) (by simpa using hl) (by intro s hs;obtain ⟨w,hw,rfl⟩:=List.mem_map.1 hs;exact ht w hw);rw [texts_map] at V;have h2:decide ((l.length:Int)≤256)=decide (l.length≤256):=decide_eq_decide.2 (by omega);refine Gp (vc:=c_unit_row) [.t 2] (cB _) Tryz.func227 ?_;unfold c_unit_row;try dsimp only [ZM,ZO,ZN,ZG,ZR,ZU]
 refine Rp0 [0] ?_;refine Rp0 [0,3] ?_;refine VW_own0 3 1 rfl ?_;refine Sp0 ?_;refine Zaa ?_;refine Rp1 [0,3,6,7,8] @xlm ?_;refine Zab ?_;refine Zah (σ:={ x:Nat×Nat×Nat//x.1≤l.length∧x.2.1<x.2.2 }) (fun x=>([(0,.sl 4 (l.map Wd.enc)),(3,.own x.1.2.1 0 x.1.1),(6,.sl 4 (l.map Wd.enc)),(7,pI l.length),(8,pI x.1.1)],⟨[(x.1.2.1,.arr false 1 ((l.take x.1.1).map fun w=>[PV.str w.text]))],x.1.2.2⟩)) (fun x=>l.length-x.1.1) ⟨(0,0,1),Nat.zero_le _,Nat.one_pos⟩ ?_ ?_ ?_
 ·refine Sp0 ?_;rfl
 ·exact Sr0
 rintro ⟨⟨k,id,t⟩,hk,hid⟩;simp only [] at hk hid ⊢;have qq:=N4 id t (t+1) (t+1+1);refine Rp1 [0,3,6,7,8,9] qq ?_;refine Zaa ?_;refine Zac rfl (fun h1=>?_) (fun h1=>?_)
 ·have ka:k<l.length:=by simp only [decide_eq_true_eq] at h1;omega
  have hst:=texts_step ka;have hB:((l.take k).map fun w=>[PV.str w.text]).length=k:=by simp;omega
  generalize (l.take k).map (fun w=>[PV.str w.text])=B at hst hB ⊢;have tk:List.take k B=B:=List.take_of_length_le (by omega);refine Kp1 qq ?_;refine Zaa ?_;refine Zab ?_;refine Zaa (Zae [0,3,5,6,7,8] ?_);simp only [vmL,Nat.reduceEqDiff,Nat.reduceAdd,Nat.reduceLT,reduceCtorEq,List.length_map,rowm ka,Wd.enc,qq];refine Ok ?_;refine rp1 [0,3,6,7,8] (x3 tk hB qq) ?_;refine ⟨by omega,by omega,?_⟩;refine rp1 [0,3,6,7,8] (x2 qq (w64 (n:=(k:Int)+1) (by omega) (by omega))) ?_;refine ⟨⟨(k+1,t+2,t+3),by show k+1≤l.length;omega,Nat.lt_succ_self _⟩,⟨rfl,rfl⟩,⟨Nat.le_refl _,?_⟩,by show l.length-(k+1)<l.length-k;omega⟩;show (if t+1+1=t+2 then some (AB.arr false 1 (B++[[PV.str l[k].text]])) else _)=some (AB.arr false 1 ((l.take (k+1)).map fun w=>[PV.str w.text]));rw [if_pos rfl,hst]
 ·have ka:k=l.length:=by simp only [decide_eq_false_iff_not] at h1;omega
  subst ka;rw [List.take_length];refine Ep1 qq ?_;refine Zat [(0,.sl 4 (l.map Wd.enc)),(3,.sl 1 (l.map fun w=>[PV.str w.text]))] ⟨View.refl _ _,View.own_all (fz:=false) (by simp [Heap.get,HL.get]) (by rw [List.length_map]),trivial⟩ ?_;have hr:rowB l=(decide (l.length≤256)&&textsV (l.map Wd.text)):=by
   unfold rowB textsV;rw [List.length_map];cases decide (l.length≤256)<;>rfl
  rw [hr];cases d2:decide (l.length≤256) with
  | false =>
   rw [d2] at h2;refine Rp1 [2] (x2 @xlm h2) ?_;exact Tv0
  | true =>
   rw [d2] at h2;refine Rp1 [2] (x2 @xlm h2) ?_;refine Zao V ?_;exact Tv0
theorem closed_textsW (l:List Wd):Closed (.sl 1 (l.map fun w=>[PV.str w.text])):=Zaj (fun a _ x hx=>by simp only [List.mem_cons,List.not_mem_nil,or_false] at hx;subst hx;exact cS _)
theorem sp_ref06_Texts (l:List Wd) (hl:l.length≤1000000):Zak Tryz.prog 128 [.sl 4 (l.map Wd.enc)] (.sl 1 (l.map fun w=>[PV.str w.text])):=by
 refine Gp (vc:=c_pandectref06_Texts) [.t 2] (closed_textsW _) Tryz.func128 ?_;unfold c_pandectref06_Texts;try dsimp only [ZM,ZO,ZN,ZG,ZR,ZU]
 refine Rp0 [0] ?_;refine Rp0 [0,3] ?_;refine Zaa ?_;refine Rp0 [0,3,4] ?_;refine Zab ?_;refine Zah (σ:={ x:Nat×Nat×Nat//x.1≤l.length∧x.2.1<x.2.2 }) (fun x=>([(0,.sl 4 (l.map Wd.enc)),(3,.own x.1.2.1 0 x.1.1),(4,pI x.1.1)],⟨[(x.1.2.1,.arr false 1 ((l.take x.1.1).map fun w=>[PV.str w.text]))],x.1.2.2⟩)) (fun x=>l.length-x.1.1) ⟨(0,0,1),Nat.zero_le _,Nat.one_pos⟩ ?_ ?_ ?_
 ·exact Sr0
 ·exact Sr0
 rintro ⟨⟨k,id,t⟩,hk,hid⟩;simp only [] at hk hid ⊢;have qq:=N4 id t (t+1) (t+1+1);refine Zaa ?_;refine Rp1 [0,3,4,9] (x2 @xlm qq) ?_;refine Zac rfl (fun h1=>?_) (fun h1=>?_)
 ·have ka:k<l.length:=by simp only [decide_eq_true_eq] at h1;omega
  have hst:=texts_step ka;have hB:((l.take k).map fun w=>[PV.str w.text]).length=k:=by simp;omega
  generalize (l.take k).map (fun w=>[PV.str w.text])=B at hst hB ⊢;have tk:List.take k B=B:=List.take_of_length_le (by omega);refine Kp1 qq ?_;refine Zaa ?_;refine Zab ?_;refine Zae [0,3,4] ?_;simp only [vmL,Nat.reduceEqDiff,Nat.reduceAdd,Nat.reduceLT,Nat.reduceLeDiff,reduceCtorEq,List.length_map,rowm ka,Wd.enc,tk,hB,qq];refine Ok ?_;refine rp1 [0,3,4] (x2 qq (w64 (n:=(k:Int)+1) (by omega) (by omega))) ?_;refine ⟨⟨(k+1,t+1,t+2),by show k+1≤l.length;omega,Nat.lt_succ_self _⟩,⟨rfl,rfl⟩,⟨Nat.le_refl _,?_⟩,by show l.length-(k+1)<l.length-k;omega⟩;show (if t+1=t+1 then some (AB.arr false 1 (B++[[PV.str l[k].text]])) else _)=some (AB.arr false 1 ((l.take (k+1)).map fun w=>[PV.str w.text]));rw [if_pos rfl,hst]
 ·have ka:k=l.length:=by simp only [decide_eq_false_iff_not] at h1;omega
  subst ka;rw [List.take_length];refine Ep1 qq ?_;refine Rp1 [2] qq ?_;refine Tp0 ?_;exact View.own_all (fz:=false) (by simp [Heap.get,HL.get]) (by rw [List.length_map])
end Go.Proofs.YtcgdjembdjdlhaaGreatDoor.w
namespace Go.VM
open Go
def Za3:List Str:=[[98,111,111,107],[112,97,114,116],[115,101,99,116,105,111,110],[112,97,114,97,103,114,97,112,104],[116,97,98,108,101],[114,111,119],[99,101,108,108],[110,111,116,101]]
def Zcu (k:Int):Str:=if 0≤k∧k<8 then Za3.getD k.toNat [] else []
def belowT:List (List Int):=[[1,2],[2],[3,4,7],[3,4,7],[5],[6],[],[]]
def nestB (p k:Int):Bool:=if p=0 then (k==1)||(k==2) else if p=1 then k==2 else if p=2∨p=3 then (k==3)||((k==4)||(k==7)) else if p=4 then k==5 else if p=5 then k==6 else false
theorem below_nest {i:Nat} (h:i<8) (k:Int):(belowT.getD i []).contains k=nestB i k:=by
 have:i=0∨i=1∨i=2∨i=3∨i=4∨i=5∨i=6∨i=7:=by omega
 rcases this with rfl|rfl|rfl|rfl|rfl|rfl|rfl|rfl<;>simp [belowT,nestB,List.contains,List.elem]<;>(try (cases (k==1)<;>cases (k==2)<;>cases (k==3)<;>cases (k==4)<;>cases (k==5)<;>cases (k==6)<;>cases (k==7)<;>rfl))
end Go.VM
namespace Go.Proofs.YtcgdjembdjdlhaaGreatDoor.w
open Go Go.VM
def c_unit_KindName : VC := (ZR [ZO 2 (.mv (.c (.str [])))] (.seq (ZR [ZM 3 0,ZO 4 (.bin .lss (.t 3) (.c (.int .i64 0))),ZM 5 4,ZG 6 (.mv (.t 0)) 5 false,ZG 7 (.bin .geq (.t 6) (.c (.int .i64 8))) 5 false,ZO 8 (.pick (.t 5) (.c (.bool true)) (.t 7))] (.cond (.t 8) (ZR [ZO 2 (.mv (.c (.str [])))] .ret) .skip)) (ZR [ZM 9 0,ZO 10 (.other ({ dst := some 10,op := Op.indexAddr 110 (Operand.global 0) (Operand.tmp 9),type := 0,pos := "unit.go:37",after := #[{ on := 0,ground := Ground.data }],guard := none } : Oper)),ZO 11 (.load false 1 (.t 10)),ZM 2 11] .ret)))
def c_unit_CanContain : VC := (ZR [ZO 4 (.mv (.c (.bool false)))] (ZR [ZM 5 0,ZO 6 (.bin .geq (.t 5) (.c (.int .i64 0))),ZM 7 6,ZG 8 (.mv (.t 0)) 7 true,ZG 9 (.bin .lss (.t 8) (.c (.int .i64 8))) 7 true,ZO 10 (.pick (.t 7) (.t 9) (.c (.bool false))),ZM 11 10,ZG 12 (.mv (.t 0)) 11 true,ZG 13 (.other ({ dst := some 13,op := Op.indexAddr 273 (Operand.global 3) (Operand.tmp 12),type := 0,pos := "unit.go:29",after := #[{ on := 7,ground := Ground.data },{ on := 6,ground := Ground.guard }],guard := some (6,true) } : Oper)) 11 true,ZG 14 (.load false 1 (.t 13)) 11 true,ZG 15 (.mv (.t 1)) 11 true,ZG 16 (.call 251 [.t 14,.t 15]) 11 true,ZO 17 (.pick (.t 11) (.t 16) (.c (.bool false))),ZM 4 17] .ret))
def c_pandectref06_Name:VC:=(ZR [ZO 2 (.mv (.c (.str [])))] (ZR [ZO 4 (.bslice 1 8 [(.str [])] [(0,(.c (.str [98,111,111,107]))),(1,(.c (.str [112,97,114,116]))),(2,(.c (.str [115,101,99,116,105,111,110]))),(3,(.c (.str [112,97,114,97,103,114,97,112,104]))),(4,(.c (.str [116,97,98,108,101]))),(5,(.c (.str [114,111,119]))),(6,(.c (.str [99,101,108,108]))),(7,(.c (.str [110,111,116,101])))]),ZM 3 4] (.seq (ZR [ZM 5 0,ZO 6 (.bin .lss (.t 5) (.c (.int .i64 0))),ZM 7 6,ZG 8 (.mv (.t 0)) 7 false,ZG 9 (.bin .gtr (.t 8) (.c (.int .i64 7))) 7 false,ZO 10 (.pick (.t 7) (.c (.bool true)) (.t 9))] (.cond (.t 10) (ZR [ZO 2 (.mv (.c (.str [])))] .ret) .skip)) (ZR [ZM 11 3,ZM 12 0,ZO 13 (.iaddr 1 (.t 11) (.t 12)),ZO 14 (.load false 1 (.t 13)),ZM 2 14] .ret))))
def c_slices_Index_int:VC:=(ZR [ZO 4 (.mv (.c (.int .i64 0)))] (.seq (ZR [ZM 6 0,ZO 7 (.len false (.t 6)),ZO 8 (.mv (.c (.int .i64 0)))] (.block 0 (.loop (ZR [ZO 9 (.bin .lss (.t 8) (.t 7))] (.seq (.cond (.t 9) .skip (.exit 0)) (.seq (.block 1 (ZR [ZM 10 8,ZM 5 10] (ZR [ZM 11 1,ZM 12 0,ZM 13 5,ZO 14 (.iaddr 1 (.t 12) (.t 13)),ZO 15 (.load false 1 (.t 14)),ZO 16 (.bin .eql (.t 11) (.t 15))] (.cond (.t 16) (ZR [ZM 17 5,ZM 4 17] .ret) .skip)))) (.region [ZO 18 (.bin .add (.t 8) (.c (.int .i64 1))),ZM 8 18] false))))))) (ZR [ZO 4 (.mv (.c (.int .i64 (-1))))] .ret)))
def c_slices_Contains_int:VC:=(ZR [ZO 4 (.mv (.c (.bool false)))] (ZR [ZM 5 0,ZM 6 1,ZO 7 (.call 267 [.t 5,.t 6]),ZO 8 (.bin .geq (.t 7) (.c (.int .i64 0))),ZM 4 8] .ret))
theorem sp_KindName (k:Int):Zak Tryz.prog 40 [pI k] (.str (Zcu k)):=by
 refine Gp (vc:=c_unit_KindName) [.t 2] (cS _) Tryz.func40 ?_;unfold c_unit_KindName;try dsimp only [ZM,ZO,ZN,ZG,ZR,ZU]
 refine Rp0 [0] ?_;refine Zaa ?_;by_cases h0:k<0
 ·have e0:decide (k<0)=true:=decide_eq_true h0;refine Rp1 [0,8] e0 ?_;refine Ct ?_;refine Rp0 [2] ?_;refine Tp0 ?_;have:Zcu k=[]:=by unfold Zcu;rw [if_neg (by omega)]
  rw [this];exact View.refl _ _
 have e0:decide (k<0)=false:=decide_eq_false h0;by_cases h8:8≤k
 ·have e8:decide (8≤k)=true:=decide_eq_true h8;refine Rp1 [0,8] (x2 e0 e8) ?_;refine Ct ?_;refine Rp0 [2] ?_;refine Tp0 ?_;have:Zcu k=[]:=by unfold Zcu;rw [if_neg (by omega)]
  rw [this];exact View.refl _ _
 have e8:decide (8≤k)=false:=decide_eq_false h8;obtain ⟨i,rfl⟩:∃ i:Nat,k=(i:Int):=⟨k.toNat,by omega⟩;have hi:i<8:=by omega
 refine Rp1 [0,8] (x2 e0 e8) ?_;refine Fp0 ?_;refine Rp0 [2] ?_;have hn:Zcu (i:Int)=Za3.getD i []:=by unfold Zcu;rw [if_pos (by omega),Int.toNat_natCast]
 have hv:∃ bs,((known.lookup 0).getD []).getD i Go.undef=.string bs∧bs.data.toList=Za3.getD i []:=by
  have:i=0∨i=1∨i=2∨i=3∨i=4∨i=5∨i=6∨i=7:=by omega
  rcases this with rfl|rfl|rfl|rfl|rfl|rfl|rfl|rfl<;>exact ⟨_,rfl,rfl⟩
 obtain ⟨bs,hb1,hb2⟩:=hv;have hlen:((known.lookup 0).getD []).length=8:=by kernel_rfl
 have hal:Tryz.prog.arrayLen 110=8:=by kernel_rfl
 refine OpS_iaddrN (k:=i) (kk:=.i64) (l:=(known.lookup 0).getD []) rfl (by kernel_rfl) (by kernel_rfl) rfl rfl (by rw [hal];exact hi) (by kernel_rfl) (by omega) hb1 hb2 ?_;refine Sp0 ?_;refine Tp0 ?_;rw [hn];exact View.refl _ _
theorem sp_Index_int (l:List Int) (s:Int) (hl:l.length≤1000000):Zak Tryz.prog 267 [.sl 1 (l.map fun x=>[pI x]),pI s] (pI (idxF (fun x=>s==x) l)):=by
 refine Gp (vc:=c_slices_Index_int) [.t 4] (cI _) Tryz.func267 ?_;unfold c_slices_Index_int;try dsimp only [ZM,ZO,ZN,ZG,ZR,ZU]
 refine Rp0 [0,1] ?_;refine Zaa ?_;refine Rp1 [0,1,7,8] @xlm ?_;refine Zab ?_;refine Zah (σ:={ k:Nat//k≤l.length∧∀ (j:Nat) (hj:j<l.length),j<k→(s==l[j])=false }) (fun x=>([(0,.sl 1 (l.map fun x=>[pI x])),(1,pI s),(7,pI l.length),(8,pI x.1)],⟨[],0⟩)) (fun x=>l.length-x.1) ⟨0,Nat.zero_le _,fun j _ h=>by cases h⟩ ?_ ?_ ?_
 ·refine Sp0 ?_;rfl
 ·exact Sc0
 rintro ⟨k,hk,hpre⟩;simp only [];refine Rp0 [0,1,7,8,9] ?_;refine Zaa ?_;refine Zac rfl (fun h1=>?_) (fun h1=>?_)
 ·have ka:k<l.length:=by simp only [decide_eq_true_eq] at h1;omega
  have hrow:(l.map fun x=>[pI x]).getD k []=(fun x:Int=>[pI x]) l[k]:=rowm ka;simp only [] at hrow;generalize hx:l[k]=y at hrow;refine Kp0 ?_;refine Zaa ?_;refine Zab ?_;refine Rp0 [0,1,5,7,8] ?_;refine Rp1 [0,1,5,7,8,16] (x2 @xlm hrow) ?_;refine Ok ?_;cases hq:s==y with
  | true =>
   refine Ct ?_;refine Rp0 [4] ?_;refine Tp0 ?_;rw [idxF_at (fun x=>s==x) l k ka hpre (by rw [hx];exact hq)];exact View.refl _ _
  | false =>
   refine Fp0 ?_;refine rp1 [0,1,7,8] (w64 (n:=(k:Int)+1) (by omega) (by omega)) ?_;refine ⟨⟨k+1,ka,fun j hj hjk=>?_⟩,?_,?_⟩
   ·by_cases e:j=k
    ·subst e;rw [hx];exact hq
    ·exact hpre j hj (by omega)
   ·rfl
   ·simp only [];omega
 ·have ka:k=l.length:=by simp only [decide_eq_false_iff_not] at h1;omega
  refine Ep0 ?_;refine Rp0 [4] ?_;refine Tp0 ?_;rw [idxF_none (fun x=>s==x) l (fun j hj=>hpre j hj (by omega))];exact View.refl _ _
theorem sp_Contains_int (l:List Int) (s:Int) (hl:l.length≤1000000):Zak Tryz.prog 251 [.sl 1 (l.map fun x=>[pI x]),pI s] (.bool (l.contains s)):=by
 have hc:l.contains s=l.any fun x=>s==x:=by
  induction l with
  | nil=>rfl
  | cons a r ih=>rw [List.contains_cons,List.any_cons,ih (by simp at hl;omega)]
 refine Gp (vc:=c_slices_Contains_int) [.t 4] (cB _) Tryz.func251 ?_;unfold c_slices_Contains_int;try dsimp only [ZM,ZO,ZN,ZG,ZR,ZU]
 refine Rp0 [0,1] ?_;refine Rp0 [4] ?_;refine Ap0 (sp_Index_int l s hl) ?_;refine Tp0 ?_;rw [idxF_any,hc];exact View.refl _ _
theorem sp_CanContain (p k:Int):Zak Tryz.prog 228 [pI p,pI k] (.bool (nestB p k)):=by
 refine Gp (vc:=c_unit_CanContain) [.t 4] (cB _) Tryz.func228 ?_;unfold c_unit_CanContain;try dsimp only [ZM,ZO,ZN,ZG,ZR,ZU]
 refine Rp0 [0,1] ?_;by_cases h0:0≤p
 ·by_cases h8:p<8
  ·obtain ⟨i,rfl⟩:∃ i:Nat,p=(i:Int):=⟨p.toNat,by omega⟩;have hi:i<8:=by omega
   have e0:decide ((0:Int)≤(i:Int))=true:=decide_eq_true h0;have e8:decide ((i:Int)<8)=true:=decide_eq_true h8;have hal:Tryz.prog.arrayLen 273=8:=by kernel_rfl
   have hks:knownS.lookup 3=some belowT:=by kernel_rfl
   have hlen:(belowT.getD i []).length≤1000000:=by
    have:i=0∨i=1∨i=2∨i=3∨i=4∨i=5∨i=6∨i=7:=by omega
    rcases this with rfl|rfl|rfl|rfl|rfl|rfl|rfl|rfl<;>decide
   refine Rp1 [4] (x2 e0 e8) ?_;refine OpS_iaddrS (k:=i) (kk:=.i64) (ls:=belowT) rfl (by kernel_rfl) (by kernel_rfl) rfl rfl (by rw [hal];exact hi) hks hi ?_;refine Sp0 ?_;refine Zao (sp_Contains_int _ k hlen) ?_;refine Tp0 ?_;rw [below_nest hi];exact View.refl _ _
  ·have e0:decide ((0:Int)≤p)=true:=decide_eq_true h0;have e8:decide (p<8)=false:=decide_eq_false h8;refine Rp1 [4] (x2 e0 e8) ?_;refine Tp0 ?_;have:nestB p k=false:=by
    unfold nestB;rw [if_neg (by omega),if_neg (by omega),if_neg (by omega),if_neg (by omega),if_neg (by omega)]
   rw [this];exact View.refl _ _
 ·have e0:decide ((0:Int)≤p)=false:=decide_eq_false h0;refine Rp1 [4] e0 ?_;refine Tp0 ?_;have:nestB p k=false:=by
   unfold nestB;rw [if_neg (by omega),if_neg (by omega),if_neg (by omega),if_neg (by omega),if_neg (by omega)]
  rw [this];exact View.refl _ _
theorem sp_ref06_Name (k:Int):Zak Tryz.prog 124 [pI k] (.str (Zcu k)):=by
 refine Gp (vc:=c_pandectref06_Name) [.t 2] (cS _) Tryz.func124 ?_;unfold c_pandectref06_Name;try dsimp only [ZM,ZO,ZN,ZG,ZR,ZU]
 refine Rp0 [0] ?_;refine Rp0 [0,3] ?_;refine Zaa ?_;by_cases h0:k<0
 ·have e0:decide (k<0)=true:=decide_eq_true h0;refine Rp1 [0,10] e0 ?_;refine Ct ?_;refine Rp0 [2] ?_;refine Tp0 ?_;have:Zcu k=[]:=by unfold Zcu;rw [if_neg (by omega)]
  rw [this];exact View.refl _ _
 have e0:decide (k<0)=false:=decide_eq_false h0;by_cases h8:7<k
 ·have e8:decide (7<k)=true:=decide_eq_true h8;refine Rp1 [0,10] (x2 e0 e8) ?_;refine Ct ?_;refine Rp0 [2] ?_;refine Tp0 ?_;have:Zcu k=[]:=by unfold Zcu;rw [if_neg (by omega)]
  rw [this];exact View.refl _ _
 have e8:decide (7<k)=false:=decide_eq_false h8;obtain ⟨i,rfl⟩:∃ i:Nat,k=(i:Int):=⟨k.toNat,by omega⟩;have hi:i<8:=by omega
 have hn:Zcu (i:Int)=Za3.getD i []:=by unfold Zcu;rw [if_pos (by omega),Int.toNat_natCast]
 rw [hn];refine Rp1 [0,3,10] (x2 e0 e8) ?_;refine Fp0 ?_;have hget:(Za3.map fun s=>[PV.str s]).getD i []=[PV.str (Za3.getD i [])]:=by
  have:i=0∨i=1∨i=2∨i=3∨i=4∨i=5∨i=6∨i=7:=by omega
  rcases this with rfl|rfl|rfl|rfl|rfl|rfl|rfl|rfl<;>rfl
 refine Zat [(0,pI i),(3,.sl 1 (Za3.map fun s=>[PV.str s]))] ⟨View.refl _ _,View.own_all (fz:=false) rfl rfl,trivial⟩ ?_;have hl8:Za3.length=8:=rfl;generalize Za3=KN at hget hl8 ⊢;refine Rp1 [2] (x2 @xlm hget) ?_;refine Ok ?_;exact Tv0
end Go.Proofs.YtcgdjembdjdlhaaGreatDoor.w
namespace Go.Proofs.YtcgdjembdjdlhaaGreatDoor.w
open Go Go.VM
def c_slices_Clone_Word:VC:=(ZR [ZO 2 (.mv (.c .nilsl))] (.seq (ZR [ZM 3 0,ZO 4 (.nd false (.t 3))] (.cond (.t 4) (ZR [ZO 2 (.mv (.c .nilsl))] .ret) .skip)) (ZR [ZO 5 (.fx (.mk0 4) []),ZM 6 0,ZO 7 (.app 4 40 [(.str []),.int .i64 0,.int .i64 0,.int .i64 0] false (.t 5) (.t 6)),ZM 2 7] .ret)))
def Zb2:VC:=(ZR [ZO 2 (.mv (.c .nilsl))] (.seq (ZR [ZM 3 0,ZO 4 (.nd false (.t 3))] (.cond (.t 4) (ZR [ZO 2 (.mv (.c .nilsl))] .ret) .skip)) (ZR [ZO 5 (.fx (.mk0 8) []),ZM 6 0,ZO 7 (.app 8 120 ZU false (.t 5) (.t 6)),ZM 2 7] .ret)))
def c_unit_copied:VC:=(ZR [ZO 1 (.box 8 (.t 0)),ZO 2 (.alloc ZU)] (.seq (.draw2 [ZO 6 (.faddr 5 (.t 1)),ZO 7 (.load false 1 (.t 6)),ZO 8 (.call 170 [.t 7]),ZO 9 (.faddr 6 (.t 1)),ZO 10 (.load false 1 (.t 9)),ZO 11 (.call 170 [.t 10]),ZO 12 (.faddr 5 (.t 1)),ZN (.store 1 (.t 12) (.t 8)),ZO 13 (.faddr 6 (.t 1)),ZN (.store 1 (.t 13) (.t 11))] [true,true,true,true,true,true,true,false,false,false]) (ZR [ZO 3 (.mv (.c .nilsl))] (.seq (ZR [ZO 14 (.faddr 7 (.t 1)),ZO 15 (.load false 1 (.t 14)),ZO 16 (.len false (.t 15)),ZO 17 (.mv (.c (.int .i64 0)))] (.block 0 (.loop (ZR [ZO 18 (.bin .lss (.t 17) (.t 16))] (.seq (.cond (.t 18) .skip (.exit 0)) (.seq (.block 1 (ZR [ZO 19 (.iaddr 8 (.t 15) (.t 17)),ZO 20 (.load true 8 (.t 19)),ZO 5 (.alloc ZU),ZN (.store 8 (.t 5) (.t 20))] (.region [ZM 21 3,ZO 22 (.load true 8 (.t 5)),ZO 23 (.call 126 [.t 22]),ZO 24 (.bslice 8 1 ZU [(0,(.t 23))]),ZO 25 (.app 8 120 ZU false (.t 21) (.t 24)),ZM 3 25] false))) (.region [ZO 26 (.bin .add (.t 17) (.c (.int .i64 1))),ZM 17 26] false))))))) (ZR [ZM 27 3,ZO 28 (.faddr 7 (.t 1)),ZN (.store 1 (.t 28) (.t 27))] (ZR [ZO 29 (.load true 8 (.t 1)),ZN (.store 8 (.t 2) (.t 29))] .ret))))))
theorem closed_wds (l:List Wd):Closed (.sl 4 (l.map Wd.enc)):=Zaj fun w _ y hy=>w.closed y hy
theorem closed_uns (l:List Un):Closed (.sl 8 (l.map Un.enc)):=Zaj fun u _ y hy=>Un.closed u y hy
theorem Zap (u:Un):Closed (.agg u.enc):=Zax fun y hy=>Un.closed u y hy
theorem sp_Clone_Word (l:List Wd) (hl:l.length≤1048576):Zak Tryz.prog 170 [.sl 4 (l.map Wd.enc)] (.sl 4 (l.map Wd.enc)):=by
 refine Gp (vc:=c_slices_Clone_Word) [.t 2] (closed_wds _) Tryz.func170 ?_;unfold c_slices_Clone_Word;try dsimp only [ZM,ZO,ZN,ZG,ZR,ZU]
 refine Rp0 [0] ?_;refine Zaa ?_;refine Rp0 [0,4] ?_;intro b hb1 hb2;cases b with
 | true =>
  skip
  refine Zac rfl (fun h1=>?_) (fun h1=>by cases h1);refine Rp0 [2] ?_;refine Tp0 ?_;cases l with
  | nil=>exact View.nil _ _
  | cons a r=>simp at hb2
 | false =>
  skip
  refine Zac rfl (fun h1=>by cases h1) (fun h1=>?_);refine Kp0 ?_;refine Rp1 [2] @xlm ?_;refine Ok ?_;refine Tp0 ?_;exact View.own_all (fz:=false) (by simp [Heap.get,HL.get]) (by rw [List.length_map])
theorem view_un8 {h:Heap} {id:Nat} {fz:Bool} {a b c d e f g:PV} {n:Nat} {R:List Un} (hg:h.get id=some (.arr fz 8 (R.map Un.enc))) (hn:R.length=n):View h (.agg [a,b,c,d,e,f,g,.own id 0 n]) (.agg [a,b,c,d,e,f,g,.sl 8 (R.map Un.enc)]):=by
 refine View.agg rfl fun j hj=>?_;have hj':j=0∨j=1∨j=2∨j=3∨j=4∨j=5∨j=6∨j=7:=by simp only [List.length_cons,List.length_nil] at hj;omega
 rcases hj' with rfl|rfl|rfl|rfl|rfl|rfl|rfl|rfl
 ·exact View.refl _ _
 ·exact View.refl _ _
 ·exact View.refl _ _
 ·exact View.refl _ _
 ·exact View.refl _ _
 ·exact View.refl _ _
 ·exact View.refl _ _
 ·show View _ (.own id 0 n) (.sl 8 (R.map Un.enc));exact View.own_all (fz:=fz) hg (by rw [List.length_map,hn])
theorem sp_unit_copied {u:Un} (hu:SmT u):Zak Tryz.prog 126 [.agg u.enc] (.agg u.enc):=by
 induction hu with
 | mk u h hk hs ih =>
  have H:=sp_Clone_Word u.head (by have:=h.head.1;omega);have W:=sp_Clone_Word u.words (by have:=h.words.1;omega);refine Zad ?_ (Zap _) (by intro y hy;rw [List.mem_singleton] at hy;subst hy;exact Zap _);refine Gn (vc:=c_unit_copied) [.c 2 true 8] Tryz.func126 ?_;unfold c_unit_copied;try dsimp only [ZM,ZO,ZN,ZG,ZR,ZU]
  rw [Un.Zaf];generalize u.head.map Wd.enc=EH at H ⊢;generalize u.words.map Wd.enc=EW at W ⊢;refine Rp0 [1,2] ?_;refine Zaa (VW_draw2H [1,2] (by simp [Heap.le,Heap.get,HL.le,HL.get]) ?_);refine Sp0 ?_;refine ⟨_,.inl H,_,.inl W,?_⟩;refine Sp0 ?_;refine Rp0 [1,2,3] ?_;refine VW_own0 3 8 rfl ?_;refine Sp0 ?_;refine Zaa ?_;refine Rp1 [1,2,3,15,16,17] @xlm ?_;generalize u.kids=L at hk hs ih ⊢;refine Zab ?_;refine Zah (σ:={ x:Nat×Nat×Nat//x.1≤L.length∧1<x.2.1∧x.2.1<x.2.2 }) (fun x=>([(1,.loc 0 0 0),(2,.loc 1 0 0),(3,.own x.1.2.1 0 x.1.1),(15,.sl 8 (L.map Un.enc)),(16,pI L.length),(17,pI x.1.1)],⟨[(x.1.2.1,.arr false 8 ((L.take x.1.1).map Un.enc)),(1,.arr false 8 [[PV.int .i64 0,PV.int .i64 0,PV.int .i64 0,PV.int .i64 0,PV.str [],PV.nilsl,PV.nilsl,PV.nilsl]]),(0,.arr false 8 [[pI u.act,pI u.item,pI u.n,pI u.kind,.str u.label,.sl 4 EH,.sl 4 EW,.sl 8 (L.map Un.enc)]])],x.1.2.2⟩)) (fun x=>L.length-x.1.1) ⟨(0,2,3),Nat.zero_le _,by simp,by simp⟩ ?_ ?_ ?_
  ·refine Sp0 ?_;rfl
  ·exact Sr0
  rintro ⟨⟨k,id,t⟩,hkk,hid1,hid⟩;simp only [] at hkk hid1 hid ⊢;have qq:=N6 0 1 id t (t+1) (t+1+1);refine Rp1 [1,2,3,15,16,17,18] qq ?_;refine Zaa ?_;refine Zac rfl (fun h1=>?_) (fun h1=>?_)
  ·have ka:k<L.length:=by simp only [decide_eq_true_eq] at h1;omega
   have hrow:(L.map Un.enc).getD k []=L[k].enc:=rowm ka;have R:=ih _ (List.getElem_mem ka);have hst:(L.take (k+1)).map Un.enc=(L.take k).map Un.enc++[L[k].enc]:=by rw [List.take_add_one,List.getElem?_eq_getElem ka,List.map_append];rfl
   have hB:((L.take k).map Un.enc).length=k:=by simp;omega
   generalize L[k]=v at hrow R hst;generalize (L.take k).map Un.enc=B at hst hB ⊢;have tk:List.take k B=B:=List.take_of_length_le (by omega);rw [Un.Zaf] at hrow R hst;refine Kp1 qq ?_;refine Zaa ?_;refine Zab ?_;refine Rp1 [1,2,3,5,15,16,17] (x3 @xlm hrow qq) ?_;refine Ok ?_;refine rp1 [1,2,3,15,16,17] qq ?_;refine Ap1 R (x3 tk hB qq) ?_;refine ⟨by omega,by omega,?_⟩;refine rp1 [1,2,3,15,16,17] (x2 (ad1 (a:=k) (by omega)) qq) ?_;refine ⟨⟨(k+1,t+1+1,t+1+1+1),ka,by show 1<t+1+1;omega,Nat.lt_succ_self _⟩,?_⟩;simp only [hst];refine Sp1 qq ?_;omega
  ·have ka:k=L.length:=by simp only [decide_eq_false_iff_not] at h1;omega
   subst ka;rw [List.take_length];refine Ep1 qq ?_;refine Rp1 [1,2] qq ?_;refine Rp1 [2] qq ?_;refine Tp1 qq ?_;refine view_un8 (fz:=false) (by simp [Heap.get,HL.get,show ¬ 0=id by omega,show ¬ 1=id by omega]) rfl
end Go.Proofs.YtcgdjembdjdlhaaGreatDoor.w
