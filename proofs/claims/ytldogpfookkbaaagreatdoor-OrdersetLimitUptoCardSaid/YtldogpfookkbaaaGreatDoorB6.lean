import Derived.Test.YtldogpfookkbaaaGreatDoorB5
import Derived.Test.YtldogpfookkbaaaGreatDoorVmBj
import Derived.Test.YtldogpfookkbaaaGreatDoorVmBa
import Derived.RangeFuncBox
import Derived.RangeFuncLeaves
import Derived.Shelf.Abstract
import Derived.WalkKit
import Derived.OwnWalkIn
import Derived.TacticsInMore
import Derived.LoopNIn
import Derived.LoopIn
import Derived.Maps.AppendAt
import Derived.Sort.OwnSorted
import Derived.Test.YtldogpfookkbaaaGreatDoorChecked
import Derived.Test.YtldogpfookkbaaaGreatDoorVmC
import Derived.Lib.SlicesCompact
import Derived.Lib.ItoaNum
import Derived.Lib.Join
set_option linter.all false
set_option maxRecDepth 20000
set_option maxHeartbeats 0
namespace Go.VM
open Go
def oR (O:List (List Nat)):List (List PV):=O.map fun r=>[.sl 1 (nR r)]
theorem oR_len (O:List (List Nat)):(oR O).length=O.length:=List.length_map _
theorem oR_take (O:List (List Nat)):List.take O.length (oR O)=oR O:=List.take_of_length_le (by rw [oR_len];exact Nat.le_refl _)
theorem oR_app (O:List (List Nat)) (r:List Nat):oR (O++[r])=oR O++[[.sl 1 (nR r)]]:=by unfold oR;rw [List.map_append];rfl
def ooV (O:List (List Nat)) (io:Nat):PV:=if O=[] then .nilsl else .own io 0 O.length
def ooB (O:List (List Nat)) (io:Nat):List (Nat×AB):=if O=[] then [] else [(io,.arr false 1 (oR O))]
def stO (RB:AB) (D:Nat) (O:List (List Nat)) (io:Nat):List (Nat×AB):=ooB O io++[(4,RB),(3,.dfr D true),(2,.arr false 1 [[ooV O io]])]
theorem stO_nil (RB:AB) (D io:Nat):stO RB D [] io=[(4,RB),(3,.dfr D true),(2,.arr false 1 [[.nilsl]])]:=rfl
theorem stO_cons {RB:AB} {D:Nat} {O:List (List Nat)} {io:Nat} (h:O≠[]):stO RB D O io=[(io,.arr false 1 (oR O)),(4,RB),(3,.dfr D true),(2,.arr false 1 [[.own io 0 O.length]])]:=by
 unfold stO ooB ooV;rw [if_neg h,if_neg h];rfl
theorem stO_off {RB:AB} {D:Nat} {O:List (List Nat)} {io x:Nat} (h4:4<x) (hx:io≠x):Off (stO RB D O io) x:=by
 intro q hq;unfold stO ooB at hq;split at hq
 ·simp only [List.nil_append,List.mem_cons,List.not_mem_nil,or_false] at hq;rcases hq with rfl|rfl|rfl<;>simp only [ne_eq]<;>omega
 ·simp only [List.cons_append,List.nil_append,List.mem_cons,List.not_mem_nil,or_false] at hq;rcases hq with rfl|rfl|rfl|rfl<;>simp only [ne_eq]<;>omega
theorem stO_nod {RB:AB} {D:Nat} {O:List (List Nat)} {io:Nat} (h:4<io):Nod (stO RB D O io):=by
 unfold stO ooB;split
 ·simp [Nod]
 ·simp [Nod];omega
theorem stO_lt {RB:AB} {D:Nat} {O:List (List Nat)} {io t:Nat} (h4:4<io) (ht:io<t):∀ q∈stO RB D O io,q.1<t:=by
 intro q hq;unfold stO ooB at hq;split at hq
 ·simp only [List.nil_append,List.mem_cons,List.not_mem_nil,or_false] at hq;rcases hq with rfl|rfl|rfl<;>simp only []<;>omega
 ·simp only [List.cons_append,List.nil_append,List.mem_cons,List.not_mem_nil,or_false] at hq;rcases hq with rfl|rfl|rfl|rfl<;>simp only []<;>omega
theorem stO_cell {RB:AB} {D:Nat} {O:List (List Nat)} {io:Nat} (hR:∀ fz z,RB≠.arr fz z []):∀ q∈stO RB D O io,∀ fz z,q.2≠.arr fz z []:=by
 intro q hq fz z;unfold stO ooB at hq;split at hq
 ·simp only [List.nil_append,List.mem_cons,List.not_mem_nil,or_false] at hq;rcases hq with rfl|rfl|rfl
  ·exact hR fz z
  ·simp
  ·simp
 ·rename_i h;simp only [List.cons_append,List.nil_append,List.mem_cons,List.not_mem_nil,or_false] at hq;rcases hq with rfl|rfl|rfl|rfl
  ·simp only [ne_eq,AB.arr.injEq,not_and];intro _ _ e;unfold oR at e;exact h (by simpa using e)
  ·exact hR fz z
  ·simp
  ·simp
end Go.VM
namespace Go.Proofs.YtldogpfookkbaaaGreatDoor.w
open Go Go.VM
def c_orderset_orders:VC:=(ZR [ZO 1 (.box 1 (.t 0)),ZO 2 (.mv (.c .nilfn))] (ZR [ZO 3 (.mkfn (.func 53) [] [.t 1]),ZM 2 3] .ret))
def Za6:VC:=(.region [ZM 9 28] false)
def Za4:VC:=(.block 1 (.seq (.region [ZM 29 9,ZO 30 (.load false 1 (.t 5)),ZO 31 (.load false 1 (.t 4)),ZO 32 (.call 33 [.t 31]),ZO 33 (.call 32 [.t 29,.t 30,.t 32])] true) (.cond (.t 33) (.draw2 [ZO 34 (.load false 1 (.t 8)),ZM 35 9,ZO 36 (.call 34 [.t 35]),ZO 37 (.bslice 1 1 [.nilsl] [(0,(.t 36))]),ZO 38 (.app 1 24 [.nilsl] false (.t 34) (.t 37)),ZN (.store 1 (.t 8) (.t 38))] [true,true,true,true,false,false]) .skip)))
theorem closed_orf (n:Nat):Closed (.fn (.func 53) [] [.ro [pI n]]):=closed_fn (by simp) (by
 intro x hx;rw [List.mem_singleton] at hx;subst hx;exact closed_ro (by intro y hy;rw [List.mem_singleton] at hy;subst hy;exact cI _))
theorem sp_orders (n:Nat):Zaj Tryz.prog 31 [pI n] (.fn (.func 53) [] [.ro [pI n]]):=by
 refine Zal ?_ (closed_orf n) (by intro y hy;rw [List.mem_singleton] at hy;subst hy;exact cI _);refine Gn (vc:=c_orderset_orders) [.t 2] Tryz.func31 ?_;unfold c_orderset_orders;try dsimp only [ZM,ZO,ZN,ZG,ZR,ZU]
 refine Rp0 [1,2] ?_;refine Rp0 [2] ?_;refine Tp0 ?_;refine View.fn rfl rfl (fun j hj=>absurd hj (Nat.not_lt_zero _)) (fun j hj=>?_);obtain rfl:j=0:=by simp at hj;omega
 exact View.loc (z:=1) (fz:=false) (es:=[[pI n]]) rfl (by simp) rfl (by simp)
def envO (K:List Int) (b:List Nat) (F:PV):Env:=[(4,.ro [.sl 1 (zR K)]),(5,.ro [.sl 1 (nR b)]),(8,.loc 2 0 0),(27,F)]
def bodyO (K:List Int) (b:List Nat) (ir n:Nat):Env:=[(4,.ro [.sl 1 (zR K)]),(5,.ro [.sl 1 (nR b)]),(8,.loc 2 0 0),(9,.own ir 0 n)]
theorem ord_body (K : List Int) (hK : K.length ≤ 1000000) (b r : List Nat) (n : Nat) (hn : n = r.length) (h0 : r ≠ []) (h5 : r.length ≤ 5) (hr : permB r.length r) (hb : permB r.length b) (l D : Nat) (RB : AB) (hRB : ∀ fz z, RB ≠ .arr fz z []) (O : List (List Nat)) (ir io t : Nat) (hio : 4 < io) (hit : io < t) (hir : 4 < ir) (hirt : ir < t) (hne : io ≠ ir) (hO : O.length ≤ 1000000) :
  VW Tryz.prog ⟨Tryz.f11.ntmps,some l,[],fun _ _=>False⟩ Za4 (fun x _ h'=>x=.normal∧∃ io' t',4<io'∧io'<t'∧t≤t'∧io'≠ir∧Heap.le ⟨(ir,.arr false 1 (nR r))::stO RB D (if Zbq r b (fun i=>K.contains (i:Int))=true then O++[r] else O) io',t'⟩ h') (bodyO K b ir n) ⟨(ir,.arr false 1 (nR r))::stO RB D O io,t⟩:=by
 have KE:=sp_kept K hK;have KP:=sp_keeps r b K hr hb h5;have hl:=nR_len r;have CL:=own_Clone r ir n t hirt hn h0 h5;subst hn;unfold Za4 bodyO;refine Zac ?_;refine Zab (VW_draw [8,9,33] ⟨[(ir,.arr false 1 (nR r))],t⟩ (by simp [Heap.le,HL.le,Heap.get,HL.get]) ?_);refine Sp0 ?_;refine ⟨_,.inl KE,?_⟩;refine Sp0 ?_;refine ⟨_,.inr ⟨[.sl 1 (nR r),.sl 1 (nR b),.agg (keptC K)],⟨View.own_all (fz:=false) (by simp [Heap.get,HL.get]) hl.symm,View.refl _ _,View.refl _ _,trivial⟩,KP,scalar_bool _⟩,?_⟩;refine Sp0 ?_;have hoff:=stO_off (RB:=RB) (D:=D) (O:=O) hir hne;have hnod:=stO_nod (RB:=RB) (D:=D) (O:=O) hio;cases hk:Zbq r b (fun i=>K.contains (i:Int)) with
 | false =>
  rw [if_neg Bool.false_ne_true];refine Fp0 ?_;refine ⟨io,t,hio,hit,Nat.le_refl _,hne,Nat.le_refl _,HL.le_tail1 hnod hoff _⟩
 | true =>
  rw [if_pos rfl];have CLF:Zan Tryz.prog 34 [.own ir 0 r.length] ⟨(ir,.arr false 1 (nR r))::stO RB D O io,t⟩ (fun p h'=>p=.sl 1 (nR r)∧h'=⟨(ir,.arr false 1 (nR r))::stO RB D O io,t+2⟩):=by
   refine Zan.frameL (l1:=[(ir,.arr false 1 (nR r))]) (fun p hp y hy=>?_) (stO_cell hRB) (Zan.mono CL ?_)
   ·rw [List.mem_singleton] at hy;subst hy;exact hoff p hp
   ·rintro p h' ⟨rfl,rfl⟩;refine ⟨by show t≤t+2;omega,fun x hx y hy=>?_,fun y hy=>?_,rfl,rfl⟩
    ·rw [List.mem_singleton] at hy;subst hy;exact hoff x hx
    ·rw [List.mem_singleton] at hy;subst hy;rfl
  refine Ct ?_;by_cases hO0:O=[]
  ·subst hO0;rw [stO_nil] at *;have qq:=N8 ir 2 3 4 t (t+1) (t+2) (t+2+1);refine VW_draw2B 2 [] ⟨(ir,.arr false 1 (nR r))::[(4,RB),(3,.dfr D true),(2,.arr false 1 [[.nilsl]])],t+20⟩ rfl (by simp [Heap.le,HL.le,Heap.get,HL.get,qq]) ?_;simp only [vmL,Nat.reduceEqDiff,Nat.reduceAdd,Nat.reduceLT,Nat.reduceLeDiff,Nat.reduceSub,Nat.reduceMul,reduceIte,reduceCtorEq,Int.reduceToNat,DrawB_nil,DrawB_at,DrawB_n,Nat.reduceBEq,Nat.reduceAdd,hqA,zedA,Zax,List.getD_cons_zero,List.getD_cons_succ,qq];refine Zan.mono CLF ?_;rintro p h' ⟨rfl,rfl⟩;simp only [vmL,Nat.reduceEqDiff,Nat.reduceAdd,Nat.reduceLT,Nat.reduceLeDiff,Nat.reduceSub,Nat.reduceMul,reduceIte,reduceCtorEq,Int.reduceToNat,List.getElem?_cons_zero,List.getElem?_cons_succ,VOp.writes,false_implies,implies_true,qq];refine ⟨⟨by omega,fun _=>by omega⟩,by omega,by omega,t+2,t+2+1,by omega,by omega,by omega,by omega,by omega,?_⟩;rw [stO_cons (by simp)];simp [HL.le,Heap.get,HL.get,qq,oR]
   try omega
  ·rw [stO_cons hO0] at *;have ol:=oR_len O;have ot:=oR_take O;have oa:=oR_app O r;generalize oR O=A at *;have qq:ir≠2∧ir≠3∧ir≠4∧ir≠io∧ir≠t∧ir≠(t+1)∧ir≠(t+2)∧ir≠(t+2+1)∧2≠ir∧2≠io∧2≠t∧2≠(t+1)∧2≠(t+2)∧2≠(t+2+1)∧3≠ir∧3≠io∧3≠t∧3≠(t+1)∧3≠(t+2)∧3≠(t+2+1)∧4≠ir∧4≠io∧4≠t∧4≠(t+1)∧4≠(t+2)∧4≠(t+2+1)∧io≠ir∧io≠2∧io≠3∧io≠4∧io≠t∧io≠(t+1)∧io≠(t+2)∧io≠(t+2+1)∧t≠ir∧t≠2∧t≠3∧t≠4∧t≠io∧t≠(t+1)∧t≠(t+2)∧t≠(t+2+1)∧(t+1)≠ir∧(t+1)≠2∧(t+1)≠3∧(t+1)≠4∧(t+1)≠io∧(t+1)≠t∧(t+1)≠(t+2)∧(t+1)≠(t+2+1)∧(t+2)≠ir∧(t+2)≠2∧(t+2)≠3∧(t+2)≠4∧(t+2)≠io∧(t+2)≠t∧(t+2)≠(t+1)∧(t+2)≠(t+2+1)∧(t+2+1)≠ir∧(t+2+1)≠2∧(t+2+1)≠3∧(t+2+1)≠4∧(t+2+1)≠io∧(t+2+1)≠t∧(t+2+1)≠(t+1)∧(t+2+1)≠(t+2):=by and_intros<;>omega
   refine VW_draw2B 2 [] ⟨(ir,.arr false 1 (nR r))::[(io,.arr false 1 A),(4,RB),(3,.dfr D true),(2,.arr false 1 [[.own io 0 O.length]])],t+20⟩ rfl (by simp [Heap.le,HL.le,Heap.get,HL.get,qq]) ?_;simp only [vmL,Nat.reduceEqDiff,Nat.reduceAdd,Nat.reduceLT,Nat.reduceLeDiff,Nat.reduceSub,Nat.reduceMul,reduceIte,reduceCtorEq,Int.reduceToNat,DrawB_nil,DrawB_at,DrawB_n,Nat.reduceBEq,Nat.reduceAdd,hqA,zedA,Zax,List.getD_cons_zero,List.getD_cons_succ,qq];refine Zan.mono CLF ?_;rintro p h' ⟨rfl,rfl⟩;simp only [vmL,Nat.reduceEqDiff,Nat.reduceAdd,Nat.reduceLT,Nat.reduceLeDiff,Nat.reduceSub,Nat.reduceMul,reduceIte,reduceCtorEq,Int.reduceToNat,List.getElem?_cons_zero,List.getElem?_cons_succ,VOp.writes,false_implies,implies_true,ol,ot,qq];refine ⟨⟨by omega,fun _=>by omega⟩,by omega,by omega,by omega,by omega,t+2,t+2+1,by omega,by omega,by omega,by omega,by omega,?_⟩;rw [stO_cons (by simp),oa];simp [HL.le,Heap.get,HL.get,qq]
   try (intro h;omega)
theorem stO_get4 {RB:AB} {D:Nat} {O:List (List Nat)} {io ir:Nat} {x:AB} (hio:4<io) (hir:4<ir) (t:Nat):Heap.get ⟨(ir,x)::stO RB D O io,t⟩ 4=some RB:=by
 unfold stO ooB;split
 ·simp only [Heap.get,HL.get,List.nil_append];rw [if_neg (by omega),if_pos trivial]
 ·simp only [Heap.get,HL.get,List.cons_append,List.nil_append];rw [if_neg (by omega),if_neg (by omega),if_pos trivial]
theorem le_set4 {RA RB:AB} {D:Nat} {O:List (List Nat)} {io ir t:Nat} {x:AB} {h:Heap} (hio:4<io) (hir:4<ir) (H:Heap.le ⟨(ir,x)::stO RA D O io,t⟩ h):Heap.le ⟨(ir,x)::stO RB D O io,t⟩ (h.set 4 RB):=by
 refine ⟨H.1,?_⟩;have h2:=H.2;unfold stO ooB at h2 ⊢;by_cases h0:O=[]
 ·rw [if_pos h0] at h2 ⊢;simp only [List.nil_append,HL.le,Heap.get_set] at h2 ⊢;obtain ⟨a,b,c,d,_⟩:=h2;exact ⟨by rw [if_neg (by omega)];exact a,by rw [if_pos trivial,b];rfl,by rw [if_neg (by omega)];exact c,by rw [if_neg (by omega)];exact d,trivial⟩
 ·rw [if_neg h0] at h2 ⊢;simp only [List.cons_append,List.nil_append,HL.le,Heap.get_set] at h2 ⊢;obtain ⟨a,z,b,c,d,_⟩:=h2;exact ⟨by rw [if_neg (by omega)];exact a,by rw [if_neg (by omega)];exact z,by rw [if_pos trivial,b];rfl,by rw [if_neg (by omega)];exact c,by rw [if_neg (by omega)];exact d,trivial⟩
noncomputable def lpO (l D:Nat) (st:LoopState) (pe:Option Code) (e:Env):AB:=lpR l st pe #[28] (rfAsg (rfIn Tryz.f11)) (rfBody (rfIn Tryz.f11)) D Tryz.f11.ntmps e
theorem ord_round (K : List Int) (hK : K.length ≤ 1000000) (b r : List Nat) (n : Nat) (hn : n = r.length) (h0 : r ≠ []) (h5 : r.length ≤ 5) (hr : permB r.length r) (hb : permB r.length b) (l D : Nat) (F : PV) (O : List (List Nat)) (ir io t : Nat) (hio : 4 < io) (hit : io < t) (hir : 4 < ir) (hirt : ir < t) (hne : io ≠ ir) (hO : O.length ≤ 1000000) :
  AY Tryz.prog l [.own ir 0 n] ⟨(ir,.arr false 1 (nR r))::stO (lpO l D .ready none (envO K b F)) D O io,t⟩ (fun v h'=>v=.bool true∧∃ io' t',4<io'∧io'<t'∧t≤t'∧io'≠ir∧h'=⟨(ir,.arr false 1 (nR r))::stO (lpO l D .ready none (envO K b F)) D (if Zbq r b (fun i=>K.contains (i:Int))=true then O++[r] else O) io',t'⟩):=by
 have B:=ord_body K hK b r n hn h0 h5 hr hb l D (lpO l D .busy none (envO K b F)) (fun fz z h=>by cases h) O ir io t hio hit hir hirt hne hO;have hg4:Heap.get ⟨(ir,.arr false 1 (nR r))::stO (lpO l D .ready none (envO K b F)) D O io,t⟩ 4=some (lpR l .ready none #[28] (rfAsg (rfIn Tryz.f11)) (rfBody (rfIn Tryz.f11)) D Tryz.f11.ntmps (envO K b F)):=stO_get4 hio hir t;refine AY.drop (AY_round (lid:=4) hg4 rfl (fun p hp=>by
  simp only [List.mem_cons,List.not_mem_nil,or_false] at hp;subst hp;exact Nat.le_of_ble_eq_true rfl) ?_)
 refine (?_:VW Tryz.prog ⟨Tryz.f11.ntmps,some l,[],fun _ _=>False⟩ Za6 _ _ _) (rfAsg (rfIn Tryz.f11)) (by kernel_rfl);unfold Za6;try dsimp only [ZM,ZO,ZN,ZG,ZR,ZU]
 refine Zag [4,5,8,9] ?_;refine ⟨trivial,rfl,hg4,?_⟩;have hself:=Zbv (nod_cons (stO_nod (RB:=lpO l D .ready none (envO K b F)) (D:=D) (O:=O) hio) (stO_off hir hne) (.arr false 1 (nR r))) t;have B2:=(VW.weakenH (le_set4 (RA:=lpO l D .ready none (envO K b F)) (RB:=lpO l D .busy none (envO K b F)) hio hir hself) B) (rfBody (rfIn Tryz.f11)) (by kernel_rfl);refine AW.mono B2 ?_;rintro x e h' ⟨rfl,io',t',q1,q2,q3,q4,q5⟩;refine ⟨Heap.le_get q5 4 _ (stO_get4 q1 hir _),⟨(ir,.arr false 1 (nR r))::stO (lpO l D .ready none (envO K b F)) D (if Zbq r b (fun i=>K.contains (i:Int))=true then O++[r] else O) io',t'⟩,?_,rfl,io',t',q1,q2,q3,q4,rfl⟩;exact le_set4 q1 hir q5
end Go.Proofs.YtldogpfookkbaaaGreatDoor.w
namespace Go.Proofs.YtldogpfookkbaaaGreatDoor.w
open Go Go.RowKit Go.Shelf Go.Sort
set_option maxRecDepth 100000
attribute [local go_sem] Oper.semAt_some
def upto {α:Type} (f:Nat→α) (k:Nat):List α:=(List.range k).map f
theorem upto_succ {α:Type} (f:Nat→α) (k:Nat):upto f (k+1)=upto f k++[f k]:=by simp [upto,List.range_succ]
theorem upto_length {α:Type} (f:Nat→α) (k:Nat):(upto f k).length=k:=by simp [upto]
theorem upto_all (zs:List Int):upto (fun j=>zs[j]?.getD 0) zs.length=zs:=by
 apply List.ext_getElem
 ·simp [upto]
 ·intro i h1 h2;simp [upto,h2]
theorem upto_take (zs:List Int) {k:Nat} (hk:k≤zs.length):upto (fun j=>zs[j]?.getD 0) k=zs.take k:=by
 apply List.ext_getElem
 ·simp [upto,hk]
 ·intro i h1 h2;have:i<zs.length:=by simp [upto] at h1;omega
  simp [upto,this]
set_option maxHeartbeats 2000000 in
theorem values1_in (F : Fence) (n : Nat) (h7 : F.fn 52) (hro : F.round = none) (hn : 1 ≤ n) (l Bs n₀ b off len cap : Nat) (zs : List Int) (hreach : len * 8 ≤ 140737488351232) (hb : b < n₀) (J Jx : List Int → World → Prop)
  (hY:∀ pre x W,J pre W→pre.length<len→YieldAt F (n-1) Tryz.prog l #[.int .i64 x] W fun e W' =>
   (e=.returned (.bool true)∧J (pre++[x]) W'∧Below n₀ W W')∨(e=.returned (.bool false)∧Jx (pre++[x]) W'))
  (W:World) (hBs:W.cell? ⟨Bs,0,none⟩=some (.slice (some ⟨b,off,none⟩) len cap)) (hc:∀ j,j<len→W.cell? ⟨b,off+j,none⟩=some (.int .i64 (zs[j]?.getD 0))) (h0:J [] W) :
  CallsIn F n Tryz.prog 52 #[.func (.yield l) #[] #[],.pointer (some ⟨Bs,0,none⟩)] W fun e W'=>(∃ v,e=.returned v) ∧
   ((∃ ys,ys=upto (fun j=>zs[j]?.getD 0) len∧J ys W')∨(∃ pre,(∃ k,k≤len∧pre=upto (fun j=>zs[j]?.getD 0) k)∧Jx pre W')):=by
 refine callsIn_of_wp Tryz.func52 rfl h7 ?_ hro;simp only [Tryz.ntmps52,List.size_toArray,List.length_cons,List.length_nil,Nat.reduceAdd,Nat.reduceSub,Array.replicate_succ,Array.replicate_zero,List.push_toArray,List.append_toArray,List.nil_append,List.cons_append]
 gi_wp2
 gi_loopw [7] (fun i wr=>∃ k:Nat,k≤len∧i=.int .i64 k∧J (upto (fun j=>zs[j]?.getD 0) k) wr∧Below n₀ W wr)
  (fun i _=>len-(intOf i).toNat)
 case atStart=>exact ⟨0,Nat.zero_le _,rfl,h0,Below.refl _ _⟩
 case round =>
  obtain ⟨k,hk,rfl,hJs,hnx⟩:=hrel;have hcx:k<len→wr.cell? ⟨b,off+k,none⟩=some (.int .i64 (zs[k]?.getD 0)):=fun h=>(hnx.cell (p:=⟨b,off+k,none⟩) hb).trans (hc k h);by_cases hlt:k<len
  ·obtain ⟨fn,tmps,assign,body,hy,hR⟩:=hY _ (zs[k]?.getD 0) wr hJs (by rw [upto_length];exact hlt);have hcx':=hcx hlt
   gi_wp2
   refine hR.mono ?_;rintro e W3 (⟨rfl,hJ3,hk3⟩|⟨rfl,hJx3⟩)
   ·gi_wp2
    go_roundw
    case rel=>exact ⟨k+1,by omega,by simp,by rw [upto_succ];exact hJ3,hnx.trans hk3⟩
    case measure=>simp [intOf];omega
   ·gi_wp2
    refine bodyPost_ret (results_none rfl _ _ _) rfl ?_;exact ⟨⟨_,rfl⟩,.inr ⟨_,⟨k+1,by omega,(upto_succ _ _).symm⟩,hJx3⟩⟩
  ·obtain rfl:k=len:=by omega
   gi_wp2
   go_end0
   exact ⟨⟨_,rfl⟩,.inl ⟨_,rfl,hJs⟩⟩
def IntsAt (n₀:Nat) (W:World) (sv:Value) (zs:List Int):Prop :=
 (∃ a cap,sv=.slice a 0 cap∧zs=[])∨∃ b off cap,sv=.slice (some ⟨b,off,none⟩) zs.length cap∧b<n₀∧∀ j,j<zs.length→W.cell? ⟨b,off+j,none⟩=some (.int .i64 (zs[j]?.getD 0))
theorem IntsAt.below {n₀:Nat} {A B:World} (h:Below n₀ A B) {sv:Value} {zs:List Int}:IntsAt n₀ A sv zs→IntsAt n₀ B sv zs
 | .inl e=>.inl e
 | .inr ⟨b,off,cap,e,hb,hc⟩=>.inr ⟨b,off,cap,e,hb,fun j hj=>(h.cell (p:=⟨b,off+j,none⟩) hb).trans (hc j hj)⟩
set_option maxHeartbeats 1000000 in
theorem values1_nil_in (F : Fence) (n : Nat) (h7 : F.fn 52) (hro : F.round = none) (l Bs : Nat) (a : Option Addr) (cap : Nat) (J : List Int → World → Prop) (W : World) (hBs : W.cell? ⟨Bs, 0, none⟩ = some (.slice a 0 cap)) (h0 : J [] W) :
  CallsIn F n Tryz.prog 52 #[.func (.yield l) #[] #[],.pointer (some ⟨Bs,0,none⟩)] W fun e W'=>(∃ v,e=.returned v)∧J [] W':=by
 refine callsIn_of_wp Tryz.func52 rfl h7 ?_ hro;simp only [Tryz.ntmps52,List.size_toArray,List.length_cons,List.length_nil,Nat.reduceAdd,Nat.reduceSub,Array.replicate_succ,Array.replicate_zero,List.push_toArray,List.append_toArray,List.nil_append,List.cons_append]
 gi_wp2
 gi_loopw [7] (fun i wr=>i=.int .i64 0∧J [] wr) (fun _ _=>0)
 case atStart=>exact ⟨rfl,h0⟩
 case round =>
  obtain ⟨rfl,hJs⟩:=hrel
  gi_wp2
  go_end0
  exact ⟨⟨_,rfl⟩,hJs⟩
set_option maxHeartbeats 1000000 in
theorem values_in (F : Fence) (n : Nat) (h5 : F.fn 28) (hro : F.round = none) (a : Option Addr) (len cap : Nat) (w : World) :
  CallsIn F n Tryz.prog 28 #[.slice a len cap] w fun e w'=>e=.returned (.func (.func 52) #[] #[.pointer (some ⟨w.heap.size,0,none⟩)])∧w'=w.alloc (.cells #[.slice a len cap] 22):=by
 refine callsIn_of_wp Tryz.func28 rfl h5 ?_ hro;simp only [Tryz.ntmps28,List.size_toArray,List.length_cons,List.length_nil,Nat.reduceAdd,Nat.reduceSub,Array.replicate_succ,Array.replicate_zero,List.push_toArray,List.append_toArray,List.nil_append,List.cons_append]
 gi_wp2
 go_ret
 exact ⟨rfl,rfl⟩
theorem values_stops (F : Fence) (n : Nat) (h7 : F.fn 52) (hro : F.round = none) (hn : 1 ≤ n) (Bs n₀ : Nat) (sv : Value) (zs : List Int) (hreach : zs.length * 8 ≤ 140737488351232) (w : World) (hBs : Bs < w.heap.size) (hn₀ : n₀ ≤ w.heap.size)
  (hc:w.cell? ⟨Bs,0,none⟩=some sv) (hI:IntsAt n₀ w sv zs) :
  SeqStopsK F n Tryz.prog 52 #[.pointer (some ⟨Bs,0,none⟩)] (fun x:Int=>#[Value.int .i64 x]) (Below n₀) (fun ys=>ys=zs) (fun pre=>pre <+: zs) zs.length w:=fun l J Jx W hW _ _ hY h0=>by
 have hc':=(hW.cell (p:=⟨Bs,0,none⟩) hBs).trans hc;rcases hI.below (hW.mono hn₀) with ⟨a,cap,rfl,rfl⟩|⟨b,off,cap,rfl,hb,hcs⟩
 ·exact (values1_nil_in F n h7 hro l Bs a cap J W hc' h0).mono fun e W' ⟨he,hj⟩=>⟨he,.inl ⟨_,rfl,hj⟩⟩
 ·refine (values1_in F n h7 hro hn l Bs n₀ b off zs.length cap zs hreach hb J Jx hY W hc' hcs h0).mono ?_;rintro e W' ⟨he,⟨ys,rfl,hj⟩|⟨pre,⟨k,hk,rfl⟩,hj⟩⟩
  ·exact ⟨he,.inl ⟨_,upto_all zs,hj⟩⟩
  ·exact ⟨he,.inr ⟨_,by rw [upto_take zs hk];exact List.take_prefix _ _,hj⟩⟩
end Go.Proofs.YtldogpfookkbaaaGreatDoor.w
namespace Go.Proofs.YtldogpfookkbaaaGreatDoor.w
open Go Go.RowKit Go.Shelf Go.Sort
set_option maxRecDepth 100000
attribute [local go_sem] Oper.semAt_some
theorem infoI:(Tryz.prog.info? 3).map (fun i=>(i.zero,i.size,i.bytes))=some (some (.int .i64 0),1,8):=by kernel_rfl
set_option maxHeartbeats 4000000 in
theorem appendSeq_in (F : Fence) (n : Nat) (h1 : F.fn 64) (hro : F.round = none) (hn : 2 ≤ n) (g : Nat) (lb : Array Value) (hFg : F.fn g) (eg : ∀ args w, (callFunc g args).run Tryz.prog w = .ok (.enter g args) w)
  (S Sp:List Int→Prop) (N:Nat) (hN:N≤maxLen) (hNb:N*8≤140737488355328) (hS:∀ l,S l→l.length≤N) (w:World) (hseq:SeqStopsK F (n-1) Tryz.prog g lb (fun x:Int=>#[Value.int .i64 x]) (Below w.heap.size) S Sp N w) :
  CallsIn F n Tryz.prog 64 #[.slice none 0 0,.func (.func g) #[] lb] w fun e w'=>∃ (v:Value) (ss:List Int),e=.returned v∧S ss∧w'.ownsRow w.heap.size 3 1 v ss.length (ss.map (Value.int .i64))∧(v=.slice none 0 0↔ss=[])∧Below w.heap.size w w':=by
 have h1':1≤n:=by omega
 obtain ⟨i0,hi,hz0,hz1,hz2⟩:=info_parts infoI;refine callsIn_of_wp_marks Tryz.func64 rfl h1 ?_ hro;simp only [Tryz.ntmps64,List.size_toArray,List.length_cons,List.length_nil,Nat.reduceAdd,Nat.reduceSub,Array.replicate_succ,Array.replicate_zero,List.push_toArray,List.append_toArray,List.nil_append,List.cons_append]
 gi_wp2
 have bO:=Boxed.new w 22 (.slice none 0 0);have hB0:Below w.heap.size w (w.alloc (.cells #[.slice none 0 0] 22)):=(Below.refl _ w).alloc (Nat.le_refl _) _;refine wpIn_rangeFunc_ownG hro h1' (gf:=g) (lb:=lb) rfl hFg eg hseq belowK_t (belowK_b (by simp)) hB0 (fun _=>rfl)
  (fun pre W=>(∃ v,Boxed W w.heap.size 22 v∧W.ownsRow w.heap.size 3 1 v pre.length (pre.map (Value.int .i64))∧(v=.slice none 0 0↔pre=[]))∧Below w.heap.size w W)
  (fun _ _ _=>False)
  (OwnFrom.and (Own.from (holdsRow_own w.heap.size w.heap.size 22 3 1 (fun pre=>pre.length) (fun pre=>pre.map (Value.int .i64)) (fun pre v=>v=.slice none 0 0↔pre=[])) _) (ownFrom_below (Nat.le_refl _) (by simp)))
  (fun _ _ _ _ _ hs _ _=>hs)
  ⟨⟨_,bO,World.ownsRow_nil _ _ _ _,by simp⟩,hB0⟩
  (fun x=>{ tmps:=#[.slice none 0 0,.func (.func g) #[] lb,.pointer (some ⟨w.heap.size,0,none⟩),undef,.slice none 0 0,.int .i64 x,.func (.func g) #[] lb,.int .i64 x,undef,undef,undef,undef,undef],defers:=[] }) ?assign ?body ?done ?stop
 case assign =>
  intro l x W K hK
  gi_wp2
  exact hK
 case body =>
  rintro l pre x W ⟨⟨v,hv,hrow,hnil⟩,hB⟩ hlt;have hc:=hv.cell
  gi_wp2_with (gi_at_builtin;refine wpListIn_append_own _ rfl _ _ 22 rfl w.heap.size 3 i0 (.int .i64 0) 1 8 Tryz.underlying22 hi hz0 hz1 hz2 rfl (by decide) _ _ _ rfl (hrow.alloc _) ⟨W.heap.size,0,none⟩ 1 1 [.int .i64 x] rfl rfl (cell_one_new _ _ _) (by simp [Value.oneCell']) (by omega) (by omega) (by have:=hB.size;simp;omega) ?_;intro v' w1 hown' hgrow _;obtain ⟨g',cap',rfl⟩:=ownsRow_succ hown';obtain ⟨hv1,hv2,hr2,hk2,hb2⟩:=hv.appended (by decide) hrow hB.size (Nat.le_refl _) hown' hgrow;have hc1:=hv1.cell;have hf1:=hv1.frozen)
  exact ⟨hk2.from _,hb2,⟨_,hv2,by simpa using hr2,by simp⟩,hB.trans hb2⟩
 case done =>
  rintro D ys W hD hS ⟨⟨v,hv,hrow,hnil⟩,hB⟩ hK;have hc:=hv.cell
  gi_wp2
  refine ⟨by simp,.inl ⟨_,_,rfl,run_takeDeferred hK,?_⟩⟩;exact ⟨_,results_tmp rfl _ _ _,v,ys,rfl,hS,ownsRow_putObj hrow _ hK rfl,hnil,hB.trans (belowK_b (w:=w) (Nat.le_refl _) W D _ _ (by simp at hD;omega) hK rfl rfl)⟩
 case stop =>
  rintro D c pre W _ _ h _;exact h.elim
set_option maxHeartbeats 1000000 in
theorem collect_in (F : Fence) (n : Nat) (h8 : F.fn 50) (h11 : F.fn 64) (hro : F.round = none) (hn : 3 ≤ n) (g : Nat) (lb : Array Value) (hFg : F.fn g) (eg : ∀ args w, (callFunc g args).run Tryz.prog w = .ok (.enter g args) w)
  (S Sp:List Int→Prop) (N:Nat) (hN:N≤maxLen) (hNb:N*8≤140737488355328) (hS:∀ l,S l→l.length≤N) (w:World) (hseq:SeqStopsK F (n-1-1) Tryz.prog g lb (fun x:Int=>#[Value.int .i64 x]) (Below w.heap.size) S Sp N w) :
  CallsIn F n Tryz.prog 50 #[.func (.func g) #[] lb] w fun e w'=>∃ (v:Value) (ss:List Int),e=.returned v∧S ss∧w'.ownsRow w.heap.size 3 1 v ss.length (ss.map (Value.int .i64))∧(v=.slice none 0 0↔ss=[])∧Below w.heap.size w w':=by
 have h1:1≤n:=by omega
 refine callsIn_of_wp Tryz.func50 rfl h8 ?_ hro;simp only [Tryz.ntmps50,List.size_toArray,List.length_cons,List.length_nil,Nat.reduceAdd,Nat.reduceSub,Array.replicate_succ,Array.replicate_zero,List.push_toArray,List.append_toArray,List.nil_append,List.cons_append]
 gi_wp2_with (gi_at_call 64;refine (appendSeq_in F (n-1) h11 hro (by omega) g lb hFg eg S Sp N hN hNb hS _ hseq).mono ?_;rintro e w' ⟨v,ss,rfl,hS,hrow,hnil,hb⟩)
 go_ret
 exact ⟨_,ss,rfl,hS,hrow,hnil,hb⟩
end Go.Proofs.YtldogpfookkbaaaGreatDoor.w
namespace Go.VM
open Go
abbrev forever:Int:=1048577
def CanonF:Int→List Sp→Prop
 | _,[]=>True
 | b,s::r=>b<s.frm∧s.frm<s.to∧s.to≤forever∧CanonF s.to r
theorem CanonF.mono {b b':Int} (hb:b≤b'):∀ {l:List Sp},CanonF b' l→CanonF b l
 | [],_=>trivial
 | s::r,h=>⟨Int.lt_of_le_of_lt hb h.1,h.2⟩
def mergeS:List Sp→Sp→List Sp
 | [],x=>[x]
 | s::r,x=>if x.frm≤s.to then ⟨s.frm,if s.to<x.to then x.to else s.to⟩::r else x::s::r
end Go.VM
namespace Go.VM
open Go
def accS (ss:List Sp) (i:Nat):List Sp:=(ss.take i).foldl mergeS []
def mergeAll (ss:List Sp):List Sp:=(ss.foldl mergeS []).reverse
structure MS (ss : List Sp) (i : Nat) (rows : List Sp) (n : Nat) : Prop where
 len : rows.length = ss.length
 le : n ≤ i
 le2 : i ≤ ss.length
 cnt : n = (accS ss i).length
 tk : rows.take n = (accS ss i).reverse
 dr : rows.drop i = ss.drop i
theorem MS.get {ss rows:List Sp} {i n:Nat} (h:MS ss i rows n) (hi:i<ss.length):rows[i]?=some ss[i]:=by
 have e:(rows.drop i)[0]?=(ss.drop i)[0]?:=by rw [h.dr]
 rw [List.getElem?_drop,List.getElem?_drop] at e;exact e.trans (List.getElem?_eq_getElem hi)
theorem accS_succ {ss:List Sp} {i:Nat} (hi:i<ss.length):accS ss (i+1)=mergeS (accS ss i) ss[i]:=by
 unfold accS;rw [List.take_add_one,List.getElem?_eq_getElem hi,List.foldl_append];rfl
theorem drop_of_set {α:Type} {l m:List α} {i k:Nat} {x:α} (h:l.drop i=m.drop i) (hk:k≤i):(l.set k x).drop (i+1)=m.drop (i+1):=by
 rw [List.drop_set_of_lt (by omega)];have:=congrArg (List.drop 1) h
 simpa [List.drop_drop] using this
theorem MS.top {ss rows:List Sp} {i n:Nat} (h:MS ss i rows (n+1)):∃ s r,accS ss i=s::r∧rows[n]?=some s∧r.length=n∧rows.take n=r.reverse:=by
 have h1:=h.cnt;have h2:=h.tk;cases ha:accS ss i with
 | nil=>rw [ha] at h1;cases h1
 | cons s r =>
  rw [ha] at h1 h2;have hr:r.length=n:=by simpa using h1.symm
  refine ⟨s,r,rfl,?_,hr,?_⟩
  ·have:=congrArg (fun l=>l[n]?) h2
   simpa [List.getElem?_take,hr] using this
  ·have:=congrArg (List.take n) h2;rw [List.take_take,Nat.min_eq_left (Nat.le_succ n)] at this;rw [this];simp [← hr]
theorem MS.push {ss rows : List Sp} {i n : Nat} (h : MS ss i rows n) (hi : i < ss.length) (hc : ∀ m s, n = m + 1 → rows[m]? = some s → ¬ ss[i].frm ≤ s.to) :
  MS ss (i+1) (rows.set n ss[i]) (n+1):=by
 have hn:=h.le;have hl:=h.len;have ha:accS ss (i+1)=ss[i]::accS ss i:=by
  rw [accS_succ hi];cases n with
  | zero=>have:=h.cnt;rw [List.eq_nil_of_length_eq_zero this.symm];rfl
  | succ m =>
   obtain ⟨s,r,h1,h2,h3,h4⟩:=h.top;have:=hc m s rfl h2;rw [h1];simp [mergeS,this]
 refine ⟨by simpa using hl,by omega,by omega,by rw [ha];simp [← h.cnt],?_,drop_of_set h.dr hn⟩;rw [ha,List.take_add_one,List.take_set_of_le (Nat.le_refl _),h.tk,List.getElem?_set_self (by omega)];simp
theorem MS.fin {ss rows:List Sp} {n:Nat} (h:MS ss ss.length rows n):rows.take n=mergeAll ss:=by
 rw [h.tk];simp [accS,mergeAll]
def spOk (s:Sp):Prop:=0≤s.frm∧s.frm<s.to∧s.to≤forever
def RevC:List Sp→Prop
 | []=>True
 | [s]=>spOk s
 | s::t::r=>spOk s∧t.to<s.frm∧RevC (t::r)
theorem RevC.tail:∀ {s:Sp} {r:List Sp},RevC (s::r)→RevC r
 | _,[],_=>trivial
 | _,_::_,h=>h.2.2
theorem RevC.ok:∀ {s:Sp} {r:List Sp},RevC (s::r)→spOk s
 | _,[],h=>h
 | _,_::_,h=>h.1
theorem RevC.below:∀ {r:List Sp} {s:Sp},RevC (s::r)→∀ t∈r,t.to<s.frm
 | [],_,_,_,h=>by cases h
 | u::r,s,h,t,ht=>by
  rcases List.mem_cons.1 ht with rfl|ht
  ·exact h.2.1
  ·have:=RevC.below h.2.2 t ht;have:=h.2.1;have:=h.2.2.ok.2.1;omega
end Go.VM
namespace Go.VM
open Go
end Go.VM
namespace Go.Proofs.YtldogpfookkbaaaGreatDoor.w
open Go Go.VM
theorem lt_ext:∀ {l m:List Int},l.Pairwise (·<·)→m.Pairwise (·<·)→(∀ x,x∈l↔x∈m)→l=m
  | [],[],_,_,_=>rfl
  | [],b::m,_,_,h=>absurd ((h b).2 List.mem_cons_self) (by simp)
  | a::l,[],_,_,h=>absurd ((h a).1 List.mem_cons_self) (by simp)
  | a::l,b::m,h1,h2,h=>by
    rw [List.pairwise_cons] at h1 h2;have hab:a=b:=by
      rcases List.mem_cons.1 ((h a).1 List.mem_cons_self) with e|e
      · exact e
      · rcases List.mem_cons.1 ((h b).2 List.mem_cons_self) with e2|e2
        · exact e2.symm
        · have:=h1.1 b e2;have:=h2.1 a e;omega
    subst hab;rw [lt_ext h1.2 h2.2 fun x=>?_];constructor
    · intro hx
      rcases List.mem_cons.1 ((h x).1 (List.mem_cons_of_mem _ hx)) with rfl|e
      · exact absurd (h1.1 _ hx) (by omega)
      · exact e
    · intro hx
      rcases List.mem_cons.1 ((h x).2 (List.mem_cons_of_mem _ hx)) with rfl|e
      · exact absurd (h2.1 _ hx) (by omega)
      · exact e
def srtI (l:List Int):List Int:=l.mergeSort fun x y=>decide (x≤y)
theorem srtI_sorted (zs:List Int):(srtI zs).Pairwise (·≤·):=by
  have:=List.pairwise_mergeSort (le:=fun a b:Int=>decide (a≤b)) (fun a b c h1 h2=>by simp at *;omega) (fun a b=>by simp;omega) zs;exact this.imp (by simp)
end Go.Proofs.YtldogpfookkbaaaGreatDoor.w
