import Derived.Test.YtldogpfookkbaaaGreatDoorB5
import Derived.Test.YtldogpfookkbaaaGreatDoorVmBj
import Derived.RangeFuncBox
import Derived.Maps.AppendAt
import Derived.Lib.SlKeysI
set_option linter.all false
set_option maxRecDepth 20000
set_option maxHeartbeats 0
namespace Go.VM
open Go
def oR(O:List (List Nat)):List (List PV):=O.map fun r=>[.sl 1 (nR r)]
theorem Zvi(O:List (List Nat)):(oR O).length=O.length:=Zyc _
theorem Xea(O:List (List Nat)):List.take O.length (oR O)=oR O:=Zyi (by rw[Zvi];exact Nat.le_refl _)
theorem oR_app(O:List (List Nat))(r:List Nat):oR (O++[r])=oR O++[[.sl 1 (nR r)]]:=by unfold oR;rw[List.map_append];rfl
def ooV(O:List (List Nat))(io:Nat):PV:=if O=[]then .nilsl else .own io 0 O.length
def ooB(O:List (List Nat))(io:Nat):List (Nat×AB):=if O=[]then[]else[(io,.arr false 1 (oR O))]
def stO(RB:AB)(D:Nat)(O:List (List Nat))(io:Nat):List (Nat×AB):=ooB O io++[(4,RB),(3,.dfr D true),(2,.arr false 1 [[ooV O io]])]
theorem Zo2(RB:AB)(D io:Nat):stO RB D [] io=[(4,RB),(3,.dfr D true),(2,.arr false 1 [[.nilsl]])]:=rfl
theorem Zkf{RB:AB}{D:Nat}{O:List (List Nat)}{io:Nat}(h:O≠[]):stO RB D O io=[(io,.arr false 1 (oR O)),(4,RB),(3,.dfr D true),(2,.arr false 1 [[.own io 0 O.length]])]:=by
 unfold stO ooB ooV;rw[if_neg h,if_neg h];rfl
theorem Zz1{RB:AB}{D:Nat}{O:List (List Nat)}{io x:Nat}(h4:4<x)(hx:io≠x):Off (stO RB D O io) x:=by
 intro q hq;unfold stO ooB at hq;split at hq
 ·simp only[List.nil_append,Zyb,Zya,or_false]at hq;rcases hq with rfl|rfl|rfl<;>simp only[ne_eq]<;>omega
 ·simp only[List.cons_append,List.nil_append,Zyb,Zya,or_false]at hq;rcases hq with rfl|rfl|rfl|rfl<;>simp only[ne_eq]<;>omega
theorem Zz2{RB:AB}{D:Nat}{O:List (List Nat)}{io:Nat}(h:4<io):Nod (stO RB D O io):=by
 unfold stO ooB;split
 ·simp[Nod]
 ·simp[Nod];omega
theorem stO_lt{RB:AB}{D:Nat}{O:List (List Nat)}{io t:Nat}(h4:4<io)(ht:io<t):∀q∈stO RB D O io,q.1<t:=by
 intro q hq;unfold stO ooB at hq;split at hq
 ·simp only[List.nil_append,Zyb,Zya,or_false]at hq;rcases hq with rfl|rfl|rfl<;>simp only[]<;>omega
 ·simp only[List.cons_append,List.nil_append,Zyb,Zya,or_false]at hq;rcases hq with rfl|rfl|rfl|rfl<;>simp only[]<;>omega
theorem Z2c{RB:AB}{D:Nat}{O:List (List Nat)}{io:Nat}(hR:∀fz z,RB≠.arr fz z []):∀q∈stO RB D O io,∀fz z,q.2≠.arr fz z []:=by
 intro q hq fz z;unfold stO ooB at hq;split at hq
 ·simp only[List.nil_append,Zyb,Zya,or_false]at hq;rcases hq with rfl|rfl|rfl
  ·exact hR fz z
  ·simp
  ·simp
 ·rename_i h;simp only[List.cons_append,List.nil_append,Zyb,Zya,or_false]at hq;rcases hq with rfl|rfl|rfl|rfl
  ·simp only[ne_eq,AB.arr.injEq,not_and];intro _ _ e;unfold oR at e;exact h (by simpa using e)
  ·exact hR fz z
  ·simp
  ·simp
end Go.VM
namespace Go.Proofs.w
open Go Go.VM
def Y91:VC:=(ZR [Yw 1 1 0,ZO 2 (.mv (.c .nilfn))] (ZR [ZO 3 (.mkfn (.func 53) [] [.t 1]),ZM 2 3] .ret))
def Y92:VC:=(.region [ZM 9 28] false)
def Y93:VC:=(.block 1 (.seq (.region [ZM 29 9,Yl 30 5,Yl 31 4,Yc 32 33 [31],Yc 33 32 [29,30,32]] true) (YC 33 (.draw2 [Yl 34 8,ZM 35 9,Yc 36 34 [35],ZO 37 (.bslice 1 1 [.nilsl] [(0,(.t 36))]),ZO 38 (.app 1 24 [.nilsl] false (.t 34) (.t 37)),Ys 1 8 38] [true,true,true,true,false,false]) .skip)))
theorem Z4b(n:Nat):Closed (.fn (.func 53) [] [.ro [pI n]]):=Zue (by simp) (by
 intro x hx;rw[Zyr]at hx;subst hx;exact Zbf (by intro y hy;rw[Zyr]at hy;subst hy;exact cI _))
theorem Zvj(n:Nat):Tc 31 [pI n] (.fn (.func 53) [] [.ro [pI n]]):=by
 refine Zac ?_ (Z4b n) (by intro y hy;rw[Zyr]at hy;subst hy;exact cI _);refine Gn (vc:=Y91) [.t 2] Tryz.func31 ?_;simp only[Y91,YY];refine Rp0 [1,2] ?_;refine Rp0 [2] ?_;refine Tp0 ?_;refine View.fn rfl rfl (fun j hj=>absurd hj (Nat.not_lt_zero _)) (fun j hj=>?_);obtain rfl:j=0:=by simp at hj;omega
 exact View.loc (z:=1) (fz:=false) (es:=[[pI n]]) rfl (by simp) rfl (by simp)
def Zp0(K:List Int)(b:List Nat)(F:PV):Env:=[(4,.ro [.sl 1 (zR K)]),(5,.ro [.sl 1 (nR b)]),(8,.loc 2 0 0),(27,F)]
def bodyO(K:List Int)(b:List Nat)(ir n:Nat):Env:=[(4,.ro [.sl 1 (zR K)]),(5,.ro [.sl 1 (nR b)]),(8,.loc 2 0 0),(9,.own ir 0 n)]
theorem Xa8(K:List Int)(hK:K.length≤1000000)(b r:List Nat)(n:Nat)(hn:n=r.length)(h0:r≠[])(h5:r.length≤5)(hr:Zot r.length r)(hb:Zot r.length b)(l D:Nat)(RB:AB)(hRB:∀fz z,RB≠.arr fz z [])(O:List (List Nat))(ir io t:Nat)(hio:4<io)(hit:io<t)(hir:4<ir)(hirt:ir<t)(hne:io≠ir)(hO:O.length≤1000000):
  VW Tryz.prog ⟨Tryz.f11.ntmps,some l,[],fun _ _=>False⟩ Y93 (fun x _ h'=>x=.normal∧∃io' t',4<io'∧io'<t'∧t≤t'∧io'≠ir∧Heap.le ⟨(ir,.arr false 1 (nR r))::stO RB D (if Za4 r b (fun i=>K.contains (i:Int))=true then O++[r]else O) io',t'⟩ h') (bodyO K b ir n) ⟨(ir,.arr false 1 (nR r))::stO RB D O io,t⟩:=by
 have KE:=Zsw K hK;have KP:=Zsx r b K hr hb h5;have hl:=Zbw r;have CL:=Z7s r ir n t hirt hn h0 h5;subst hn;unfold Y93 bodyO;refine Zab ?_;refine Zaa (Ziv [8,9,33] ⟨[(ir,.arr false 1 (nR r))],t⟩ (by simp[Vh]) ?_);refine Sp0 ?_;refine⟨_,.inl KE,?_⟩
 skip
 refine⟨_,.inr ⟨[.sl 1 (nR r),.sl 1 (nR b),.agg (Zdl K)],⟨View.own_all (fz:=false) (by simp[Vh]) hl.symm,Vr,Vr,trivial⟩,KP,Zbs _⟩,?_⟩
 skip
 have hoff:=Zz1 (RB:=RB) (D:=D) (O:=O) hir hne;have hnod:=Zz2 (RB:=RB) (D:=D) (O:=O) hio;cases hk:Za4 r b (fun i=>K.contains (i:Int))with
 |false=>
  rw[if_neg Bool.false_ne_true];refine Fp0 ?_;refine⟨io,t,hio,hit,Nat.le_refl _,hne,Nat.le_refl _,HL.le_tail1 hnod hoff _⟩
 | true=>
  rw[if_pos rfl];have CLF:Zam Tryz.prog 34 [.own ir 0 r.length] ⟨(ir,.arr false 1 (nR r))::stO RB D O io,t⟩ (fun p h'=>p=.sl 1 (nR r)∧h'=⟨(ir,.arr false 1 (nR r))::stO RB D O io,t+2⟩):=by
   refine Zam.frameL (l1:=[(ir,.arr false 1 (nR r))]) (fun p hp y hy=>?_) (Z2c hRB) (Zam.mono CL ?_)
   ·rw[Zyr]at hy;subst hy;exact hoff p hp
   ·rintro p h' ⟨rfl,rfl⟩;refine⟨by show t≤t+2;omega,fun x hx y hy=>?_,fun y hy=>?_,rfl,rfl⟩
    ·rw[Zyr]at hy;subst hy;exact hoff x hx
    ·rw[Zyr]at hy;subst hy;rfl
  refine Ct ?_;by_cases hO0:O=[]
  ·subst hO0;rw[Zo2]at*;have qq:=N8 ir 2 3 4 t (t+1) (t+2) (t+2+1);refine Zo0 2 [] ⟨(ir,.arr false 1 (nR r))::[(4,RB),(3,.dfr D true),(2,.arr false 1 [[.nilsl]])],t+20⟩ rfl (by simp[Vh,qq]) ?_;simp only[vmL,Nat.reduceEqDiff,Nat.reduceAdd,Nat.reduceLT,Nat.reduceLeDiff,Nat.reduceMul,Zo1,Zsz,Zz0,Nat.reduceBEq,Nat.reduceAdd,hqA,zedA,Za2,List.getD_cons_zero,List.getD_cons_succ,qq];refine Zam.mono CLF ?_;rintro p h' ⟨rfl,rfl⟩;simp only[vmL,Nat.reduceEqDiff,Nat.reduceLT,Nat.reduceLeDiff,Zyp,Zyo,VOp.writes,false_implies,implies_true,qq];refine⟨⟨by omega,fun _=>by omega⟩,by omega,by omega,t+2,t+2+1,by omega,by omega,by omega,by omega,by omega,?_⟩;rw[Zkf (by simp)];simp[HL.le,Heap.get,HL.get,qq,oR]
   try omega
  ·rw[Zkf hO0]at*;have ol:=Zvi O;have ot:=Xea O;have oa:=oR_app O r;generalize oR O=A at*;have qq:ir≠2∧ir≠3∧ir≠4∧ir≠io∧ir≠t∧ir≠(t+1)∧ir≠(t+2)∧ir≠(t+2+1)∧2≠ir∧2≠io∧2≠t∧2≠(t+1)∧2≠(t+2)∧2≠(t+2+1)∧3≠ir∧3≠io∧3≠t∧3≠(t+1)∧3≠(t+2)∧3≠(t+2+1)∧4≠ir∧4≠io∧4≠t∧4≠(t+1)∧4≠(t+2)∧4≠(t+2+1)∧io≠ir∧io≠2∧io≠3∧io≠4∧io≠t∧io≠(t+1)∧io≠(t+2)∧io≠(t+2+1)∧t≠ir∧t≠2∧t≠3∧t≠4∧t≠io∧t≠(t+1)∧t≠(t+2)∧t≠(t+2+1)∧(t+1)≠ir∧(t+1)≠2∧(t+1)≠3∧(t+1)≠4∧(t+1)≠io∧(t+1)≠t∧(t+1)≠(t+2)∧(t+1)≠(t+2+1)∧(t+2)≠ir∧(t+2)≠2∧(t+2)≠3∧(t+2)≠4∧(t+2)≠io∧(t+2)≠t∧(t+2)≠(t+1)∧(t+2)≠(t+2+1)∧(t+2+1)≠ir∧(t+2+1)≠2∧(t+2+1)≠3∧(t+2+1)≠4∧(t+2+1)≠io∧(t+2+1)≠t∧(t+2+1)≠(t+1)∧(t+2+1)≠(t+2):=by and_intros<;>omega
   refine Zo0 2 [] ⟨(ir,.arr false 1 (nR r))::[(io,.arr false 1 A),(4,RB),(3,.dfr D true),(2,.arr false 1 [[.own io 0 O.length]])],t+20⟩ rfl (by simp[Vh,qq]) ?_;simp only[vmL,Nat.reduceEqDiff,Nat.reduceAdd,Nat.reduceLT,Nat.reduceLeDiff,Zo1,Zsz,Zz0,Nat.reduceBEq,Nat.reduceAdd,hqA,zedA,Za2,List.getD_cons_zero,List.getD_cons_succ,qq];refine Zam.mono CLF ?_;rintro p h' ⟨rfl,rfl⟩;simp only[vmL,Nat.reduceEqDiff,Nat.reduceLT,Nat.reduceLeDiff,reduceCtorEq,Zyp,Zyo,VOp.writes,false_implies,implies_true,ol,ot,qq];refine⟨⟨by omega,fun _=>by omega⟩,by omega,by omega,by omega,by omega,t+2,t+2+1,by omega,by omega,by omega,by omega,by omega,?_⟩;rw[Zkf (by simp),oa];simp[HL.le,Heap.get,HL.get,qq]
   try (intro h;omega)
theorem Z2d{RB:AB}{D:Nat}{O:List (List Nat)}{io ir:Nat}{x:AB}(hio:4<io)(hir:4<ir)(t:Nat):Heap.get ⟨(ir,x)::stO RB D O io,t⟩ 4=some RB:=by
 unfold stO ooB;split
 ·simp only[Heap.get,HL.get,List.nil_append];rw[if_neg (by omega),if_pos trivial]
 ·simp only[Heap.get,HL.get,List.cons_append,List.nil_append];rw[if_neg (by omega),if_neg (by omega),if_pos trivial]
theorem Z7x{RA RB:AB}{D:Nat}{O:List (List Nat)}{io ir t:Nat}{x:AB}{h:Heap}(hio:4<io)(hir:4<ir)(H:Heap.le ⟨(ir,x)::stO RA D O io,t⟩ h):Heap.le ⟨(ir,x)::stO RB D O io,t⟩ (h.set 4 RB):=by
 refine⟨H.1,?_⟩;have h2:=H.2;unfold stO ooB at h2⊢;by_cases h0:O=[]
 ·rw[if_pos h0]at h2⊢;simp only[List.nil_append,HL.le,Heap.get_set]at h2⊢;obtain⟨a,b,c,d,_⟩:=h2;exact⟨by rw[if_neg (by omega)];exact a,by rw[if_pos trivial,b];rfl,by rw[if_neg (by omega)];exact c,by rw[if_neg (by omega)];exact d,trivial⟩
 ·rw[if_neg h0]at h2⊢;simp only[List.cons_append,List.nil_append,HL.le,Heap.get_set]at h2⊢;obtain⟨a,z,b,c,d,_⟩:=h2;exact⟨by rw[if_neg (by omega)];exact a,by rw[if_neg (by omega)];exact z,by rw[if_pos trivial,b];rfl,by rw[if_neg (by omega)];exact c,by rw[if_neg (by omega)];exact d,trivial⟩
noncomputable def lpO (l D:Nat)(st:LoopState)(pe:Option Code)(e:Env):AB:=lpR l st pe #[28] (Zzh (Zzg Tryz.f11)) (Zok (Zzg Tryz.f11)) D Tryz.f11.ntmps e
theorem Z7y(K:List Int)(hK:K.length≤1000000)(b r:List Nat)(n:Nat)(hn:n=r.length)(h0:r≠[])(h5:r.length≤5)(hr:Zot r.length r)(hb:Zot r.length b)(l D:Nat)(F:PV)(O:List (List Nat))(ir io t:Nat)(hio:4<io)(hit:io<t)(hir:4<ir)(hirt:ir<t)(hne:io≠ir)(hO:O.length≤1000000):
  AY Tryz.prog l [.own ir 0 n] ⟨(ir,.arr false 1 (nR r))::stO (lpO l D .ready none (Zp0 K b F)) D O io,t⟩ (fun v h'=>v=.bool true∧∃io' t',4<io'∧io'<t'∧t≤t'∧io'≠ir∧h'=⟨(ir,.arr false 1 (nR r))::stO (lpO l D .ready none (Zp0 K b F)) D (if Za4 r b (fun i=>K.contains (i:Int))=true then O++[r]else O) io',t'⟩):=by
 have B:=Xa8 K hK b r n hn h0 h5 hr hb l D (lpO l D .busy none (Zp0 K b F)) (fun fz z h=>by cases h) O ir io t hio hit hir hirt hne hO;have hg4:Heap.get ⟨(ir,.arr false 1 (nR r))::stO (lpO l D .ready none (Zp0 K b F)) D O io,t⟩ 4=some (lpR l .ready none #[28] (Zzh (Zzg Tryz.f11)) (Zok (Zzg Tryz.f11)) D Tryz.f11.ntmps (Zp0 K b F)):=Z2d hio hir t;refine AY.drop (Z1x (lid:=4) hg4 rfl (fun p hp=>by
  simp only[Zyb,Zya,or_false]at hp;subst hp;exact Zym rfl) ?_)
 refine(?_:VW Tryz.prog ⟨Tryz.f11.ntmps,some l,[],fun _ _=>False⟩ Y92 _ _ _) (Zzh (Zzg Tryz.f11)) (by kernel_rfl);simp only[Y92,YY];refine Zad [4,5,8,9] ?_;refine⟨trivial,rfl,hg4,?_⟩;have hself:=Zev (Zna (Zz2 (RB:=lpO l D .ready none (Zp0 K b F)) (D:=D) (O:=O) hio) (Zz1 hir hne) (.arr false 1 (nR r))) t;have B2:=(VW.weakenH (Z7x (RA:=lpO l D .ready none (Zp0 K b F)) (RB:=lpO l D .busy none (Zp0 K b F)) hio hir hself) B) (Zok (Zzg Tryz.f11)) (by kernel_rfl);refine AW.mono B2 ?_;rintro x e h' ⟨rfl,io',t',q1,q2,q3,q4,q5⟩;refine⟨Heap.le_get q5 4 _ (Z2d q1 hir _),⟨(ir,.arr false 1 (nR r))::stO (lpO l D .ready none (Zp0 K b F)) D (if Za4 r b (fun i=>K.contains (i:Int))=true then O++[r]else O) io',t'⟩,?_,rfl,io',t',q1,q2,q3,q4,rfl⟩;exact Z7x q1 hir q5
end Go.Proofs.w
namespace Go.Proofs.w
open Go Go.RowKit Go.Shelf Go.Sort
set_option maxRecDepth 100000
attribute [local go_sem] Oper.semAt_some
def upto{α:Type}(f:Nat→α)(k:Nat):List α:=(List.range k).map f
theorem Zvk{α:Type}(f:Nat→α)(k:Nat):upto f (k+1)=upto f k++[f k]:=by simp[upto,List.range_succ]
theorem Zz3{α:Type}(f:Nat→α)(k:Nat):(upto f k).length=k:=by simp[upto]
theorem Xa9(zs:List Int):upto (fun j=>zs[j]?.getD 0) zs.length=zs:=by
 apply List.ext_getElem
 ·simp[upto]
 ·intro i h1 h2;simp[upto,h2]
theorem Z7z(zs:List Int){k:Nat}(hk:k≤zs.length):upto (fun j=>zs[j]?.getD 0) k=zs.take k:=by
 apply List.ext_getElem
 ·simp[upto,hk]
 ·intro i h1 h2;have:i<zs.length:=by simp[upto]at h1;omega
  simp[upto,this]
set_option maxHeartbeats 2000000 in
theorem Z4c(F:Fence)(n:Nat)(h7:F.fn 52)(hro:F.round=none)(hn:1≤n)(l Bs n₀ b off len cap:Nat)(zs:List Int)(hreach:len*8≤140737488351232)(hb:b<n₀)(J Jx:List Int→World→Prop)
  (hY:∀pre x W,J pre W→pre.length<len→YieldAt F (n-1) Tryz.prog l #[.int .i64 x] W fun e W'=>
   (e=.returned (.bool true)∧J (pre++[x]) W'∧Below n₀ W W')∨(e=.returned (.bool false)∧Jx (pre++[x]) W'))
  (W:World)(hBs:W.cell? ⟨Bs,0,none⟩=some (.slice (some ⟨b,off,none⟩) len cap))(hc:∀j,j<len→W.cell? ⟨b,off+j,none⟩=some (.int .i64 (zs[j]?.getD 0)))(h0:J [] W):
  CallsIn F n Tryz.prog 52 #[.func (.yield l) #[] #[],.pointer (some ⟨Bs,0,none⟩)] W fun e W'=>(∃v,e=.returned v)∧
   ((∃ys,ys=upto (fun j=>zs[j]?.getD 0) len∧J ys W')∨(∃pre,(∃k,k≤len∧pre=upto (fun j=>zs[j]?.getD 0) k)∧Jx pre W')):=by
 refine callsIn_of_wp Tryz.func52 rfl h7 ?_ hro;simp only[Tryz.ntmps52,List.size_toArray,List.length_cons,List.length_nil,Nat.reduceAdd,Nat.reduceSub,Array.replicate_succ,Array.replicate_zero,List.push_toArray,List.append_toArray,List.nil_append,List.cons_append]
 gi_wp2
 gi_loopw [7] (fun i wr=>∃k:Nat,k≤len∧i=.int .i64 k∧J (upto (fun j=>zs[j]?.getD 0) k) wr∧Below n₀ W wr)
  (fun i _=>len-(intOf i).toNat)
 case atStart=>exact⟨0,Nat.zero_le _,rfl,h0,Below.refl _ _⟩
 case round=>
  obtain⟨k,hk,rfl,hJs,hnx⟩:=hrel;have hcx:k<len→wr.cell? ⟨b,off+k,none⟩=some (.int .i64 (zs[k]?.getD 0)):=fun h=>(hnx.cell (p:=⟨b,off+k,none⟩) hb).trans (hc k h);by_cases hlt:k<len
  ·obtain⟨fn,tmps,assign,body,hy,hR⟩:=hY _ (zs[k]?.getD 0) wr hJs (by rw[Zz3];exact hlt);have hcx':=hcx hlt
   gi_wp2
   refine hR.mono ?_;rintro e W3 (⟨rfl,hJ3,hk3⟩|⟨rfl,hJx3⟩)
   ·gi_wp2
    go_roundw
    case rel=>exact⟨k+1,by omega,by simp,by rw[Zvk];exact hJ3,hnx.trans hk3⟩
    case measure=>simp[intOf];omega
   ·gi_wp2
    refine bodyPost_ret (results_none rfl _ _ _) rfl ?_;exact⟨⟨_,rfl⟩,.inr ⟨_,⟨k+1,by omega,(Zvk _ _).symm⟩,hJx3⟩⟩
  ·obtain rfl:k=len:=by omega
   gi_wp2
   go_end0
   exact⟨⟨_,rfl⟩,.inl ⟨_,rfl,hJs⟩⟩
def Zrc(n₀:Nat)(W:World)(sv:Value)(zs:List Int):Prop:=
 (∃a cap,sv=.slice a 0 cap∧zs=[])∨∃b off cap,sv=.slice (some ⟨b,off,none⟩) zs.length cap∧b<n₀∧∀j,j<zs.length→W.cell? ⟨b,off+j,none⟩=some (.int .i64 (zs[j]?.getD 0))
theorem Zrc.below{n₀:Nat}{A B:World}(h:Below n₀ A B){sv:Value}{zs:List Int}:Zrc n₀ A sv zs→Zrc n₀ B sv zs
 | .inl e=>.inl e
 | .inr ⟨b,off,cap,e,hb,hc⟩=>.inr ⟨b,off,cap,e,hb,fun j hj=>(h.cell (p:=⟨b,off+j,none⟩) hb).trans (hc j hj)⟩
set_option maxHeartbeats 1000000 in
theorem Zp1(F:Fence)(n:Nat)(h7:F.fn 52)(hro:F.round=none)(l Bs:Nat)(a:Option Addr)(cap:Nat)(J:List Int→World→Prop)(W:World)(hBs:W.cell? ⟨Bs,0,none⟩=some (.slice a 0 cap))(h0:J [] W):
  CallsIn F n Tryz.prog 52 #[.func (.yield l) #[] #[],.pointer (some ⟨Bs,0,none⟩)] W fun e W'=>(∃v,e=.returned v)∧J [] W':=by
 refine callsIn_of_wp Tryz.func52 rfl h7 ?_ hro;simp only[Tryz.ntmps52,List.size_toArray,List.length_cons,List.length_nil,Nat.reduceAdd,Nat.reduceSub,Array.replicate_succ,Array.replicate_zero,List.push_toArray,List.append_toArray,List.nil_append,List.cons_append]
 gi_wp2
 gi_loopw [7] (fun i wr=>i=.int .i64 0∧J [] wr) (fun _ _=>0)
 case atStart=>exact⟨rfl,h0⟩
 case round=>
  obtain⟨rfl,hJs⟩:=hrel
  gi_wp2
  go_end0
  exact⟨⟨_,rfl⟩,hJs⟩
set_option maxHeartbeats 1000000 in
theorem values_in(F:Fence)(n:Nat)(h5:F.fn 28)(hro:F.round=none)(a:Option Addr)(len cap:Nat)(w:World):
  CallsIn F n Tryz.prog 28 #[.slice a len cap] w fun e w'=>e=.returned (.func (.func 52) #[] #[.pointer (some ⟨w.heap.size,0,none⟩)])∧w'=w.alloc (.cells #[.slice a len cap] 22):=by
 refine callsIn_of_wp Tryz.func28 rfl h5 ?_ hro;simp only[Tryz.ntmps28,List.size_toArray,List.length_cons,List.length_nil,Nat.reduceAdd,Nat.reduceSub,Array.replicate_succ,Array.replicate_zero,List.push_toArray,List.append_toArray,List.nil_append,List.cons_append]
 gi_wp2
 go_ret
 exact⟨rfl,rfl⟩
theorem values_stops(F:Fence)(n:Nat)(h7:F.fn 52)(hro:F.round=none)(hn:1≤n)(Bs n₀:Nat)(sv:Value)(zs:List Int)(hreach:zs.length*8≤140737488351232)(w:World)(hBs:Bs<w.heap.size)(hn₀:n₀≤w.heap.size)
  (hc:w.cell? ⟨Bs,0,none⟩=some sv)(hI:Zrc n₀ w sv zs):
  SeqStopsK F n Tryz.prog 52 #[.pointer (some ⟨Bs,0,none⟩)] (fun x:Int=>#[Value.int .i64 x]) (Below n₀) (fun ys=>ys=zs) (fun pre=>pre<+:zs) zs.length w:=fun l J Jx W hW _ _ hY h0=>by
 have hc':=(hW.cell (p:=⟨Bs,0,none⟩) hBs).trans hc;rcases hI.below (hW.mono hn₀)with⟨a,cap,rfl,rfl⟩|⟨b,off,cap,rfl,hb,hcs⟩
 ·exact(Zp1 F n h7 hro l Bs a cap J W hc' h0).mono fun e W' ⟨he,hj⟩=>⟨he,.inl ⟨_,rfl,hj⟩⟩
 ·refine(Z4c F n h7 hro hn l Bs n₀ b off zs.length cap zs hreach hb J Jx hY W hc' hcs h0).mono ?_;rintro e W' ⟨he,⟨ys,rfl,hj⟩|⟨pre,⟨k,hk,rfl⟩,hj⟩⟩
  ·exact⟨he,.inl ⟨_,Xa9 zs,hj⟩⟩
  ·exact⟨he,.inr ⟨_,by rw[Z7z zs hk];exact List.take_prefix _ _,hj⟩⟩
set_option maxRecDepth 100000
attribute [local go_sem] Oper.semAt_some
theorem infoI:(Tryz.prog.info? 3).map (fun i=>(i.zero,i.size,i.bytes))=some (some (.int .i64 0),1,8):=by kernel_rfl
set_option maxHeartbeats 4000000 in
theorem appendSeq_in(F:Fence)(n:Nat)(h1:F.fn 64)(hro:F.round=none)(hn:2≤n)(g:Nat)(lb:Array Value)(hFg:F.fn g)(eg:∀args w,(callFunc g args).run Tryz.prog w=.ok (.enter g args) w)
  (S Sp:List Int→Prop)(N:Nat)(hN:N≤maxLen)(hNb:N*8≤140737488355328)(hS:∀l,S l→l.length≤N)(w:World)(hseq:SeqStopsK F (n-1) Tryz.prog g lb (fun x:Int=>#[Value.int .i64 x]) (Below w.heap.size) S Sp N w):
  CallsIn F n Tryz.prog 64 #[.slice none 0 0,.func (.func g) #[] lb] w fun e w'=>∃(v:Value) (ss:List Int),e=.returned v∧S ss∧w'.ownsRow w.heap.size 3 1 v ss.length (ss.map (Value.int .i64))∧(v=.slice none 0 0↔ss=[])∧Below w.heap.size w w':=by
 have h1':1≤n:=by omega
 obtain⟨i0,hi,hz0,hz1,hz2⟩:=info_parts infoI;refine callsIn_of_wp_marks Tryz.func64 rfl h1 ?_ hro;simp only[Tryz.ntmps64,List.size_toArray,List.length_cons,List.length_nil,Nat.reduceAdd,Nat.reduceSub,Array.replicate_succ,Array.replicate_zero,List.push_toArray,List.append_toArray,List.nil_append,List.cons_append]
 gi_wp2
 have bO:=Boxed.new w 22 (.slice none 0 0);have hB0:Below w.heap.size w (w.alloc (.cells #[.slice none 0 0] 22)):=(Below.refl _ w).alloc (Nat.le_refl _) _;refine wpIn_rangeFunc_ownG hro h1' (gf:=g) (lb:=lb) rfl hFg eg hseq belowK_t (belowK_b (by simp)) hB0 (fun _=>rfl)
  (fun pre W=>(∃v,Boxed W w.heap.size 22 v∧W.ownsRow w.heap.size 3 1 v pre.length (pre.map (Value.int .i64))∧(v=.slice none 0 0↔pre=[]))∧Below w.heap.size w W)
  (fun _ _ _=>False)
  (OwnFrom.and (Own.from (holdsRow_own w.heap.size w.heap.size 22 3 1 (fun pre=>pre.length) (fun pre=>pre.map (Value.int .i64)) (fun pre v=>v=.slice none 0 0↔pre=[])) _) (ownFrom_below (Nat.le_refl _) (by simp)))
  (fun _ _ _ _ _ hs _ _=>hs)
  ⟨⟨_,bO,World.ownsRow_nil _ _ _ _,by simp⟩,hB0⟩
  (fun x=>{ tmps:=#[.slice none 0 0,.func (.func g) #[] lb,.pointer (some ⟨w.heap.size,0,none⟩),undef,.slice none 0 0,.int .i64 x,.func (.func g) #[] lb,.int .i64 x,undef,undef,undef,undef,undef],defers:=[] }) ?assign ?body ?done ?stop
 case assign=>
  intro l x W K hK
  gi_wp2
  exact hK
 case body=>
  rintro l pre x W ⟨⟨v,hv,hrow,hnil⟩,hB⟩ hlt;have hc:=hv.cell
  gi_wp2_with (gi_at_builtin;refine wpListIn_append_own _ rfl _ _ 22 rfl w.heap.size 3 i0 (.int .i64 0) 1 8 Tryz.underlying22 hi hz0 hz1 hz2 rfl (by decide) _ _ _ rfl (hrow.alloc _) ⟨W.heap.size,0,none⟩ 1 1 [.int .i64 x] rfl rfl (cell_one_new _ _ _) (by simp[Value.oneCell']) (by omega) (by omega) (by have:=hB.size;simp;omega) ?_;intro v' w1 hown' hgrow _;obtain⟨g',cap',rfl⟩:=ownsRow_succ hown';obtain⟨hv1,hv2,hr2,hk2,hb2⟩:=hv.appended (by decide) hrow hB.size (Nat.le_refl _) hown' hgrow;have hc1:=hv1.cell;have hf1:=hv1.frozen)
  exact⟨hk2.from _,hb2,⟨_,hv2,by simpa using hr2,by simp⟩,hB.trans hb2⟩
 case done=>
  rintro D ys W hD hS ⟨⟨v,hv,hrow,hnil⟩,hB⟩ hK;have hc:=hv.cell
  gi_wp2
  refine⟨by simp,.inl ⟨_,_,rfl,run_takeDeferred hK,?_⟩⟩;exact⟨_,results_tmp rfl _ _ _,v,ys,rfl,hS,ownsRow_putObj hrow _ hK rfl,hnil,hB.trans (belowK_b (w:=w) (Nat.le_refl _) W D _ _ (by simp at hD;omega) hK rfl rfl)⟩
 case stop=>
  rintro D c pre W _ _ h _;exact h.elim
set_option maxHeartbeats 1000000 in
theorem collect_in(F:Fence)(n:Nat)(h8:F.fn 50)(h11:F.fn 64)(hro:F.round=none)(hn:3≤n)(g:Nat)(lb:Array Value)(hFg:F.fn g)(eg:∀args w,(callFunc g args).run Tryz.prog w=.ok (.enter g args) w)
  (S Sp:List Int→Prop)(N:Nat)(hN:N≤maxLen)(hNb:N*8≤140737488355328)(hS:∀l,S l→l.length≤N)(w:World)(hseq:SeqStopsK F (n-1-1) Tryz.prog g lb (fun x:Int=>#[Value.int .i64 x]) (Below w.heap.size) S Sp N w):
  CallsIn F n Tryz.prog 50 #[.func (.func g) #[] lb] w fun e w'=>∃(v:Value) (ss:List Int),e=.returned v∧S ss∧w'.ownsRow w.heap.size 3 1 v ss.length (ss.map (Value.int .i64))∧(v=.slice none 0 0↔ss=[])∧Below w.heap.size w w':=by
 have h1:1≤n:=by omega
 refine callsIn_of_wp Tryz.func50 rfl h8 ?_ hro;simp only[Tryz.ntmps50,List.size_toArray,List.length_cons,List.length_nil,Nat.reduceAdd,Nat.reduceSub,Array.replicate_succ,Array.replicate_zero,List.push_toArray,List.append_toArray,List.nil_append,List.cons_append]
 gi_wp2_with (gi_at_call 64;refine(appendSeq_in F (n-1) h11 hro (by omega) g lb hFg eg S Sp N hN hNb hS _ hseq).mono ?_;rintro e w' ⟨v,ss,rfl,hS,hrow,hnil,hb⟩)
 go_ret
 exact⟨_,ss,rfl,hS,hrow,hnil,hb⟩
end Go.Proofs.w
namespace Go.VM
open Go
abbrev Xeb:Int:=1048577
def mergeS:List Sp→Sp→List Sp
 | [],x=>[x]
 |s::r,x=>if x.frm≤s.to then⟨s.frm,if s.to<x.to then x.to else s.to⟩::r else x::s::r
def accS(ss:List Sp)(i:Nat):List Sp:=(ss.take i).foldl mergeS []
structure MS (ss:List Sp) (i:Nat) (rows:List Sp) (n:Nat):Prop where
 len:rows.length=ss.length
 le:n≤i
 le2:i≤ss.length
 cnt:n=(accS ss i).length
 tk:rows.take n=(accS ss i).reverse
 dr:rows.drop i=ss.drop i
theorem MS.get{ss rows:List Sp}{i n:Nat}(h:MS ss i rows n)(hi:i<ss.length):rows[i]?=some ss[i]:=by
 have e:(rows.drop i)[0]?=(ss.drop i)[0]?:=by rw[h.dr]
 rw[List.getElem?_drop,List.getElem?_drop]at e;exact e.trans (Zye hi)
def spOk(s:Sp):Prop:=0≤s.frm∧s.frm<s.to∧s.to≤Xeb
def RevC:List Sp→Prop
 | []=>True
 | [s]=>spOk s
 |s::t::r=>spOk s∧t.to<s.frm∧RevC (t::r)
theorem RevC.ok:∀{s:Sp} {r:List Sp},RevC (s::r)→spOk s
 |_,[],h=>h
 |_,_::_,h=>h.1
end Go.VM
namespace Go.Proofs.w
open Go Go.VM
theorem Xcx:∀{l m:List Int},l.Pairwise (·<·)→m.Pairwise (·<·)→(∀x,x∈l↔x∈m)→l=m
  | [],[],_,_,_=>rfl
  | [],b::m,_,_,h=>absurd ((h b).2 List.mem_cons_self) (by simp)
  |a::l,[],_,_,h=>absurd ((h a).1 List.mem_cons_self) (by simp)
  | a::l,b::m,h1,h2,h=>by
    rw[List.pairwise_cons]at h1 h2;have hab:a=b:=by
      rcases List.mem_cons.1 ((h a).1 List.mem_cons_self)with e|e
      ·exact e
      · rcases List.mem_cons.1 ((h b).2 List.mem_cons_self)with e2|e2
        ·exact e2.symm
        ·have:=h1.1 b e2;have:=h2.1 a e;omega
    subst hab;rw[Xcx h1.2 h2.2 fun x=>?_];constructor
    · intro hx
      rcases List.mem_cons.1 ((h x).1 (Zx7 _ hx))with rfl|e
      ·exact absurd (h1.1 _ hx) (by omega)
      ·exact e
    · intro hx
      rcases List.mem_cons.1 ((h x).2 (Zx7 _ hx))with rfl|e
      ·exact absurd (h2.1 _ hx) (by omega)
      ·exact e
def Zkw(l:List Int):List Int:=l.mergeSort fun x y=>decide (x≤y)
theorem Zz4(zs:List Int):(Zkw zs).Pairwise (·≤·):=by
  have:=List.pairwise_mergeSort (le:=fun a b:Int=>decide (a≤b)) (fun a b c h1 h2=>by simp at*;omega) (fun a b=>by simp;omega) zs;exact this.imp (by simp)
end Go.Proofs.w
namespace Go.Proofs.w
open Go Go.RowKit Go.Shelf Go.Sort Go.VM
set_option maxRecDepth 100000
theorem Z4d{g:Gh}{w:World}{h:Heap}(r:Rel g w h){v:Value}{l:List Int}(hv:Rep g v (.sl 1 (l.map fun x=>[pI x]))):Zrc w.heap.size w v l:=by
 generalize hes:l.map (fun x=>[pI x])=es at hv;cases hv with
 |slE a cap z=>exact .inl ⟨a,cap,rfl,by simpa using hes⟩
 | sl b o len cap z a es vs ha hl hc hz hm hr=>
  subst hes;subst ha;have hlen:l.length=len:=by simpa using hl
  subst hlen;by_cases h0:l=[]
  ·subst h0;exact .inl ⟨_,_,rfl,rfl⟩
  ·have h1:0<l.length:=List.length_pos_iff.2 h0;have cell:∀j,j<l.length→w.cell? ⟨b,o+j,none⟩=some (.int .i64 (l[j]?.getD 0)):=by
    intro j hj;have k1:=hm j 0 hj (by omega);have k2:=hr j 0 hj (by omega);have e:PV.nth (PV.row (l.map fun x=>[pI x]) j) 0=pI l[j]:=by simp[PV.row,PV.nth,Zx1,hj]
    rw[e]at k2;obtain hk:=k2.int_inv;have k3:=(r.mem _ _ _ k1).1;rw[hk]at k3
    simpa[hj]using k3
   refine .inr ⟨b,o,cap,rfl,?_,cell⟩;have:=cell 0 h1;rcases Nat.lt_or_ge b w.heap.size with h2|h2
   ·exact h2
   ·simp[World.cell?,Array.getElem?_eq_none h2]at this
set_option maxHeartbeats 4000000 in
theorem Zvl(g:Nat)(lb:Array Value)(eg:∀args w,(callFunc g args).run Tryz.prog w=.ok (.enter g args) w)(S Sp:List Int→Prop)(N:Nat)(hN:N≤1000000)(hS:∀l,S l→l.length≤N)(w:World)
  (hseq:SeqStopsK Fence.wide 1 Tryz.prog g lb (fun x:Int=>#[Value.int .i64 x]) (Below w.heap.size) S Sp N w):
  Calls Tryz.prog 27 #[.func (.func g) #[] lb] w fun e w'=>∃(v:Value) (ss:List Int),e=.returned v∧S ss∧w'.ownsRow w.heap.size 3 1 v ss.length ((Zkw ss).map (Value.int .i64))∧Below w.heap.size w w':=by
 have hm:N≤maxLen:=Nat.le_trans hN (by decide);have C:=fun w0 (h0:w0=w)=>(callsIn_wide (n:=3)).1 (collect_in Fence.wide 3 trivial trivial rfl (by omega) g lb trivial eg S Sp N hm (by omega) hS w hseq)
 go_enter Tryz.func27,Tryz.ntmps27
 go_wp2_with (go_at_call 50;refine(C _ rfl).mono ?_;rintro e W ⟨v,ss,rfl,hSs,hrow,hnil,hb⟩)
 rcases hrow.2 with⟨rfl,hz⟩|⟨gb,cap,cur,rfl,hbase,hgb,r1,r2,r3,r4⟩
 ·have hss:ss=[]:=List.eq_nil_of_length_eq_zero hz;subst hss
  go_wp2_with (go_at_call 51;refine(Tryz.slices_Sort_int_none none 0 W).mono ?_;rintro e w' ⟨rfl,rfl⟩)
  go_ret
  exact⟨.slice none 0 0,[],rfl,hSs,by simpa[Zkw]using hrow,hb⟩
 ·have hH:Holds (Value.int .i64) W gb 0 ss.toArray:=holds_of_block_i hgb (by simpa using r4);have hgl:gb<W.heap.size:=(Array.getElem?_eq_some_iff.1 hgb).1;have hlen:=hS ss hSs;have cS:=Tryz.slices_Sort_int gb 0 cap ss W hH hgl (by omega)
  go_wp2_with (go_at_call 51;refine cS.mono ?_;rintro e w' ⟨rfl,nn,os,rfl⟩)
  go_ret
  exact⟨_,ss,rfl,hSs,ownsRow_sorted_i (by simp[Zkw]) hbase hgb r1 r2 r3,hb.grown (grownBy_sorted_i _) hb.size (fun j hj=>by cases hj;exact hbase)⟩
end Go.Proofs.w
