import Derived.Test.YtldogpfookkbaaaGreatDoorB7
import Derived.Test.YtldogpfookkbaaaGreatDoorVmBl
import Derived.Test.YtldogpfookkbaaaGreatDoorVmBa
set_option linter.all false
set_option maxRecDepth 20000
set_option maxHeartbeats 0
namespace Go.VM
open Go
def stepS (n f:Nat) (b:List Nat) (k:Nat):List (List Nat):=(List.range k).flatMap fun i=>if b.contains i then [] else allR n f (b++[i])
theorem stepS_succ (n f:Nat) (b:List Nat) (k:Nat):stepS n f b (k+1)=stepS n f b k++(if b.contains k then [] else allR n f (b++[k])):=by
 unfold stepS;rw [List.range_succ,List.flatMap_append];simp
theorem stepS_len {n f:Nat} (H:∀ b,(allR n f b).length≤n ^ f) (b:List Nat):∀ k,(stepS n f b k).length≤k*n ^ f
 | 0=>Nat.zero_le _
 | k+1=>by
  have h1:=stepS_len H b k;rw [stepS_succ,List.length_append,Nat.succ_mul];have h2:(if b.contains k then [] else allR n f (b++[k])).length≤n ^ f:=by
   split
   ·exact Nat.zero_le _
   ·exact H _
  omega
theorem allR_len (n:Nat):∀ (f:Nat) (b:List Nat),(allR n f b).length≤n ^ f
 | 0,b=>by simp [allR]
 | f+1,b=>by
  have h1:=stepS_len (allR_len n f) b n;have h2:allR n (f+1) b=stepS n f b n:=rfl;rw [h2,Nat.pow_succ,Nat.mul_comm];exact h1
theorem pow5 {n f:Nat} (h:n≤5) (hf:f≤5):n ^ f≤3125 :=
 Nat.le_trans (Nat.pow_le_pow_left h f) (Nat.pow_le_pow_right (n:=5) (by omega) hf)
theorem plP_ltN (l:List Nat) (i:Nat):decide (plP (nz l) (i:Int)<0) = !l.contains i:=by
 rw [plP_lt];by_cases h:i∈l
 ·have:=mem_nz.2 ⟨i,h,rfl⟩;simp [h,this]
 ·have : (i : Int) ∉ nz l := fun hh => by
   obtain ⟨m,h1,h2⟩:=mem_nz.1 hh;have e:m=i:=by omega
   subst e;exact h h1
  simp [h,this]
theorem Zal.nil2 {P:Program} {f:FuncId} {a p:PV} (H:Zal P f [a,.sl 1 []] p):Zal P f [a,.nilsl] p:=by
 have key:∀ g v,Rep g v .nilsl→Rep g v (.sl 1 []):=fun g v hv=>by cases hv;exact .slE _ _ _
 refine ⟨H.1,fun x hx=>?_,fun g w vals r ha=>H.2.2 g w vals r ⟨ha.1,fun j hj=>?_⟩⟩
 ·simp only [List.mem_cons,List.not_mem_nil,or_false] at hx;rcases hx with rfl|rfl
  ·exact H.2.1 _ (by simp)
  ·intro g v hv;cases hv;exact .nilsl
 ·have h1:=ha.2 j hj
  match j,hj with
  | 0,_=>exact h1
  | 1,_=>exact key _ _ h1
end Go.VM
namespace Go.Proofs.YtldogpfookkbaaaGreatDoor.w
open Go Go.VM
def Zbg:VC:=(ZR [ZO 4 (.mv (.c .nilsl))] (.seq (ZR [ZM 7 1,ZO 8 (.len false (.t 7)),ZM 9 0,ZO 10 (.bin .eql (.t 8) (.t 9))] (.cond (.t 10) (ZR [ZM 11 1,ZO 12 (.bslice 1 1 [.nilsl] [(0,(.t 11))]),ZM 4 12] .ret) .skip)) (ZR [ZO 13 (.fx (.mk0 1) []),ZM 5 13] (.seq (ZR [ZO 6 (.mv (.c (.int .i64 0)))] (.block 0 (.loop (.seq (ZR [ZM 14 6,ZM 15 0,ZO 16 (.bin .lss (.t 14) (.t 15))] (.cond (.t 16) .skip (.exit 0))) (.seq (.block 1 (ZR [ZM 19 1,ZM 20 6,ZO 21 (.call 37 [.t 19,.t 20]),ZO 22 (.bin .lss (.t 21) (.c (.int .i64 0)))] (.cond (.t 22) (.region [ZM 23 5,ZM 24 0,ZO 25 (.fx (.mk0 1) []),ZM 26 1,ZO 27 (.app 1 8 [.int .i64 0] false (.t 25) (.t 26)),ZM 28 6,ZO 29 (.bslice 1 1 [.int .i64 0] [(0,(.t 28))]),ZO 30 (.app 1 8 [.int .i64 0] false (.t 27) (.t 29)),ZO 31 (.call 35 [.t 24,.t 30]),ZO 32 (.app 1 24 [.nilsl] false (.t 23) (.t 31)),ZM 5 32] false) .skip))) (.region [ZM 17 6,ZO 18 (.bin .add (.t 17) (.c (.int .i64 1))),ZM 6 18] false)))))) (ZR [ZM 33 5,ZM 4 33] .ret)))))
theorem sp_AllR (n:Nat) (h5:n≤5):∀ (f:Nat) (b:List Nat),b.length+f=n→Zal Tryz.prog 35 [pI n,.sl 1 (nR b)] (.sl 1 (oR (allR n f b))):=by
 intro f
 induction f with
 | zero =>
  intro b hb;have hL:=nR_len b;refine Zaf ?_ (by rw [oR_ll];exact closed_llR _) (by intro y hy;simp only [List.mem_cons,List.not_mem_nil,or_false] at hy;rcases hy with rfl|rfl;exact cI _;exact closed_nR _);refine Gn (vc:=Zbg) [.t 4] Tryz.func35 ?_;unfold Zbg;try dsimp only [ZM,ZO,ZN,ZG,ZR,ZU]
  generalize hB:nR b=B at *;have g:((b.length:Int)==(n:Int))=true:=by rw [beq_iff_eq];omega
  refine Rp0 [0,1] ?_;refine Zac ?_;refine Rp1 [0,1,10] (x2 hL g) ?_;refine Zat rfl (fun h1=>?_) (fun h1=>by cases h1);refine Rp0 [4] ?_;refine Tp0 ?_;subst hB;exact View.own_all (fz:=false) (es:=[[.sl 1 (nR b)]]) (by simp [Heap.get,HL.get]) rfl
 | succ f ih =>
  intro b hb;have hL:=nR_len b;refine Zaf ?_ (by rw [oR_ll];exact closed_llR _) (by intro y hy;simp only [List.mem_cons,List.not_mem_nil,or_false] at hy;rcases hy with rfl|rfl;exact cI _;exact closed_nR _);have PL:=fun (i:Nat)=>sp_place (nz b) (i:Int) (by rw [nz_len];omega);have eP:=fun (i:Nat)=>plP_ltN b i;have SL:=fun (k:Nat) (h:k≤n)=>Nat.le_trans (stepS_len (allR_len n f) b k) (Nat.mul_le_mul h (pow5 h5 (by omega:f≤5)));have AL:=fun (k:Nat)=>Nat.le_trans (allR_len n f (b++[k])) (pow5 h5 (by omega:f≤5));have IH:=fun (k:Nat)=>ih (b++[k]) (by simp;omega);rw [show allR n (f+1) b=stepS n f b n from rfl];simp only [← nR_eq] at PL;have hT:List.take b.length (nR b)=nR b:=by rw [← hL,List.take_length]
  have hNA:=fun (k:Nat)=>(show nR (b++[k])=nR b++[[pI k]] by unfold nR;rw [List.map_append];rfl);simp only [hNA] at IH;refine Gn (vc:=Zbg) [.t 4] Tryz.func35 ?_;unfold Zbg;try dsimp only [ZM,ZO,ZN,ZG,ZR,ZU]
  have g:((b.length:Int)==(n:Int))=false:=by rw [beq_eq_false_iff_ne];omega
  refine Rp0 [0,1] ?_;refine Zac ?_;refine Rp1 [0,1,10] (x2 hL g) ?_;refine Zat rfl (fun h1=>by cases h1) (fun _=>?_);refine Kp0 ?_;refine Rp0 [0,1,5] ?_;refine Zac ?_;refine Rp0 [0,1,5,6] ?_;refine Zad ?_;refine Za5 (σ:={ x:Nat×Nat×Nat//x.1≤n∧x.2.1<x.2.2 }) (fun x=>([(0,pI n),(1,.sl 1 (nR b)),(5,.own x.1.2.1 0 (stepS n f b x.1.1).length),(6,pI x.1.1)],⟨[(x.1.2.1,.arr false 1 (oR (stepS n f b x.1.1)))],x.1.2.2⟩)) (fun x=>n-x.1.1) ⟨(0,0,1),Nat.zero_le _,Nat.one_pos⟩ ?_ ?_ ?_
  ·exact Fn0
  ·simp only [vmL,Nat.reduceEqDiff,Nat.reduceAdd,Nat.reduceLT,Nat.reduceLeDiff,Nat.reduceSub,Nat.reduceMul,reduceIte,reduceCtorEq,Int.reduceToNat]
   first|done|rfl|exact ⟨rfl,rfl⟩|trivial
  rintro ⟨⟨k,id,t⟩,hk,hid⟩;simp only [] at hk hid ⊢;have qq:=N5 id t (t+1) (t+1+1) (t+1+1+1);have hBl:=oR_len (stepS n f b k);have hBt:=oR_take (stepS n f b k);have hBs:=SL k hk;refine Zac ?_;refine Rp1 [0,1,5,6,16] qq ?_;refine Zat rfl (fun h1=>?_) (fun h1=>?_)
  ·have ka:k<n:=by simp only [decide_eq_true_eq] at h1;omega
   have PL1:=PL k;have eP1:=eP k;have hst:=stepS_succ n f b k;refine Kp0 ?_;refine Zac ?_;refine Zad ?_;refine Rp0 [0,1,5,6,22] ?_;refine Ap1 PL1 eP1 ?_;cases hc:b.contains k with
   | false =>
    rw [hc] at hst;have IH1:=IH k;have AL1:=AL k;refine Ct ?_;refine rp1 [0,1,5,6] (x5 hL hT hBl hBt qq) ?_;refine ⟨by omega,by omega,by omega,by omega,ACall_fP [(t+1+1+1,.arr false 1 (nR b++[[pI k]]))] [(id,.arr false 1 (oR (stepS n f b k)))] (t+1+1+1+1) ⟨Nat.le_refl _,by simp [Heap.get,HL.get],by simp [Heap.get,HL.get,qq],trivial⟩ (fun x hx y hy=>?_) (q:=[pI n,.sl 1 (nR b++[[pI k]])]) ⟨View.refl _ _,View.own_all (fz:=false) (by simp [Heap.get,HL.get]) (by simp [hL]),trivial⟩ IH1 ?_⟩
    ·rw [List.mem_singleton] at hx hy;subst hx;subst hy;show id≠t+1+1+1;omega
    refine Sp1 (x3 hBl hBt qq) ?_;have hA:=oR_len (allR n f (b++[k]));have hst2:stepS n f b (k+1)=stepS n f b k++allR n f (b++[k]):=hst;have hoa:oR (stepS n f b k++allR n f (b++[k]))=oR (stepS n f b k)++oR (allR n f (b++[k])):=by unfold oR;exact List.map_append
    have hn3:n*3125≤15625:=by omega
    refine ⟨by omega,by omega,?_⟩;refine rp1 [0,1,5,6] (x2 (ad1 (a:=k) (by omega)) qq) ?_;refine ⟨⟨(k+1,t+1+1+1+1,t+1+1+1+1+1),ka,by show t+1+1+1+1<t+1+1+1+1+1;omega⟩,?_⟩;simp only [hst2,hoa,List.length_append,hA]
    all_goals exact Fn1 qq
   | true =>
    rw [hc,if_pos rfl,List.append_nil] at hst;refine Fp0 ?_;refine rp1 [0,1,5,6] (x2 (ad1 (a:=k) (by omega)) qq) ?_;refine ⟨⟨(k+1,id,t),ka,hid⟩,?_⟩;simp only [hst]
    all_goals exact Fn1 qq
  ·have ka:k=n:=by simp only [decide_eq_false_iff_not] at h1;omega
   subst ka;refine Ep0 ?_;refine Rp1 [4] qq ?_;refine Tp0 ?_;exact View.own_all (fz:=false) (by simp [Heap.get,HL.get]) hBl.symm
theorem sp_All (n:Nat) (h:n≤5):Zal Tryz.prog 35 [pI n,.nilsl] (.sl 1 (oR (Zbk n))):=by
 rw [rows_all n h];exact (sp_AllR n h n [] (by simp)).nil2
end Go.Proofs.YtldogpfookkbaaaGreatDoor.w
namespace Go.VM
open Go
def inB (K:List Int) (i:Nat):Bool:=K.contains (i:Int)
theorem plP_ge (l:List Int) (x:Int):decide (plP l x≥0)=l.contains x:=by
 unfold plP;by_cases h:x∈l
 ·rw [if_pos h,decide_eq_true (by omega)];simp [h]
 ·rw [if_neg h];simp [h]
theorem plP_nat {r:List Nat} {i:Nat} (h:i∈r):plP (nz r) (i:Int)=(r.idxOf i:Int):=by
 unfold plP;rw [if_pos (mem_nz.2 ⟨i,h,rfl⟩)];have key:∀ r:List Nat,(nz r).idxOf (i:Int)=r.idxOf i:=by
  intro r
  induction r with
  | nil=>rfl
  | cons a r ih =>
   have e:nz (a::r)=(a:Int)::nz r:=rfl;rw [e,List.idxOf_cons,List.idxOf_cons,ih];by_cases h:a=i
   ·subst h;simp
   ·have h1:(a==i)=false:=by simpa using h
    have h2:((a:Int)==(i:Int))=false:=by rw [beq_eq_false_iff_ne];omega
    rw [h1,h2]
 rw [key]
theorem keepsF_row (r b:List Nat) (K:Nat→Bool) (h:∀ i,i<r.length→∀ k,k<r.length→(decide (i≠k)&&(K i||K k)&&diffB r b i k)=false):keepsF r b K=true:=by
 unfold keepsF;simp only [List.all_eq_true,List.mem_range,Bool.not_eq_true'];exact h
theorem keepsF_not (r b:List Nat) (K:Nat→Bool) {i k:Nat} (hi:i<r.length) (hk:k<r.length) (h:(decide (i≠k)&&(K i||K k)&&diffB r b i k)=true):keepsF r b K=false:=by
 rw [Bool.eq_false_iff];intro hh;unfold keepsF at hh;simp only [List.all_eq_true,List.mem_range,Bool.not_eq_true'] at hh;rw [hh i hi k hk] at h;cases h
end Go.VM
namespace Go.Proofs.YtldogpfookkbaaaGreatDoor.w
open Go Go.VM
def c_pandectref38_Keeps:VC:=(ZR [ZO 6 (.mv (.c (.bool false)))] (.seq (ZR [ZO 7 (.mv (.c (.int .i64 0)))] (.block 0 (.loop (.seq (ZR [ZM 9 7,ZM 10 0,ZO 11 (.len false (.t 10)),ZO 12 (.bin .lss (.t 9) (.t 11))] (.cond (.t 12) .skip (.exit 0))) (.seq (.block 1 (ZR [ZO 8 (.mv (.c (.int .i64 0)))] (.block 2 (.loop (.seq (ZR [ZM 15 8,ZM 16 0,ZO 17 (.len false (.t 16)),ZO 18 (.bin .lss (.t 15) (.t 17))] (.cond (.t 18) .skip (.exit 2))) (.seq (.block 3 (ZR [ZM 21 7,ZM 22 8,ZO 23 (.bin .neq (.t 21) (.t 22)),ZM 24 23,ZG 25 (.mv (.t 1)) 24 true,ZG 26 (.mv (.t 7)) 24 true,ZG 27 (.call 37 [.t 25,.t 26]) 24 true,ZG 28 (.bin .geq (.t 27) (.c (.int .i64 0))) 24 true,ZG 29 (.mv (.t 28)) 24 true,ZG 30 (.mv (.t 1)) 29 false,ZG 31 (.mv (.t 8)) 29 false,ZG 32 (.call 37 [.t 30,.t 31]) 29 false,ZG 33 (.bin .geq (.t 32) (.c (.int .i64 0))) 29 false,ZG 34 (.pick (.t 29) (.c (.bool true)) (.t 33)) 24 true,ZO 35 (.pick (.t 24) (.t 34) (.c (.bool false))),ZM 36 35,ZG 37 (.mv (.t 0)) 36 true,ZG 38 (.mv (.t 7)) 36 true,ZG 39 (.call 37 [.t 37,.t 38]) 36 true,ZG 40 (.mv (.t 0)) 36 true,ZG 41 (.mv (.t 8)) 36 true,ZG 42 (.call 37 [.t 40,.t 41]) 36 true,ZG 43 (.bin .lss (.t 39) (.t 42)) 36 true,ZG 44 (.mv (.t 2)) 36 true,ZG 45 (.mv (.t 7)) 36 true,ZG 46 (.call 37 [.t 44,.t 45]) 36 true,ZG 47 (.mv (.t 2)) 36 true,ZG 48 (.mv (.t 8)) 36 true,ZG 49 (.call 37 [.t 47,.t 48]) 36 true,ZG 50 (.bin .lss (.t 46) (.t 49)) 36 true,ZG 51 (.binb .neq (.t 43) (.t 50)) 36 true,ZO 52 (.pick (.t 36) (.t 51) (.c (.bool false)))] (.cond (.t 52) (ZR [ZO 6 (.mv (.c (.bool false)))] .ret) .skip))) (.region [ZM 19 8,ZO 20 (.bin .add (.t 19) (.c (.int .i64 1))),ZM 8 20] false))))))) (.region [ZM 13 7,ZO 14 (.bin .add (.t 13) (.c (.int .i64 1))),ZM 7 14] false)))))) (ZR [ZO 6 (.mv (.c (.bool true)))] .ret)))
theorem sp_ref_Keeps (r b:List Nat) (K:List Int) (hK:K.length≤1000000) (hr:permB r.length r) (hb:permB r.length b) (h5:r.length≤5):Zal Tryz.prog 36 [.sl 1 (nR r),.sl 1 (zR K),.sl 1 (nR b)] (.bool (keepsF r b (inB K))):=by
 have hL:=nR_len r;have PR:=fun (i:Nat) (h:i<r.length)=>sp_place (nz r) (i:Int) (by rw [nz_len];omega);have PB:=fun (i:Nat) (h:i<r.length)=>sp_place (nz b) (i:Int) (by rw [nz_len];have:=hb.1;omega);have PK:=fun (i:Nat)=>sp_place K (i:Int) hK;simp only [← nR_eq] at PR PB;have eR:=fun (i:Nat) (h:i<r.length)=>plP_nat (hr.2 i h);have eB:=fun (i:Nat) (h:i<r.length)=>plP_nat (hb.2 i h);have eK:=fun (i:Nat)=>plP_ge K (i:Int);have kt:=keepsF_row r b (inB K);have kf:=fun (i k:Nat) (h1:i<r.length) (h2:k<r.length)=>keepsF_not r b (inB K) h1 h2;have hd:∀ i k,diffB r b i k=(decide ((r.idxOf i:Int)<(r.idxOf k:Int)) != decide ((b.idxOf i:Int)<(b.idxOf k:Int))):=fun i k=>by
  unfold diffB;rw [show decide ((r.idxOf i:Int)<(r.idxOf k:Int))=decide (r.idxOf i<r.idxOf k) from decide_eq_decide.2 (by omega),show decide ((b.idxOf i:Int)<(b.idxOf k:Int))=decide (b.idxOf i<b.idxOf k) from decide_eq_decide.2 (by omega)]
 have hin:∀ i,inB K i=K.contains (i:Int):=fun _=>rfl;refine Zaf ?_ (cB _) (by intro y hy;simp only [List.mem_cons,List.not_mem_nil,or_false] at hy;rcases hy with rfl|rfl|rfl;exact closed_nR _;exact Zav _;exact closed_nR _);refine Gn (vc:=c_pandectref38_Keeps) [.t 6] Tryz.func36 ?_;unfold c_pandectref38_Keeps;try dsimp only [ZM,ZO,ZN,ZG,ZR,ZU]
 generalize nR r=ZR' at *;generalize nR b=ZB' at *;generalize zR K=ZK at *;refine Rp0 [0,1,2] ?_;refine Zac ?_;refine Rp0 [0,1,2,7] ?_;refine Zad ?_;refine Za5 (σ:={ i:Nat//i≤r.length∧∀ j,j<i→∀ k,k<r.length→(decide (j≠k)&&(inB K j||inB K k)&&diffB r b j k)=false }) (fun x=>([(0,.sl 1 ZR'),(1,.sl 1 ZK),(2,.sl 1 ZB'),(7,pI x.1)],⟨[],0⟩)) (fun x=>r.length-x.1) ⟨0,Nat.zero_le _,fun j h=>by cases h⟩ ?_ ?_ ?_
 ·exact Fn0
 ·simp only [vmL,Nat.reduceEqDiff,Nat.reduceAdd,Nat.reduceLT,Nat.reduceLeDiff,Nat.reduceSub,Nat.reduceMul,reduceIte,reduceCtorEq,Int.reduceToNat]
  try trivial
 rintro ⟨i,hi,hpre⟩;simp only [];refine Zac ?_;refine Rp1 [0,1,2,7,12] hL ?_;refine Zat rfl (fun h1=>?_) (fun h1=>?_)
 ·have ia:i<r.length:=by simp only [decide_eq_true_eq] at h1;omega
  have P1:=PR i ia;have B1:=PB i ia;rw [eR i ia] at P1;rw [eB i ia] at B1;have K1:=PK i;have k1:=eK i;refine Kp0 ?_;refine Zac ?_;refine Zad ?_;refine Rp0 [0,1,2,7,8] ?_;refine Zad ?_;refine Za5 (σ:={ k:Nat//k≤r.length∧∀ m,m<k→(decide (i≠m)&&(inB K i||inB K m)&&diffB r b i m)=false }) (fun x=>([(0,.sl 1 ZR'),(1,.sl 1 ZK),(2,.sl 1 ZB'),(7,pI i),(8,pI x.1)],⟨[],0⟩)) (fun x=>r.length-x.1) ⟨0,Nat.zero_le _,fun j h=>by cases h⟩ ?_ ?_ ?_
  ·exact Fn0
  ·simp only [vmL,Nat.reduceEqDiff,Nat.reduceAdd,Nat.reduceLT,Nat.reduceLeDiff,Nat.reduceSub,Nat.reduceMul,reduceIte,reduceCtorEq,Int.reduceToNat]
   try trivial
  rintro ⟨k,hk,hpre2⟩;simp only [];refine Zac ?_;refine Rp1 [0,1,2,7,8,18] hL ?_;refine Zat rfl (fun h2=>?_) (fun h2=>?_)
  ·have ka:k<r.length:=by simp only [decide_eq_true_eq] at h2;omega
   have P2:=PR k ka;have B2:=PB k ka;rw [eR k ka] at P2;rw [eB k ka] at B2;have K2:=PK k;have k2:=eK k;have kf1:=kf i k ia ka;have hdi:=hd i k;have hp3:(decide (i≠k)&&(inB K i||inB K k)&&diffB r b i k)=false→∀ m,m<k+1→(decide (i≠m)&&(inB K i||inB K m)&&diffB r b i m)=false:=fun h m hm=>by
    by_cases e:m=k
    ·subst e;exact h
    ·exact hpre2 m (by omega)
   refine Kp0 ?_;refine Zac ?_;refine Zad ?_;refine Zac (VW_mid (σ:=Unit) (fun _=>([(0,.sl 1 ZR'),(1,.sl 1 ZK),(2,.sl 1 ZB'),(7,pI i),(8,pI k),(52,.bool (decide (i≠k)&&(inB K i||inB K k)&&diffB r b i k))],⟨[],0⟩)) (Za1 [0,1,2,7,8,52] ?_) (fun _=>?_))
   ·rw [hdi,hin,hin];by_cases hik:i=k
    ·have g1:((i:Int) != (k:Int))=false:=by rw [bne_eq_false_iff_eq];omega
     have g2:decide (i≠k)=false:=by simp [hik]
     refine Sp1 g1 ?_;refine ⟨(),?_⟩;rw [g2]
     all_goals exact Fn0
    ·have g1:((i:Int) != (k:Int))=true:=by rw [bne_iff_ne];omega
     have g2:decide (i≠k)=true:=by simp [hik]
     rw [g2,Bool.true_and];cases hc1:K.contains (i:Int) with
     | true =>
      rw [hc1] at k1;refine Sp1 g1 ?_;refine Ap1 K1 k1 ?_;refine Ap0 P1 ?_;refine Ap0 P2 ?_;refine Ap0 B1 ?_;refine Ap0 B2 ?_;exact ⟨(),rfl⟩
     | false =>
      rw [hc1] at k1;cases hc2:K.contains (k:Int) with
      | true =>
       rw [hc2] at k2;refine Sp1 g1 ?_;refine Ap1 K1 k1 ?_;refine Ap1 K2 k2 ?_;refine Ap0 P1 ?_;refine Ap0 P2 ?_;refine Ap0 B1 ?_;refine Ap0 B2 ?_;exact ⟨(),rfl⟩
      | false =>
       rw [hc2] at k2;refine Sp1 g1 ?_;refine Ap1 K1 k1 ?_;refine Ap1 K2 k2 ?_;exact ⟨(),rfl⟩
   ·cases hc:(decide (i≠k)&&(inB K i||inB K k)&&diffB r b i k) with
    | true =>
     refine Ct ?_;refine Rp0 [6] ?_;refine Tp0 ?_;rw [kf1 hc];exact View.refl _ _
    | false =>
     refine Fp0 ?_;refine rp1 [0,1,2,7,8] (ad1 (a:=k) (by omega)) ?_;refine ⟨⟨k+1,ka,hp3 hc⟩,?_⟩;exact Fn0
  ·have ka:k=r.length:=by simp only [decide_eq_false_iff_not] at h2;omega
   subst ka;refine Ep0 ?_;refine rp1 [0,1,2,7] (ad1 (a:=i) (by omega)) ?_;refine ⟨⟨i+1,ia,fun j hj k hk=>?_⟩,?_⟩
   ·by_cases e:j=i
    ·subst e;exact hpre2 k hk
    ·exact hpre j (by omega) k hk
   exact Fn0
 ·have ia:i=r.length:=by simp only [decide_eq_false_iff_not] at h1;omega
  subst ia;refine Ep0 ?_;refine Rp0 [6] ?_;refine Tp0 ?_;rw [kt hpre];exact View.refl _ _
end Go.Proofs.YtldogpfookkbaaaGreatDoor.w
namespace Go.VM
open Go
theorem oR_at {O:List (List Nat)} {k:Nat} (h:k<O.length):(oR O).getD k []=[.sl 1 (nR O[k])]:=rowm h
def ordsR (n:Int) (K by':List Int):List (List Nat):=if 0≤n∧n≤5∧ordB by' n=true then (Zbk n.toNat).filter fun r=>keepsF r (by'.map Int.toNat) (inB K) else []
theorem ords_eq (n:Int) (K by':List Int):ordsR n K by'=ordsP n K by':=by
 unfold ordsR ordsP;by_cases h:0≤n∧n≤5∧ordB by' n=true
 ·rw [if_pos h,if_pos h];obtain ⟨h0,h5,ho⟩:=h;obtain ⟨m,rfl⟩:∃ m:Nat,n=(m:Int):=⟨n.toNat,by omega⟩;obtain ⟨e1,e2⟩:=ord_nat ho;rw [Int.toNat_natCast];refine List.filter_congr fun r hr=>?_;obtain ⟨h1,h2⟩:=rows_perm (by omega) hr;exact (keeps_eq h2 (by rw [h1];exact e2) (inB K)).symm
 ·rw [if_neg h,if_neg h]
theorem filter_stepk {α:Type} (p:α→Bool) {l:List α} {k:Nat} (h:k<l.length):(l.take (k+1)).filter p=if p l[k]=true then (l.take k).filter p++[l[k]] else (l.take k).filter p:=by
 rw [List.take_succ_eq_append_getElem h,filter_snoc]
end Go.VM
namespace Go.Proofs.YtldogpfookkbaaaGreatDoor.w
open Go Go.VM
def c_pandectref38_Orders:VC:=(ZR [ZO 6 (.mv (.c .nilsl))] (ZR [ZO 10 (.fx (.mk0 1) []),ZM 7 10] (.seq (ZR [ZM 11 0,ZO 12 (.bin .lss (.t 11) (.c (.int .i64 0))),ZM 13 12,ZG 14 (.mv (.t 0)) 13 false,ZG 15 (.bin .gtr (.t 14) (.c (.int .i64 5))) 13 false,ZO 16 (.pick (.t 13) (.c (.bool true)) (.t 15)),ZM 17 16,ZG 18 (.mv (.t 2)) 17 false,ZG 19 (.mv (.t 0)) 17 false,ZG 20 (.call 13 [.t 18,.t 19]) 17 false,ZG 21 (.un .not (.t 20)) 17 false,ZO 22 (.pick (.t 17) (.c (.bool true)) (.t 21))] (.cond (.t 22) (ZR [ZM 23 7,ZM 6 23] .ret) .skip)) (ZR [ZM 24 0,ZO 25 (.call 35 [.t 24,(.c .nilsl)]),ZM 8 25] (.seq (ZR [ZO 9 (.mv (.c (.int .i64 0)))] (.block 0 (.loop (.seq (ZR [ZM 26 9,ZM 27 8,ZO 28 (.len false (.t 27)),ZO 29 (.bin .lss (.t 26) (.t 28))] (.cond (.t 29) .skip (.exit 0))) (.seq (.block 1 (ZR [ZM 32 8,ZM 33 9,ZO 34 (.iaddr 1 (.t 32) (.t 33)),ZO 35 (.load false 1 (.t 34)),ZM 36 1,ZM 37 2,ZO 38 (.call 36 [.t 35,.t 36,.t 37])] (.cond (.t 38) (.region [ZM 39 7,ZM 40 8,ZM 41 9,ZO 42 (.iaddr 1 (.t 40) (.t 41)),ZO 43 (.load false 1 (.t 42)),ZO 44 (.bslice 1 1 [.nilsl] [(0,(.t 43))]),ZO 45 (.app 1 24 [.nilsl] false (.t 39) (.t 44)),ZM 7 45] false) .skip))) (.region [ZM 30 9,ZO 31 (.bin .add (.t 30) (.c (.int .i64 1))),ZM 9 31] false)))))) (ZR [ZM 46 7,ZM 6 46] .ret))))))
theorem sp_ref_Orders (n:Int) (K b:List Int) (hn:i64 n) (hK:K.length≤1000000) (hb:b.length≤1000000):Zal Tryz.prog 12 [pI n,.sl 1 (zR K),.sl 1 (zR b)] (.sl 1 (llR ((ordsR n K b).map nz))):=by
 have OD:=sp_Order b n hb hn;rw [← oR_ll];refine Zaf ?_ (by rw [oR_ll];exact closed_llR _) (by intro y hy;simp only [List.mem_cons,List.not_mem_nil,or_false] at hy;rcases hy with rfl|rfl|rfl;exact cI _;exact Zav _;exact Zav _);refine Gn (vc:=c_pandectref38_Orders) [.t 6] Tryz.func12 ?_;unfold c_pandectref38_Orders;try dsimp only [ZM,ZO,ZN,ZG,ZR,ZU]
 refine Rp0 [0,1,2] ?_;refine Rp0 [0,1,2,7] ?_;refine Zac ?_;by_cases h:0≤n∧n≤5∧ordB b n=true
 ·have hR:ordsR n K b=(Zbk n.toNat).filter fun r=>keepsF r (b.map Int.toNat) (inB K):=by unfold ordsR;rw [if_pos h]
  rw [hR];obtain ⟨h0,h5,ho⟩:=h;rw [ho] at OD;have g1:decide (n<0)=false:=decide_eq_false (by omega);have g2:decide (n>5)=false:=decide_eq_false (by omega);obtain ⟨m,rfl⟩:∃ m:Nat,n=(m:Int):=⟨n.toNat,by omega⟩;obtain ⟨e1,e2⟩:=ord_nat ho;rw [Int.toNat_natCast];have AL:=sp_All m (by omega);have KE:=fun (r:List Nat) (h:r∈Zbk m)=>sp_ref_Keeps r (b.map Int.toNat) K hK (rows_perm (by omega) h).2 (by rw [(rows_perm (by omega) h).1];exact e2) (by rw [(rows_perm (by omega) h).1];omega);have hRl:=rows_len m (by omega);rw [nR_eq (b.map Int.toNat),e1] at KE;generalize b.map Int.toNat=b' at *;generalize Zbk m=RR at *;have hLl:=oR_len RR;have hrow:=fun (k:Nat) (h:k<RR.length)=>oR_at h;refine Rp1 [0,1,2,7,22] (x2 g1 g2) ?_;refine Ap0 OD ?_;refine Fp0 ?_;refine Rp0 [1,2,7,8] ?_;refine Ap0 AL ?_;generalize oR RR=A at *;refine Zac ?_;refine Rp0 [1,2,7,8,9] ?_;refine Zad ?_;refine Za5 (σ:={ x:Nat×Nat×Nat//x.1≤RR.length∧x.2.1<x.2.2 }) (fun x=>([(1,.sl 1 (zR K)),(2,.sl 1 (zR b)),(7,.own x.1.2.1 0 ((RR.take x.1.1).filter fun r=>keepsF r b' (inB K)).length),(8,.sl 1 A),(9,pI x.1.1)],⟨[(x.1.2.1,.arr false 1 (oR ((RR.take x.1.1).filter fun r=>keepsF r b' (inB K))))],x.1.2.2⟩)) (fun x=>RR.length-x.1.1) ⟨(0,0,1),Nat.zero_le _,Nat.one_pos⟩ ?_ ?_ ?_
  ·exact Fn0
  ·simp only [vmL,Nat.reduceEqDiff,Nat.reduceAdd,Nat.reduceLT,Nat.reduceLeDiff,Nat.reduceSub,Nat.reduceMul,reduceIte,reduceCtorEq,Int.reduceToNat,List.take_zero]
   first|done|rfl|exact ⟨rfl,rfl⟩|trivial
  rintro ⟨⟨k,id,t⟩,hk,hid⟩;simp only [] at hk hid ⊢;have qq:=N4 id t (t+1) (t+1+1);have hBl:=oR_len ((RR.take k).filter fun r=>keepsF r b' (inB K));have hBt:=oR_take ((RR.take k).filter fun r=>keepsF r b' (inB K));have hBs:((RR.take k).filter fun r=>keepsF r b' (inB K)).length≤120:=Nat.le_trans (List.length_filter_le _ _) (by rw [List.length_take];omega);refine Zac ?_;refine Rp1 [1,2,7,8,9,29] (x2 hLl qq) ?_;refine Zat rfl (fun h1=>?_) (fun h1=>?_)
  ·have ka:k<RR.length:=by simp only [decide_eq_true_eq] at h1;omega
   have hr:=hrow k ka;have KE1:=KE _ (List.getElem_mem ka);have hst:=filter_stepk (fun r=>keepsF r b' (inB K)) ka;have hoa:=oR_app ((RR.take k).filter fun r=>keepsF r b' (inB K)) RR[k];generalize RR[k]=r at *;refine Kp0 ?_;refine Zac ?_;refine Zad ?_;refine Rp1 [1,2,7,8,9,38] (x3 hLl hr qq) ?_;refine ⟨⟨by omega,by omega⟩,ACall_p KE1 ?_⟩;refine Sp1 qq ?_;cases hc:keepsF r b' (inB K) with
   | true =>
    rw [hc,if_pos rfl] at hst;generalize oR ((RR.take k).filter fun r=>keepsF r b' (inB K))=B at *;refine Ct ?_;refine rp1 [1,2,7,8,9] (x5 hLl hr hBl hBt qq) ?_;refine ⟨⟨by omega,by omega⟩,by omega,by omega,?_⟩;refine rp1 [1,2,7,8,9] (x2 (ad1 (a:=k) (by omega)) qq) ?_;refine ⟨⟨(k+1,t+1,t+2),ka,by simp⟩,?_⟩;simp only [hst,hoa,List.length_append,List.length_cons,List.length_nil]
    all_goals exact Fn1 qq
   | false =>
    rw [hc,if_neg Bool.false_ne_true] at hst;refine Fp0 ?_;refine rp1 [1,2,7,8,9] (x2 (ad1 (a:=k) (by omega)) qq) ?_;refine ⟨⟨(k+1,id,t),ka,hid⟩,?_⟩;simp only [hst]
    all_goals exact Fn1 qq
  ·have ka:k=RR.length:=by simp only [decide_eq_false_iff_not] at h1;omega
   subst ka;rw [List.take_length] at *;refine Ep0 ?_;refine Rp1 [6] qq ?_;refine Tp0 ?_;exact View.own_all (fz:=false) (by simp [Heap.get,HL.get]) hBl.symm
 ·have hR:ordsR n K b=[]:=by unfold ordsR;rw [if_neg h]
  rw [hR];refine Zac (VW_mid (σ:=Unit) (fun _=>([(7,.own 0 0 0),(22,.bool true)],⟨[(0,.arr false 1 [])],1⟩)) (Za1 [0,1,2,7,22] ?_) (fun _=>?_))
  ·by_cases c1:n<0
   ·have g1:=decide_eq_true c1;refine Sp1 g1 ?_;exact ⟨(),by first|trivial|rfl|exact ⟨rfl,rfl⟩⟩
   ·have g1:=decide_eq_false c1;by_cases c2:n>5
    ·have g2:=decide_eq_true c2;refine Sp1 (x2 g1 g2) ?_;exact ⟨(),by first|trivial|rfl|exact ⟨rfl,rfl⟩⟩
    ·have g2:=decide_eq_false c2;have hb2:ordB b n=false:=by
      cases h2:ordB b n with
      | false=>rfl
      | true=>exact absurd ⟨by omega,by omega,h2⟩ h
     rw [hb2] at OD;refine Sp1 (x2 g1 g2) ?_;refine Ap0 OD ?_;exact ⟨(),by first|trivial|rfl|exact ⟨rfl,rfl⟩⟩
  refine Ct ?_;refine Rp0 [6] ?_;refine Tp0 ?_;exact View.own_all (fz:=false) (es:=[]) (by simp [Heap.get,HL.get]) rfl
end Go.Proofs.YtldogpfookkbaaaGreatDoor.w
