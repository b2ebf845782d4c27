import Derived.Test.YtldogpfookkbaaaGreatDoorA0
import Derived.Test.YtldogpfookkbaaaGreatDoorV0
import Derived.Test.YtldogpfookkbaaaGreatDoorVmBa
import Derived.Test.YtldogpfookkbaaaGreatDoorVmZ
set_option linter.all false
set_option maxRecDepth 20000
set_option maxHeartbeats 0
namespace Go.VM
open Go
def nR (r:List Nat):List (List PV):=r.map fun (x:Nat)=>[pI x]
def zR (r:List Int):List (List PV):=r.map fun x=>[pI x]
theorem nR_len (r:List Nat):(nR r).length=r.length:=List.length_map _
theorem zR_len (r:List Int):(zR r).length=r.length:=List.length_map _
theorem nR_take (r:List Nat):List.take r.length (nR r)=nR r:=List.take_of_length_le (by rw [nR_len];exact Nat.le_refl _)
theorem zR_at {r:List Int} {k:Nat} (h:k<r.length):(zR r).getD k []=[pI r[k]]:=rowm h
theorem nR_at {r:List Nat} {k:Nat} (h:k<r.length):(nR r).getD k []=[pI (r[k]:Nat)]:=rowm h
def nz (r:List Nat):List Int:=r.map fun (x:Nat)=>(x:Int)
theorem nR_eq (r:List Nat):nR r=zR (nz r):=by unfold nR zR nz;rw [List.map_map];rfl
theorem nz_len (r:List Nat):(nz r).length=r.length:=List.length_map _
theorem nR_range (k:Nat):nR (List.range (k+1))=nR (List.range k)++[[pI k]]:=by unfold nR;rw [List.range_succ,List.map_append];rfl
def llR (l:List (List Int)):List (List PV):=l.map fun r=>[.sl 1 (zR r)]
theorem Zbi (r:List Int):Closed (.sl 1 (zR r)):=Zak (fun s _ x hx=>by rw [List.mem_singleton] at hx;subst hx;exact cI _)
theorem closed_nR (r:List Nat):Closed (.sl 1 (nR r)):=Zak (fun s _ x hx=>by rw [List.mem_singleton] at hx;subst hx;exact cI _)
theorem closed_llR (r:List (List Int)):Closed (.sl 1 (llR r)):=Zak (fun s _ x hx=>by rw [List.mem_singleton] at hx;subst hx;exact Zbi _)
def ordB (l:List Int) (n:Int):Bool:=decide ((l.length:Int)=n)&&(List.range n.toNat).all fun i=>l.contains (i:Int)
end Go.VM
namespace Go.Proofs.YtldogpfookkbaaaGreatDoor.w
open Go Go.VM
def Zbt:VC:=(ZR [ZO 2 (.mv (.c .nilsl))] (ZR [ZO 3 (.mv (.c .nilsl))] (.seq (ZR [ZM 5 0,ZO 6 (.mv (.c (.int .i64 0)))] (.block 0 (.loop (ZR [ZO 7 (.bin .lss (.t 6) (.t 5))] (.seq (.cond (.t 7) .skip (.exit 0)) (.seq (.block 1 (ZR [ZM 8 6,ZM 4 8] (.region [ZM 9 3,ZM 10 4,ZO 11 (.bslice 1 1 [.int .i64 0] [(0,(.t 10))]),ZO 12 (.app 1 8 [.int .i64 0] false (.t 9) (.t 11)),ZM 3 12] false))) (.region [ZO 13 (.bin .add (.t 6) (.c (.int .i64 1))),ZM 6 13] false))))))) (ZR [ZM 14 3,ZM 2 14] .ret))))
def c_pandectref38_Given:VC:=(ZR [ZO 2 (.mv (.c .nilsl))] (ZR [ZO 5 (.fx (.mk0 1) []),ZM 3 5] (.seq (ZR [ZO 4 (.mv (.c (.int .i64 0)))] (.block 0 (.loop (.seq (ZR [ZM 6 4,ZM 7 0,ZO 8 (.bin .lss (.t 6) (.t 7))] (.cond (.t 8) .skip (.exit 0))) (.seq (.block 1 (.region [ZM 11 3,ZM 12 4,ZO 13 (.bslice 1 1 [.int .i64 0] [(0,(.t 12))]),ZO 14 (.app 1 8 [.int .i64 0] false (.t 11) (.t 13)),ZM 3 14] false)) (.region [ZM 9 4,ZO 10 (.bin .add (.t 9) (.c (.int .i64 1))),ZM 4 10] false)))))) (ZR [ZM 15 3,ZM 2 15] .ret))))
theorem own_given (n:Nat) (hn:n≤1000) (t0:Nat):Zan Tryz.prog 30 [pI n] ⟨[],t0⟩ (fun p h'=>∃ id t',t0≤id∧id<t'∧p=.own id 0 n∧h'=⟨[(id,.arr false 1 (nR (List.range n)))],t'⟩):=by
 refine Zan.drop ?_;refine Gn (vc:=Zbt) [.t 2] Tryz.func30 ?_;unfold Zbt;try dsimp only [ZM,ZO,ZN,ZG,ZR,ZU]
 refine Rp0 [0] ?_;refine Rp0 [0,3] ?_;refine VW_own0 3 1 rfl ?_;refine Sp0 ?_;refine Zab ?_;refine Rp0 [3,5,6] ?_;refine Zac ?_;refine Zao (σ:={ x:Nat×Nat×Nat//x.1≤n∧t0≤x.2.1∧x.2.1<x.2.2 }) (fun x=>([(3,.own x.1.2.1 0 x.1.1),(5,pI n),(6,pI x.1.1)],⟨[(x.1.2.1,.arr false 1 (nR (List.range x.1.1)))],x.1.2.2⟩)) (fun x=>n-x.1.1) ⟨(0,t0,t0+1),Nat.zero_le _,Nat.le_refl _,Nat.lt_succ_self _⟩ ?_ ?_ ?_
 ·exact Fn0
 ·simp only [vmL,Nat.reduceEqDiff,Nat.reduceAdd,Nat.reduceLT,Nat.reduceLeDiff,Nat.reduceSub,Nat.reduceMul,reduceIte,reduceCtorEq,Int.reduceToNat]
  first|done|rfl|exact ⟨rfl,rfl⟩|trivial
 rintro ⟨⟨k,id,t⟩,hk,hid0,hid⟩;simp only [] at hk hid hid0 ⊢;have qq:=N4 id t (t+1) (t+1+1);have hl:=nR_len (List.range k);have htk:=nR_take (List.range k);rw [List.length_range] at hl htk;have hst:=nR_range k;refine Rp1 [3,5,6,7] qq ?_;refine Zab ?_;refine Zaf rfl (fun h1=>?_) (fun h1=>?_)
 ·have ka:k<n:=by simp only [decide_eq_true_eq] at h1;omega
  generalize nR (List.range k)=A at *;refine Kp0 ?_;refine Zab ?_;refine Zac ?_;refine Rp1 [3,4,5,6] qq ?_;refine rp1 [3,5,6] (x3 hl htk qq) ?_;refine ⟨by omega,by omega,?_⟩;refine rp1 [3,5,6] (x2 (ad1 (a:=k) (by omega)) qq) ?_;refine ⟨⟨(k+1,t+1,t+2),ka,by simp only [];omega,by simp only [];omega⟩,?_⟩;simp only [hst]
  all_goals exact Fn1 qq
 ·have ka:k=n:=by simp only [decide_eq_false_iff_not] at h1;omega
  subst ka;refine Ep0 ?_;refine Rp0 [2] ?_;refine Tp0 ?_;refine ⟨_,?_,id,t,hid0,hid,rfl,rfl⟩;exact ⟨Nat.le_refl _,by simp [HL.le,Heap.get,HL.get]⟩
theorem sp_given (n:Nat) (hn:n≤1000):Zaj Tryz.prog 30 [pI n] (.sl 1 (nR (List.range n))):=by
 refine Zal (Zan.mono (own_given n hn 0) ?_) (closed_nR _) (by intro y hy;rw [List.mem_singleton] at hy;subst hy;exact cI _);rintro p h' ⟨id,t',q1,q2,rfl,rfl⟩;exact View.own_all (fz:=false) (by simp [Heap.get,HL.get]) (by rw [nR_len,List.length_range])
theorem sp_ref38_Given (n:Nat) (hn:n≤1000):Zaj Tryz.prog 23 [pI n] (.sl 1 (nR (List.range n))):=by
 refine Gp (vc:=c_pandectref38_Given) [.t 2] (closed_nR _) Tryz.func23 ?_;unfold c_pandectref38_Given;try dsimp only [ZM,ZO,ZN,ZG,ZR,ZU]
 refine Rp0 [0] ?_;refine Rp0 [0,3] ?_;refine Zab ?_;refine Rp0 [0,3,4] ?_;refine Zac ?_;refine Zao (σ:={ x:Nat×Nat×Nat//x.1≤n∧x.2.1<x.2.2 }) (fun x=>([(0,pI n),(3,.own x.1.2.1 0 x.1.1),(4,pI x.1.1)],⟨[(x.1.2.1,.arr false 1 (nR (List.range x.1.1)))],x.1.2.2⟩)) (fun x=>n-x.1.1) ⟨(0,0,1),Nat.zero_le _,Nat.lt_succ_self _⟩ ?_ ?_ ?_
 ·exact Fn0
 ·simp only [vmL,Nat.reduceEqDiff,Nat.reduceAdd,Nat.reduceLT,Nat.reduceLeDiff,Nat.reduceSub,Nat.reduceMul,reduceIte,reduceCtorEq,Int.reduceToNat]
  first|done|rfl|exact ⟨rfl,rfl⟩|trivial
 rintro ⟨⟨k,id,t⟩,hk,hid⟩;simp only [] at hk hid ⊢;have qq:=N4 id t (t+1) (t+1+1);have hl:=nR_len (List.range k);have htk:=nR_take (List.range k);rw [List.length_range] at hl htk;have hst:=nR_range k;refine Zab ?_;refine Rp1 [0,3,4,8] qq ?_;refine Zaf rfl (fun h1=>?_) (fun h1=>?_)
 ·have ka:k<n:=by simp only [decide_eq_true_eq] at h1;omega
  generalize nR (List.range k)=A at *;refine Kp0 ?_;refine Zab ?_;refine Zac ?_;refine rp1 [0,3,4] (x3 hl htk qq) ?_;refine ⟨by omega,by omega,?_⟩;refine rp1 [0,3,4] (x2 (ad1 (a:=k) (by omega)) qq) ?_;refine ⟨⟨(k+1,t+1,t+2),ka,by simp only [];omega⟩,?_⟩;simp only [hst]
  all_goals exact Fn1 qq
 ·have ka:k=n:=by simp only [decide_eq_false_iff_not] at h1;omega
  subst ka;refine Ep0 ?_;refine Rp0 [2] ?_;refine Tp0 ?_;exact View.own_all (fz:=false) (by simp [Heap.get,HL.get]) (by rw [nR_len,List.length_range])
end Go.Proofs.YtldogpfookkbaaaGreatDoor.w
namespace Go.VM
open Go
def keptC (l:List Int):List PV:=(List.range 5).map fun (i:Nat)=>.bool (l.contains (i:Int))
theorem keptC_len (l:List Int):(keptC l).length=5:=rfl
theorem take_set {α:Type} (l:List α) (i:Nat) (x:α) (h:i<l.length):l.take i++[x]++l.drop (i+1)=l.set i x:=by
 rw [List.set_eq_take_append_cons_drop,if_pos h];simp
theorem keptC_set (l:List Int) (x:Nat) (hx:x<5):(keptC l).set x (.bool true)=keptC (l++[(x:Int)]):=by
 refine List.ext_getElem (by simp [keptC]) fun k h1 h2=>?_;simp only [keptC,List.getElem_set,List.getElem_map,List.getElem_range];by_cases h:x=k
 ·subst h;rw [if_pos rfl];simp
 ·rw [if_neg h];have:¬ ((k:Int)=(x:Int)):=by omega
  simp [this]
theorem keptC_skip (l:List Int) (x:Int) (hx:¬ (0≤x∧x<5)):keptC (l++[x])=keptC l:=by
 unfold keptC;refine List.map_congr_left fun i hi=>?_;rw [List.mem_range] at hi;have:¬ ((i:Int)=x):=by omega
 simp [this]
def Zb0 (r:List Nat):List PV:=(List.range 5).map fun (i:Nat)=>pI (if i∈r then (r.idxOf i:Int) else 0)
theorem placeC_len (r:List Nat):(Zb0 r).length=5:=rfl
theorem placeC_set (r:List Nat) (x:Nat) (hx:x<5) (hn:x ∉ r):(Zb0 r).set x (pI r.length)=Zb0 (r++[x]):=by
 refine List.ext_getElem (by simp [Zb0]) fun k h1 h2=>?_;simp only [Zb0,List.getElem_set,List.getElem_map,List.getElem_range];by_cases h:x=k
 ·subst h;rw [if_pos rfl];simp [List.idxOf_append,hn]
 ·rw [if_neg h];have h3:¬ k=x:=fun e=>h e.symm;by_cases hk:k∈r
  ·simp [hk,List.idxOf_append]
  ·simp [hk,h3]
theorem placeC_at {r:List Nat} {i:Nat} (hi:i<5) (hm:i∈r):(Zb0 r).getD i .any=pI (r.idxOf i):=by
 unfold Zb0;simp [List.getD_eq_getElem?_getD,hi,hm]
theorem keptC_at (l:List Int) {i:Nat} (hi:i<5):(keptC l).getD i .any=.bool (l.contains (i:Int)):=by
 unfold keptC;simp [List.getD_eq_getElem?_getD,hi]
theorem closed_keptC (l:List Int):Closed (.agg (keptC l)):=Zau (fun x hx=>by
 unfold keptC at hx;obtain ⟨i,_,rfl⟩:=List.mem_map.1 hx;exact cB _)
theorem closed_placeC (l:List Nat):Closed (.agg (Zb0 l)):=Zau (fun x hx=>by
 unfold Zb0 at hx;obtain ⟨i,_,rfl⟩:=List.mem_map.1 hx;exact cI _)
theorem nR_set (r:List Nat) (i x:Nat):(nR r).set i [pI (x:Nat)]=nR (r.set i x):=by
 unfold nR;rw [List.map_set]
theorem nR_getD {r:List Nat} {i:Nat} (h:i<r.length):(nR r).getD i []=[pI (r.getD i 0:Nat)]:=by
 rw [nR_at h];simp [List.getD_eq_getElem?_getD,h]
end Go.VM
namespace Go.Proofs.YtldogpfookkbaaaGreatDoor.w
open Go Go.VM
def c_orderset_kept:VC:=(ZR [ZO 2 (.alloc [(.bool false),(.bool false),(.bool false),(.bool false),(.bool false)])] (ZR [ZO 3 (.alloc [(.bool false),(.bool false),(.bool false),(.bool false),(.bool false)])] (.seq (ZR [ZM 6 0,ZO 7 (.len false (.t 6)),ZO 8 (.mv (.c (.int .i64 0)))] (.block 0 (.loop (ZR [ZO 9 (.bin .lss (.t 8) (.t 7))] (.seq (.cond (.t 9) .skip (.exit 0)) (.seq (.block 1 (ZR [ZO 10 (.iaddr 1 (.t 6) (.t 8)),ZO 11 (.load false 1 (.t 10)),ZM 5 11] (ZR [ZM 12 5,ZO 13 (.bin .geq (.t 12) (.c (.int .i64 0))),ZM 14 13,ZG 15 (.mv (.t 5)) 14 true,ZG 16 (.bin .lss (.t 15) (.c (.int .i64 5))) 14 true,ZO 17 (.pick (.t 14) (.t 16) (.c (.bool false)))] (.cond (.t 17) (.region [ZM 18 5,ZO 19 (.px (.aix 5) [.t 3,.t 18]),ZN (.store 1 (.t 19) (.c (.bool true)))] false) .skip)))) (.region [ZO 20 (.bin .add (.t 8) (.c (.int .i64 1))),ZM 8 20] false))))))) (ZR [ZO 21 (.load true 5 (.t 3)),ZN (.store 5 (.t 2) (.t 21))] .ret))))
def c_orderset_places:VC:=(ZR [ZO 2 (.alloc [.int .i64 0,.int .i64 0,.int .i64 0,.int .i64 0,.int .i64 0])] (ZR [ZO 3 (.alloc [.int .i64 0,.int .i64 0,.int .i64 0,.int .i64 0,.int .i64 0])] (.seq (ZR [ZM 6 0,ZO 7 (.len false (.t 6)),ZO 8 (.mv (.c (.int .i64 0)))] (.block 0 (.loop (ZR [ZO 9 (.bin .lss (.t 8) (.t 7))] (.seq (.cond (.t 9) .skip (.exit 0)) (.seq (.block 1 (ZR [ZM 10 8,ZO 11 (.iaddr 1 (.t 6) (.t 8)),ZO 12 (.load false 1 (.t 11)),ZM 4 10,ZM 5 12] (.region [ZM 13 5,ZM 14 4,ZO 15 (.px (.aix 5) [.t 3,.t 13]),ZN (.store 1 (.t 15) (.t 14))] false))) (.region [ZO 16 (.bin .add (.t 8) (.c (.int .i64 1))),ZM 8 16] false))))))) (ZR [ZO 17 (.load true 5 (.t 3)),ZN (.store 5 (.t 2) (.t 17))] .ret))))
def c_slices_Equal_int:VC:=(ZR [ZO 4 (.mv (.c (.bool false)))] (.seq (ZR [ZM 6 0,ZO 7 (.len false (.t 6)),ZM 8 1,ZO 9 (.len false (.t 8)),ZO 10 (.bin .neq (.t 7) (.t 9))] (.cond (.t 10) (ZR [ZO 4 (.mv (.c (.bool false)))] .ret) .skip)) (.seq (ZR [ZM 11 0,ZO 12 (.len false (.t 11)),ZO 13 (.mv (.c (.int .i64 0)))] (.block 0 (.loop (ZR [ZO 14 (.bin .lss (.t 13) (.t 12))] (.seq (.cond (.t 14) .skip (.exit 0)) (.seq (.block 1 (ZR [ZM 15 13,ZM 5 15] (.seq (.region [ZM 16 0,ZM 17 5,ZO 18 (.iaddr 1 (.t 16) (.t 17)),ZO 19 (.load false 1 (.t 18)),ZM 20 1,ZM 21 5,ZO 22 (.iaddr 1 (.t 20) (.t 21)),ZO 23 (.load false 1 (.t 22)),ZO 24 (.bin .neq (.t 19) (.t 23))] true) (.cond (.t 24) (ZR [ZO 4 (.mv (.c (.bool false)))] .ret) .skip)))) (.region [ZO 25 (.bin .add (.t 13) (.c (.int .i64 1))),ZM 13 25] false))))))) (ZR [ZO 4 (.mv (.c (.bool true)))] .ret))))
theorem sp_kept (l:List Int) (hl:l.length≤1000000):Zaj Tryz.prog 33 [.sl 1 (zR l)] (.agg (keptC l)):=by
 have hL:=zR_len l;have hrow:=fun (k:Nat) (h:k<l.length)=>zR_at h;refine Zal ?_ (closed_keptC _) (by intro y hy;rw [List.mem_singleton] at hy;subst hy;exact Zbi _);refine Gn (vc:=c_orderset_kept) [.c 2 true 5] Tryz.func33 ?_;unfold c_orderset_kept;try dsimp only [ZM,ZO,ZN,ZG,ZR,ZU]
 generalize zR l=ZL at *;refine Rp0 [0,2] ?_;refine Rp0 [0,2,3] ?_;refine Zab ?_;refine Rp1 [2,3,6,7,8] hL ?_;refine Zac ?_;refine Zao (σ:={ x:Nat×Nat//x.1≤l.length∧2≤x.2 }) (fun x=>([(2,.loc 0 0 0),(3,.loc 1 0 0),(6,.sl 1 ZL),(7,pI l.length),(8,pI x.1.1)],⟨[(1,.arr false 5 [keptC (l.take x.1.1)]),(0,.arr false 5 [[.bool false,.bool false,.bool false,.bool false,.bool false]])],x.1.2⟩)) (fun x=>l.length-x.1.1) ⟨(0,2),Nat.zero_le _,Nat.le_refl _⟩ ?_ ?_ ?_
 ·exact Fn0
 ·simp only [vmL,Nat.reduceEqDiff,Nat.reduceAdd,Nat.reduceLT,Nat.reduceLeDiff,Nat.reduceSub,Nat.reduceMul,reduceIte,reduceCtorEq,Int.reduceToNat]
  first|done|rfl|exact ⟨rfl,rfl⟩|trivial
 rintro ⟨⟨k,t⟩,hk,ht⟩;simp only [] at hk ht ⊢;have qq:=N4 0 1 t (t+1);refine Rp1 [2,3,6,7,8,9] qq ?_;refine Zab ?_;refine Zaf rfl (fun h1=>?_) (fun h1=>?_)
 ·have ka:k<l.length:=by simp only [decide_eq_true_eq] at h1;omega
  have hr:=hrow k ka;have hst:l.take (k+1)=l.take k++[l[k]]:=List.take_succ_eq_append_getElem ka;generalize l[k]=y at hr hst;have hkl:=keptC_len (l.take k);refine Kp0 ?_;refine Zab ?_;refine Zac ?_;refine Rp1 [2,3,5,6,7,8] (x3 hL hr qq) ?_;refine Ok ?_;by_cases hy:0≤y∧y<5
  ·obtain ⟨m,rfl⟩:∃ m:Nat,y=(m:Int):=⟨y.toNat,by omega⟩;have hm:m<5:=by omega
   have g1:decide ((m:Int)≥0)=true:=decide_eq_true (by omega);have g2:decide ((m:Int)<5)=true:=decide_eq_true (by omega);have hs:=keptC_set (l.take k) m hm;rw [← hst] at hs;have hts:=take_set (keptC (l.take k)) m (PV.bool true) (by rw [hkl];exact hm);refine Rp1 [2,3,5,6,7,8,17] (x3 g1 g2 qq) ?_;refine Ct ?_;refine rp1 [2,3,6,7,8] (x4 hkl hts hs qq) ?_;refine ⟨⟨by omega,by omega⟩,by omega,?_⟩;refine rp1 [2,3,6,7,8] (x2 (ad1 (a:=k) (by omega)) qq) ?_;refine ⟨⟨(k+1,t),ka,ht⟩,?_⟩;exact Fn1 qq
  ·have hs:=keptC_skip (l.take k) y hy;rw [← hst] at hs;refine Zab (VW_mid (σ:=Unit) (fun _=>([(2,.loc 0 0 0),(3,.loc 1 0 0),(5,pI y),(6,.sl 1 ZL),(7,pI l.length),(8,pI k),(17,.bool false)],⟨[(1,.arr false 5 [keptC (l.take k)]),(0,.arr false 5 [[.bool false,.bool false,.bool false,.bool false,.bool false]])],t⟩)) (Zag [2,3,5,6,7,8,17] ?_) (fun _=>?_))
   ·by_cases h0:0≤y
    ·have g1:decide (y≥0)=true:=decide_eq_true (by omega);have g2:decide (y<5)=false:=decide_eq_false (by omega);refine Sp1 (x3 g1 g2 qq) ?_;refine ⟨(),?_⟩;exact Fn1 qq
    ·have g1:decide (y≥0)=false:=decide_eq_false (by omega);refine Sp1 (x2 g1 qq) ?_;refine ⟨(),?_⟩;exact Fn1 qq
   refine Fp0 ?_;refine rp1 [2,3,6,7,8] (x2 (ad1 (a:=k) (by omega)) qq) ?_;refine ⟨⟨(k+1,t),ka,ht⟩,?_⟩;simp only [hs]
   all_goals exact Fn1 qq
 ·have ka:k=l.length:=by simp only [decide_eq_false_iff_not] at h1;omega
  subst ka;rw [List.take_length];refine Ep0 ?_;have htk:List.take 5 (keptC l)=keptC l:=List.take_of_length_le (by rw [keptC_len];exact Nat.le_refl _);have hkl:=keptC_len l;refine Rp1 [2] (x4 htk hkl @xan qq) ?_;refine VW_ret ?_;try simp only [vmL,Nat.reduceEqDiff,Nat.reduceAdd,Nat.reduceLT,Nat.reduceLeDiff,Nat.reduceSub,Nat.reduceMul,reduceIte,reduceCtorEq,Int.reduceToNat,htk,hkl,List.append_nil]
  first|exact View.refl _ _|exact ⟨Nat.le_refl _,View.refl _ _⟩
theorem sp_places (l:List Nat) (hn:l.Nodup) (hlt:∀ x∈l,x<5) (hl:l.length≤1000000):Zaj Tryz.prog 55 [.sl 1 (nR l)] (.agg (Zb0 l)):=by
 have hL:=nR_len l;have hrow:=fun (k:Nat) (h:k<l.length)=>nR_at h;refine Zal ?_ (closed_placeC _) (by intro y hy;rw [List.mem_singleton] at hy;subst hy;exact closed_nR _);refine Gn (vc:=c_orderset_places) [.c 2 true 5] Tryz.func55 ?_;unfold c_orderset_places;try dsimp only [ZM,ZO,ZN,ZG,ZR,ZU]
 generalize nR l=ZL at *;refine Rp0 [0,2] ?_;refine Rp0 [0,2,3] ?_;refine Zab ?_;refine Rp1 [2,3,6,7,8] hL ?_;refine Zac ?_;refine Zao (σ:={ x:Nat×Nat//x.1≤l.length∧2≤x.2 }) (fun x=>([(2,.loc 0 0 0),(3,.loc 1 0 0),(6,.sl 1 ZL),(7,pI l.length),(8,pI x.1.1)],⟨[(1,.arr false 5 [Zb0 (l.take x.1.1)]),(0,.arr false 5 [[pI 0,pI 0,pI 0,pI 0,pI 0]])],x.1.2⟩)) (fun x=>l.length-x.1.1) ⟨(0,2),Nat.zero_le _,Nat.le_refl _⟩ ?_ ?_ ?_
 ·exact Fn0
 ·simp only [vmL,Nat.reduceEqDiff,Nat.reduceAdd,Nat.reduceLT,Nat.reduceLeDiff,Nat.reduceSub,Nat.reduceMul,reduceIte,reduceCtorEq,Int.reduceToNat]
  first|done|rfl|exact ⟨rfl,rfl⟩|trivial
 rintro ⟨⟨k,t⟩,hk,ht⟩;simp only [] at hk ht ⊢;have qq:=N4 0 1 t (t+1);refine Rp1 [2,3,6,7,8,9] qq ?_;refine Zab ?_;refine Zaf rfl (fun h1=>?_) (fun h1=>?_)
 ·have ka:k<l.length:=by simp only [decide_eq_true_eq] at h1;omega
  have hr:=hrow k ka;have hst:l.take (k+1)=l.take k++[l[k]]:=List.take_succ_eq_append_getElem ka;have hm:=hlt _ (List.getElem_mem ka);have hnt:l[k] ∉ l.take k:=by
   intro hh;obtain ⟨j,hj,he⟩:=List.getElem_of_mem hh;rw [List.length_take] at hj;rw [List.getElem_take] at he;have:=(List.getElem_inj hn).1 he;omega
  have hlk:(l.take k).length=k:=by rw [List.length_take];omega
  generalize l[k]=m at *;have hkl:=placeC_len (l.take k);have hs:=placeC_set (l.take k) m hm hnt;rw [← hst,hlk] at hs;have hts:=take_set (Zb0 (l.take k)) m (pI k) (by rw [hkl];exact hm);refine Kp0 ?_;refine Zab ?_;refine Zac ?_;refine Rp1 [2,3,4,5,6,7,8] (x3 hL hr qq) ?_;refine Ok ?_;refine rp1 [2,3,6,7,8] (x4 hkl hts hs qq) ?_;refine ⟨⟨by omega,by omega⟩,by omega,?_⟩;refine rp1 [2,3,6,7,8] (x2 (ad1 (a:=k) (by omega)) qq) ?_;refine ⟨⟨(k+1,t),ka,ht⟩,?_⟩;exact Fn1 qq
 ·have ka:k=l.length:=by simp only [decide_eq_false_iff_not] at h1;omega
  subst ka;rw [List.take_length];refine Ep0 ?_;have htk:List.take 5 (Zb0 l)=Zb0 l:=List.take_of_length_le (by rw [placeC_len];exact Nat.le_refl _);have hkl:=placeC_len l;refine Rp1 [2] (x4 htk hkl @xan qq) ?_;refine VW_ret ?_;try simp only [vmL,Nat.reduceEqDiff,Nat.reduceAdd,Nat.reduceLT,Nat.reduceLeDiff,Nat.reduceSub,Nat.reduceMul,reduceIte,reduceCtorEq,Int.reduceToNat,htk,hkl,List.append_nil]
  first|exact View.refl _ _|exact ⟨Nat.le_refl _,View.refl _ _⟩
theorem sp_Equal_int (a b:List Int) (ha:a.length≤1000000):Zaj Tryz.prog 29 [.sl 1 (zR a),.sl 1 (zR b)] (.bool (decide (a=b))):=by
 have hA:=zR_len a;have hB:=zR_len b;have hra:=fun (k:Nat) (h:k<a.length)=>zR_at h;have hrb:=fun (k:Nat) (h:k<b.length)=>zR_at h;refine Zal ?_ (cB _) (by intro y hy;simp only [List.mem_cons,List.not_mem_nil,or_false] at hy;rcases hy with rfl|rfl<;>exact Zbi _);refine Gn (vc:=c_slices_Equal_int) [.t 4] Tryz.func29 ?_;unfold c_slices_Equal_int;try dsimp only [ZM,ZO,ZN,ZG,ZR,ZU]
 generalize zR a=ZA at *;generalize zR b=ZB at *;refine Rp0 [0,1] ?_;refine Zab ?_;by_cases he:a.length=b.length
 ·have g1:((a.length:Int) != (b.length:Int))=false:=by rw [bne_eq_false_iff_eq];omega
  refine Rp1 [0,1,10] (x3 hA hB g1) ?_;refine Fp0 ?_;refine Zab ?_;refine Rp1 [0,1,12,13] hA ?_;refine Zac ?_;refine Zao (σ:={ k:Nat//k≤a.length∧∀ (j:Nat) (hj:j<a.length),j<k→a[j]=b[j]'(by omega) }) (fun s=>([(0,.sl 1 ZA),(1,.sl 1 ZB),(12,pI a.length),(13,pI s.1)],⟨[],0⟩)) (fun s=>a.length-s.1) ⟨0,Nat.zero_le _,fun j _ h=>by cases h⟩ ?_ ?_ ?_
  ·exact Fn0
  ·simp only [vmL,Nat.reduceEqDiff,Nat.reduceAdd,Nat.reduceLT,Nat.reduceLeDiff,Nat.reduceSub,Nat.reduceMul,reduceIte,reduceCtorEq,Int.reduceToNat]
   try trivial
  rintro ⟨k,hk,hpre⟩;simp only [];refine Rp1 [0,1,12,13,14] hA ?_;refine Zab ?_;refine Zaf rfl (fun h1=>?_) (fun h1=>?_)
  ·have ka:k<a.length:=by simp only [decide_eq_true_eq] at h1;omega
   have kb:k<b.length:=by omega
   have r1:=hra k ka;have r2:=hrb k kb;refine Kp0 ?_;refine Zab ?_;refine Zac ?_;refine Rp0 [0,1,5,12,13] ?_;by_cases e:a[k]=b[k]
   ·have g:(a[k] != b[k])=false:=by rw [bne_eq_false_iff_eq];exact e
    have hp2:∀ (j:Nat) (hj:j<a.length),j<k+1→a[j]=b[j]'(by omega):=fun j hj hjk=>by
     by_cases ej:j=k
     ·subst ej;exact e
     ·exact hpre j hj (by omega)
    generalize a[k]=y at r1 g;generalize b[k]=z at r2 g;refine Zab (Zbs [0,1,12,13,24] (by simp [Heap.le,Heap.get,HL.le,HL.get]) ?_);refine Sp1 (x5 hA hB r1 r2 g) ?_;refine ⟨⟨by omega,by omega⟩,⟨by omega,by omega⟩,?_⟩;refine Fp0 ?_;refine rp1 [0,1,12,13] (ad1 (a:=k) (by omega)) ?_;refine ⟨⟨k+1,ka,hp2⟩,?_⟩;exact Fn0
   ·have g:(a[k] != b[k])=true:=by rw [bne_iff_ne];exact e
    have hne:decide (a=b)=false:=decide_eq_false fun h=>e (by subst h;rfl);generalize a[k]=y at r1 g;generalize b[k]=z at r2 g;refine Zab (Zbs [0,1,12,13,24] (by simp [Heap.le,Heap.get,HL.le,HL.get]) ?_);refine Sp1 (x5 hA hB r1 r2 g) ?_;refine ⟨⟨by omega,by omega⟩,⟨by omega,by omega⟩,?_⟩;refine Ct ?_;refine Rp0 [4] ?_;refine Tp0 ?_;rw [hne];exact View.refl _ _
  ·have ka:k=a.length:=by simp only [decide_eq_false_iff_not] at h1;omega
   have hee:decide (a=b)=true:=decide_eq_true (List.ext_getElem he fun j h1 h2=>hpre j h1 (by omega));refine Ep0 ?_;refine Rp0 [4] ?_;refine Tp0 ?_;rw [hee];exact View.refl _ _
 ·have g1:((a.length:Int) != (b.length:Int))=true:=by rw [bne_iff_ne];omega
  have hne:decide (a=b)=false:=decide_eq_false fun h=>he (by rw [h]);refine Rp1 [0,1,10] (x3 hA hB g1) ?_;refine Ct ?_;refine Rp0 [4] ?_;refine Tp0 ?_;rw [hne];exact View.refl _ _
end Go.Proofs.YtldogpfookkbaaaGreatDoor.w
namespace Go.VM
open Go
theorem keepsP_row (r b:List Nat) (K:Nat→Bool) (h:∀ i,i<r.length→∀ k,k<i→((K i||K k)&&diffB r b i k)=false):Zbq r b K=true:=by
 unfold Zbq;simp only [List.all_eq_true,List.mem_range,Bool.not_eq_true'];exact h
theorem keepsP_not (r b:List Nat) (K:Nat→Bool) {i k:Nat} (hi:i<r.length) (hk:k<i) (h:((K i||K k)&&diffB r b i k)=true):Zbq r b K=false:=by
 rw [Bool.eq_false_iff];intro hh;unfold Zbq at hh;simp only [List.all_eq_true,List.mem_range,Bool.not_eq_true'] at hh;rw [hh i hi k hk] at h;cases h
end Go.VM
namespace Go.Proofs.YtldogpfookkbaaaGreatDoor.w
open Go Go.VM
def c_orderset_keeps:VC:=(ZR [ZO 5 (.box 5 (.t 2)),ZO 6 (.mv (.c (.bool false)))] (ZR [ZM 11 0,ZO 12 (.call 55 [.t 11]),ZM 13 1,ZO 14 (.call 55 [.t 13]),ZO 7 (.alloc [.int .i64 0,.int .i64 0,.int .i64 0,.int .i64 0,.int .i64 0]),ZO 8 (.alloc [.int .i64 0,.int .i64 0,.int .i64 0,.int .i64 0,.int .i64 0]),ZN (.store 5 (.t 7) (.t 12)),ZN (.store 5 (.t 8) (.t 14))] (.seq (ZR [ZM 15 0,ZO 16 (.len false (.t 15)),ZO 17 (.mv (.c (.int .i64 0)))] (.block 0 (.loop (ZR [ZO 18 (.bin .lss (.t 17) (.t 16))] (.seq (.cond (.t 18) .skip (.exit 0)) (.seq (.block 1 (ZR [ZM 19 17,ZM 9 19] (ZR [ZM 20 9,ZO 21 (.mv (.c (.int .i64 0)))] (.block 2 (.loop (ZR [ZO 22 (.bin .lss (.t 21) (.t 20))] (.seq (.cond (.t 22) .skip (.exit 2)) (.seq (.block 3 (ZR [ZM 23 21,ZM 10 23] (.seq (.region [ZM 24 9,ZO 25 (.px (.aix 5) [.t 5,.t 24]),ZO 26 (.load false 1 (.t 25)),ZM 27 26,ZG 28 (.mv (.t 10)) 27 false,ZG 29 (.px (.aix 5) [.t 5,.t 28]) 27 false,ZG 30 (.load false 1 (.t 29)) 27 false,ZO 31 (.pick (.t 27) (.c (.bool true)) (.t 30)),ZM 32 31,ZG 33 (.mv (.t 9)) 32 true,ZG 34 (.px (.aix 5) [.t 7,.t 33]) 32 true,ZG 35 (.load false 1 (.t 34)) 32 true,ZG 36 (.mv (.t 10)) 32 true,ZG 37 (.px (.aix 5) [.t 7,.t 36]) 32 true,ZG 38 (.load false 1 (.t 37)) 32 true,ZG 39 (.bin .lss (.t 35) (.t 38)) 32 true,ZG 40 (.mv (.t 9)) 32 true,ZG 41 (.px (.aix 5) [.t 8,.t 40]) 32 true,ZG 42 (.load false 1 (.t 41)) 32 true,ZG 43 (.mv (.t 10)) 32 true,ZG 44 (.px (.aix 5) [.t 8,.t 43]) 32 true,ZG 45 (.load false 1 (.t 44)) 32 true,ZG 46 (.bin .lss (.t 42) (.t 45)) 32 true,ZG 47 (.binb .neq (.t 39) (.t 46)) 32 true,ZO 48 (.pick (.t 32) (.t 47) (.c (.bool false)))] true) (.cond (.t 48) (ZR [ZO 6 (.mv (.c (.bool false)))] .ret) .skip)))) (.region [ZO 49 (.bin .add (.t 21) (.c (.int .i64 1))),ZM 21 49] false))))))))) (.region [ZO 50 (.bin .add (.t 17) (.c (.int .i64 1))),ZM 17 50] false))))))) (ZR [ZO 6 (.mv (.c (.bool true)))] .ret))))
theorem nth_take (C:List PV) (i:Nat):(List.take 1 (List.drop i C)).getD 0 .any=C.getD i .any:=by
 simp [List.getD_eq_getElem?_getD,List.getElem?_take,List.getElem?_drop]
theorem sp_keeps (r b:List Nat) (K:List Int) (hr:permB r.length r) (hb:permB r.length b) (h5:r.length≤5):Zaj Tryz.prog 32 [.sl 1 (nR r),.sl 1 (nR b),.agg (keptC K)] (.bool (Zbq r b fun i=>K.contains (i:Int))):=by
 obtain ⟨nr,lr⟩:=perm_nodup _ _ hr;obtain ⟨nb,lb⟩:=perm_nodup _ _ hb;have PR:=sp_places r nr (fun x hx=>by have:=lr x hx;omega) (by omega);have PB:=sp_places b nb (fun x hx=>by have:=lb x hx;omega) (by have:=hb.1;omega);have hL:=nR_len r;have aR:=fun (i:Nat) (h:i<r.length)=>placeC_at (r:=r) (i:=i) (by omega) (hr.2 i h);have aB:=fun (i:Nat) (h:i<r.length)=>placeC_at (r:=b) (i:=i) (by omega) (hb.2 i h);have aK:=fun (i:Nat) (h:i<r.length)=>keptC_at K (i:=i) (by omega);have dR:=placeC_len r;have dB:=placeC_len b;have dK:=keptC_len K;have tR:List.take 5 (Zb0 r)=Zb0 r:=List.take_of_length_le (by rw [dR];exact Nat.le_refl _);have tB:List.take 5 (Zb0 b)=Zb0 b:=List.take_of_length_le (by rw [dB];exact Nat.le_refl _);have tK:List.take 5 (keptC K)=keptC K:=List.take_of_length_le (by rw [dK];exact Nat.le_refl _);have kt:=keepsP_row r b (fun i=>K.contains (i:Int));have kf:=fun (i k:Nat) (h1:i<r.length) (h2:k<i)=>keepsP_not r b (fun i=>K.contains (i:Int)) h1 h2;have hd:∀ i k,diffB r b i k=(decide ((r.idxOf i:Int)<(r.idxOf k:Int)) != decide ((b.idxOf i:Int)<(b.idxOf k:Int))):=fun i k=>by
  unfold diffB;rw [show decide ((r.idxOf i:Int)<(r.idxOf k:Int))=decide (r.idxOf i<r.idxOf k) from decide_eq_decide.2 (by omega),show decide ((b.idxOf i:Int)<(b.idxOf k:Int))=decide (b.idxOf i<b.idxOf k) from decide_eq_decide.2 (by omega)]
 refine Zal ?_ (cB _) (by intro y hy;simp only [List.mem_cons,List.not_mem_nil,or_false] at hy;rcases hy with rfl|rfl|rfl;exact closed_nR _;exact closed_nR _;exact closed_keptC _);refine Gn (vc:=c_orderset_keeps) [.t 6] Tryz.func32 ?_;unfold c_orderset_keeps;try dsimp only [ZM,ZO,ZN,ZG,ZR,ZU]
 generalize nR r=ZR' at *;generalize nR b=ZB' at *;generalize Zb0 r=CR at *;generalize Zb0 b=CB at *;generalize keptC K=CK at *;refine Rp1 [0,1,5] (x2 tK dK) ?_;refine Rp1 [0,5,7,8] (x2 tK dK) ?_;refine Ap0 PR ?_;refine Za8 PB ?_;simp only [vmL,Nat.reduceEqDiff,Nat.reduceAdd,Nat.reduceLT,Nat.reduceLeDiff,Nat.reduceSub,Nat.reduceMul,reduceIte,reduceCtorEq,Int.reduceToNat,tR,dR,tB,dB,tK,dK,List.append_nil];refine Zaz [(0,.sl 1 ZR'),(5,.ro CK),(7,.ro CR),(8,.ro CB)] ⟨View.refl _ _,View.loc (z:=5) (fz:=false) (es:=[CK]) rfl (by simp) rfl (by simp [dK]),View.loc (z:=5) (fz:=false) (es:=[CR]) rfl (by simp) rfl (by simp [dR]),View.loc (z:=5) (fz:=false) (es:=[CB]) rfl (by simp) rfl (by simp [dB]),trivial⟩ ?_;refine Zab ?_;refine Rp1 [5,7,8,16,17] hL ?_;refine Zac ?_;refine Zao (σ:={ x:Nat×Nat//x.1≤r.length∧∀ i,i<x.1→∀ k,k<i→((K.contains (i:Int)||K.contains (k:Int))&&diffB r b i k)=false }) (fun x=>([(5,.ro CK),(7,.ro CR),(8,.ro CB),(16,pI r.length),(17,pI x.1.1)],⟨[],x.1.2⟩)) (fun x=>r.length-x.1.1) ⟨(0,3),Nat.zero_le _,fun i h=>by cases h⟩ ?_ ?_ ?_
 ·exact Fn0
 ·simp only [vmL,Nat.reduceEqDiff,Nat.reduceAdd,Nat.reduceLT,Nat.reduceLeDiff,Nat.reduceSub,Nat.reduceMul,reduceIte,reduceCtorEq,Int.reduceToNat]
  first|done|rfl|exact ⟨rfl,rfl⟩|trivial
 rintro ⟨⟨i,t⟩,hi,hpre⟩;simp only [] at hi hpre ⊢;refine Rp0 [5,7,8,16,17,18] ?_;refine Zab ?_;refine Zaf rfl (fun h1=>?_) (fun h1=>?_)
 ·have ia:i<r.length:=by simp only [decide_eq_true_eq] at h1;omega
  refine Kp0 ?_;refine Zab ?_;refine Zac ?_;refine Rp0 [5,7,8,9,16,17] ?_;refine Rp0 [5,7,8,9,16,17,20,21] ?_;refine Zac ?_;refine Zao (σ:={ x:Nat×Nat//x.1≤i∧∀ k,k<x.1→((K.contains (i:Int)||K.contains (k:Int))&&diffB r b i k)=false }) (fun x=>([(5,.ro CK),(7,.ro CR),(8,.ro CB),(9,pI i),(16,pI r.length),(17,pI i),(20,pI i),(21,pI x.1.1)],⟨[],x.1.2⟩)) (fun x=>i-x.1.1) ⟨(0,t),Nat.zero_le _,fun k h=>by cases h⟩ ?_ ?_ ?_
  ·exact Fn0
  ·simp only [vmL,Nat.reduceEqDiff,Nat.reduceAdd,Nat.reduceLT,Nat.reduceLeDiff,Nat.reduceSub,Nat.reduceMul,reduceIte,reduceCtorEq,Int.reduceToNat]
   first|done|rfl|exact ⟨rfl,rfl⟩|trivial
  rintro ⟨⟨k,t⟩,hk,hpre2⟩;simp only [] at hk hpre2 ⊢;refine Rp0 [5,7,8,9,16,17,20,21,22] ?_;refine Zab ?_;refine Zaf rfl (fun h2=>?_) (fun h2=>?_)
  ·have ka:k<i:=by simp only [decide_eq_true_eq] at h2;omega
   have a1:=aR i ia;have a2:=aR k (by omega);have a3:=aB i ia;have a4:=aB k (by omega);have a5:=aK i ia;have a6:=aK k (by omega);have hdi:=hd i k;have kf1:=kf i k ia ka;have hp3:((K.contains (i:Int)||K.contains (k:Int))&&diffB r b i k)=false→∀ k',k'<k+1→((K.contains (i:Int)||K.contains (k':Int))&&diffB r b i k')=false:=fun h k' hk'=>by
    by_cases e:k'=k
    ·subst e;exact h
    ·exact hpre2 k' (by omega)
   refine Kp0 ?_;refine Zab ?_;refine Zac ?_;refine Rp0 [5,7,8,9,10,16,17,20,21] ?_;refine Zab (VW_mid (σ:=Unit) (fun _=>([(5,.ro CK),(7,.ro CR),(8,.ro CB),(9,pI i),(16,pI r.length),(17,pI i),(20,pI i),(21,pI k),(48,.bool ((K.contains (i:Int)||K.contains (k:Int))&&diffB r b i k))],⟨[],t⟩)) (Zbs [5,7,8,9,16,17,20,21,48] (by simp [Heap.le,Heap.get,HL.le,HL.get]) ?_) (fun _=>?_))
   ·rw [hdi];cases hc1:K.contains (i:Int) with
    | true =>
     rw [hc1] at a5;simp only [vmL,Nat.reduceEqDiff,Nat.reduceAdd,Nat.reduceLT,Nat.reduceLeDiff,Nat.reduceSub,Nat.reduceMul,reduceIte,reduceCtorEq,Int.reduceToNat,Int.toNat_natCast,nth_take,List.length_drop,dK,dR,dB,a1,a2,a3,a4,a5,a6];refine ⟨⟨by omega,by omega⟩,by omega,⟨by omega,by omega⟩,by omega,⟨by omega,by omega⟩,by omega,⟨by omega,by omega⟩,by omega,⟨by omega,by omega⟩,by omega,(),?_⟩;rw [Bool.true_or,Bool.true_and]
    | false =>
     rw [hc1] at a5;cases hc2:K.contains (k:Int) with
     | true =>
      rw [hc2] at a6;simp only [vmL,Nat.reduceEqDiff,Nat.reduceAdd,Nat.reduceLT,Nat.reduceLeDiff,Nat.reduceSub,Nat.reduceMul,reduceIte,reduceCtorEq,Int.reduceToNat,Int.toNat_natCast,nth_take,List.length_drop,dK,dR,dB,a1,a2,a3,a4,a5,a6];refine ⟨⟨by omega,by omega⟩,by omega,⟨by omega,by omega⟩,by omega,⟨by omega,by omega⟩,by omega,⟨by omega,by omega⟩,by omega,⟨by omega,by omega⟩,by omega,⟨by omega,by omega⟩,by omega,(),?_⟩;rw [Bool.or_true,Bool.true_and]
     | false =>
      rw [hc2] at a6;simp only [vmL,Nat.reduceEqDiff,Nat.reduceAdd,Nat.reduceLT,Nat.reduceLeDiff,Nat.reduceSub,Nat.reduceMul,reduceIte,reduceCtorEq,Int.reduceToNat,Int.toNat_natCast,nth_take,List.length_drop,dK,dR,dB,a1,a2,a3,a4,a5,a6];refine ⟨⟨by omega,by omega⟩,by omega,⟨by omega,by omega⟩,by omega,(),?_⟩;rw [Bool.or_false,Bool.false_and]
   ·cases hc:((K.contains (i:Int)||K.contains (k:Int))&&diffB r b i k) with
    | true =>
     refine Ct ?_;refine Rp0 [6] ?_;refine Tp0 ?_;rw [kf1 hc];exact View.refl _ _
    | false =>
     refine Fp0 ?_;refine rp1 [5,7,8,9,16,17,20,21] (ad1 (a:=k) (by omega)) ?_;refine ⟨⟨(k+1,t),ka,hp3 hc⟩,?_⟩;exact Fn0
  ·have ka:k=i:=by simp only [decide_eq_false_iff_not] at h2;omega
   subst ka;refine Ep0 ?_;refine rp1 [5,7,8,16,17] (ad1 (a:=k) (by omega)) ?_;refine ⟨⟨(k+1,t),ia,fun i' h' k' hk'=>?_⟩,?_⟩
   ·by_cases e:i'=k
    ·subst e;exact hpre2 k' hk'
    ·exact hpre i' (by simp only [] at h';omega) k' hk'
   exact Fn0
 ·have ia:i=r.length:=by simp only [decide_eq_false_iff_not] at h1;omega
  subst ia;refine Ep0 ?_;refine Rp0 [6] ?_;refine Tp0 ?_;rw [kt hpre];exact View.refl _ _
end Go.Proofs.YtldogpfookkbaaaGreatDoor.w
