import Derived.Test.YtcgdjembdjdlhaaGreatDoorJn
import Derived.Test.YtcgdjembdjdlhaaGreatDoorVmPk
import Derived.Test.YtcgdjembdjdlhaaGreatDoorVmAx
import Derived.Test.YtcgdjembdjdlhaaGreatDoorV0
import Derived.Test.YtcgdjembdjdlhaaGreatDoorVmBa
import Derived.Test.YtcgdjembdjdlhaaGreatDoorVmZ
set_option linter.all false
set_option maxRecDepth 20000
set_option maxHeartbeats 0
namespace Go.VM
open Go
def rowC (w:Int) (l:List Str) (m:Nat):List (List PV):=(List.replicate (l.length-m) 0++Za5 w l m).map fun x=>[pI x]
theorem rowC_len (w:Int) (l:List Str) (m:Nat) (h:m≤l.length):(rowC w l m).length=l.length+1:=by
 unfold rowC;rw [List.length_map,List.length_append,List.length_replicate,costs_len];omega
theorem rowC_zero (w:Int) (l:List Str):List.replicate (l.length+1) [PV.int .i64 0]=rowC w l 0:=by
 unfold rowC;rw [Za5,List.map_append,List.map_replicate,Nat.sub_zero,List.replicate_succ'];rfl
theorem rowC_get (w:Int) (l:List Str) {m k:Nat} (hm:m≤l.length) (h1:l.length-m≤k) (h2:k≤l.length):(rowC w l m).getD k []=[pI ((Za5 w l m).getD (k-(l.length-m)) 0)]:=by
 have hk:k-(l.length-m)<(Za5 w l m).length:=by rw [costs_len];omega
 unfold rowC;rw [List.getD_eq_getElem?_getD,List.getElem?_map,List.getElem?_append_right (by rw [List.length_replicate];exact h1),List.length_replicate,List.getElem?_eq_getElem hk,List.getD_eq_getElem?_getD,List.getElem?_eq_getElem hk];rfl
theorem rowC_one (w:Int) (l:List Str) (m k:Nat):((rowC w l m).getD k []).drop 1=[]:=by
 unfold rowC;rw [List.getD_eq_getElem?_getD,List.getElem?_map];cases (List.replicate (l.length-m) (0:Int)++Za5 w l m)[k]?<;>rfl
theorem rowC_set (w:Int) (l:List Str) {m:Nat} (hm:m<l.length) (b:Int) (hb:Za5 w l (m+1)=b::Za5 w l m):(rowC w l m).set (l.length-(m+1)) [pI b]=rowC w l (m+1):=by
 unfold rowC;have e:List.replicate (l.length-m) (0:Int)=List.replicate (l.length-(m+1)) 0++[0]:=by
  rw [← List.replicate_succ'];congr 1;omega
 rw [hb,e,List.append_assoc,List.map_append,List.map_append];rw [List.set_append_right _ _ (by simp)];simp
end Go.VM
namespace Go.Proofs.YtcgdjembdjdlhaaGreatDoor.w
open Go Go.VM
def c_pandectref54_from : VC := (ZR [ZO 4 (.mv (.c .nilsl))] (ZR [ZM 10 1,ZO 11 (.len false (.t 10)),ZO 12 (.bin .add (.t 11) (.c (.int .i64 1))),ZO 13 (.other ({ dst := some 13,op := Op.makeSlice 60 (Operand.tmp 12) (Operand.tmp 12),type := 60,pos := "ref.go:67",after := #[{ on := 2,ground := Ground.data },{ on := 2,ground := Ground.data }],guard := none } : Oper)),ZM 5 13] (.seq (ZR [ZM 14 1,ZO 15 (.len false (.t 14)),ZO 16 (.bin .sub (.t 15) (.c (.int .i64 1))),ZM 6 16] (.block 0 (.loop (.seq (ZR [ZM 17 6,ZO 18 (.bin .geq (.t 17) (.c (.int .i64 0)))] (.cond (.t 18) .skip (.exit 0))) (.seq (.block 1 (ZR [ZO 7 (.mv (.c (.int .i64 (-1))))] (.seq (ZR [ZM 21 6,ZO 22 (.bin .add (.t 21) (.c (.int .i64 1))),ZM 8 22] (.block 2 (.loop (.seq (ZR [ZM 23 8,ZM 24 1,ZO 25 (.len false (.t 24)),ZO 26 (.bin .leq (.t 23) (.t 25)),ZM 27 26,ZG 28 (.mv (.t 1)) 27 true,ZG 29 (.mv (.t 6)) 27 true,ZG 30 (.mv (.t 8)) 27 true,ZG 31 (.call 131 [.t 28,.t 29,.t 30]) 27 true,ZG 32 (.mv (.t 0)) 27 true,ZG 33 (.bin .leq (.t 31) (.t 32)) 27 true,ZO 34 (.pick (.t 27) (.t 33) (.c (.bool false)))] (.cond (.t 34) .skip (.exit 2))) (.seq (.block 3 (ZR [ZM 37 5,ZM 38 8,ZO 39 (.iaddr 1 (.t 37) (.t 38)),ZO 40 (.load false 1 (.t 39)),ZM 9 40] (.seq (ZR [ZM 41 8,ZM 42 1,ZO 43 (.len false (.t 42)),ZO 44 (.bin .lss (.t 41) (.t 43))] (.cond (.t 44) (.region [ZM 45 9,ZM 46 0,ZM 47 1,ZM 48 6,ZM 49 8,ZO 50 (.call 131 [.t 47,.t 48,.t 49]),ZO 51 (.bin .sub (.t 46) (.t 50)),ZM 52 0,ZM 53 1,ZM 54 6,ZM 55 8,ZO 56 (.call 131 [.t 53,.t 54,.t 55]),ZO 57 (.bin .sub (.t 52) (.t 56)),ZO 58 (.bin .mul (.t 51) (.t 57)),ZO 59 (.bin .add (.t 45) (.t 58)),ZM 9 59] false) .skip)) (ZR [ZM 60 7,ZO 61 (.bin .lss (.t 60) (.c (.int .i64 0))),ZM 62 61,ZG 63 (.mv (.t 9)) 62 false,ZG 64 (.mv (.t 7)) 62 false,ZG 65 (.bin .lss (.t 63) (.t 64)) 62 false,ZO 66 (.pick (.t 62) (.c (.bool true)) (.t 65))] (.cond (.t 66) (.region [ZM 67 9,ZM 7 67] false) .skip))))) (.region [ZM 35 8,ZO 36 (.bin .add (.t 35) (.c (.int .i64 1))),ZM 8 36] false)))))) (.region [ZM 68 5,ZM 69 6,ZM 70 7,ZO 71 (.iaddr 1 (.t 68) (.t 69)),ZN (.store 1 (.t 71) (.t 70))] false)))) (.region [ZM 19 6,ZO 20 (.bin .sub (.t 19) (.c (.int .i64 1))),ZM 6 20] false)))))) (ZR [ZM 72 5,ZM 4 72] .ret))))
theorem sp_ref54_from (w:Int) (l:List Str) (hf:FitW w l) (hl:l.length≤1024):Zak Tryz.prog 130 [pI w,It.strs l] (.sl 1 ((Za5 w l l.length).map fun x=>[pI x])):=by
 have ht:∀ s∈l,s.length≤1000:=fun s hs=>by have:=hf.2.2 s hs;have:=hf.2.1;omega
 have hw:=hf.2.1;have hw1:=hf.1;have LN:=fun a b hb hab=>sp_ref54_length l a b (by omega) ht hb hab;unfold It.strs at LN ⊢;refine Gp (vc:=c_pandectref54_from) [.t 4] (closed_sc _) Tryz.func130 ?_;unfold c_pandectref54_from;try dsimp only [ZM,ZO,ZN,ZG,ZR,ZU]
 refine Rp0 [0,1] ?_;refine Rp1 [0,1,5] (x2 @xlm (w64 (n:=(l.length:Int)+1) (by omega) (by omega))) ?_;have en:(l.length:Int)+1=((l.length+1:Nat):Int):=by omega
 rw [en];refine OpS_make (n:=l.length+1) (kx:=.i64) (ky:=.i64) rfl Tryz.underlying60 (by kernel_rfl) rfl rfl rfl rfl (by omega) ?_;rw [rowC_zero w l];refine Sp0 ?_;have hin:∀ m,m≤l.length→(l.length:Int)-m-1=((l.length-m:Nat):Int)-1:=fun m h=>by omega
 refine Zaa ?_;refine Rp1 [0,1,5,6] (x2 @xlm (w64 (n:=(l.length:Int)-1) (by omega) (by omega))) ?_;refine Zab ?_;refine Zah (σ:={ m:Nat//m≤l.length }) (fun m=>([(0,pI w),(1,.sl 1 (l.map fun s=>[PV.str s])),(5,.own 0 0 (l.length+1)),(6,pI ((l.length:Int)-m.1-1))],⟨[(0,.arr false 1 (rowC w l m.1))],1⟩)) (fun m=>l.length-m.1) ⟨0,Nat.zero_le _⟩ ?_ ?_ ?_
 ·refine Sp0 ?_;simp
 ·exact Sr0
 rintro ⟨m,hm⟩;simp only [];refine Zaa ?_;refine Rp0 [0,1,5,6,18] ?_;refine Zac rfl (fun h1=>?_) (fun h1=>?_)
 ·have hml:m<l.length:=by simp only [decide_eq_true_eq] at h1;omega
  obtain ⟨i,hi⟩:∃ i:Nat,i=l.length-(m+1):=⟨_,rfl⟩;have hii:(l.length:Int)-m-1=(i:Int):=by omega
  have hil:i<l.length:=by omega
  have hRl:=rowC_len w l m hm;have hget:=fun k h1 h2=>rowC_get w l (m:=m) (k:=k) hm h1 h2;have hone:=rowC_one w l m i;have hset:=fun b hb=>rowC_set w l hml b hb;have hcst:Za5 w l (m+1)=Zcr w l (fun k=>(Za5 w l m).getD (k-(l.length-m)) 0) (l.length-(m+1)) (m+1) (l.length-m) (-1)::Za5 w l m:=by rw [Za5]
  have hbd:=costs_bd hf m hm;have hB:∀ k,i<k→k≤l.length→0≤(Za5 w l m).getD (k-(l.length-m)) 0∧(Za5 w l m).getD (k-(l.length-m)) 0≤40000*(m:Int):=by
   intro k h1 h2;have hk:k-(l.length-m)<(Za5 w l m).length:=by rw [costs_len];omega
   rw [List.getD_eq_getElem?_getD,List.getElem?_eq_getElem hk];exact hbd _ (List.getElem_mem hk)
  generalize hBB:(fun k=>(Za5 w l m).getD (k-(l.length-m)) 0)=B at hcst;have hB':∀ k,i<k→k≤l.length→0≤B k∧B k≤40000*(m:Int):=by rw [← hBB];exact hB
  have hgB:∀ k,i<k→k≤l.length→(rowC w l m).getD k []=[pI (B k)]:=fun k h1 h2=>by rw [hget k (by omega) h2,← hBB]
  rw [← hi] at hcst hset;generalize hR:rowC w l m=R at hRl hgB hset hone ⊢;obtain ⟨RES,hRES⟩:∃ r,r=Zcr w l B i (m+1) (l.length-m) (-1):=⟨_,rfl⟩;rw [← hRES] at hcst;have hsc0:RES=Zcr w l B i (l.length+1-(i+1)) (i+1) (-1):=by
   have e1:l.length+1-(i+1)=m+1:=by omega
   have e2:i+1=l.length-m:=by omega
   rw [e1,e2];exact hRES
  have hRset:=hset RES hcst;rw [hii];refine Kp0 ?_;refine Zaa ?_;refine Zab ?_;refine Rp0 [0,1,5,6,7] ?_;refine Zaa ?_;refine Rp1 [0,1,5,6,7,8] (ad1 (a:=i) (by omega)) ?_;refine Zab ?_;refine Zah (σ:={ x:Nat×Int//i<x.1∧x.1≤l.length+1∧(x.2 = -1∨(0≤x.2∧x.2≤40000*(m:Int)+40000))∧RES=Zcr w l B i (l.length+1-x.1) x.1 x.2 }) (fun x=>([(0,pI w),(1,.sl 1 (l.map fun s=>[PV.str s])),(5,.own 0 0 (l.length+1)),(6,pI i),(7,pI x.1.2),(8,pI x.1.1)],⟨[(0,.arr false 1 R)],1⟩)) (fun x=>l.length+1-x.1.1) ⟨(i+1,-1),by show i<i+1;omega,by show i+1≤l.length+1;omega,.inl rfl,hsc0⟩ ?_ ?_ ?_
  ·exact Sr0
  ·exact Sr0
  rintro ⟨⟨k,b⟩,hik,hkl,hb,hsc⟩;simp only [] at hik hkl hb hsc ⊢;refine Zaa ?_;by_cases hkn:k≤l.length
  ·have e1:decide ((k:Int)≤(l.length:Int))=true:=decide_eq_true (by omega);have L1:=LN i k hkn (by omega);have hl0:=llen_pos (l:=l) hik;have hBk:=hB' k hik hkn;have hgk:=hgB k hik hkn;have efu:l.length+1-k=(l.length-k)+1:=by omega
   rw [efu,Zcr] at hsc;have hcv:Zci w l B i k=if k<l.length then B k+(w-llen l i k)*(w-llen l i k) else B k:=rfl;have hlw:llen l i k≤2000000:=by
    have h1:=wlen_le (l:=l) i k ht;have h2:(k-i)*1000≤1024*1000:=Nat.mul_le_mul (by omega) (Nat.le_refl _);unfold llen;omega
   have hsqb:=fun h=>sq_bd (x:=llen l i k) (w:=w) hl0 h hw;generalize Zci w l B i k=cv at hsc hcv;generalize llen l i k=ll at L1 hl0 hsc hcv hlw hsqb;generalize B k=bk at hBk hgk hcv;cases e2:decide (ll≤w) with
   | false =>
    have h2:¬ ll≤w:=of_decide_eq_false e2;rw [if_neg (fun h=>h2 h.2)] at hsc;refine Rp1 [0,1,5,6,7,8,34] (x2 @xlm e1) ?_;refine Ap1 L1 e2 ?_;refine Cf ?_;refine Ep0 ?_;refine rp1 [0,1,5,6] hRl ?_;refine Ok ?_;rw [← hsc,hone,hRset];refine rp1 [0,1,5,6] (w64 (n:=(i:Int)-1) (by omega) (by omega)) ?_;refine ⟨⟨m+1,hml⟩,?_⟩;refine Sp0 ?_;exact ⟨congrArg (PV.int .i64) (by omega),by omega⟩
   | true =>
    have h2:ll≤w:=of_decide_eq_true e2;rw [if_pos ⟨hkn,h2⟩] at hsc;have hsq:=hsqb h2;generalize hsqE:(w-ll)*(w-ll)=sq at hsq hcv;refine Rp1 [0,1,5,6,7,8,34] (x2 @xlm e1) ?_;refine Ap1 L1 e2 ?_;refine Ct ?_;refine Kp0 ?_;refine Zaa ?_;refine Zab ?_;refine Rp1 [0,1,5,6,7,8,9] (x2 hgk hRl) ?_;refine Ok ?_;refine Zaa (Zbl (σ:=Unit) (fun _=>([(0,pI w),(1,.sl 1 (l.map fun s=>[PV.str s])),(5,.own 0 0 (l.length+1)),(6,pI i),(7,pI b),(8,pI k),(9,pI cv)],⟨[(0,.arr false 1 R)],1⟩)) ?_ (fun _=>?_))
    ·refine Rp1 [0,1,5,6,7,8,9,44] @xlm ?_;by_cases hkl2:k<l.length
     ·rw [if_pos hkl2] at hcv;refine Zac rfl (fun _=>?_) (fun h=>by simp at h;omega);refine rp0 [0,1,5,6,7,8,9] ?_;refine Ap1 L1 (w64 (n:=w-ll) (by omega) (by omega)) ?_;refine Ap1 L1 (x4 (w64 (n:=w-ll) (by omega) (by omega)) hsqE (w64 (n:=sq) (by omega) (by omega)) (w64 (n:=bk+sq) (by omega) (by omega))) ?_;rw [hcv];exact ⟨(),rfl⟩
     ·rw [if_neg hkl2] at hcv;refine Zac rfl (fun h=>by simp at h;omega) (fun _=>?_);refine Kp0 ?_;rw [hcv];exact ⟨(),by first|trivial|rfl⟩
    have hcvb:0≤cv∧cv≤40000*(m:Int)+40000:=by
     rw [hcv];split<;>omega
    have hkk:(k:Int)+1=((k+1:Nat):Int):=by omega
    refine Zaa ?_;cases d1:decide (b<0) with
    | true =>
     rw [if_pos (.inl (of_decide_eq_true d1))] at hsc;refine rp1 [0,1,5,6,7,8,9,66] d1 ?_;refine Ct ?_;refine rp0 [0,1,5,6,7,8] ?_;refine rp1 [0,1,5,6,7,8] (ad1 (a:=k) (by omega)) ?_;refine ⟨⟨(k+1,cv),by show i<k+1;omega,by show k+1≤l.length+1;omega,.inr hcvb,by show RES=Zcr w l B i (l.length+1-(k+1)) (k+1) cv;rw [hsc];congr 1;omega⟩,?_⟩;exact Fn0
    | false =>
     cases d2:decide (cv<b) with
     | true =>
      rw [if_pos (.inr (of_decide_eq_true d2))] at hsc;refine rp1 [0,1,5,6,7,8,9,66] (x2 d1 d2) ?_;refine Ct ?_;refine rp0 [0,1,5,6,7,8] ?_;refine rp1 [0,1,5,6,7,8] (ad1 (a:=k) (by omega)) ?_;refine ⟨⟨(k+1,cv),by show i<k+1;omega,by show k+1≤l.length+1;omega,.inr hcvb,by show RES=Zcr w l B i (l.length+1-(k+1)) (k+1) cv;rw [hsc];congr 1;omega⟩,?_⟩;exact Fn0
     | false =>
      rw [if_neg (by simp only [decide_eq_false_iff_not] at d1 d2;omega)] at hsc;refine rp1 [0,1,5,6,7,8,9,66] (x2 d1 d2) ?_;refine Fp0 ?_;refine rp1 [0,1,5,6,7,8] (ad1 (a:=k) (by omega)) ?_;refine ⟨⟨(k+1,b),by show i<k+1;omega,by show k+1≤l.length+1;omega,hb,by show RES=Zcr w l B i (l.length+1-(k+1)) (k+1) b;rw [hsc];congr 1;omega⟩,?_⟩;exact Fn0
  ·have e1:decide ((k:Int)≤(l.length:Int))=false:=decide_eq_false (by omega);have hkE:k=l.length+1:=by omega
   rw [hkE,Nat.sub_self,Zcr] at hsc;refine Rp1 [0,1,5,6,7,8,34] (x2 @xlm e1) ?_;refine Cf ?_;refine Ep0 ?_;refine rp1 [0,1,5,6] hRl ?_;refine Ok ?_;rw [← hsc,hone,hRset];refine rp1 [0,1,5,6] (w64 (n:=(i:Int)-1) (by omega) (by omega)) ?_;refine ⟨⟨m+1,hml⟩,?_⟩;refine Sp0 ?_;exact ⟨congrArg (PV.int .i64) (by omega),by omega⟩
 ·have hml:m=l.length:=by simp only [decide_eq_false_iff_not] at h1;omega
  subst hml;have hRl:=rowC_len w l l.length hm;have hRr:rowC w l l.length=(Za5 w l l.length).map fun x=>[pI x]:=by unfold rowC;rw [Nat.sub_self];rfl
  rw [hRr] at hRl ⊢;refine Ep0 ?_;refine Rp0 [4] ?_;refine Tp0 ?_;exact View.own_all (fz:=false) (by simp [Heap.get,HL.get]) hRl.symm
end Go.Proofs.YtcgdjembdjdlhaaGreatDoor.w
namespace Go.VM
open Go
theorem costs_row (w:Int) (l:List Str) {k:Nat} (h:k≤l.length):((Za5 w l l.length).map fun x=>[pI x]).getD k []=[pI (Zaw w l k)]:=by
 have hk:k<(Za5 w l l.length).length:=by rw [costs_len];omega
 unfold Zaw;rw [List.getD_eq_getElem?_getD,List.getElem?_map,List.getD_eq_getElem?_getD,List.getElem?_eq_getElem hk];rfl
theorem candV_bd {w:Int} {l:List Str} (hf:FitW w l) {i k:Nat} (hik:i<k) (hl:llen l i k≤w):0≤Zci w l (Zaw w l) i k∧Zci w l (Zaw w l) i k≤40000*(l.length:Int)+40000:=cand_bd hf hik hl (costAt_bd hf k)
end Go.VM
namespace Go.Proofs.YtcgdjembdjdlhaaGreatDoor.w
open Go Go.VM
def c_pandectref54_Break:VC:=(ZR [ZO 4 (.mv (.c .nilsl)),ZO 5 (.mv (.c (.int .i64 0)))] (.seq (ZR [ZM 12 0,ZM 13 1,ZO 14 (.call 129 [.t 12,.t 13]),ZM 6 14] (ZR [ZM 15 6,ZO 16 (.bin .neq (.t 15) (.c (.int .i64 0)))] (.cond (.t 16) (ZR [ZM 17 6,ZO 4 (.mv (.c .nilsl)),ZM 5 17] .ret) .skip))) (ZR [ZM 18 0,ZM 19 1,ZO 20 (.call 130 [.t 18,.t 19]),ZM 7 20] (ZR [ZO 21 (.fx (.mk0 1) []),ZM 8 21] (ZR [ZO 9 (.mv (.c (.int .i64 0)))] (.seq (.block 0 (.loop (.seq (ZR [ZM 22 9,ZM 23 1,ZO 24 (.len false (.t 23)),ZO 25 (.bin .lss (.t 22) (.t 24))] (.cond (.t 25) .skip (.exit 0))) (.block 1 (ZR [ZM 26 9,ZO 27 (.bin .add (.t 26) (.c (.int .i64 1))),ZM 10 27] (.seq (.block 2 (.loop (.block 3 (ZR [ZM 28 7,ZM 29 10,ZO 30 (.iaddr 1 (.t 28) (.t 29)),ZO 31 (.load false 1 (.t 30)),ZM 11 31] (.seq (ZR [ZM 32 10,ZM 33 1,ZO 34 (.len false (.t 33)),ZO 35 (.bin .lss (.t 32) (.t 34))] (.cond (.t 35) (.region [ZM 36 11,ZM 37 0,ZM 38 1,ZM 39 9,ZM 40 10,ZO 41 (.call 131 [.t 38,.t 39,.t 40]),ZO 42 (.bin .sub (.t 37) (.t 41)),ZM 43 0,ZM 44 1,ZM 45 9,ZM 46 10,ZO 47 (.call 131 [.t 44,.t 45,.t 46]),ZO 48 (.bin .sub (.t 43) (.t 47)),ZO 49 (.bin .mul (.t 42) (.t 48)),ZO 50 (.bin .add (.t 36) (.t 49)),ZM 11 50] false) .skip)) (.seq (ZR [ZM 51 11,ZM 52 7,ZM 53 9,ZO 54 (.iaddr 1 (.t 52) (.t 53)),ZO 55 (.load false 1 (.t 54)),ZO 56 (.bin .eql (.t 51) (.t 55))] (.cond (.t 56) (.exit 2) .skip)) (.region [ZM 57 10,ZO 58 (.bin .add (.t 57) (.c (.int .i64 1))),ZM 10 58] false))))))) (ZR [ZM 59 8,ZM 60 10,ZO 61 (.bslice 1 1 [.int .i64 0] [(0,(.t 60))]),ZO 62 (.app 1 8 [.int .i64 0] false (.t 59) (.t 61)),ZM 8 62] (.region [ZM 63 10,ZM 9 63] false)))))))) (ZR [ZM 64 8,ZM 4 64,ZO 5 (.mv (.c (.int .i64 0)))] .ret)))))))
theorem closed_ends (E:List Nat):Closed (endsV E):=Zaj (fun a _ x hx=>by simp only [List.mem_cons,List.not_mem_nil,or_false] at hx;subst hx;exact cI _)
theorem closed_brk (E:List Nat) (e:Int):Closed (.tup [endsV E,pI e]):=Zbs (by simp only [List.mem_cons,List.not_mem_nil,or_false,forall_eq_or_imp,forall_eq];exact ⟨closed_ends _,cI _⟩)
theorem closed_ws (w:Int) (l:List Str):Za0 [pI w,It.strs l]:=by
 intro y hy;simp only [List.mem_cons,List.not_mem_nil,or_false] at hy;rcases hy with rfl|rfl
 ·exact cI _
 ·exact Zay _
theorem sp_ref54_Break (w:Int) (l:List Str) (hl:l.length≤1000000):Zak Tryz.prog 72 [pI w,It.strs l] (.tup [endsV (Za9 w l),pI (Zbu w l)]):=by
 have WR:=sp_ref54_Wrong w l hl;refine Zad ?_ (closed_brk _ _) (closed_ws _ _);refine Gn (vc:=c_pandectref54_Break) [.t 4,.t 5] Tryz.func72 ?_;unfold c_pandectref54_Break;try dsimp only [ZM,ZO,ZN,ZG,ZR,ZU]
 unfold It.strs at WR ⊢;unfold Za9;refine Rp0 [0,1] ?_;refine Zaa ?_;refine Rp0 [0,1,6] ?_;refine Zao WR ?_;by_cases hw0:Zbu w l=0
 ·obtain ⟨hf,hl2⟩:=wrongL_fit hw0;have FR:=sp_ref54_from w l hf hl2;have ht:∀ s∈l,s.length≤1000:=fun s hs=>by have:=hf.2.2 s hs;have:=hf.2.1;omega
  have hw:=hf.2.1;have hw1:=hf.1;have LN:=fun a b hb hab=>sp_ref54_length l a b (by omega) ht hb hab;have hrw:=fun k h=>costs_row w l (k:=k) h;have hRl:((Za5 w l l.length).map fun x=>[pI x]).length=l.length+1:=by rw [List.length_map,costs_len]
  unfold It.strs at FR LN;rw [hw0];generalize (Za5 w l l.length).map (fun x=>[pI x])=R at FR hrw hRl;have hn:((0:Int) != 0)=false:=rfl;refine Rp1 [0,1,6,16] hn ?_;refine Fp0 ?_;refine Rp0 [0,1,7] ?_;refine Zao FR ?_;refine Rp0 [0,1,7,8] ?_;refine Rp0 [0,1,7,8,9] ?_;refine Zaa ?_;refine Zab ?_;refine Zah (σ:={ x:Nat×List Nat×Nat×Nat//x.1≤l.length∧x.2.1.length≤x.1∧x.2.2.1<x.2.2.2∧endsF w l l.length 0=x.2.1++endsF w l l.length x.1 }) (fun x=>([(0,pI w),(1,.sl 1 (l.map fun s=>[PV.str s])),(7,.sl 1 R),(8,.own x.1.2.2.1 0 x.1.2.1.length),(9,pI x.1.1)],⟨[(x.1.2.2.1,.arr false 1 (x.1.2.1.map fun e=>[pI (e:Nat)]))],x.1.2.2.2⟩)) (fun x=>l.length-x.1.1) ⟨(0,[],0,1),Nat.zero_le _,Nat.le_refl _,Nat.one_pos,rfl⟩ ?_ ?_ ?_
  ·exact Fn0
  ·exact Sr0
  rintro ⟨⟨i,acc,id,t⟩,hi,hac,hid,hen⟩;simp only [] at hi hac hid hen ⊢;refine Zaa ?_;refine Rp1 [0,1,7,8,9,25] @xlm ?_;refine Zac rfl (fun h1=>?_) (fun h1=>?_)
  ·have hil:i<l.length:=by simp only [decide_eq_true_eq] at h1;omega
   have N:=next_spec hf hil;have hst:=endsF_step hf l.length hil (by omega);rw [hst] at hen;have hcb:=fun k h1 h2=>candV_bd hf (i:=i) (k:=k) h1 h2;have hco:=fun k=>costAt_bd hf k;generalize nextN w l i=e at N hen;refine Kp0 ?_;refine Zab ?_;refine Rp1 [0,1,7,8,9,10] (ad1 (a:=i) (by omega)) ?_;refine Zaa ?_;refine Zab ?_;refine Zah (σ:={ k:Nat//i<k∧k≤e }) (fun k=>([(0,pI w),(1,.sl 1 (l.map fun s=>[PV.str s])),(7,.sl 1 R),(8,.own id 0 acc.length),(9,pI i),(10,pI k.1)],⟨[(id,.arr false 1 (acc.map fun e=>[pI (e:Nat)]))],t⟩)) (fun k=>e-k.1) ⟨i+1,by omega,by omega⟩ ?_ ?_ ?_
   ·exact Fn0
   ·exact Sr0
   rintro ⟨k,hik,hke⟩;simp only [];have hkl:k≤l.length:=by omega
   have hlk:llen l i k≤w:=by
    by_cases e1:k=e
    ·subst e1;exact N.2.2.1
    ·exact (N.2.2.2.2 k hik (by omega)).1
   have L1:=LN i k hkl (by omega);have hl0:=llen_pos (l:=l) hik;have hsq:=sq_bd hl0 hlk hw;have hcv:Zci w l (Zaw w l) i k=if k<l.length then Zaw w l k+(w-llen l i k)*(w-llen l i k) else Zaw w l k:=rfl;have hck:=hco k;have hgk:=hrw k hkl;have hgi:=hrw i (by omega);have hcb1:=hcb k hik hlk;have hcc:(Zci w l (Zaw w l) i k==Zaw w l i)=decide (k=e):=by
    by_cases e1:k=e
    ·subst e1;rw [N.2.2.2.1,decide_eq_true rfl];simp
    ·rw [decide_eq_false e1,beq_eq_false_iff_ne];exact (N.2.2.2.2 k hik (by omega)).2
   generalize Zci w l (Zaw w l) i k=cv at hcv hcb1 hcc;generalize Zaw w l i=ci at hgi hcc;generalize Zaw w l k=bk at hcv hck hgk;generalize llen l i k=ll at L1 hl0 hcv hlk hsq;generalize hsqE:(w-ll)*(w-ll)=sq at hsq hcv;refine Zab ?_;refine Rp1 [0,1,7,8,9,10,11] (x2 hgk hRl) ?_;refine Ok ?_;refine Zaa (Zbl (σ:=Unit) (fun _=>([(0,pI w),(1,.sl 1 (l.map fun s=>[PV.str s])),(7,.sl 1 R),(8,.own id 0 acc.length),(9,pI i),(10,pI k),(11,pI cv)],⟨[(id,.arr false 1 (acc.map fun e=>[pI (e:Nat)]))],t⟩)) ?_ (fun _=>?_))
   ·refine Rp1 [0,1,7,8,9,10,11,35] @xlm ?_;by_cases hkl2:k<l.length
    ·rw [if_pos hkl2] at hcv;refine Zac rfl (fun _=>?_) (fun h=>by simp at h;omega);refine rp0 [0,1,7,8,9,10,11] ?_;refine Ap1 L1 (w64 (n:=w-ll) (by omega) (by omega)) ?_;refine Ap1 L1 (x4 (w64 (n:=w-ll) (by omega) (by omega)) hsqE (w64 (n:=sq) (by omega) (by omega)) (w64 (n:=bk+sq) (by omega) (by omega))) ?_;rw [hcv];exact ⟨(),by first|trivial|rfl⟩
    ·rw [if_neg hkl2] at hcv;refine Zac rfl (fun h=>by simp at h;omega) (fun _=>?_);refine Kp0 ?_;rw [hcv];exact ⟨(),by first|trivial|rfl⟩
   refine Zaa ?_;refine Rp1 [0,1,7,8,9,10,56] (x3 hgi hRl hcc) ?_;refine Ok ?_;by_cases hke2:k=e
   ·rw [decide_eq_true hke2];refine Ct ?_;refine Ep0 ?_;have hale:(acc.map fun e=>[pI (e:Nat)]).length=acc.length:=List.length_map _;have hatk:List.take acc.length (acc.map fun e=>[pI (e:Nat)])=acc.map fun e=>[pI (e:Nat)]:=List.take_of_length_le (by omega);have haccE:(acc++[e]).map (fun e=>[pI (e:Nat)])=acc.map (fun e=>[pI (e:Nat)])++[[pI (e:Nat)]]:=by rw [List.map_append];rfl
    have haccL:(acc++[e]).length=acc.length+1:=by simp
    subst hke2;have qq:=N4 id t (t+1) (t+1+1);refine Rp1 [0,1,7,8,10] (x3 hale hatk qq) ?_;refine ⟨by omega,by omega,?_⟩;refine rp1 [0,1,7,8,9] qq ?_;refine ⟨⟨(k,acc++[k],t+1,t+2),hkl,by show (acc++[k]).length≤k;omega,Nat.lt_succ_self _,by show _=acc++[k]++_;rw [hen];simp⟩,?_⟩;refine ⟨⟨?_,rfl⟩,⟨Nat.le_refl _,?_⟩,by show l.length-k<l.length-i;omega⟩
    ·show PV.own (t+1) 0 (acc.length+1)=PV.own (t+1) 0 (acc++[k]).length;rw [haccL]
    ·show (if t+1=t+1 then some (AB.arr false 1 (acc.map (fun e=>[pI (e:Nat)])++[[pI (k:Nat)]])) else _)=some (AB.arr false 1 ((acc++[k]).map fun e=>[pI (e:Nat)]));rw [if_pos rfl,haccE]
   ·rw [decide_eq_false hke2];refine Fp0 ?_;refine rp1 [0,1,7,8,9,10] (ad1 (a:=k) (by omega)) ?_;refine ⟨⟨k+1,by omega,by omega⟩,?_⟩;exact Fn0
  ·have hil:i=l.length:=by simp only [decide_eq_false_iff_not] at h1;omega
   subst hil;rw [endsF_done (i:=l.length) (f:=l.length) (Nat.lt_irrefl _),List.append_nil] at hen
   try rw [if_pos rfl]
   rw [hen];refine Ep0 ?_;refine Rp0 [4,5] ?_;refine Tp0 ?_;exact View.tup2 (View.own_all (fz:=false) (by simp [Heap.get,HL.get]) (by rw [List.length_map])) (View.refl _ _)
 ·rw [if_neg hw0];have hn:(Zbu w l != 0)=true:=by simp [hw0]
  refine Rp1 [6,16] hn ?_;refine Ct ?_;refine Rp0 [4,5] ?_;refine Tp0 ?_;exact View.tup2 (View.nil _ _) (View.refl _ _)
end Go.Proofs.YtcgdjembdjdlhaaGreatDoor.w
namespace Go.VM
open Go
mutual
def unitsT : Un → List Un
 | .mk a i n k l h w ks => .mk a i n k l h w ks :: unitsL ks
def unitsL : List Un → List Un
 | [] => []
 | k :: r => unitsT k ++ unitsL r
end
theorem Zan (u:Un):unitsT u=u::unitsL u.kids:=by cases u;rw [unitsT];rfl
theorem Zaz:∀ l:List Un,unitsL l=l.flatMap unitsT
 | []=>by rw [unitsL];rfl
 | k::r=>by rw [unitsL,Zaz r,List.flatMap_cons]
theorem unitsL_step {l:List Un} {k:Nat} (h:k<l.length):unitsL (l.take (k+1))=unitsL (l.take k)++unitsT l[k]:=by
 rw [Zaz,Zaz,List.take_add_one,List.getElem?_eq_getElem h,List.flatMap_append];simp
theorem unitsL_take (l:List Un) (k:Nat):(unitsL (l.take k)).length≤(unitsL l).length:=by
 have:unitsL l=unitsL (l.take k)++unitsL (l.drop k):=by rw [Zaz,Zaz,Zaz,← List.flatMap_append,List.take_append_drop]
 rw [this];simp
theorem unitsT_pos (u:Un):1≤(unitsT u).length:=by rw [Zan];simp
theorem unitsL_kids:∀ l:List Un,l.length≤(unitsL l).length
 | []=>by simp [unitsL]
 | k::r=>by rw [unitsL,List.length_append,List.length_cons];have:=unitsT_pos k;have:=unitsL_kids r;omega
theorem Zbc {l:List Un} {k:Un} (h:k∈l):(unitsT k).length≤(unitsL l).length:=by
 induction l with
 | nil=>cases h
 | cons a r ih =>
  rw [unitsL,List.length_append];rcases List.mem_cons.1 h with rfl|h
  ·omega
  ·have:=ih h;omega
theorem unitsT_all (p:Un→Bool) (u:Un):(unitsT u).all p=(p u&&u.kids.all fun k=>(unitsT k).all p):=by
 rw [Zan,List.all_cons,Zaz,List.all_flatMap]
theorem Zbb (u:Un):u∈unitsT u:=by rw [Zan];exact List.mem_cons_self
theorem Zb6 {u k x:Un} (hk:k∈u.kids) (hx:x∈unitsT k):x∈unitsT u:=by
 rw [Zan,Zaz];exact List.mem_cons_of_mem _ (List.mem_flatMap.2 ⟨k,hk,hx⟩)
def Zb8 (f:Un→Int→Int) (m:Int) (n:Int) (k:Un):Int:=if n≤m then n+f k (m-n) else n
def sizeT:Nat→Un→Int→Int
 | 0,_,m=>m+1
 | d+1,u,m=>u.kids.foldl (Zb8 (sizeT d) m) 1
theorem sizeF_bd {f:Un→Int→Int} {m:Int} (hf:∀ k m',0≤m'→1≤f k m'∧f k m'≤m'+1):∀ (l:List Un) (n:Int),1≤n→n≤m+1→n≤l.foldl (Zb8 f m) n∧l.foldl (Zb8 f m) n≤m+1
 | [],n,_,h2=>⟨Int.le_refl _,h2⟩
 | k::r,n,h1,h2=>by
  rw [List.foldl_cons];have hs:n≤Zb8 f m n k∧Zb8 f m n k≤m+1:=by
   unfold Zb8;split
   ·have:=hf k (m-n) (by omega);omega
   ·exact ⟨Int.le_refl _,h2⟩
  have:=sizeF_bd hf r (Zb8 f m n k) (by omega) hs.2;omega
theorem sizeT_bd:∀ (d:Nat) (u:Un) (m:Int),0≤m→1≤sizeT d u m∧sizeT d u m≤m+1
 | 0,_,m,h=>by unfold sizeT;omega
 | d+1,u,m,h=>by
  have:=sizeF_bd (m:=m) (fun k m' h'=>sizeT_bd d k m' h') u.kids 1 (Int.le_refl _) (by omega);rw [sizeT];exact this
theorem sizeF_step (f:Un→Int→Int) (m:Int) {l:List Un} {k:Nat} (h:k<l.length):(l.take (k+1)).foldl (Zb8 f m) 1=Zb8 f m ((l.take k).foldl (Zb8 f m) 1) l[k]:=by
 rw [List.take_add_one,List.getElem?_eq_getElem h,List.foldl_append];rfl
theorem sizeF_stop (f:Un→Int→Int) (m:Int):∀ (l:List Un) (n:Int),m<n→l.foldl (Zb8 f m) n=n
 | [],_,_=>rfl
 | k::r,n,h=>by
  rw [List.foldl_cons];have:Zb8 f m n k=n:=by unfold Zb8;rw [if_neg (by omega)]
  rw [this];exact sizeF_stop f m r n h
theorem sizeF_low {f:Un→Int→Int} {m:Int} (hf:∀ k m',0≤m'→1≤f k m'):∀ (l:List Un) (n:Int),l.foldl (Zb8 f m) n≤m→n+l.length≤l.foldl (Zb8 f m) n
 | [],n,_=>by simp
 | k::r,n,h=>by
  rw [List.foldl_cons] at h ⊢;by_cases hn:n≤m
  ·have e:Zb8 f m n k=n+f k (m-n):=by unfold Zb8;rw [if_pos hn]
   have h1:=hf k (m-n) (by omega);have:=sizeF_low hf r (Zb8 f m n k) h;rw [List.length_cons]
   push_cast
   omega
  ·have e:Zb8 f m n k=n:=by unfold Zb8;rw [if_neg hn]
   rw [e,sizeF_stop f m r n (by omega)] at h;omega
theorem sizeT_count:∀ (d:Nat) (u:Un) (m:Int),0≤m→sizeT d u m≤m→((unitsT u).length:Int)=sizeT d u m
 | 0,u,m,_,h=>by unfold sizeT at h;omega
 | d+1,u,m,h0,h=>by
  have hb:=fun k m' h=>sizeT_bd d k m' h;have ih:=fun k m' a b=>sizeT_count d k m' a b;rw [sizeT] at h ⊢;rw [Zan];generalize sizeT d=f at hb ih h ⊢;have key:∀ (l:List Un) (n:Int),1≤n→l.foldl (Zb8 f m) n≤m→n+((unitsL l).length:Int)=l.foldl (Zb8 f m) n:=by
   intro l
   induction l with
   | nil=>intro n _ _;simp [unitsL]
   | cons k r ihr =>
    intro n hn hle;rw [List.foldl_cons] at hle ⊢;by_cases hnm:n≤m
    ·have e:Zb8 f m n k=n+f k (m-n):=by unfold Zb8;rw [if_pos hnm]
     have h1:=hb k (m-n) (by omega);have hmono:Zb8 f m n k≤r.foldl (Zb8 f m) (Zb8 f m n k):=by
      by_cases hgt:m<Zb8 f m n k
      ·rw [sizeF_stop f m r _ hgt];exact Int.le_refl _
      ·have:=sizeF_low (f:=f) (m:=m) (fun k m' h=>(hb k m' h).1) r (Zb8 f m n k) hle;omega
     have h2:=ihr (Zb8 f m n k) (by omega) hle;have h3:=ih k (m-n) (by omega) (by omega);rw [unitsL,List.length_append]
     push_cast
     omega
    ·have e:Zb8 f m n k=n:=by unfold Zb8;rw [if_neg hnm]
     rw [e,sizeF_stop f m r n (by omega)] at hle;omega
  have:=key u.kids 1 (Int.le_refl _) h;rw [List.length_cons]
  push_cast
  omega
def shortB (l:List Wd):Bool:=(l.all fun w=>decide (w.text.length≤100))&&decide (l.length≤300)
def briefB (u:Un):Bool:=decide (u.label.length≤30)&&(shortB u.head&&shortB u.words)
def wordsB (u:Un):Bool:=(unitsT u).all briefB
def fewB (u:Un) (m:Int):Bool:=decide (sizeT 21 u m≤m)&&wordsB u
structure WdB (w : Wd) : Prop where
 text : w.text.length ≤ 1048576
 ok : i64 w.act ∧ i64 w.item ∧ i64 w.at'
inductive UnB : Un → Prop
 | mk (u : Un) (h : i64 u.act ∧ i64 u.item ∧ i64 u.n ∧ i64 u.kind) (hl : u.label.length ≤ 1048576) (hh : u.head.length ≤ 1048576 ∧ ∀ w ∈ u.head, WdB w) (hw : u.words.length ≤ 1048576 ∧ ∀ w ∈ u.words, WdB w) (hk : u.kids.length ≤ 1048576) (hs : ∀ k ∈ u.kids, UnB k) : UnB u
structure SmU (u : Un) : Prop where
 ok : i64 u.act ∧ i64 u.item ∧ i64 u.n ∧ i64 u.kind
 label : u.label.length ≤ 30
 head : u.head.length ≤ 300 ∧ ∀ w ∈ u.head, w.text.length ≤ 100
 words : u.words.length ≤ 300 ∧ ∀ w ∈ u.words, w.text.length ≤ 100
inductive SmT : Un → Prop
 | mk (u : Un) (h : SmU u) (hk : u.kids.length ≤ 1000) (hs : ∀ k ∈ u.kids, SmT k) : SmT u
theorem SmT.u {u:Un} (h:SmT u):SmU u:=by cases h with|mk _ h _ _=>exact h
theorem SmT.kids {u:Un} (h:SmT u):u.kids.length≤1000∧∀ k∈u.kids,SmT k:=by cases h with|mk _ _ hk hs=>exact ⟨hk,hs⟩
theorem SmT.units {u:Un} (h:SmT u):∀ x∈unitsT u,SmT x:=by
 induction h with
 | mk u h hk hs ih =>
  intro x hx;rw [Zan] at hx;rcases List.mem_cons.1 hx with rfl|hx
  ·exact .mk _ h hk hs
  ·rw [Zaz] at hx;obtain ⟨k,h1,h2⟩:=List.mem_flatMap.1 hx;exact ih k h1 x h2
theorem shortB_iff {l:List Wd}:shortB l=true↔l.length≤300∧∀ w∈l,w.text.length≤100:=by
 unfold shortB;simp only [Bool.and_eq_true,decide_eq_true_eq,List.all_eq_true];exact ⟨fun h=>⟨h.2,h.1⟩,fun h=>⟨h.2,h.1⟩⟩
theorem smT_of {u:Un} (hu:UnB u) (hn:(unitsT u).length≤1000) (hw:wordsB u=true):SmT u:=by
 induction hu with
 | mk u h hl hh hww hk hs ih =>
  unfold wordsB at hw;rw [unitsT_all] at hw;simp only [Bool.and_eq_true,briefB,decide_eq_true_eq,List.all_eq_true (l:=u.kids)] at hw;obtain ⟨⟨h1,h2,h3⟩,h4⟩:=hw;rw [Zan,List.length_cons] at hn;have:=unitsL_kids u.kids;exact .mk u ⟨h,h1,shortB_iff.1 h2,shortB_iff.1 h3⟩ (by omega) fun k hkk=>ih k hkk (by have:=Zbc hkk;omega) (h4 k hkk)
theorem few_small {u:Un} {m:Int} (hu:UnB u) (h0:0≤m) (h1:m≤1000) (h:fewB u m=true):SmT u∧((unitsT u).length:Int)≤m:=by
 unfold fewB at h;simp only [Bool.and_eq_true,decide_eq_true_eq] at h;have:=sizeT_count 21 u m h0 h.1;exact ⟨smT_of hu (by omega) h.2,by omega⟩
end Go.VM
namespace Go.VM
open Go
mutual
def depthT : Un → Nat
 | .mk _ _ _ _ _ _ _ ks => depthL 0 ks
def depthL : Nat → List Un → Nat
 | d, [] => d
 | d, k :: r => depthL (max d (1 + depthT k)) r
end
def dpF (d:Nat) (k:Un):Nat:=max d (1+depthT k)
theorem depthL_fold:∀ (l:List Un) (d:Nat),depthL d l=l.foldl dpF d
 | [],d=>by rw [depthL];rfl
 | k::r,d=>by rw [depthL,depthL_fold r];rfl
theorem depthT_eq (u:Un):depthT u=u.kids.foldl dpF 0:=by cases u;rw [depthT,depthL_fold];rfl
theorem dpF_bd:∀ (l:List Un) (d m:Nat),d≤m→(∀ k∈l,1+depthT k≤m)→l.foldl dpF d≤m
 | [],d,m,h,_=>h
 | k::r,d,m,h,hk=>by
  rw [List.foldl_cons];refine dpF_bd r _ m ?_ (fun x hx=>hk x (List.mem_cons_of_mem _ hx));have:=hk k List.mem_cons_self;unfold dpF;omega
theorem depth_le {u:Un} (h:SmT u):depthT u+1≤(unitsT u).length:=by
 induction h with
 | mk u h hk hs ih =>
  rw [depthT_eq,Zan,List.length_cons];have:=dpF_bd u.kids 0 (unitsL u.kids).length (Nat.zero_le _) (fun k hk=>by have:=ih k hk;have:=Zbc hk;omega);omega
theorem dpF_step {l:List Un} {k:Nat} (h:k<l.length):(l.take (k+1)).foldl dpF 0=max ((l.take k).foldl dpF 0) (1+depthT l[k]):=by
 rw [List.take_add_one,List.getElem?_eq_getElem h,List.foldl_append];rfl
def idU (u:Un):Idt:=⟨u.act,u.item,u.n⟩
def idsT (u:Un):List Idt:=(unitsT u).map idU
theorem idsT_eq (u:Un):idsT u=idU u::(unitsL u.kids).map idU:=by unfold idsT;rw [Zan];rfl
theorem closed_ids (l:List Idt):Closed (.sl 3 (l.map Idt.enc)):=Zaj fun u _ y hy=>Idt.closed u y hy
end Go.VM
namespace Go.VM
open Go
def Aft (L:List (Nat×AB)) (t:Nat) (Q:List (Nat×AB)→Prop) (h':Heap):Prop:=∃ L' t',t≤t'∧h'=⟨L',t'⟩∧Q L'∧Nod L'∧(∀ q∈L',q.1<t')∧(∀ q∈L',(∃ r∈L,r.1=q.1)∨t≤q.1)∧∀ q∈L',q.2.live=true
theorem Aft.off {L L':List (Nat×AB)} {t t0:Nat} (o:Off L t0) (h:t0<t) (hold:∀ q∈L',(∃ r∈L,r.1=q.1)∨t≤q.1):Off L' t0:=fun q hq e=>by
 rcases hold q hq with ⟨r,hr,er⟩|h'
 ·exact o r hr (er.trans e)
 ·omega
theorem ACall_side {P : Program} {f : FuncId} {args : List PV} {L : List (Nat × AB)} {t t0 : Nat} {x : AB} {R : PV → Prop} {Q : List (Nat × AB) → Prop} {K : PV → Heap → Prop} (hnod : Nod L) (o0 : Off L t0) (h0 : t0 < t) (hx : ∀ fz z, x ≠ .arr fz z [])
  (H:Zal P f args ⟨L,t⟩ (fun r h'=>R r∧Aft L t Q h'))
  (hK:∀ r L' t',R r→t≤t'→Q L'→Nod L'→(∀ q∈L',q.1<t')→Off L' t0→(∀ q∈L',(∃ r∈L,r.1=q.1)∨t≤q.1)→(∀ q∈L',q.2.live=true)→K r ⟨L'++[(t0,x)],t'⟩):Zal P f args ⟨(t0,x)::L,t⟩ K:=by
 refine Zal.weakenL (h0:=⟨L++[(t0,x)],t⟩) (HL.le_swap (P:=[(t0,x)]) hnod (by simp [Nod]) (by simpa using o0) _) ?_;refine Zal.frameL ?_ (by simpa using hx) (Zal.mono H ?_)
 ·simp only [List.mem_cons,List.not_mem_nil,or_false,forall_eq];exact fun q hq e=>o0 q hq e.symm
 rintro p h' ⟨hR,L',t',ht1,rfl,hS',hnod',hlt',hold,hlive'⟩;have o0':Off L' t0:=Aft.off o0 h0 hold;refine ⟨ht1,?_,hlive',hK _ _ _ hR ht1 hS' hnod' hlt' o0' hold hlive'⟩;simp only [List.mem_cons,List.not_mem_nil,or_false,forall_eq];exact fun q hq e=>o0' q hq e.symm
end Go.VM
namespace Go.Proofs.YtcgdjembdjdlhaaGreatDoor.w
open Go Go.VM
def c_unit_every:VC:=(ZR [ZO 2 (.box 8 (.t 0)),ZO 4 (.mv (.c (.bool false)))] (.seq (ZR [ZM 7 1,ZO 8 (.load true 8 (.t 2)),ZO 9 (.callv (.t 7) [.t 8]),ZO 10 (.un .not (.t 9))] (.cond (.t 10) (ZR [ZO 4 (.mv (.c (.bool false)))] .ret) .skip)) (.seq (ZR [ZO 11 (.faddr 7 (.t 2)),ZO 12 (.load false 1 (.t 11)),ZO 13 (.len false (.t 12)),ZO 14 (.mv (.c (.int .i64 0)))] (.block 0 (.loop (ZR [ZO 15 (.bin .lss (.t 14) (.t 13))] (.seq (.cond (.t 15) .skip (.exit 0)) (.seq (.block 1 (ZR [ZO 16 (.iaddr 8 (.t 12) (.t 14)),ZO 17 (.load true 8 (.t 16)),ZO 6 (.alloc ZU),ZN (.store 8 (.t 6) (.t 17))] (ZR [ZO 18 (.load true 8 (.t 6)),ZM 19 1,ZO 20 (.call 199 [.t 18,.t 19]),ZO 21 (.un .not (.t 20))] (.cond (.t 21) (ZR [ZO 4 (.mv (.c (.bool false)))] .ret) .skip)))) (.region [ZO 22 (.bin .add (.t 14) (.c (.int .i64 1))),ZM 14 22] false))))))) (ZR [ZO 4 (.mv (.c (.bool true)))] .ret))))
def EvB (f:FuncId) (cap:List PV) (S:List Un→List (Nat×AB)→Prop) (N:Nat):Prop :=
 ∀ (pre:List Un) (u:Un),pre.length<N→SmT u→∀ (L:List (Nat×AB)) (t:Nat),S pre L→(∀ q∈L,q.1<t)→Nod L→(∀ q∈L,q.2.live=true) →
  Zal Tryz.prog f (.agg u.enc::cap) ⟨L,t⟩ (fun r h'=>r=.bool true∧Aft L t (S (pre++[u])) h')
theorem sp_every_st {f : FuncId} {cap : List PV} {S : List Un → List (Nat × AB) → Prop} {N : Nat} (hB : EvB f cap S N) (hN : N ≤ 1000) {u : Un} (hu : SmT u) : ∀ (pre : List Un), pre.length + (unitsT u).length ≤ N → ∀ (L : List (Nat × AB)) (t : Nat), S pre L → (∀ q ∈ L, q.1 < t) → Nod L → (∀ q ∈ L, q.2.live = true) →
  Zal Tryz.prog 199 [.agg u.enc,.fn (.func f) [] cap] ⟨L,t⟩ (fun r h'=>r=.bool true∧Aft L t (S (pre++unitsT u)) h'):=by
 induction hu with
 | mk u h hk hs ih =>
  intro pre hpre L t0 hS hlt hnod hlive;rw [Zan,List.length_cons] at hpre;have hB0:=hB pre u (by omega) (.mk u h hk hs);rw [Zan];have ih' : ∀ k ∈ u.kids, ∀ (pre : List Un), pre.length + (unitsT k).length ≤ N → ∀ (L : List (Nat × AB)) (t : Nat), S pre L → (∀ q ∈ L, q.1 < t) → Nod L → (∀ q ∈ L, q.2.live = true) →
    Zal Tryz.prog 199 [.agg k.enc,.fn (.func f) [] cap] ⟨L,t⟩ (fun r h'=>r=.bool true∧Aft L t (S (pre++unitsT k)) h'):=ih
  clear ih;refine Zal.drop ?_;refine Gn (vc:=c_unit_every) [.t 4] Tryz.func199 ?_;unfold c_unit_every;try dsimp only [ZM,ZO,ZN,ZG,ZR,ZU]
  rw [Un.Zaf] at hB0 ⊢;have o0:Off L t0:=Off.lt hlt (Nat.le_refl _);have g0':=o0.get;have d0':=o0.del;refine Rp0 [1,2] ?_;refine Zaa ?_;refine Rp1 [1,2,10] (x2 g0' d0') ?_;refine ACall_side (R:=fun r=>r=.bool true) (Q:=S (pre++[u])) hnod o0 (Nat.lt_succ_self _) (fun fz z e=>by cases e) (hB0 L (t0+1) hS (fun q hq=>by have:=hlt q hq;omega) hnod hlive) ?_;rintro r L1 t1 rfl ht1 hS1 hnod1 hlt1 o1 hold1 hlive1;have G1:=HL.get_off (P:=[(t0,AB.arr false 8 [[pI u.act,pI u.item,pI u.n,pI u.kind,.str u.label,.sl 4 (u.head.map Wd.enc),.sl 4 (u.words.map Wd.enc),.sl 8 (u.kids.map Un.enc)]])]) o1;refine Sp0 ?_;refine Fp0 ?_;refine Zaa ?_;refine Rp1 [1,12,13,14] (x2 G1 @xlm) ?_;refine Zab ?_;clear hS hlt hnod hlive hB0 g0' d0';generalize u.kids=KL at hk hpre ih' ⊢;refine Zah (σ:={ x:Nat×List (Nat×AB)×Nat//x.1≤KL.length∧t0<x.2.2∧S (pre++u::unitsL (KL.take x.1)) x.2.1∧Nod x.2.1∧(∀ q∈x.2.1,q.1<x.2.2)∧(∀ q∈x.2.1,(∃ r∈L,r.1=q.1)∨t0+1≤q.1)∧∀ q∈x.2.1,q.2.live=true })
   (fun x=>([(1,.fn (.func f) [] cap),(12,.sl 8 (KL.map Un.enc)),(13,pI KL.length),(14,pI x.1.1)],⟨x.1.2.1,x.1.2.2⟩)) (fun x=>KL.length-x.1.1) ⟨(0,L1,t1),Nat.zero_le _,ht1,by simpa [unitsL] using hS1,hnod1,hlt1,hold1,hlive1⟩ ?_ ?_ ?_
  ·refine Sp0 ?_;rfl
  ·refine Sp0 ?_;exact HL.le_app hnod1 _
  rintro ⟨⟨k,L2,t2⟩,hkk,ht2,hS2,hnod2,hlt2,hold2,hlive2⟩;simp only [] at hkk ht2 hS2 hnod2 hlt2 hold2 hlive2 ⊢;have o2:Off L2 t2:=Off.lt hlt2 (Nat.le_refl _);have g2:=o2.get;have d2:=o2.del;refine Rp0 [1,12,13,14,15] ?_;refine Zaa ?_;refine Zac rfl (fun h1=>?_) (fun h1=>?_)
  ·have ka:k<KL.length:=by simp only [decide_eq_true_eq] at h1;omega
   have hst:=unitsL_step ka;have htk:=unitsL_take KL (k+1);have hrow:(KL.map Un.enc).getD k []=KL[k].enc:=rowm ka;have R:=ih' _ (List.getElem_mem ka) (pre++u::unitsL (KL.take k));rw [hst,List.length_append] at htk;generalize KL[k]=v at hst hrow R htk;rw [Un.Zaf] at hrow R;refine Kp0 ?_;refine Zaa ?_;refine Zab ?_;refine Rp1 [1,6,12,13,14] (x4 @xlm hrow g2 d2) ?_;refine Ok ?_;refine Rp1 [1,12,13,14,21] (x2 g2 d2) ?_;have hlen:(pre++u::unitsL (KL.take k)).length+(unitsT v).length≤N:=by
    rw [List.length_append,List.length_cons];omega
   refine ACall_side (R:=fun r=>r=.bool true) (Q:=S (pre++u::unitsL (KL.take k)++unitsT v)) hnod2 o2 (Nat.lt_succ_self _) (fun fz z e=>by cases e) (R hlen L2 (t2+1) hS2 (fun q hq=>by have:=hlt2 q hq;omega) hnod2 hlive2) ?_;rintro r L3 t3 rfl ht3 hS3 hnod3 hlt3 o3 hold3 hlive3;refine Sp0 ?_;refine Fp0 ?_;refine rp1 [1,12,13,14] (ad1 (a:=k) (by omega)) ?_;refine ⟨⟨(k+1,L3,t3),ka,by show t0<t3;omega,by show S (pre++u::unitsL (KL.take (k+1))) L3;rw [hst];simpa using hS3,hnod3,hlt3,fun q hq=>?_,hlive3⟩,?_⟩
   ·rcases hold3 q hq with ⟨r,hr,er⟩|h
    ·rcases hold2 r hr with ⟨r',hr',er'⟩|h'
     ·exact .inl ⟨r',hr',er'.trans er⟩
     ·exact .inr (by omega)
    ·exact .inr (by omega)
   ·refine ⟨rfl,⟨Nat.le_refl _,HL.le_app hnod3 _⟩,?_⟩;show KL.length-(k+1)<KL.length-k;omega
  ·have ka:k=KL.length:=by simp only [decide_eq_false_iff_not] at h1;omega
   subst ka;rw [List.take_length] at hS2;refine Ep0 ?_;refine Rp0 [4] ?_;refine Tp0 ?_;refine ⟨⟨L2,t2⟩,⟨Nat.le_refl _,by simpa using HL.le_app (P:=[]) hnod2 t2⟩,L2,t2,by omega,rfl,hS2,hnod2,hlt2,fun q hq=>?_,hlive2⟩;rcases hold2 q hq with h|h
   ·exact .inl h
   ·exact .inr (by omega)
theorem sp_every_pure {f:FuncId} {p:Un→Bool} {u:Un} (hu:SmT u) (hp:∀ x∈unitsT u,Zak Tryz.prog f [.agg x.enc] (.bool (p x))):Zak Tryz.prog 199 [.agg u.enc,.fn (.func f) [] []] (.bool ((unitsT u).all p)):=by
 induction hu with
 | mk u h hk hs ih =>
  have P0:=hp u (Zbb u);have ih':∀ k∈u.kids,Zak Tryz.prog 199 [.agg k.enc,.fn (.func f) [] []] (.bool ((unitsT k).all p)):=fun k hk'=>ih k hk' fun x hx=>hp x (Zb6 hk' hx);clear ih;rw [unitsT_all];refine Gp (vc:=c_unit_every) [.t 4] (cB _) Tryz.func199 ?_;unfold c_unit_every;try dsimp only [ZM,ZO,ZN,ZG,ZR,ZU]
  rw [Un.Zaf] at P0 ⊢;refine Rp0 [1,2] ?_;refine Zat [(1,.fn (.func f) [] []),(2,.ro [pI u.act,pI u.item,pI u.n,pI u.kind,.str u.label,.sl 4 (u.head.map Wd.enc),.sl 4 (u.words.map Wd.enc),.sl 8 (u.kids.map Un.enc)])] ⟨View.refl _ _,View.loc (z:=8) (fz:=false) (es:=[[pI u.act,pI u.item,pI u.n,pI u.kind,.str u.label,.sl 4 (u.head.map Wd.enc),.sl 4 (u.words.map Wd.enc),.sl 8 (u.kids.map Un.enc)]]) rfl (by simp) rfl (by simp),trivial⟩ ?_;generalize u.head.map Wd.enc=EH at P0 ⊢;generalize u.words.map Wd.enc=EW at P0 ⊢;generalize p u=pu at P0 ⊢;generalize u.kids=L at hk P0 ih' ⊢;refine Zaa ?_;refine Rp0 [1,2,10] ?_;refine Ap0 P0 ?_;cases pu with
  | false =>
   refine Ct ?_;exact Rv0 [4]
  | true =>
  refine Fp0 ?_;refine Zaa ?_;refine Rp1 [1,12,13,14] @xlm ?_;refine Zab ?_;refine Zah (σ:={ x:Nat×Nat//x.1≤L.length∧(L.all fun k=>(unitsT k).all p)=((L.drop x.1).all fun k=>(unitsT k).all p) }) (fun x=>([(1,.fn (.func f) [] []),(12,.sl 8 (L.map Un.enc)),(13,pI L.length),(14,pI x.1.1)],⟨[],x.1.2⟩)) (fun x=>L.length-x.1.1) ⟨(0,1),Nat.zero_le _,rfl⟩ ?_ ?_ ?_
  ·exact Fn0
  ·exact Sc0
  rintro ⟨⟨k,t⟩,hkk,hpre⟩;simp only [] at hkk hpre ⊢;refine Rp0 [1,12,13,14,15] ?_;refine Zaa ?_;refine Zac rfl (fun h1=>?_) (fun h1=>?_)
  ·have ka:k<L.length:=by simp only [decide_eq_true_eq] at h1;omega
   have hd:L.drop k=L[k]::L.drop (k+1):=List.drop_eq_getElem_cons ka;rw [hd,List.all_cons] at hpre;have hrow:(L.map Un.enc).getD k []=L[k].enc:=rowm ka;have R:=ih' _ (List.getElem_mem ka);generalize L[k]=v at hpre hrow R;rw [Un.Zaf] at hrow R;refine Kp0 ?_;refine Zaa ?_;refine Zab ?_;refine Rp1 [1,6,12,13,14] (x2 @xlm hrow) ?_;refine Ok ?_;refine Rp0 [1,12,13,14,21] ?_;refine Ap0 R ?_;cases hq:(unitsT v).all p with
   | false =>
    refine Ct ?_;refine Rp0 [4] ?_;refine Tp0 ?_;rw [hpre,hq];exact View.refl _ _
   | true =>
    rw [hq,Bool.true_and] at hpre;refine Fp0 ?_;refine rp1 [1,12,13,14] (ad1 (a:=k) (by omega)) ?_;refine ⟨⟨(k+1,t+1),ka,hpre⟩,?_⟩;exact Fn0
  ·have ka:k=L.length:=by simp only [decide_eq_false_iff_not] at h1;omega
   subst ka;rw [List.drop_length] at hpre;refine Ep0 ?_;refine Rp0 [4] ?_;refine Tp0 ?_;rw [hpre];exact View.refl _ _
end Go.Proofs.YtcgdjembdjdlhaaGreatDoor.w
