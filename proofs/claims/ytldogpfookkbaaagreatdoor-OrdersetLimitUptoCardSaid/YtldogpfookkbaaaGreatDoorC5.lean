import Derived.Test.YtldogpfookkbaaaGreatDoorVmC
import Derived.Test.YtldogpfookkbaaaGreatDoorVmZ
import Derived.Test.YtldogpfookkbaaaGreatDoorC3
import Derived.Test.YtldogpfookkbaaaGreatDoorShI
import Derived.Lib.AppendIntMem
import Derived.Test.YtldogpfookkbaaaGreatDoorV0
import Derived.Test.YtldogpfookkbaaaGreatDoorVmBa
set_option linter.all false
set_option maxRecDepth 20000
set_option maxHeartbeats 0
namespace Go.Proofs.YtldogpfookkbaaaGreatDoor.w
open Go Go.VM
def pD (x:Nat):Bool:=decide ((x:Int)<48)||decide ((57:Int)<x)
def pU (x:Nat):Bool:=decide ((x:Int)<65)||decide ((90:Int)<x)
theorem aw_label_parted_1 (x:Nat):Zaj Tryz.prog 228 [.int .i32 x] (.bool (pD x)):=by
 unfold pD;refine Gp (vc:=c_label_parted_1) [.t 2] (cB _) Tryz.func228 ?_;unfold c_label_parted_1;try dsimp only [ZM,ZO,ZN,ZG,ZR,ZU]
 refine Rp0 [0] ?_;refine Rp0 [2] ?_;refine OpsW_split rfl (fun g=>?_) (fun g=>?_)
 ·refine Sp1 g ?_;refine Tp0 ?_;rw [Bool.false_or];exact View.refl _ _
 ·refine Sp1 g ?_;refine Tp0 ?_;rw [Bool.true_or];exact View.refl _ _
theorem aw_label_Valid_1 (x:Nat):Zaj Tryz.prog 197 [.int .i32 x] (.bool (pU x)):=by
 unfold pU;refine Gp (vc:=c_label_Valid_1) [.t 2] (cB _) Tryz.func197 ?_;unfold c_label_Valid_1;try dsimp only [ZM,ZO,ZN,ZG,ZR,ZU]
 refine Rp0 [0] ?_;refine Rp0 [2] ?_;refine OpsW_split rfl (fun g=>?_) (fun g=>?_)
 ·refine Sp1 g ?_;refine Tp0 ?_;rw [Bool.false_or];exact View.refl _ _
 ·refine Sp1 g ?_;refine Tp0 ?_;rw [Bool.true_or];exact View.refl _ _
theorem sp_IndexD (s:Str):Zaj Tryz.prog 227 [.str s,.fn (.func 228) [] []] (pI (Lib.idxFunc pD true ⟨s.toArray⟩)):=by
 refine PCall_of (by kernel_rfl) (by intro x hx;simp only [List.mem_cons,List.not_mem_nil,or_false] at hx;rcases hx with rfl|rfl;exact cS _;exact closed_fn0 _) fun g w vals r ha=>?_;obtain ⟨v,u,rfl,hv,hu⟩:=args_2 ha;obtain ⟨z,rfl,hs⟩:=hv.str_inv;obtain rfl:=fn0_inv hu;rw [str_eq hs];refine (Any.strings_IndexFunc_grows Tryz.laysIndexFunc _ #[] (enters_of Tryz.func228 (by kernel_rfl) rfl) pD _ w (grows_of aw_label_parted_1 r)).mono ?_;rintro e w' ⟨rfl,hb⟩;exact ⟨_,rfl,fun g=>.int _ _,hb⟩
theorem sp_IndexU (s:Str):Zaj Tryz.prog 227 [.str s,.fn (.func 197) [] []] (pI (Lib.idxFunc pU true ⟨s.toArray⟩)):=by
 refine PCall_of (by kernel_rfl) (by intro x hx;simp only [List.mem_cons,List.not_mem_nil,or_false] at hx;rcases hx with rfl|rfl;exact cS _;exact closed_fn0 _) fun g w vals r ha=>?_;obtain ⟨v,u,rfl,hv,hu⟩:=args_2 ha;obtain ⟨z,rfl,hs⟩:=hv.str_inv;obtain rfl:=fn0_inv hu;rw [str_eq hs];refine (Any.strings_IndexFunc_grows Tryz.laysIndexFunc _ #[] (enters_of Tryz.func197 (by kernel_rfl) rfl) pU _ w (grows_of aw_label_Valid_1 r)).mono ?_;rintro e w' ⟨rfl,hb⟩;exact ⟨_,rfl,fun g=>.int _ _,hb⟩
theorem idx1:Zaj Tryz.prog 227 [.str [49],.fn (.func 228) [] []] (pI (-1)):=by
 have:=sp_IndexD [49]
 rwa [show Lib.idxFunc pD true ⟨([49]:Str).toArray⟩ = -1 by kernel_rfl] at this
theorem idx2:Zaj Tryz.prog 227 [.str [50],.fn (.func 228) [] []] (pI (-1)):=by
 have:=sp_IndexD [50]
 rwa [show Lib.idxFunc pD true ⟨([50]:Str).toArray⟩ = -1 by kernel_rfl] at this
theorem idx0:Zaj Tryz.prog 227 [.str [],.fn (.func 197) [] []] (pI (-1)):=by
 have:=sp_IndexU []
 rwa [show Lib.idxFunc pU true ⟨([]:Str).toArray⟩ = -1 by kernel_rfl] at this
end Go.Proofs.YtldogpfookkbaaaGreatDoor.w
namespace Go.Proofs.YtldogpfookkbaaaGreatDoor.w
open Go Go.VM
end Go.Proofs.YtldogpfookkbaaaGreatDoor.w
namespace Go.VM
open Go
def okC (c:UInt8):Bool:=decide (33≤c.toNat)&&decide (c.toNat≤126)
def wordB (s:Str):Bool:=decide (1≤s.length)&&(decide (s.length≤24)&&s.all okC)
def textsV (l:List Str):Bool:=decide (l.length≤256)&&l.all wordB
def rowB (l:List Wd):Bool:=textsV (l.map Wd.text)
end Go.VM
namespace Go.Proofs.YtldogpfookkbaaaGreatDoor.w
open Go Go.VM
def c_wordseq_word : VC := (ZR [ZO 2 (.mv (.c (.bool false)))] (ZR [ZO 3 (.mv (.c (.fn (.func 254) [] [])))] (ZR [ZM 4 0,ZO 5 (.bin .neq (.t 4) (.c (.str []))),ZM 6 5,ZG 7 (.mv (.t 0)) 6 true,ZG 8 (.len true (.t 7)) 6 true,ZG 9 (.bin .leq (.t 8) (.c (.int .i64 24))) 6 true,ZO 10 (.pick (.t 6) (.t 9) (.c (.bool false))),ZM 11 10,ZG 12 (.mv (.t 0)) 11 true,ZG 13 (.other ({ dst := some 13,op := Op.convert 9 256 (Operand.tmp 12),type := 256,pos := "wordseq.go:14",after := #[{ on := 8,ground := Ground.data },{ on := 7,ground := Ground.guard }],guard := some (7,true) } : Oper)) 11 true,ZG 14 (.mv (.t 3)) 11 true,ZG 15 (.call 255 [.t 13,.t 14]) 11 true,ZG 16 (.un .not (.t 15)) 11 true,ZO 17 (.pick (.t 11) (.t 16) (.c (.bool false))),ZM 2 17] .ret)))
def c_pandectref04_Word:VC:=(ZR [ZO 2 (.mv (.c (.bool false)))] (.seq (ZR [ZM 4 0,ZO 5 (.len true (.t 4)),ZO 6 (.bin .lss (.t 5) (.c (.int .i64 1))),ZM 7 6,ZG 8 (.mv (.t 0)) 7 false,ZG 9 (.len true (.t 8)) 7 false,ZG 10 (.bin .gtr (.t 9) (.c (.int .i64 24))) 7 false,ZO 11 (.pick (.t 7) (.c (.bool true)) (.t 10))] (.cond (.t 11) (ZR [ZO 2 (.mv (.c (.bool false)))] .ret) .skip)) (.seq (ZR [ZO 3 (.mv (.c (.int .i64 0)))] (.block 0 (.loop (.seq (ZR [ZM 12 3,ZM 13 0,ZO 14 (.len true (.t 13)),ZO 15 (.bin .lss (.t 12) (.t 14))] (.cond (.t 15) .skip (.exit 0))) (.seq (.block 1 (ZR [ZM 18 0,ZM 19 3,ZO 20 (.idx (.t 18) (.t 19)),ZO 21 (.bin .lss (.t 20) (.c (.int .u8 33))),ZM 22 21,ZG 23 (.mv (.t 0)) 22 false,ZG 24 (.mv (.t 3)) 22 false,ZG 25 (.idx (.t 23) (.t 24)) 22 false,ZG 26 (.bin .gtr (.t 25) (.c (.int .u8 126))) 22 false,ZO 27 (.pick (.t 22) (.c (.bool true)) (.t 26))] (.cond (.t 27) (ZR [ZO 2 (.mv (.c (.bool false)))] .ret) .skip))) (.region [ZM 16 3,ZO 17 (.bin .add (.t 16) (.c (.int .i64 1))),ZM 3 17] false)))))) (ZR [ZO 2 (.mv (.c (.bool true)))] .ret))))
def c_pandectref04_May:VC:=(ZR [ZO 2 (.mv (.c (.bool false)))] (.seq (ZR [ZM 4 0,ZO 5 (.len false (.t 4)),ZO 6 (.bin .gtr (.t 5) (.c (.int .i64 256)))] (.cond (.t 6) (ZR [ZO 2 (.mv (.c (.bool false)))] .ret) .skip)) (.seq (ZR [ZO 3 (.mv (.c (.int .i64 0)))] (.block 0 (.loop (.seq (ZR [ZM 7 3,ZM 8 0,ZO 9 (.len false (.t 8)),ZO 10 (.bin .lss (.t 7) (.t 9))] (.cond (.t 10) .skip (.exit 0))) (.seq (.block 1 (ZR [ZM 13 0,ZM 14 3,ZO 15 (.iaddr 1 (.t 13) (.t 14)),ZO 16 (.load false 1 (.t 15)),ZO 17 (.call 233 [.t 16]),ZO 18 (.un .not (.t 17))] (.cond (.t 18) (ZR [ZO 2 (.mv (.c (.bool false)))] .ret) .skip))) (.region [ZM 11 3,ZO 12 (.bin .add (.t 11) (.c (.int .i64 1))),ZM 3 12] false)))))) (ZR [ZO 2 (.mv (.c (.bool true)))] .ret))))
def c_pandectref06_Texts:VC:=(ZR [ZO 2 (.mv (.c .nilsl))] (ZR [ZO 5 (.fx (.mk0 1) []),ZM 3 5] (.seq (ZR [ZO 4 (.mv (.c (.int .i64 0)))] (.block 0 (.loop (.seq (ZR [ZM 6 4,ZM 7 0,ZO 8 (.len false (.t 7)),ZO 9 (.bin .lss (.t 6) (.t 8))] (.cond (.t 9) .skip (.exit 0))) (.seq (.block 1 (.region [ZM 12 3,ZM 13 0,ZM 14 4,ZO 15 (.iaddr 4 (.t 13) (.t 14)),ZO 16 (.faddr 0 (.t 15)),ZO 17 (.load false 1 (.t 16)),ZO 18 (.bslice 1 1 [(.str [])] [(0,(.t 17))]),ZO 19 (.app 1 16 [(.str [])] false (.t 12) (.t 18)),ZM 3 19] false)) (.region [ZM 10 4,ZO 11 (.bin .add (.t 10) (.c (.int .i64 1))),ZM 4 11] false)))))) (ZR [ZM 20 3,ZM 2 20] .ret))))
def c_pandectref06_row:VC:=(ZR [ZO 2 (.mv (.c (.bool false)))] (ZR [ZM 3 0,ZO 4 (.len false (.t 3)),ZO 5 (.bin .leq (.t 4) (.c (.int .i64 256))),ZM 6 5,ZG 7 (.mv (.t 0)) 6 true,ZG 8 (.call 210 [.t 7]) 6 true,ZG 9 (.call 209 [.t 8]) 6 true,ZO 10 (.pick (.t 6) (.t 9) (.c (.bool false))),ZM 2 10] .ret))
theorem c_lo (c:UInt8):decide ((c.toNat:Int)<33) = !(decide (33≤c.toNat)):=by
 by_cases h:33≤c.toNat
 ·rw [decide_eq_true h,decide_eq_false (by omega)];rfl
 ·rw [decide_eq_false h,decide_eq_true (by omega)];rfl
theorem c_hi (c:UInt8):decide ((126:Int)<(c.toNat:Int)) = !(decide (c.toNat≤126)):=by
 by_cases h:c.toNat≤126
 ·rw [decide_eq_true h,decide_eq_false (by omega)];rfl
 ·rw [decide_eq_false h,decide_eq_true (by omega)];rfl
theorem sp_ref04_Word (s:Str) (hl:s.length≤1000000):Zaj Tryz.prog 233 [.str s] (.bool (wordB s)):=by
 have h1:decide ((s.length:Int)<1) = !(decide (1≤s.length)):=by
  by_cases h:1≤s.length
  ·rw [decide_eq_true h,decide_eq_false (by omega)];rfl
  ·rw [decide_eq_false h,decide_eq_true (by omega)];rfl
 have h2:decide ((24:Int)<(s.length:Int)) = !(decide (s.length≤24)):=by
  by_cases h:s.length≤24
  ·rw [decide_eq_true h,decide_eq_false (by omega)];rfl
  ·rw [decide_eq_false h,decide_eq_true (by omega)];rfl
 refine Gp (vc:=c_pandectref04_Word) [.t 2] (cB _) Tryz.func233 ?_;unfold c_pandectref04_Word;try dsimp only [ZM,ZO,ZN,ZG,ZR,ZU]
 refine Rp0 [0] ?_;refine Zab ?_;unfold wordB;cases d1:decide (1≤s.length) with
 | false =>
  rw [d1] at h1;refine Rp1 [0,11] h1 ?_;refine Ct ?_;exact Rv0 [2]
 | true =>
 rw [d1] at h1;cases d2:decide (s.length≤24) with
 | false =>
  rw [d2] at h2;refine Rp1 [0,11] (x2 h1 h2) ?_;refine Ct ?_;exact Rv0 [2]
 | true =>
 rw [d2] at h2;refine Rp1 [0,11] (x2 h1 h2) ?_;refine Fp0 ?_;refine Zab ?_;refine Rp0 [0,3] ?_;refine Zac ?_;refine Zao (σ:={ k:Nat//k≤s.length∧s.all okC=(s.drop k).all okC }) (fun x=>([(0,.str s),(3,pI x.1)],⟨[],0⟩)) (fun x=>s.length-x.1) ⟨0,Nat.zero_le _,rfl⟩ ?_ ?_ ?_
 ·refine Sp0 ?_;rfl
 ·exact Sc0
 rintro ⟨k,hk,hpre⟩;simp only [];refine Zab ?_;refine Rp0 [0,3,15] ?_;refine Zaf rfl (fun h3=>?_) (fun h3=>?_)
 ·have ka:k<s.length:=by simp only [decide_eq_true_eq] at h3;omega
  have hd:s.drop k=s[k]::s.drop (k+1):=List.drop_eq_getElem_cons ka;have hgd:s.getD k 0=s[k]:=by simp [List.getD_eq_getElem?_getD,ka]
  rw [hd,List.all_cons] at hpre;generalize s[k]=c at hpre hgd;have g1:=c_lo c;have g2:=c_hi c;refine Kp0 ?_;refine Zab ?_;refine Zac ?_;refine Zab (VW_mid (σ:=Unit) (fun _=>([(0,.str s),(3,pI k),(27,.bool (!(okC c)))],⟨[],0⟩)) (Zag [0,3,27] ?_) (fun _=>?_))
  ·unfold okC;cases e1:decide (33≤c.toNat) with
   | false =>
    rw [e1] at g1;refine Sp1 (x2 hgd g1) ?_;refine ⟨⟨by omega,by omega⟩,?_⟩;exact ⟨(),by first|trivial|rfl⟩
   | true =>
    rw [e1] at g1;refine Sp1 (x3 hgd g1 g2) ?_;refine ⟨⟨by omega,by omega⟩,⟨by omega,by omega⟩,?_⟩;exact ⟨(),by first|trivial|rfl⟩
  cases hq:okC c with
  | false =>
   refine Ct ?_;refine Rp0 [2] ?_;refine Tp0 ?_;rw [hpre,hq];exact View.refl _ _
  | true =>
   rw [hq,Bool.true_and] at hpre;refine Fp0 ?_;refine rp1 [0,3] (w64 (n:=(k:Int)+1) (by omega) (by omega)) ?_;refine ⟨⟨k+1,ka,hpre⟩,?_,?_⟩
   ·rfl
   ·simp only [];omega
 ·have ka:k=s.length:=by simp only [decide_eq_false_iff_not] at h3;omega
  subst ka;rw [List.drop_length] at hpre;refine Ep0 ?_;refine Rp0 [2] ?_;refine Tp0 ?_;rw [hpre];exact View.refl _ _
theorem sp_ref04_May (l:List Str) (hl:l.length≤1000000) (ht:∀ s∈l,s.length≤1000000):Zaj Tryz.prog 209 [.sl 1 (l.map fun x=>[PV.str x])] (.bool (textsV l)):=by
 have h2:decide ((256:Int)<(l.length:Int)) = !(decide (l.length≤256)):=by
  by_cases h:l.length≤256
  ·rw [decide_eq_true h,decide_eq_false (by omega)];rfl
  ·rw [decide_eq_false h,decide_eq_true (by omega)];rfl
 refine Gp (vc:=c_pandectref04_May) [.t 2] (cB _) Tryz.func209 ?_;unfold c_pandectref04_May;try dsimp only [ZM,ZO,ZN,ZG,ZR,ZU]
 refine Rp0 [0] ?_;refine Zab ?_;unfold textsV;cases d2:decide (l.length≤256) with
 | false =>
  rw [d2] at h2;refine Rp1 [0,6] (x2 @xlm h2) ?_;refine Ct ?_;exact Rv0 [2]
 | true =>
 rw [d2] at h2;refine Rp1 [0,6] (x2 @xlm h2) ?_;refine Fp0 ?_;refine Zab ?_;refine Rp0 [0,3] ?_;refine Zac ?_;refine Zao (σ:={ k:Nat//k≤l.length∧l.all wordB=(l.drop k).all wordB }) (fun x=>([(0,.sl 1 (l.map fun x=>[PV.str x])),(3,pI x.1)],⟨[],0⟩)) (fun x=>l.length-x.1) ⟨0,Nat.zero_le _,rfl⟩ ?_ ?_ ?_
 ·refine Sp0 ?_;rfl
 ·exact Sc0
 rintro ⟨k,hk,hpre⟩;simp only [];refine Zab ?_;refine Rp1 [0,3,10] @xlm ?_;refine Zaf rfl (fun h3=>?_) (fun h3=>?_)
 ·have ka:k<l.length:=by simp only [decide_eq_true_eq] at h3;omega
  have hd:l.drop k=l[k]::l.drop (k+1):=List.drop_eq_getElem_cons ka;rw [hd,List.all_cons] at hpre;have R:=sp_ref04_Word l[k] (ht _ (List.getElem_mem ka));refine Kp0 ?_;refine Zab ?_;refine Zac ?_;refine Zab (Zag [0,3,18] ?_);simp only [vmL,Nat.reduceEqDiff,reduceCtorEq,List.length_map,rowm ka];refine Ok ?_;refine Ap0 R ?_;cases hq:wordB l[k] with
  | false =>
   refine Ct ?_;refine Rp0 [2] ?_;refine Tp0 ?_;rw [hpre,hq];exact View.refl _ _
  | true =>
   rw [hq,Bool.true_and] at hpre;refine Fp0 ?_;refine rp1 [0,3] (w64 (n:=(k:Int)+1) (by omega) (by omega)) ?_;refine ⟨⟨k+1,ka,hpre⟩,?_,?_⟩
   ·rfl
   ·simp only [];omega
 ·have ka:k=l.length:=by simp only [decide_eq_false_iff_not] at h3;omega
  subst ka;rw [List.drop_length] at hpre;refine Ep0 ?_;refine Rp0 [2] ?_;refine Tp0 ?_;rw [hpre];exact View.refl _ _
theorem texts_step {l:List Wd} {k:Nat} (h:k<l.length):(l.take (k+1)).map (fun w=>[PV.str w.text])=(l.take k).map (fun w=>[PV.str w.text])++[[PV.str l[k].text]]:=by
 rw [List.take_add_one,List.getElem?_eq_getElem h,List.map_append];rfl
theorem texts_map (l:List Wd):(l.map Wd.text).map (fun x=>[PV.str x])=l.map fun w=>[PV.str w.text]:=by rw [List.map_map];rfl
theorem closed_textsW (l:List Wd):Closed (.sl 1 (l.map fun w=>[PV.str w.text])):=Zak (fun a _ x hx=>by simp only [List.mem_cons,List.not_mem_nil,or_false] at hx;subst hx;exact cS _)
theorem sp_ref06_Texts (l:List Wd) (hl:l.length≤1000000):Zaj Tryz.prog 210 [.sl 4 (l.map Wd.enc)] (.sl 1 (l.map fun w=>[PV.str w.text])):=by
 refine Gp (vc:=c_pandectref06_Texts) [.t 2] (closed_textsW _) Tryz.func210 ?_;unfold c_pandectref06_Texts;try dsimp only [ZM,ZO,ZN,ZG,ZR,ZU]
 refine Rp0 [0] ?_;refine Rp0 [0,3] ?_;refine Zab ?_;refine Rp0 [0,3,4] ?_;refine Zac ?_;refine Zao (σ:={ x:Nat×Nat×Nat//x.1≤l.length∧x.2.1<x.2.2 }) (fun x=>([(0,.sl 4 (l.map Wd.enc)),(3,.own x.1.2.1 0 x.1.1),(4,pI x.1.1)],⟨[(x.1.2.1,.arr false 1 ((l.take x.1.1).map fun w=>[PV.str w.text]))],x.1.2.2⟩)) (fun x=>l.length-x.1.1) ⟨(0,0,1),Nat.zero_le _,Nat.one_pos⟩ ?_ ?_ ?_
 ·exact Sr0
 ·exact Sr0
 rintro ⟨⟨k,id,t⟩,hk,hid⟩;simp only [] at hk hid ⊢;have qq:=N4 id t (t+1) (t+1+1);refine Zab ?_;refine Rp1 [0,3,4,9] (x2 @xlm qq) ?_;refine Zaf rfl (fun h1=>?_) (fun h1=>?_)
 ·have ka:k<l.length:=by simp only [decide_eq_true_eq] at h1;omega
  have hst:=texts_step ka;have hB:((l.take k).map fun w=>[PV.str w.text]).length=k:=by simp;omega
  generalize (l.take k).map (fun w=>[PV.str w.text])=B at hst hB ⊢;have tk:List.take k B=B:=List.take_of_length_le (by omega);refine Kp1 qq ?_;refine Zab ?_;refine Zac ?_;refine Zag [0,3,4] ?_;simp only [vmL,Nat.reduceEqDiff,Nat.reduceAdd,Nat.reduceLT,Nat.reduceLeDiff,reduceCtorEq,List.length_map,rowm ka,Wd.enc,tk,hB,qq];refine Ok ?_;refine rp1 [0,3,4] (x2 qq (w64 (n:=(k:Int)+1) (by omega) (by omega))) ?_;refine ⟨⟨(k+1,t+1,t+2),by show k+1≤l.length;omega,Nat.lt_succ_self _⟩,⟨rfl,rfl⟩,⟨Nat.le_refl _,?_⟩,by show l.length-(k+1)<l.length-k;omega⟩;show (if t+1=t+1 then some (AB.arr false 1 (B++[[PV.str l[k].text]])) else _)=some (AB.arr false 1 ((l.take (k+1)).map fun w=>[PV.str w.text]));rw [if_pos rfl,hst]
 ·have ka:k=l.length:=by simp only [decide_eq_false_iff_not] at h1;omega
  subst ka;rw [List.take_length];refine Ep1 qq ?_;refine Rp1 [2] qq ?_;refine Tp0 ?_;exact View.own_all (fz:=false) (by simp [Heap.get,HL.get]) (by rw [List.length_map])
theorem sp_ref06_row (l:List Wd) (hl:l.length≤1000000) (ht:∀ w∈l,w.text.length≤1000000):Zaj Tryz.prog 170 [.sl 4 (l.map Wd.enc)] (.bool (rowB l)):=by
 have V:=sp_ref04_May (l.map Wd.text) (by simpa using hl) (by intro s hs;obtain ⟨w,hw,rfl⟩:=List.mem_map.1 hs;exact ht w hw);rw [texts_map] at V;have X:=sp_ref06_Texts l hl;have h2:decide ((l.length:Int)≤256)=decide (l.length≤256):=decide_eq_decide.2 (by omega);refine Gp (vc:=c_pandectref06_row) [.t 2] (cB _) Tryz.func170 ?_;unfold c_pandectref06_row;try dsimp only [ZM,ZO,ZN,ZG,ZR,ZU]
 refine Rp0 [0] ?_;have hr:rowB l=(decide (l.length≤256)&&textsV (l.map Wd.text)):=by
  unfold rowB textsV;rw [List.length_map];cases decide (l.length≤256)<;>rfl
 rw [hr];cases d2:decide (l.length≤256) with
 | false =>
  rw [d2] at h2;refine Rp1 [2] (x2 @xlm h2) ?_;exact Tv0
 | true =>
  rw [d2] at h2;refine Rp1 [2] (x2 @xlm h2) ?_;refine Za8 X ?_;refine Za8 V ?_;exact Tv0
end Go.Proofs.YtldogpfookkbaaaGreatDoor.w
