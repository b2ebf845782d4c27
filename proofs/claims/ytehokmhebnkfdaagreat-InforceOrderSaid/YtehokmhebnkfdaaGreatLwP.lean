import Derived.Test.YtehokmhebnkfdaaGreatJ6
import Derived.Test.YtehokmhebnkfdaaGreatL3
import Derived.Test.YtehokmhebnkfdaaGreatL4
import Derived.Test.YtehokmhebnkfdaaGreatRd
import Derived.Test.YtehokmhebnkfdaaGreatVmAa
import Derived.KernelRfl
set_option linter.all false
namespace Go.Proofs.YtehokmhebnkfdaaGreat.w
open Go Go.VM
set_option maxRecDepth 20000
set_option maxHeartbeats 0
set_option pp.deepTerms false
def Zc0:VC:=(.seq (.region [ZO 2 (.mv (.c (.bool false)))] false) (.seq (.seq (.region [ZO 13 (.call 9 []),ZO 14 (.un .not (.t 13))] false) (.cond (.t 14) (.seq (.region [ZO 2 (.mv (.c (.bool false)))] false) .ret) .skip)) (.seq (.seq (.region [ZM 15 0,ZO 16 (.call 10 [(.t 15)]),ZO 17 (.un .not (.t 16))] false) (.cond (.t 17) (.seq (.region [ZO 2 (.mv (.c (.bool true)))] false) .ret) .skip)) (.seq (.region [ZM 18 0,ZO 19 (.call 29 [(.t 18)]),ZM 3 19] false) (.seq (.seq (.region [ZM 20 0,ZO 21 (.call 23 [(.t 20)]),ZM 22 0,ZO 23 (.call 31 [(.t 22)]),ZO 24 (.call 30 [(.t 21),(.t 23)]),ZO 25 (.un .not (.t 24)),ZM 26 25,ZG 27 (.mv (.t 3)) 26 false,ZG 28 (.mv (.t 0)) 26 false,ZG 29 (.call 33 [(.t 28)]) 26 false,ZG 30 (.call 32 [(.t 27),(.t 29)]) 26 false,ZG 31 (.un .not (.t 30)) 26 false,ZO 32 (.pick (.t 26) (.c (.bool true)) (.t 31))] false) (.cond (.t 32) (.seq (.region [ZO 2 (.mv (.c (.bool false)))] false) .ret) .skip)) (.seq (.region [ZM 33 0,ZO 34 (.call 26 [(.t 33)]),ZM 4 34] false) (.seq (.region [ZM 35 0,ZO 36 (.call 21 [(.t 35)]),ZM 5 36] false) (.seq (.seq (.region [ZO 6 (.mv (.c (.int .i64 0)))] false) (.block 0 (.loop (.seq (.seq (.region [ZM 37 6,ZM 38 5,ZO 39 (.len false (.t 38)),ZO 40 (.bin .lss (.t 37) (.t 39))] false) (.cond (.t 40) .skip (.exit 0))) (.seq (.block 1 (.seq (.region [ZO 7 (.mv (.c (.bool false))),ZO 8 (.mv (.c (.bool false)))] false) (.seq (.seq (.region [ZO 9 (.mv (.c (.int .i64 0)))] false) (.block 2 (.loop (.seq (.seq (.region [ZM 43 9,ZM 44 3,ZO 45 (.len false (.t 44)),ZO 46 (.bin .lss (.t 43) (.t 45))] false) (.cond (.t 46) .skip (.exit 2))) (.seq (.block 3 (.region [ZM 49 7,ZM 50 49,ZG 51 (.mv (.t 3)) 50 false,ZG 52 (.mv (.t 9)) 50 false,ZG 53 (.iaddr 2 (.t 51) (.t 52)) 50 false,ZG 54 (.load true 2 (.t 53)) 50 false,ZG 55 (.mv (.t 5)) 50 false,ZG 56 (.mv (.t 6)) 50 false,ZG 57 (.iaddr 28 (.t 55) (.t 56)) 50 false,ZG 58 (.faddr 0 (.t 57)) 50 false,ZG 59 (.load false 1 (.t 58)) 50 false,ZG 60 (.mv (.t 5)) 50 false,ZG 61 (.mv (.t 6)) 50 false,ZG 62 (.iaddr 28 (.t 60) (.t 61)) 50 false,ZG 63 (.faddr 1 (.t 62)) 50 false,ZG 64 (.load false 1 (.t 63)) 50 false,ZG 65 (.build [(.int .i64 0),(.int .i64 0)] [(0,(1,(.t 59))),(1,(1,(.t 64)))]) 50 false,ZG 66 (.eqs false [.i,.i] (.t 54) (.t 65)) 50 false,ZO 67 (.pick (.t 50) (.c (.bool true)) (.t 66)),ZM 7 67] true)) (.region [ZM 47 9,ZO 48 (.bin .add (.t 47) (.c (.int .i64 1))),ZM 9 48] false)))))) (.seq (.seq (.region [ZO 10 (.mv (.c (.int .i64 0)))] false) (.block 4 (.loop (.seq (.seq (.region [ZM 68 10,ZM 69 4,ZO 70 (.len false (.t 69)),ZO 71 (.bin .lss (.t 68) (.t 70))] false) (.cond (.t 71) .skip (.exit 4))) (.seq (.block 5 (.seq (.region [ZM 74 4,ZM 75 10,ZO 76 (.iaddr 1 (.t 74) (.t 75)),ZO 77 (.load false 1 (.t 76)),ZM 78 5,ZM 79 6,ZO 80 (.iaddr 28 (.t 78) (.t 79)),ZO 81 (.faddr 3 (.t 80)),ZO 82 (.faddr 16 (.t 81)),ZO 83 (.load false 1 (.t 82)),ZM 84 0,ZO 85 (.call 11 [(.t 77),(.t 83),(.t 84)]),ZM 11 85] true) (.seq (.region [ZO 12 (.mv (.c (.int .i64 0)))] false) (.block 6 (.loop (.seq (.seq (.region [ZM 86 12,ZM 87 11,ZO 88 (.len false (.t 87)),ZO 89 (.bin .lss (.t 86) (.t 88))] false) (.cond (.t 89) .skip (.exit 6))) (.seq (.block 7 (.region [ZM 92 8,ZM 93 92,ZG 94 (.mv (.t 11)) 93 false,ZG 95 (.mv (.t 12)) 93 false,ZG 96 (.iaddr 28 (.t 94) (.t 95)) 93 false,ZG 97 (.faddr 0 (.t 96)) 93 false,ZG 98 (.load false 1 (.t 97)) 93 false,ZG 99 (.mv (.t 5)) 93 false,ZG 100 (.mv (.t 6)) 93 false,ZG 101 (.iaddr 28 (.t 99) (.t 100)) 93 false,ZG 102 (.faddr 0 (.t 101)) 93 false,ZG 103 (.load false 1 (.t 102)) 93 false,ZG 104 (.bin .eql (.t 98) (.t 103)) 93 false,ZG 105 (.mv (.t 104)) 93 false,ZG 106 (.mv (.t 11)) 105 true,ZG 107 (.mv (.t 12)) 105 true,ZG 108 (.iaddr 28 (.t 106) (.t 107)) 105 true,ZG 109 (.faddr 1 (.t 108)) 105 true,ZG 110 (.load false 1 (.t 109)) 105 true,ZG 111 (.mv (.t 5)) 105 true,ZG 112 (.mv (.t 6)) 105 true,ZG 113 (.iaddr 28 (.t 111) (.t 112)) 105 true,ZG 114 (.faddr 1 (.t 113)) 105 true,ZG 115 (.load false 1 (.t 114)) 105 true,ZG 116 (.bin .eql (.t 110) (.t 115)) 105 true,ZG 117 (.pick (.t 105) (.t 116) (.c (.bool false))) 93 false,ZO 118 (.pick (.t 93) (.c (.bool true)) (.t 117)),ZM 8 118] true)) (.region [ZM 90 12,ZO 91 (.bin .add (.t 90) (.c (.int .i64 1))),ZM 12 91] false)))))))) (.region [ZM 72 10,ZO 73 (.bin .add (.t 72) (.c (.int .i64 1))),ZM 10 73] false)))))) (.seq (.region [ZM 119 7,ZM 120 8,ZO 121 (.binb .eql (.t 119) (.t 120))] false) (.cond (.t 121) (.seq (.region [ZO 2 (.mv (.c (.bool false)))] false) .ret) .skip)))))) (.region [ZM 41 6,ZO 42 (.bin .add (.t 41) (.c (.int .i64 1))),ZM 6 42] false)))))) (.seq (.region [ZO 2 (.mv (.c (.bool true)))] false) .ret)))))))))
theorem bnf (b:Bool):(b != false) = b:=by cases b <;> rfl
def sameB (d e:EI):Bool:=e.act == d.act && e.item == d.item
theorem any_stepE {p:EI → Bool} {r:List EI} {k:Nat} (h:k < r.length):(r.take (k + 1)).any p = ((r.take k).any p || p r[k]):=by
  rw [List.take_add_one,List.getElem?_eq_getElem h,List.any_append]
  simp
theorem any_stepI {p:Int → Bool} {r:List Int} {k:Nat} (h:k < r.length):(r.take (k + 1)).any p = ((r.take k).any p || p r[k]):=by
  rw [List.take_add_one,List.getElem?_eq_getElem h,List.any_append]
  simp
noncomputable def comesB (l:List Gz) (d:EI) (day:Int):Bool:=(onS l day d.it.forr).any (sameB d)
theorem sameB_iff {l:List Gz} {d e:EI} (hd:d ∈ dds l) (he:e ∈ dds l):sameB d e = true ↔ e = d:=by
  unfold sameB
  rw [Bool.and_eq_true,beq_iff_eq,beq_iff_eq]
  constructor
  · rintro ⟨h1,h2⟩; exact deedsS_inj he hd h1 h2
  · rintro rfl; exact ⟨rfl,rfl⟩
theorem waits_iff (l:List Gz) {d:EI} (hd:d ∈ chgS l):(pendS l).any (sameB d) = waitB l d:=by
  have hd':=(chg_mem.1 hd).1
  rw [Bool.eq_iff_iff,List.any_eq_true]
  unfold pendS
  constructor
  · rintro ⟨e,he,h⟩
    rw [List.mem_filter] at he
    rw [sameB_iff hd' (chg_mem.1 he.1).1] at h
    rw [← h]; exact he.2
  · intro h
    exact ⟨d,List.mem_filter.2 ⟨hd,h⟩,(sameB_iff hd' hd').2 rfl⟩
theorem comes_iff (l:List Gz) {d:EI} (hd:d ∈ chgS l) (day:Int):comesB l d day = c.memB (Zcj l d) day:=by
  have hd':=(chg_mem.1 hd).1
  rw [Bool.eq_iff_iff]
  unfold comesB onS
  rw [List.any_eq_true]
  constructor
  · rintro ⟨e,he,h⟩
    rw [List.mem_filter] at he
    rw [sameB_iff hd' (chg_mem.1 he.1).1] at h
    subst h
    have:=he.2
    unfold onB at this
    rw [Bool.and_eq_true] at this
    exact this.2
  · intro h
    refine ⟨d,List.mem_filter.2 ⟨hd,?_⟩,(sameB_iff hd' hd').2 rfl⟩
    unfold onB
    simp [h]
theorem waits_comes (l:List Gz) {d:EI} (hd:d ∈ chgS l):(pendS l).any (sameB d) = !((bpS l).any (comesB l d)):=by
  rw [waits_iff l hd]
  cases hw:Zcj l d with
  | nil =>
    have h1:waitB l d = true:=by unfold waitB; rw [hw]; rfl
    have h2:(bpS l).any (comesB l d) = false:=by
      rw [List.any_eq_false]
      intro x _
      rw [comes_iff l hd,hw]
      simp [c.memB]
    rw [h1,h2]; rfl
  | cons s r =>
    have h1:waitB l d = false:=by unfold waitB; rw [hw]; rfl
    have hc:=days_canon l d
    rw [hw] at hc
    have h2:(bpS l).any (comesB l d) = true:=by
      rw [List.any_eq_true]
      refine ⟨s.frm,(mem_bpS l s.frm).2 (.inr ⟨d,hd,?_⟩),?_⟩
      · rw [hw,c.edges_cons]
        exact List.mem_cons_self
      · rw [comes_iff l hd,hw,c.Zc6]
        exact (Zbs s r s.frm).2 (.inl ⟨Int.le_refl _,hc.2.1⟩)
    rw [h1,h2]; rfl
theorem law_InforcePending (l:List Gz) (hok:okL Gz.okZ l) (_:l.length * 56 ≤ 140737488351232):Zbo Tryz.prog 8 [.sl 4 (l.map Gz.enc)] (.bool true):=by
  refine Zam ?_ (cB _) (by simp only [Za0,List.mem_cons,List.not_mem_nil,or_false,forall_eq_or_imp,forall_eq,false_implies,implies_true]; repeat' (first  | exact cB _ | exact Zbp _ | refine And.intro ?_ ?_))
  refine Zaq (vc:=Zc0) (ts:=[.t 2]) Go.Proofs.Tryz.func8 (by kernel_rfl) rfl rfl (Nat.le_of_ble_eq_true rfl) (by kernel_rfl) ?_
  unfold Zc0
  try dsimp only [ZM,ZO,ZN,ZG]
  refine Zac (Zaa [0] ?_)
  simp only [Zab,Zad,Zaf,pok,pval,VA.ev,Env.get,Env.put,Env.keep,Za2,Zae,Heap.nil,ite_true,ite_false,true_and,reduceCtorEq]
  refine Zac ?_
  refine Zac (Zaa [0,14] ?_)
  simp only [Zab,Zad,Zaf,pok,pval,VA.ev,Env.get,Env.put,Env.keep,Zae,unV,unOk,List.map,Nat.reduceEqDiff,ite_true,ite_false,reduceCtorEq]
  refine Zat awake ?_
  try simp only [true_and,Bool.not_true]
  refine Zai rfl (fun h=>by cases h) (fun _=>?_)
  refine Zak ?_
  try simp only [Zae]
  refine Zac ?_
  refine Zac (VW_mid (σ:={ b:Bool // b = false → Nice l ∧ FewG 30 l }) (fun z=>([(0,.sl 4 (l.map Gz.enc)),(17,.bool z.1)],⟨[],0⟩)) (Zaa [0,17] ?_) (fun z=>?_))
  · simp only [midQ,Zab,Zad,Zaf,pok,pval,VA.ev,Env.get,Env.put,Env.keep,unV,unOk,Heap.le,HL.le,Env.le,List.map,Nat.reduceEqDiff,ite_true,ite_false,true_and,and_true,reduceCtorEq]
    refine Zdl (sp_pandectlaw29_few l hok) ?_
    rintro p ⟨b,rfl,hb⟩
    cases b
    · simp only [Nat.le_refl,true_and,and_true,Bool.not_false]
      refine ⟨⟨true,fun h=>by cases h⟩,?_⟩
      try simp only []
      all_goals (repeat' (first | rfl | trivial | omega | (simp only []; omega) | refine And.intro ?_ ?_))
    · simp only [Nat.le_refl,true_and,and_true,Bool.not_true]
      refine ⟨⟨false,fun _=>hb rfl⟩,?_⟩
      try simp only []
      all_goals (repeat' (first | rfl | trivial | omega | (simp only []; omega) | refine And.intro ?_ ?_))
  obtain ⟨z,hb⟩:=z
  simp only []
  refine Zai rfl (fun h1=>?_) (fun h1=>?_)
  · refine Zac (Zaa [2] ?_)
    simp only [Zab,Zad,Zaf,pok,pval,VA.ev,Env.get,Env.put,Env.keep,Zae,Nat.reduceEqDiff,ite_true,ite_false,true_and,reduceCtorEq]
    refine Zar ?_
    try simp only [Env.get,Zae,retQ,resV,Zau,RS.ev,RS.ok,ite_true,true_and,and_true]
    exact View.refl _ _
  obtain ⟨hn,hf⟩:=hb h1
  have hd:=hn.dds hf
  have hcl:=chg_len l
  have hbl:=bpS_len l (by omega)
  have hpl:=pur_len l
  have hwl:(pendS l).length ≤ 30:=by
    have h1:=List.length_filter_le (waitB l) (chgS l)
    unfold pendS; omega
  refine Zak ?_
  try simp only [Zae]
  refine Zac (Zaa [0,3] ?_)
  simp only [Zab,Zad,Zaf,pok,pval,VA.ev,Env.get,Env.put,Env.keep,Zae,List.map,Nat.reduceEqDiff,ite_true,ite_false,true_and,reduceCtorEq]
  refine Zat (sp_inforce_Pending l hn.smal (by omega)) ?_
  skip
  refine Zac ?_
  refine Zac (Zaa [0,3,32] ?_)
  simp only [Zad,Zaf,pok,pval,VA.ev,Env.get,Env.put,Env.keep,Zae,unV,unOk,Nat.succ_ne_self,List.map,Nat.reduceEqDiff,ite_true,ite_false,true_and,reduceCtorEq]
  refine Zat (sp_inforce_Purposes l hn.smal (by omega)) ?_
  skip
  refine Zat (sp_pandectref29_Purposes l hn.smal (by omega)) ?_
  skip
  have S4:Zbo Tryz.prog 30 [.sl 1 ((purS l).map Zb5),.sl 1 ((purS l).map Zb5)] (.bool (eqB (purS l) (purS l))):=sp_pandectref04_Same (purS l) (purS l) (by unfold maxLen; omega)
  refine Zat S4 ?_
  try simp only [Zab,Zad,Za6,Zaf,pok,pval,VA.ev,Env.get,Env.put,Za1,isBool,unV,unOk,Nat.succ_ne_self,List.map,Nat.reduceEqDiff,Bool.false_eq_true,ite_true,ite_false,true_and,reduceCtorEq,Bool.not_true,eqB_t]
  refine Zat (sp_pandectref29_Waiting l hn.smal (by omega)) ?_
  skip
  refine Zat (sp_pandectref29_Places _ (by omega)) ?_
  try simp only [true_and,Bool.not_true]
  refine Zai rfl (fun h=>by cases h) (fun _=>?_)
  refine Zak ?_
  try simp only [Zae]
  refine Zac (Zaa [0,3,4] ?_)
  simp only [Zab,Zad,Zaf,pok,pval,VA.ev,Env.get,Env.put,Env.keep,Zae,Nat.succ_ne_self,List.map,Nat.reduceEqDiff,ite_true,ite_false,true_and,reduceCtorEq]
  refine Zat (sp_inforce_Breakpoints l hn.smal (by omega)) ?_
  skip
  refine Zac (Zaa [0,3,4,5] ?_)
  simp only [Zab,Zad,Zaf,pok,pval,VA.ev,Env.get,Env.put,Env.keep,Zae,Nat.succ_ne_self,List.map,Nat.reduceEqDiff,ite_true,ite_false,true_and,reduceCtorEq]
  refine Zat (Zcg l hn.smal (by omega)) ?_
  skip
  refine Zac ?_
  refine Zac (Zaa [0,3,4,5,6] ?_)
  simp only [Zab,Zad,Zaf,pok,pval,VA.ev,Env.get,Env.put,Env.keep,Zae,Nat.succ_ne_self,Nat.reduceEqDiff,ite_true,ite_false,true_and,reduceCtorEq]
  have hwc:=fun (i:Nat) (h:i < (chgS l).length)=>waits_comes l (List.getElem_mem h)
  have hon:∀ day p,(onS l day p).length ≤ 30:=fun day p=>Nat.le_trans (on_sub l day p).length_le hd
  have hO:=fun (day:Int) (d:EI)=>sp_inforce_On day d.it.forr l hn.smal (by omega)
  have hce:∀ (d:EI) (day:Int),comesB l d day = (onS l day d.it.forr).any (sameB d):=fun _ _=>rfl
  generalize chgS l = CH at hwc hcl ⊢
  generalize bpS l = BP at hwc hbl ⊢
  generalize pendS l = PD at hwc hwl ⊢
  refine Zaj ?_
  refine Za4 (σ:={ i:Nat // i ≤ CH.length }) (fun s=>([(0,.sl 4 (l.map Gz.enc)),(3,.sl 2 (PD.map encR)),(4,.sl 1 (BP.map c.Zbd)),(5,.sl 28 (CH.map EI.enc)),(6,pI s.1)],⟨[],0⟩)) (fun s=>CH.length - s.1) ⟨0,Nat.zero_le _⟩ ?_ ?_ ?_
  · simp only [Env.get,Nat.succ_ne_self,Env.le,Nat.reduceEqDiff,ite_true,ite_false,true_and,and_true,reduceCtorEq]
    rfl
  · simp only [Heap.le,HL.le,Nat.le_refl,and_true]
  rintro ⟨i,hi⟩
  simp only []
  refine Zac ?_
  refine Zac (Zaa [0,3,4,5,6,40] ?_)
  simp only [Zab,Zad,Zaf,pok,pval,VA.ev,Env.get,Env.put,Env.keep,Zae,intV,binV,Zah,lenV,Za8,Heap.le,HL.le,Nat.succ_ne_self,Env.le,Nat.reduceEqDiff,ite_true,ite_false,true_and,and_true,reduceCtorEq,List.length_map]
  refine Zai rfl (fun h4=>?_) (fun h4=>?_)
  · simp only [decide_eq_true_eq] at h4
    have ia:i < CH.length:=by omega
    have hrow:(CH.map EI.enc).getD i [] = CH[i].enc:=rowm ia
    have hwd:=hwc i ia
    refine Zak ?_
    try simp only [Zae]
    refine Zac ?_
    refine Zaj ?_
    refine Zac (Zaa [0,3,4,5,6,7,8] ?_)
    simp only [Zab,Zad,Zaf,pok,pval,VA.ev,Env.get,Env.put,Env.keep,Zae,Nat.succ_ne_self,Nat.reduceEqDiff,ite_true,ite_false,true_and,reduceCtorEq]
    generalize CH[i] = d at hrow hwd
    refine Zac ?_
    refine Zac (Zaa [0,3,4,5,6,7,8,9] ?_)
    simp only [Zab,Zad,Zaf,pok,pval,VA.ev,Env.get,Env.put,Env.keep,Zae,Nat.succ_ne_self,Nat.reduceEqDiff,ite_true,ite_false,true_and,reduceCtorEq]
    refine Zaj ?_
    refine Za4 (σ:={ k:Nat // k ≤ PD.length }) (fun s=>([(0,.sl 4 (l.map Gz.enc)),(3,.sl 2 (PD.map encR)),(4,.sl 1 (BP.map c.Zbd)),(5,.sl 28 (CH.map EI.enc)),(6,pI i),(7,.bool ((PD.take s.1).any (sameB d))),(8,.bool false),(9,pI s.1)],⟨[],0⟩)) (fun s=>PD.length - s.1) ⟨0,Nat.zero_le _⟩ ?_ ?_ ?_
    · simp only [Env.get,Nat.succ_ne_self,Env.le,List.take,Nat.reduceEqDiff,ite_true,ite_false,true_and,and_true,reduceCtorEq,List.any_nil]
      rfl
    · simp only [Heap.le,HL.le,Nat.le_refl,and_true]
    rintro ⟨k,hk⟩
    simp only []
    refine Zac ?_
    refine Zac (Zaa [0,3,4,5,6,7,8,9,46] ?_)
    simp only [Zab,Zad,Zaf,pok,pval,VA.ev,Env.get,Env.put,Env.keep,Zae,intV,binV,Zah,lenV,Za8,Heap.le,HL.le,Nat.succ_ne_self,Env.le,Nat.reduceEqDiff,ite_true,ite_false,true_and,and_true,reduceCtorEq,List.length_map]
    refine Zai rfl (fun h5=>?_) (fun h5=>?_)
    · simp only [decide_eq_true_eq] at h5
      have ka:k < PD.length:=by omega
      have hst:=any_stepE (p:=sameB d) ka
      refine Zak ?_
      try simp only [Zae]
      refine Zac ?_
      refine Zaj ?_
      refine Zb3 [0,3,4,5,6,7,8,9] (by simp [Heap.le,Heap.get,HL.le,HL.get]) ?_
      cases e1:(PD.take k).any (sameB d)
      · rw [e1,Bool.false_or] at hst
        simp only [Zbb,Zbu,DrawW_y,QW,dok,dval,VOp.pure,VOp.simple,VOp.det,pok,pval,VA.ev,Env.get,Env.put,Env.keep,Zae,Zal,gd,Za1,isBool,aggV,isInt,numOf,lenV,Zao,Zan,Zag,Zap,Zbx,isAggP,Zax,Zas,Zcu,Zcb,PV.cells,PV.fits,overlay,PV.nth,PV.row,Nat.le_refl,Nat.succ_ne_self,eqOk,ekOk,Zbe,Zb8,List.length,List.getD_cons_zero,List.take,List.drop,List.take_succ_cons,List.drop_succ_cons,List.cons_append,List.nil_append,Nat.reduceEqDiff,Nat.reduceAdd,Nat.reduceLeDiff,Bool.false_eq_true,Bool.true_eq_false,ite_true,ite_false,true_and,and_true,implies_true,forall_const,reduceCtorEq,BEq.rfl,Nat.zero_add,List.length_cons,imp_self,Int.toNat_natCast,List.length_map,rowm ka,encR,hrow,Zb6,ei_l1,ei_act,ei_item,e1]
        repeat (with_reducible refine And.intro ?_ ?_; first | omega | (with_reducible constructor <;> omega) | exact False.elim | exact True.intro)
        have hs2:(PD[k].act == d.act && PD[k].item == d.item) = (PD.take (k + 1)).any (sameB d):=by rw [hst]; rfl
        refine Zaa [0,3,4,5,6,7,8,9] ?_
        simp only [Zab,Zad,Zaf,pok,pval,VA.ev,Env.get,Env.put,Env.keep,Zae,intV,binV,Zah,Nat.le_refl,Nat.succ_ne_self,Nat.reduceEqDiff,ite_true,ite_false,true_and,reduceCtorEq,ad1 (a:=k) (by omega)]
        refine ⟨⟨k + 1,ka⟩,?_⟩
        try simp only [true_and,and_true,hs2,bnf,Bool.and_true]
        all_goals (repeat' (first | rfl | trivial | omega | (simp only []; omega) | refine And.intro ?_ ?_))
      · rw [e1,Bool.true_or] at hst
        simp only [Zbb,Zbu,DrawW_xf,QW,dok,dval,VOp.pure,VOp.simple,VOp.det,pok,pval,VA.ev,Env.get,Env.put,Env.keep,Zae,Zal,gd,Za1,isBool,Nat.succ_ne_self,Nat.reduceEqDiff,ite_true,ite_false,true_and,implies_true,reduceCtorEq,List.length_map,rowm ka,e1]
        refine Zaa [0,3,4,5,6,7,8,9] ?_
        simp only [Zab,Zad,Zaf,pok,pval,VA.ev,Env.get,Env.put,Env.keep,Zae,intV,binV,Zah,Nat.le_refl,Nat.succ_ne_self,Nat.reduceEqDiff,ite_true,ite_false,true_and,reduceCtorEq,ad1 (a:=k) (by omega)]
        refine ⟨⟨k + 1,ka⟩,?_⟩
        try simp only [true_and,and_true,hst]
        all_goals (repeat' (first | rfl | trivial | omega | (simp only []; omega) | refine And.intro ?_ ?_))
    · simp only [decide_eq_false_iff_not] at h5
      obtain rfl:k = PD.length:=by omega
      rw [List.take_length]
      refine Zaz ?_
      try simp only [Zae,Zal,retQ,Nat.succ_ne_self,ite_true,ite_false,reduceCtorEq]
      refine Zac ?_
      refine Zac (Zaa [0,3,4,5,6,7,8,10] ?_)
      simp only [Zab,Zad,Zaf,pok,pval,VA.ev,Env.get,Env.put,Env.keep,Zae,Nat.succ_ne_self,Nat.reduceEqDiff,ite_true,ite_false,true_and,reduceCtorEq]
      refine Zaj ?_
      refine Za4 (σ:={ k:Nat // k ≤ BP.length }) (fun s=>([(0,.sl 4 (l.map Gz.enc)),(3,.sl 2 (PD.map encR)),(4,.sl 1 (BP.map c.Zbd)),(5,.sl 28 (CH.map EI.enc)),(6,pI i),(7,.bool (PD.any (sameB d))),(8,.bool ((BP.take s.1).any (comesB l d))),(10,pI s.1)],⟨[],0⟩)) (fun s=>BP.length - s.1) ⟨0,Nat.zero_le _⟩ ?_ ?_ ?_
      · simp only [Env.get,Nat.succ_ne_self,Env.le,List.take,Nat.reduceEqDiff,ite_true,ite_false,true_and,and_true,reduceCtorEq,List.any_nil]
        rfl
      · simp only [Heap.le,HL.le,Nat.le_refl,and_true]
      rintro ⟨k,hk⟩
      simp only []
      refine Zac ?_
      refine Zac (Zaa [0,3,4,5,6,7,8,10,71] ?_)
      simp only [Zab,Zad,Zaf,pok,pval,VA.ev,Env.get,Env.put,Env.keep,Zae,intV,binV,Zah,lenV,Za8,Heap.le,HL.le,Nat.succ_ne_self,Env.le,Nat.reduceEqDiff,ite_true,ite_false,true_and,and_true,reduceCtorEq,List.length_map]
      refine Zai rfl (fun h6=>?_) (fun h6=>?_)
      · simp only [decide_eq_true_eq] at h6
        have ka:k < BP.length:=by omega
        have hst:=any_stepI (p:=comesB l d) ka
        rw [hce d BP[k]] at hst
        have hol:=hon BP[k] d.it.forr
        refine Zak ?_
        try simp only [Zae]
        refine Zac ?_
        refine Zaj ?_
        refine Zac (Zb3 [0,3,4,5,6,7,8,10,11] (by simp [Heap.le,Heap.get,HL.le,HL.get]) ?_)
        simp only [Zbb,Zbu,QW,dok,dval,VOp.pure,VOp.simple,VOp.det,pok,pval,VA.ev,Env.get,Env.put,Env.keep,Zae,gd,aggV,isInt,numOf,lenV,Zao,Zan,Zag,Zap,Zax,Zas,PV.nth,PV.row,Nat.le_refl,Nat.succ_ne_self,List.length,List.getD_cons_zero,List.take,List.take_succ_cons,Nat.reduceEqDiff,Nat.reduceLeDiff,Bool.false_eq_true,ite_true,ite_false,true_and,and_true,implies_true,forall_const,reduceCtorEq,Nat.zero_add,List.length_cons,Int.toNat_natCast,List.length_map,rowm ka,c.Zbd,hrow,Zb6,ei_for,ei_l19,ei_d19]
        refine ⟨by omega,by omega,?_⟩
        refine ⟨_,.inl (hO BP[k] d),?_⟩
        skip
        generalize onS l BP[k] d.it.forr = ON at hst hol ⊢
        generalize (BP.take k).any (comesB l d) = b0 at hst ⊢
        refine Zac (Zaa [0,3,4,5,6,7,8,10,11,12] ?_)
        simp only [Zab,Zad,Zaf,pok,pval,VA.ev,Env.get,Env.put,Env.keep,Zae,Nat.succ_ne_self,Nat.reduceEqDiff,ite_true,ite_false,true_and,reduceCtorEq]
        refine Zaj ?_
        refine Za4 (σ:={ k:Nat // k ≤ ON.length }) (fun s=>([(0,.sl 4 (l.map Gz.enc)),(3,.sl 2 (PD.map encR)),(4,.sl 1 (BP.map c.Zbd)),(5,.sl 28 (CH.map EI.enc)),(6,pI i),(7,.bool (PD.any (sameB d))),(8,.bool (b0 || (ON.take s.1).any (sameB d))),(10,pI k),(11,.sl 28 (ON.map EI.enc)),(12,pI s.1)],⟨[],0⟩)) (fun s=>ON.length - s.1) ⟨0,Nat.zero_le _⟩ ?_ ?_ ?_
        · simp only [Env.get,Nat.succ_ne_self,Env.le,List.take,Nat.reduceEqDiff,ite_true,ite_false,true_and,and_true,reduceCtorEq,List.any_nil,Bool.or_false]
          rfl
        · simp only [Heap.le,HL.le,Nat.le_refl,and_true]
        rintro ⟨j,hj⟩
        simp only []
        refine Zac ?_
        refine Zac (Zaa [0,3,4,5,6,7,8,10,11,12,89] ?_)
        simp only [Zab,Zad,Zaf,pok,pval,VA.ev,Env.get,Env.put,Env.keep,Zae,intV,binV,Zah,lenV,Za8,Heap.le,HL.le,Nat.succ_ne_self,Env.le,Nat.reduceEqDiff,ite_true,ite_false,true_and,and_true,reduceCtorEq,List.length_map]
        refine Zai rfl (fun h7=>?_) (fun h7=>?_)
        · simp only [decide_eq_true_eq] at h7
          have ja:j < ON.length:=by omega
          have hst2:=any_stepE (p:=sameB d) ja
          refine Zak ?_
          try simp only [Zae]
          refine Zac ?_
          refine Zaj ?_
          refine Zb3 [0,3,4,5,6,7,8,10,11,12] (by simp [Heap.le,Heap.get,HL.le,HL.get]) ?_
          cases e1:(b0 || (ON.take j).any (sameB d))
          · have hs3:(b0 || (ON.take (j + 1)).any (sameB d)) = sameB d ON[j]:=by rw [hst2,← Bool.or_assoc,e1,Bool.false_or]
            cases e2:(ON[j].act == d.act)
            · have hs4:sameB d ON[j] = false:=by unfold sameB; rw [e2]; rfl
              simp only [Zbb,Zbu,DrawW_y,DrawW_xt,QW,dok,dval,VOp.pure,VOp.simple,VOp.det,pok,pval,VA.ev,Env.get,Env.put,Env.keep,Zae,Zal,gd,Za1,isBool,aggV,intV,binV,Zah,isInt,numOf,lenV,Zao,Zan,Zag,Zap,Zax,Zas,PV.nth,PV.row,Nat.succ_ne_self,List.drop,Nat.reduceEqDiff,Nat.reduceLeDiff,Bool.false_eq_true,ite_true,ite_false,true_and,and_true,implies_true,forall_const,reduceCtorEq,Int.toNat_natCast,List.length_map,rowm ja,hrow,Zb6,ei_l1,ei_act,ei_item,e1,e2]
              repeat (with_reducible refine And.intro ?_ ?_; first | omega | (with_reducible constructor <;> omega) | exact False.elim | exact True.intro)
              refine Zaa [0,3,4,5,6,7,8,10,11,12] ?_
              simp only [Zab,Zad,Zaf,pok,pval,VA.ev,Env.get,Env.put,Env.keep,Zae,intV,binV,Zah,Nat.le_refl,Nat.succ_ne_self,Nat.reduceEqDiff,ite_true,ite_false,true_and,reduceCtorEq,ad1 (a:=j) (by omega)]
              refine ⟨⟨j + 1,ja⟩,?_⟩
              try simp only [true_and,and_true,hs3,hs4]
              all_goals (repeat' (first | rfl | trivial | omega | (simp only []; omega) | refine And.intro ?_ ?_))
            · have hs4:sameB d ON[j] = (ON[j].item == d.item):=by unfold sameB; rw [e2]; rfl
              simp only [Zbb,Zbu,DrawW_y,QW,dok,dval,VOp.pure,VOp.simple,VOp.det,pok,pval,VA.ev,Env.get,Env.put,Env.keep,Zae,Zal,gd,Za1,isBool,aggV,intV,binV,Zah,isInt,numOf,lenV,Zao,Zan,Zag,Zap,Zax,Zas,PV.nth,PV.row,Nat.succ_ne_self,List.drop,Nat.reduceEqDiff,Nat.reduceLeDiff,Bool.false_eq_true,ite_true,ite_false,true_and,and_true,implies_true,forall_const,reduceCtorEq,Int.toNat_natCast,List.length_map,rowm ja,hrow,Zb6,ei_l1,ei_act,ei_item,e1,e2]
              repeat (with_reducible refine And.intro ?_ ?_; first | omega | (with_reducible constructor <;> omega) | exact False.elim | exact True.intro)
              refine Zaa [0,3,4,5,6,7,8,10,11,12] ?_
              simp only [Zab,Zad,Zaf,pok,pval,VA.ev,Env.get,Env.put,Env.keep,Zae,intV,binV,Zah,Nat.le_refl,Nat.succ_ne_self,Nat.reduceEqDiff,ite_true,ite_false,true_and,reduceCtorEq,ad1 (a:=j) (by omega)]
              refine ⟨⟨j + 1,ja⟩,?_⟩
              try simp only [true_and,and_true,hs3,hs4]
              all_goals (repeat' (first | rfl | trivial | omega | (simp only []; omega) | refine And.intro ?_ ?_))
          · have hs3:(b0 || (ON.take (j + 1)).any (sameB d)) = true:=by rw [hst2,← Bool.or_assoc,e1]; rfl
            simp only [Zbb,Zbu,DrawW_xf,DrawW_u,QW,dok,dval,VOp.pure,VOp.simple,VOp.det,pok,pval,VA.ev,Env.get,Env.put,Env.keep,Zae,Zal,gd,Za1,isBool,Nat.succ_ne_self,Nat.reduceEqDiff,ite_true,ite_false,true_and,implies_true,reduceCtorEq,List.length_map,e1]
            refine Zaa [0,3,4,5,6,7,8,10,11,12] ?_
            simp only [Zab,Zad,Zaf,pok,pval,VA.ev,Env.get,Env.put,Env.keep,Zae,intV,binV,Zah,Nat.le_refl,Nat.succ_ne_self,Nat.reduceEqDiff,ite_true,ite_false,true_and,reduceCtorEq,ad1 (a:=j) (by omega)]
            refine ⟨⟨j + 1,ja⟩,?_⟩
            try simp only [true_and,and_true,hs3]
            all_goals (repeat' (first | rfl | trivial | omega | (simp only []; omega) | refine And.intro ?_ ?_))
        · simp only [decide_eq_false_iff_not] at h7
          obtain rfl:j = ON.length:=by omega
          rw [List.take_length,← hst]
          refine Zaz ?_
          try simp only [Zae,Zal,retQ,Nat.succ_ne_self,Nat.reduceEqDiff,ite_true,ite_false,reduceCtorEq]
          refine Zaa [0,3,4,5,6,7,8,10] ?_
          simp only [Zab,Zad,Zaf,pok,pval,VA.ev,Env.get,Env.put,Env.keep,Zae,intV,binV,Zah,Nat.le_refl,Nat.succ_ne_self,Nat.reduceEqDiff,ite_true,ite_false,true_and,reduceCtorEq,ad1 (a:=k) (by omega)]
          refine ⟨⟨k + 1,ka⟩,?_⟩
          try simp only [true_and,and_true]
          all_goals (repeat' (first | rfl | trivial | omega | (simp only []; omega) | refine And.intro ?_ ?_))
      · simp only [decide_eq_false_iff_not] at h6
        obtain rfl:k = BP.length:=by omega
        rw [List.take_length,hwd]
        refine Zaz ?_
        try simp only [Zae,Zal,retQ,Nat.reduceEqDiff,ite_true,ite_false,reduceCtorEq]
        refine Zac (Zaa [0,3,4,5,6,121] ?_)
        have hne:((!(BP.any (comesB l d))) == BP.any (comesB l d)) = false:=by cases BP.any (comesB l d) <;> rfl
        simp only [Zab,Zad,Zaf,pok,pval,VA.ev,Env.get,Env.put,Env.keep,Zae,binbV,boolV,binbOk,Nat.succ_ne_self,Nat.reduceEqDiff,ite_true,ite_false,true_and,reduceCtorEq,hne]
        refine Zai rfl (fun h=>by cases h) (fun _=>?_)
        refine Zak ?_
        try simp only [Zae,Zal]
        refine Zaa [0,3,4,5,6] ?_
        simp only [Zab,Zad,Zaf,pok,pval,VA.ev,Env.get,Env.put,Env.keep,Zae,intV,binV,Zah,Nat.le_refl,Nat.succ_ne_self,Nat.reduceEqDiff,ite_true,ite_false,true_and,reduceCtorEq,ad1 (a:=i) (by omega)]
        refine ⟨⟨i + 1,ia⟩,?_⟩
        try simp only [true_and]
        all_goals (repeat' (first | rfl | trivial | omega | (simp only []; omega) | refine And.intro ?_ ?_))
  · refine Zaz ?_
    try simp only [Zae,Zal,retQ,ite_true]
    refine Zac (Zaa [2] ?_)
    simp only [Zab,Zad,Zaf,pok,pval,VA.ev,Env.get,Env.put,Env.keep,Zae,Nat.succ_ne_self,Nat.reduceEqDiff,ite_true,ite_false,true_and,reduceCtorEq]
    refine Zar ?_
    try simp only [Env.get,retQ,resV,Zau,RS.ev,RS.ok,ite_true,true_and,and_true]
    exact View.refl _ _
end Go.Proofs.YtehokmhebnkfdaaGreat.w
namespace Go.Proofs.YtehokmhebnkfdaaGreat.rd
open Go Go.VM
variable {W : World}
theorem bItem:Tryz.prog.bytesOf 40 = 368:=by kernel_rfl
theorem bAct:Tryz.prog.bytesOf 53 = 88:=by kernel_rfl
theorem bGz:Tryz.prog.bytesOf 57 = 56:=by kernel_rfl
theorem rItsZ (n:Nat):ReadsZ Tryz.prog W n 38 (fun l=>okL It.ok l ∧ itemsOk l) (fun l=>[.sl 25 (l.map It.enc)]):=by
  cases n with
  | zero=>exact readsZ_zero
  | succ n =>
    refine ReadsZ.map (fun l:List It=>l) (readsZ_slice Tryz.underlying38 k40 (by decide) bItem It.Zby (rIt n).z) ?_ (fun _=>rfl)
    rintro l ⟨h1,h2,h3⟩
    refine ⟨⟨h1,h3⟩,?_⟩
    have h5:reachBytes = 140737488351232:=rfl
    unfold itemsOk maxItems
    omega
theorem rAcZ (n:Nat):ReadsZ Tryz.prog W n 53 Ac.okZ Ac.enc:=by
  cases n with
  | zero=>exact readsZ_zero
  | succ n =>
    refine ReadsZ.map (fun x:Int × Str × Int × Sta × List It × Unit=>(⟨x.1,x.2.1,x.2.2.1,x.2.2.2.1,x.2.2.2.2.1⟩:Ac)) (readsZ_struct Tryz.underlying53 rfl k53 (Zco (by exact (rI n).z) (by exact k3) (by exact (fun _=>rfl)) (by rfl) (Zco (by exact (rS n).z) (by exact k9) (by exact (fun _=>rfl)) (by rfl) (Zco (by exact (rI n).z) (by exact k3) (by exact (fun _=>rfl)) (by rfl) (Zco (by exact (rSta n).z) (by exact k37) (by exact (fun _=>rfl)) (by rfl) (Zco (by exact (rItsZ n)) (by exact k38) (by exact (fun _=>rfl)) (by rfl) freadsZ_nil))))) (by exact fun _=>rfl)) ?_ ?_
    · rintro ⟨a,b,c,d,e,_⟩ ⟨h1,h2,h3,h4,h5,_⟩; exact ⟨⟨h1,h2,h3,h4,h5.1⟩,h5.2⟩
    · rintro ⟨a,b,c,d,e,_⟩; rfl
theorem rAcsZ (n:Nat):ReadsZ Tryz.prog W n 54 (okL Ac.okZ) (fun l=>[.sl 7 (l.map Ac.enc)]):=by
  cases n with
  | zero=>exact readsZ_zero
  | succ n =>
    refine ReadsZ.map (fun l:List Ac=>l) (readsZ_slice Tryz.underlying54 k53 (by decide) bAct (fun _=>rfl) (rAcZ n)) ?_ (fun _=>rfl)
    rintro l ⟨h1,h2,h3⟩
    exact ⟨h1,h3⟩
theorem rGzZ (n:Nat):ReadsZ Tryz.prog W n 57 Gz.okZ Gz.enc:=by
  cases n with
  | zero=>exact readsZ_zero
  | succ n =>
    refine ReadsZ.map (fun x:Int × Int × Str × List Ac × Unit=>(⟨x.1,x.2.1,x.2.2.1,x.2.2.2.1⟩:Gz)) (readsZ_struct Tryz.underlying57 rfl k57 (Zco (by exact (rI n).z) (by exact k3) (by exact (fun _=>rfl)) (by rfl) (Zco (by exact (rI n).z) (by exact k3) (by exact (fun _=>rfl)) (by rfl) (Zco (by exact (rS n).z) (by exact k9) (by exact (fun _=>rfl)) (by rfl) (Zco (by exact (rAcsZ n)) (by exact k54) (by exact (fun _=>rfl)) (by rfl) freadsZ_nil)))) (by exact fun _=>rfl)) ?_ ?_
    · rintro ⟨a,b,c,d,_⟩ ⟨h1,h2,h3,h4,_⟩; exact ⟨h1,h2,h3,h4⟩
    · rintro ⟨a,b,c,d,_⟩; rfl
theorem rGzsZ (n:Nat):ReadsZ Tryz.prog W n 22 (okL Gz.okZ) (fun l=>[.sl 4 (l.map Gz.enc)]):=by
  cases n with
  | zero=>exact readsZ_zero
  | succ n =>
    refine ReadsZ.map (fun l:List Gz=>l) (readsZ_slice Tryz.underlying22 k57 (by decide) bGz (fun _=>rfl) (rGzZ n)) ?_ (fun _=>rfl)
    rintro l ⟨h1,h2,h3⟩
    exact ⟨h1,h3⟩
theorem rU8 (n:Nat):Reads Tryz.prog W n 5 (fun a=>(Lit.int .u8 a).wf = true) (fun a=>[.int .u8 a]):=reads_int Tryz.underlying5
end Go.Proofs.YtehokmhebnkfdaaGreat.rd
