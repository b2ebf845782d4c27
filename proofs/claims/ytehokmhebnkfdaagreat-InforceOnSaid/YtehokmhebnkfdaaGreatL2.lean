import Derived.Test.YtehokmhebnkfdaaGreatL1
import Derived.Test.YtehokmhebnkfdaaGreatH9
set_option linter.all false
namespace Go.Proofs.YtehokmhebnkfdaaGreat.w
open Go Go.VM
set_option maxRecDepth 20000
set_option maxHeartbeats 0
set_option pp.deepTerms false
def Zd3:VC:=(.seq (.region [ZO 6 (.mv (.c (.bool false)))] false) (.seq (.seq (.region [ZO 9 (.call 9 []),ZO 10 (.un .not (.t 9))] false) (.cond (.t 10) (.seq (.region [ZO 6 (.mv (.c (.bool false)))] false) .ret) .skip)) (.seq (.seq (.region [ZM 11 0,ZO 12 (.call 10 [(.t 11)]),ZO 13 (.un .not (.t 12)),ZM 14 13,ZG 15 (.mv (.t 2)) 14 false,ZG 16 (.len true (.t 15)) 14 false,ZG 17 (.bin .gtr (.t 16) (.c (.int .i64 100))) 14 false,ZO 18 (.pick (.t 14) (.c (.bool true)) (.t 17))] false) (.cond (.t 18) (.seq (.region [ZO 6 (.mv (.c (.bool true)))] false) .ret) .skip)) (.seq (.region [ZM 19 1,ZM 20 2,ZM 21 0,ZO 22 (.call 11 [(.t 19),(.t 20),(.t 21)]),ZM 7 22] false) (.seq (.seq (.region [ZO 8 (.mv (.c (.int .i64 1)))] false) (.block 0 (.loop (.seq (.seq (.region [ZM 23 8,ZM 24 7,ZO 25 (.len false (.t 24)),ZO 26 (.bin .lss (.t 23) (.t 25))] false) (.cond (.t 26) .skip (.exit 0))) (.seq (.block 1 (.seq (.region [ZM 29 7,ZM 30 8,ZO 31 (.bin .sub (.t 30) (.c (.int .i64 1))),ZO 32 (.iaddr 28 (.t 29) (.t 31)),ZO 33 (.load true 28 (.t 32)),ZM 34 7,ZM 35 8,ZO 36 (.iaddr 28 (.t 34) (.t 35)),ZO 37 (.load true 28 (.t 36)),ZO 38 (.call 12 [(.t 33),(.t 37)]),ZO 39 (.bin .geq (.t 38) (.c (.int .i64 0)))] true) (.cond (.t 39) (.seq (.region [ZO 6 (.mv (.c (.bool false)))] false) .ret) .skip))) (.region [ZM 27 8,ZO 28 (.bin .add (.t 27) (.c (.int .i64 1))),ZM 8 28] false)))))) (.seq (.region [ZM 40 7,ZM 41 1,ZM 42 2,ZM 43 0,ZO 44 (.call 14 [(.t 41),(.t 42),(.t 43)]),ZO 45 (.call 13 [(.t 40),(.t 44)]),ZM 6 45] false) .ret))))))
theorem legI_lt {a b:EI} (h:ltE a b):legI a b < 0:=by
  rcases h with h | ⟨h0,h | ⟨h1,h2⟩⟩
  · simp [legI,h]
  · simp [legI,h0,h]
  · simp [legI,h0,h1,h2]
theorem on_sub (l:List Gz) (day:Int) (purpose:Str):(onS l day purpose).Sublist (dds l):=List.filter_sublist.trans (chg_sub l)
theorem on_lt (l:List Gz) (day:Int) (purpose:Str):(onS l day purpose).Pairwise (fun a b=>ltE a b):=(deedsS_lt (rowG l)).sublist (on_sub l day purpose)
theorem Nice.on_ok {l:List Gz} (h:Nice l) (day:Int) (purpose:Str):∀ d ∈ onS l day purpose,d.ok:=fun d hd=>h.deeds_ok d ((on_sub l day purpose).subset hd)
theorem law_InforceOn (l:List Gz) (day:Int) (purpose:Str) (hok:okL Gz.okZ l) (_:i64 day) (_:okS purpose) (_:l.length * 56 ≤ 140737488351232):Zbo Tryz.prog 3 [.sl 4 (l.map Gz.enc),pI day,.str purpose] (.bool true):=by
  refine Zao ?_ (cB _) (by simp only [Za1,List.mem_cons,List.not_mem_nil,or_false,forall_eq_or_imp,forall_eq,false_implies,implies_true]; repeat' (first  | exact cI _ | exact cS _ | exact cB _ | exact Zbs _ | exact Za7 (by simp only [List.mem_cons,List.not_mem_nil,or_false,forall_eq]; first | exact cI _ | exact cS _ | exact Zau _) | refine And.intro ?_ ?_))
  refine Zar (vc:=Zd3) (ts:=[.t 6]) Go.Proofs.Tryz.func3 (by kernel_rfl) rfl rfl (Nat.le_of_ble_eq_true rfl) (by kernel_rfl) ?_
  unfold Zd3
  try dsimp only [ZM,ZO,ZN,ZG]
  refine Zad (Zaa [0,1,2] ?_)
  simp only [Zab,Zac,Zaf,pok,pval,VA.ev,Env.get,Env.put,Env.keep,Za3,Zae,Heap.nil,Nat.succ_ne_self,Nat.reduceEqDiff,Nat.reduceAdd,ite_true,ite_false,true_and,reduceCtorEq,Nat.zero_add]
  refine Zad ?_
  refine Zad (Zaa [0,1,2,10] ?_)
  simp only [Zab,Zac,Zaf,pok,pval,VA.ev,Env.get,Env.put,Env.keep,Zae,unV,unOk,Nat.succ_ne_self,List.map,Nat.reduceEqDiff,ite_true,ite_false,reduceCtorEq]
  refine Zat awake ?_
  try simp only [true_and,Bool.not_true]
  refine Zai rfl (fun h=>by cases h) (fun _=>?_)
  refine Zak ?_
  try simp only [Zae]
  refine Zad ?_
  refine Zad (VW_mid (σ:={ b:Bool // b = false → Nice l ∧ FewG 30 l }) (fun b=>([(0,.sl 4 (l.map Gz.enc)),(1,pI day),(2,.str purpose),(18,.bool b.1)],⟨[],0⟩)) (Zaa [0,1,2,18] ?_) (fun b=>?_))
  · simp only [midQ,Zac,Zaf,pok,pval,VA.ev,Env.get,Env.put,Env.keep,unV,unOk,Heap.le,HL.le,Nat.succ_ne_self,Env.le,List.map,Nat.reduceEqDiff,ite_true,ite_false,true_and,and_true,reduceCtorEq]
    refine Zc6 (Zdz l hok) ?_
    rintro p ⟨b,rfl,hb⟩
    cases b
    · simp only [Zab,Zac,Zbb,Zaf,pok,pval,VA.ev,Env.get,Env.put,Zaw,isBool,Nat.le_refl,Nat.succ_ne_self,Nat.reduceEqDiff,ite_true,ite_false,true_and,and_true,reduceCtorEq,Bool.not_false]
      refine ⟨⟨true,fun h=>by cases h⟩,?_⟩
      try simp only []
      all_goals (repeat' (first | rfl | trivial | omega | (simp only []; omega) | refine And.intro ?_ ?_))
    · simp only [Zab,Zac,Zaz,Zaf,pok,pval,VA.ev,Env.get,Env.put,Zaw,isBool,intV,binV,Zah,lenV,Zba,Nat.le_refl,Nat.succ_ne_self,Nat.reduceEqDiff,Bool.false_eq_true,ite_true,ite_false,true_and,and_true,reduceCtorEq,Bool.not_true]
      refine ⟨⟨decide ((100:Int) < (purpose.length:Int)),fun _=>hb rfl⟩,?_⟩
      try simp only []
      all_goals (repeat' (first | rfl | trivial | omega | (simp only []; omega) | refine And.intro ?_ ?_))
  obtain ⟨b,hb⟩:=b
  simp only []
  refine Zai rfl (fun h1=>?_) (fun h1=>?_)
  · refine Zad (Zaa [6] ?_)
    simp only [Zab,Zac,Zaf,pok,pval,VA.ev,Env.get,Env.put,Env.keep,Zae,Nat.reduceEqDiff,ite_true,ite_false,true_and,reduceCtorEq]
    refine Zaq ?_
    try simp only [Env.get,Zae,retQ,resV,Zav,RS.ev,RS.ok,ite_true,true_and,and_true]
    exact View.refl _ _
  obtain ⟨hn,hf⟩:=hb h1
  have hd:=hn.dds hf
  have hlt:=on_lt l day purpose
  have hon:(onS l day purpose).length ≤ 30:=Nat.le_trans (on_sub l day purpose).length_le hd
  refine Zak ?_
  try simp only [Zae]
  refine Zad (Zaa [0,1,2,7] ?_)
  simp only [Zab,Zac,Zaf,pok,pval,VA.ev,Env.get,Env.put,Env.keep,Zae,Nat.succ_ne_self,List.map,Nat.reduceEqDiff,ite_true,ite_false,true_and,reduceCtorEq]
  refine Zat (Zcv day purpose l hn.smal (by omega)) ?_
  skip
  refine Zad ?_
  refine Zad (Zaa [0,1,2,7,8] ?_)
  simp only [Zab,Zac,Zaf,pok,pval,VA.ev,Env.get,Env.put,Env.keep,Zae,Nat.succ_ne_self,Nat.reduceEqDiff,ite_true,ite_false,true_and,reduceCtorEq]
  refine Zaj ?_
  refine Za5 (σ:={ i:Nat // 1 ≤ i ∧ (i ≤ (onS l day purpose).length ∨ i = 1) }) (fun s=>([(0,.sl 4 (l.map Gz.enc)),(1,pI day),(2,.str purpose),(7,.sl 28 ((onS l day purpose).map EI.enc)),(8,pI s.1)],⟨[],0⟩)) (fun s=>(onS l day purpose).length - s.1) ⟨1,by omega⟩ ?_ ?_ ?_
  · simp only [Env.get,Nat.succ_ne_self,Env.le,Nat.reduceEqDiff,ite_true,ite_false,true_and,and_true,reduceCtorEq]
    rfl
  · simp only [Heap.le,HL.le,Nat.le_refl,and_true]
  rintro ⟨i,hi,hi2⟩
  simp only []
  refine Zad ?_
  refine Zad (Zaa [0,1,2,7,8,26] ?_)
  simp only [Zab,Zac,Zaf,pok,pval,VA.ev,Env.get,Env.put,Env.keep,Zae,intV,binV,Zah,lenV,Zba,Heap.le,HL.le,Nat.succ_ne_self,Env.le,Nat.reduceEqDiff,ite_true,ite_false,true_and,and_true,reduceCtorEq,List.length_map]
  refine Zai rfl (fun h2=>?_) (fun h2=>?_)
  · refine Zak ?_
    try simp only [Zae]
    simp only [decide_eq_true_eq] at h2
    obtain ⟨i,rfl⟩:∃ j,i = j + 1:=⟨i - 1,by omega⟩
    have ia:i < (onS l day purpose).length:=by omega
    have ib:i + 1 < (onS l day purpose).length:=by omega
    have hleg:=legI_lt (List.pairwise_iff_getElem.1 hlt i (i + 1) ia ib (by omega))
    have hsub:((i + 1:Nat):Int) - 1 = (i:Int):=by omega
    refine Zad ?_
    refine Zaj ?_
    refine Zad (Zb0 [0,1,2,7,8,39] (by simp [Heap.le,Heap.get,HL.le,HL.get]) ?_)
    simp only [Zbj,Zb1,QW,dok,dval,VOp.pure,VOp.simple,VOp.det,pok,pval,VA.ev,Env.get,Env.put,Env.keep,Zae,gd,aggV,intV,binV,Zah,strV,isInt,numOf,lenV,Zag,Zap,Zay,Zas,PV.nth,PV.row,Nat.le_refl,Nat.succ_ne_self,Nat.reduceEqDiff,Bool.true_eq_false,ite_true,ite_false,true_and,and_true,implies_true,forall_const,reduceCtorEq,imp_self,Int.toNat_natCast,List.length_map,rowm ia,rowm ib,ei_t28,Zb5,hsub,w64 (n:=(i:Int)) (by omega) (by omega)]
    repeat (with_reducible refine And.intro ?_ ?_; first | omega | (with_reducible constructor <;> omega) | exact False.elim | exact True.intro)
    refine ⟨_,.inl (sp_pandectref28_Legal _ _),?_⟩
    try simp only [true_and]
    refine Zai rfl (fun h3=>?_) (fun h3=>?_)
    · exfalso
      simp only [decide_eq_true_eq] at h3
      omega
    refine Zak ?_
    try simp only [Zae,Zal]
    refine Zaa [0,1,2,7,8] ?_
    simp only [Zab,Zac,Zaf,pok,pval,VA.ev,Env.get,Env.put,Env.keep,Zae,intV,binV,Zah,Nat.le_refl,Nat.succ_ne_self,Nat.reduceEqDiff,ite_true,ite_false,true_and,reduceCtorEq,w64 (n:=((i + 1:Nat):Int) + 1) (by omega) (by omega)]
    refine ⟨⟨i + 2,by omega,by omega⟩,?_,?_⟩
    · rfl
    · simp only []; omega
  · refine Za2 ?_
    try simp only [Zae,Zal,retQ,ite_true]
    refine Zad (Zaa [6] ?_)
    simp only [Zab,Zac,Zaf,pok,pval,VA.ev,Env.get,Env.put,Env.keep,Zae,Nat.succ_ne_self,List.map,Nat.reduceEqDiff,ite_true,ite_false,true_and,reduceCtorEq]
    refine Zat (sp_pandectref29_On day purpose l hn.smal (by omega)) ?_
    skip
    refine Zat (Zdn _ (by omega) (hn.on_ok day purpose)) ?_
    skip
    refine Zaq ?_
    try simp only [Env.get,retQ,resV,Zav,RS.ev,RS.ok,ite_true,true_and,and_true]
    exact View.refl _ _
end Go.Proofs.YtehokmhebnkfdaaGreat.w
