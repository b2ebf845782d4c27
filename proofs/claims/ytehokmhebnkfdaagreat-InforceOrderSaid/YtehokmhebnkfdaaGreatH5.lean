import Derived.Test.YtehokmhebnkfdaaGreatH2
import Derived.Test.YtehokmhebnkfdaaGreatVmT
set_option linter.all false
namespace Go.Proofs.YtehokmhebnkfdaaGreat.w
open Go Go.VM
set_option maxRecDepth 20000
set_option maxHeartbeats 0
set_option pp.deepTerms false
def c_pandectref06_short:VC:=(.seq (.region [ZO 2 (.mv (.c (.bool false)))] false) (.seq (.seq (.region [ZO 3 (.mv (.c (.int .i64 0)))] false) (.block 0 (.loop (.seq (.seq (.region [ZM 4 3,ZM 5 0,ZO 6 (.len false (.t 5)),ZO 7 (.bin .lss (.t 4) (.t 6))] false) (.cond (.t 7) .skip (.exit 0))) (.seq (.block 1 (.seq (.region [ZM 10 0,ZM 11 3,ZO 12 (.iaddr 4 (.t 10) (.t 11)),ZO 13 (.faddr 0 (.t 12)),ZO 14 (.load false 1 (.t 13)),ZO 15 (.len true (.t 14)),ZO 16 (.bin .gtr (.t 15) (.c (.int .i64 100)))] false) (.cond (.t 16) (.seq (.region [ZO 2 (.mv (.c (.bool false)))] false) .ret) .skip))) (.region [ZM 8 3,ZO 9 (.bin .add (.t 8) (.c (.int .i64 1))),ZM 3 9] false)))))) (.seq (.region [ZM 17 0,ZO 18 (.len false (.t 17)),ZO 19 (.bin .leq (.t 18) (.c (.int .i64 300))),ZM 2 19] false) .ret)))
def c_pandectref06_words:VC:=(.seq (.region [ZO 1 (.box 8 (.t 0)),ZO 2 (.mv (.c (.bool false)))] false) (.seq (.seq (.region [ZO 4 (.faddr 4 (.t 1)),ZO 5 (.load false 1 (.t 4)),ZO 6 (.len true (.t 5)),ZO 7 (.bin .gtr (.t 6) (.c (.int .i64 30))),ZM 8 7,ZG 9 (.faddr 5 (.t 1)) 8 false,ZG 10 (.load false 1 (.t 9)) 8 false,ZG 11 (.call 126 [(.t 10)]) 8 false,ZG 12 (.un .not (.t 11)) 8 false,ZO 13 (.pick (.t 8) (.c (.bool true)) (.t 12)),ZM 14 13,ZG 15 (.faddr 6 (.t 1)) 14 false,ZG 16 (.load false 1 (.t 15)) 14 false,ZG 17 (.call 126 [(.t 16)]) 14 false,ZG 18 (.un .not (.t 17)) 14 false,ZO 19 (.pick (.t 14) (.c (.bool true)) (.t 18))] false) (.cond (.t 19) (.seq (.region [ZO 2 (.mv (.c (.bool false)))] false) .ret) .skip)) (.seq (.seq (.region [ZO 3 (.mv (.c (.int .i64 0)))] false) (.block 0 (.loop (.seq (.seq (.region [ZM 20 3,ZO 21 (.faddr 7 (.t 1)),ZO 22 (.load false 1 (.t 21)),ZO 23 (.len false (.t 22)),ZO 24 (.bin .lss (.t 20) (.t 23))] false) (.cond (.t 24) .skip (.exit 0))) (.seq (.block 1 (.seq (.region [ZO 27 (.faddr 7 (.t 1)),ZO 28 (.load false 1 (.t 27)),ZM 29 3,ZO 30 (.iaddr 8 (.t 28) (.t 29)),ZO 31 (.load true 8 (.t 30)),ZO 32 (.call 95 [(.t 31)]),ZO 33 (.un .not (.t 32))] false) (.cond (.t 33) (.seq (.region [ZO 2 (.mv (.c (.bool false)))] false) .ret) .skip))) (.region [ZM 25 3,ZO 26 (.bin .add (.t 25) (.c (.int .i64 1))),ZM 3 26] false)))))) (.seq (.region [ZO 2 (.mv (.c (.bool true)))] false) .ret))))
def c_pandectref06_size:VC:=(.seq (.region [ZO 3 (.box 8 (.t 0)),ZO 6 (.mv (.c (.int .i64 0)))] false) (.seq (.seq (.region [ZM 9 1,ZO 10 (.bin .gtr (.t 9) (.c (.int .i64 20)))] false) (.cond (.t 10) (.seq (.region [ZM 11 2,ZO 12 (.bin .add (.t 11) (.c (.int .i64 1))),ZM 6 12] false) .ret) .skip)) (.seq (.region [ZO 7 (.mv (.c (.int .i64 1)))] false) (.seq (.seq (.region [ZO 8 (.mv (.c (.int .i64 0)))] false) (.block 0 (.loop (.seq (.seq (.region [ZM 13 8,ZO 14 (.faddr 7 (.t 3)),ZO 15 (.load false 1 (.t 14)),ZO 16 (.len false (.t 15)),ZO 17 (.bin .lss (.t 13) (.t 16)),ZM 18 17,ZG 19 (.mv (.t 7)) 18 true,ZG 20 (.mv (.t 2)) 18 true,ZG 21 (.bin .leq (.t 19) (.t 20)) 18 true,ZO 22 (.pick (.t 18) (.t 21) (.c (.bool false)))] false) (.cond (.t 22) .skip (.exit 0))) (.seq (.block 1 (.region [ZM 25 7,ZO 26 (.faddr 7 (.t 3)),ZO 27 (.load false 1 (.t 26)),ZM 28 8,ZO 29 (.iaddr 8 (.t 27) (.t 28)),ZO 30 (.load true 8 (.t 29)),ZM 31 1,ZO 32 (.bin .add (.t 31) (.c (.int .i64 1))),ZM 33 2,ZM 34 7,ZO 35 (.bin .sub (.t 33) (.t 34)),ZO 36 (.call 94 [(.t 30),(.t 32),(.t 35)]),ZO 37 (.bin .add (.t 25) (.t 36)),ZM 7 37] false)) (.region [ZM 23 8,ZO 24 (.bin .add (.t 23) (.c (.int .i64 1))),ZM 8 24] false)))))) (.seq (.region [ZM 38 7,ZM 6 38] false) .ret)))))
def c_pandectref06_Few:VC:=(.seq (.region [ZO 2 (.box 8 (.t 0)),ZO 4 (.mv (.c (.bool false)))] false) (.seq (.region [ZO 5 (.load true 8 (.t 2)),ZM 6 1,ZO 7 (.call 94 [(.t 5),(.c (.int .i64 0)),(.t 6)]),ZM 8 1,ZO 9 (.bin .leq (.t 7) (.t 8)),ZM 10 9,ZG 11 (.load true 8 (.t 2)) 10 true,ZG 12 (.call 95 [(.t 11)]) 10 true,ZO 13 (.pick (.t 10) (.t 12) (.c (.bool false))),ZM 4 13] false) .ret))
def anyB (p:PV):Prop:=∃ b,p = .bool b
def anyI (p:PV):Prop:=∃ n,p = pI n
theorem Zc5 {h:Heap} (b:Bool):∃ p,View h (.bool b) p ∧ anyB p ∧ Closed p:=⟨_,View.refl _ _,⟨b,rfl⟩,cB _⟩
theorem anyI_ret {h:Heap} (n:Int):∃ p,View h (pI n) p ∧ anyI p ∧ Closed p:=⟨_,View.refl _ _,⟨n,rfl⟩,cI _⟩
theorem clo1 {p:PV} (h:Closed p):Za0 [p]:=fun x hx=>by simp only [List.mem_cons,List.not_mem_nil,or_false] at hx; subst hx; exact h
theorem clo2 {p q:PV} (h:Closed p) (k:Closed q):Za0 [p,q]:=fun x hx=>by
  simp only [List.mem_cons,List.not_mem_nil,or_false] at hx
  rcases hx with rfl | rfl
  · exact h
  · exact k
theorem clo3 {p q r:PV} (h:Closed p) (k:Closed q) (m:Closed r):Za0 [p,q,r]:=fun x hx=>by
  simp only [List.mem_cons,List.not_mem_nil,or_false] at hx
  rcases hx with rfl | rfl | rfl
  · exact h
  · exact k
  · exact m
theorem sp_short (l:List Wd) (hl:l.length ≤ maxLen):PCallS Tryz.prog 126 [.sl 4 (l.map Wd.enc)] anyB:=by
  have hl:l.length ≤ 9223372036854775807:=hl
  refine Zdf ?_ (clo1 (Zbm (fun w _=>Wd.closed w)))
  refine Zaq (vc:=c_pandectref06_short) (ts:=[.t 2]) Go.Proofs.Tryz.func126 (by kernel_rfl) rfl rfl (Nat.le_of_ble_eq_true rfl) (by kernel_rfl) ?_
  unfold c_pandectref06_short
  try dsimp only [ZM,ZO,ZN,ZG]
  refine Zac (Zaa [0] ?_)
  simp only [Zab,Zad,Zaf,pok,pval,VA.ev,Env.get,Env.put,Env.keep,Za2,Zae,Heap.nil,ite_true,ite_false,true_and,reduceCtorEq]
  refine Zac ?_
  refine Zac (Zaa [0,3] ?_)
  simp only [Zab,Zad,Zaf,pok,pval,VA.ev,Env.get,Env.put,Env.keep,Zae,ite_true,ite_false,true_and,reduceCtorEq]
  refine Zaj ?_
  refine Za4 (σ:={ i:Nat // i ≤ l.length }) (fun s=>([(0,.sl 4 (l.map Wd.enc)),(3,pI s.1)],⟨[],0⟩)) (fun s=>l.length - s.1) ⟨0,Nat.zero_le _⟩ ?_ ?_ ?_
  · try simp only [Env.get,Env.le,ite_true,ite_false,true_and,and_true,reduceCtorEq]
    all_goals (repeat' (first | rfl | trivial | omega | (simp only []; omega) | refine And.intro ?_ ?_))
  · try simp only [Heap.le,HL.le,Nat.le_refl,and_true]
    all_goals (repeat' (first | rfl | trivial | omega | (simp only []; omega) | refine And.intro ?_ ?_))
  rintro ⟨i,hi⟩
  simp only []
  refine Zac ?_
  refine Zac (Zaa [0,3,7] ?_)
  simp only [Zab,Zad,Zaf,pok,pval,VA.ev,Env.get,Env.put,Env.keep,Zae,intV,binV,Zah,lenV,Za8,Heap.le,HL.le,Nat.succ_ne_self,Env.le,Nat.reduceEqDiff,ite_true,ite_false,true_and,and_true,reduceCtorEq,List.length_map]
  refine Zai rfl (fun h1=>?_) (fun h1=>?_)
  · refine Zak ?_
    try simp only [Zae]
    simp only [decide_eq_true_eq] at h1
    have ia:i < l.length:=by omega
    refine Zac ?_
    refine Zaj ?_
    refine Zac (Zaa [0,3,16] ?_)
    simp only [Zab,Zad,Zaf,pok,pval,VA.ev,Env.get,Env.put,Env.keep,Zae,aggV,intV,binV,Zah,isInt,numOf,lenV,Zao,Zan,Zag,Zap,Zax,Zas,Za8,PV.nth,PV.row,Nat.succ_ne_self,List.length,List.getD_cons_zero,List.take,List.drop,List.take_succ_cons,Nat.reduceEqDiff,Nat.reduceAdd,Nat.reduceLeDiff,Bool.false_eq_true,ite_true,ite_false,true_and,and_true,implies_true,reduceCtorEq,Nat.zero_add,List.length_cons,Int.toNat_natCast,List.length_map,rowm ia,Wd.enc]
    repeat (with_reducible refine And.intro ?_ ?_; first | omega | (with_reducible constructor <;> omega) | exact False.elim | exact True.intro)
    refine Zai rfl (fun h2=>?_) (fun h2=>?_)
    · refine Zac (Zaa [2] ?_)
      simp only [Zab,Zad,Zaf,pok,pval,VA.ev,Env.get,Env.put,Env.keep,Zae,Nat.succ_ne_self,Nat.reduceEqDiff,ite_true,ite_false,true_and,reduceCtorEq]
      refine Zar ?_
      try simp only [Env.get,Zae,Zal,retQ,resV,Zau,RS.ev,RS.ok,ite_true,true_and,and_true]
      exact Zc5 _
    refine Zak ?_
    try simp only [Zae,Zal]
    refine Zaa [0,3] ?_
    simp only [Zab,Zad,Zaf,pok,pval,VA.ev,Env.get,Env.put,Env.keep,Zae,intV,binV,Zah,Nat.le_refl,Nat.reduceEqDiff,ite_true,ite_false,true_and,reduceCtorEq,w64 (n:=(i:Int) + 1) (by omega) (by omega)]
    refine ⟨⟨i + 1,by omega⟩,?_⟩
    try simp only []
    all_goals (repeat' (first | rfl | trivial | omega | (simp only []; omega) | refine And.intro ?_ ?_))
  · refine Zaz ?_
    try simp only [Zae,Zal,retQ,ite_true]
    refine Zac (Zaa [2] ?_)
    simp only [Zab,Zad,Zaf,pok,pval,VA.ev,Env.get,Env.put,Env.keep,Zae,intV,binV,Zah,lenV,Za8,Nat.succ_ne_self,Nat.reduceEqDiff,ite_true,ite_false,true_and,reduceCtorEq,List.length_map]
    refine Zar ?_
    try simp only [Env.get,retQ,resV,Zau,RS.ev,RS.ok,ite_true,true_and,and_true]
    exact Zc5 _
theorem un_t8 (u:Un):u.enc.take 8 = u.enc:=List.take_of_length_le (by rw [rd.un_len]; exact Nat.le_refl _)
theorem sp_words (u:Un) (hu:u.ok):PCallS Tryz.prog 95 [.agg u.enc] anyB:=by
  have eu:=Un.Zcl u
  refine Zdf ?_ (clo1 (Zay (Un.closed _)))
  refine Zaq (vc:=c_pandectref06_words) (ts:=[.t 2]) Go.Proofs.Tryz.func95 (by kernel_rfl) rfl rfl (Nat.le_of_ble_eq_true rfl) (by kernel_rfl) ?_
  unfold c_pandectref06_words
  try dsimp only [ZM,ZO,ZN,ZG]
  refine Zac (Zaa [1] ?_)
  simp only [Zab,Zad,Zaf,pok,pval,VA.ev,Env.get,Env.put,Env.keep,Za2,Zae,PV.cells,PV.fits,Heap.push,Heap.nil,Nat.succ_ne_self,List.length,Nat.reduceAdd,ite_true,ite_false,true_and,reduceCtorEq,BEq.rfl,Nat.zero_add,eu]
  refine Zac ?_
  refine VW_seqE (σ:=Bool) [1,19] (fun s=>[(1,.loc 0 0 0),(19,.bool s)]) ?_ (fun b=>?_)
  · simp only [Zad,Zaf,pok,pval,VA.ev,Env.get,Env.put,Env.keep,aggV,intV,binV,Zah,lenV,Zao,Zan,Zag,Zap,Za8,PV.nth,PV.row,Heap.get,HL.get,Env.le,List.length,List.getD_cons_zero,List.take,List.drop,List.take_succ_cons,List.drop_succ_cons,Nat.reduceEqDiff,Nat.reduceAdd,Nat.reduceLT,Nat.reduceLeDiff,Bool.false_eq_true,ite_true,ite_false,true_and,and_true,implies_true,Nat.zero_add,List.length_cons]
    refine Zbw rfl (fun g1=>?_) (fun g1=>?_)
    rotate_left
    · simp only [Zab,Zad,Zbz,Zaf,pok,pval,VA.ev,Env.get,Env.put,Za1,isBool,Nat.succ_ne_self,Nat.reduceEqDiff,ite_true,ite_false,true_and,and_true,Bool.not_false,g1]
      exact ⟨true,by first | trivial | rfl | exact ⟨rfl,rfl⟩⟩
    simp only [Zad,Za6,Zaf,pok,pval,VA.ev,Env.get,Env.put,Za1,isBool,aggV,unV,unOk,Zao,Zan,Zag,Zap,PV.nth,PV.row,Heap.get,HL.get,Nat.succ_ne_self,List.map,List.length,List.getD_cons_zero,List.take,List.drop,List.take_succ_cons,List.drop_succ_cons,Nat.reduceEqDiff,Nat.reduceAdd,Nat.reduceLT,Nat.reduceLeDiff,Bool.false_eq_true,ite_true,ite_false,true_and,and_true,implies_true,Nat.zero_add,List.length_cons,g1]
    refine Zdl (sp_short u.head (un_ok_head hu)) ?_
    rintro p ⟨b1,rfl⟩
    cases b1 with
    | false =>
      simp only [Zab,Zad,Zbz,Zaf,pok,pval,VA.ev,Env.get,Env.put,Za1,isBool,Nat.succ_ne_self,Nat.reduceEqDiff,ite_true,ite_false,true_and,and_true,Bool.not_false]
      exact ⟨true,by first | trivial | rfl⟩
    | true =>
      simp only [Zab,Zad,Za6,Zaf,pok,pval,VA.ev,Env.get,Env.put,Za1,isBool,aggV,unV,unOk,Zao,Zan,Zag,Zap,PV.nth,PV.row,Heap.get,HL.get,Nat.succ_ne_self,List.map,List.length,List.getD_cons_zero,List.take,List.drop,List.take_succ_cons,List.drop_succ_cons,Nat.reduceEqDiff,Nat.reduceAdd,Nat.reduceLT,Nat.reduceLeDiff,Bool.false_eq_true,ite_true,ite_false,true_and,and_true,implies_true,Nat.zero_add,List.length_cons,Bool.not_true]
      refine Zdl (sp_short u.words (un_ok_words hu)) ?_
      rintro p ⟨b2,rfl⟩
      simp only [true_and,and_true]
      exact ⟨!b2,by first | trivial | rfl⟩
  refine Zai rfl (fun h1=>?_) (fun h1=>?_)
  · refine Zac (Zaa [2] ?_)
    simp only [Zab,Zad,Zaf,pok,pval,VA.ev,Env.get,Env.put,Env.keep,Zae,Nat.reduceEqDiff,ite_true,ite_false,true_and]
    refine Zar ?_
    try simp only [Env.get,Zae,retQ,resV,Zau,RS.ev,RS.ok,ite_true,true_and,and_true]
    exact Zc5 _
  refine Zak ?_
  try simp only [Zae]
  have hkl:u.kids.length ≤ 9223372036854775807:=(un_ok_kids hu).1
  refine Zac ?_
  refine Zac (Zaa [1,3] ?_)
  simp only [Zab,Zad,Zaf,pok,pval,VA.ev,Env.get,Env.put,Env.keep,Zae,Nat.reduceEqDiff,ite_true,ite_false,true_and]
  refine Zaj ?_
  refine Za4 (σ:={ i:Nat // i ≤ u.kids.length }) (fun s=>([(1,.loc 0 0 0),(3,pI s.1)],⟨[(0,.arr false 8 [u.enc])],1⟩)) (fun s=>u.kids.length - s.1) ⟨0,Nat.zero_le _⟩ ?_ ?_ ?_
  · try simp only [Env.get,Env.le,Nat.reduceEqDiff,ite_true,ite_false,true_and,and_true]
    all_goals (repeat' (first | rfl | trivial | omega | (simp only []; omega) | refine And.intro ?_ ?_))
  · try simp only [Heap.get,Heap.le,HL.get,HL.le,Nat.le_refl,ite_true,and_true,eu]
    all_goals (repeat' (first | rfl | trivial | omega | (simp only []; omega) | refine And.intro ?_ ?_))
  rintro ⟨i,hi⟩
  simp only []
  refine Zac ?_
  refine Zac (Zaa [1,3,24] ?_)
  simp only [Zab,Zad,Zaf,pok,pval,VA.ev,Env.get,Env.put,Env.keep,Zae,aggV,intV,binV,Zah,lenV,Zao,Zan,Zag,Zap,Za8,PV.nth,PV.row,Heap.get,Heap.le,HL.get,HL.le,Nat.le_refl,Nat.succ_ne_self,Env.le,List.length,List.getD_cons_zero,List.take,List.drop,List.take_succ_cons,List.drop_succ_cons,Nat.reduceEqDiff,Nat.reduceLT,Bool.false_eq_true,ite_true,ite_false,true_and,and_true,implies_true,Nat.zero_add,List.length_cons,eu,List.length_map]
  refine Zai rfl (fun h1=>?_) (fun h1=>?_)
  · refine Zak ?_
    try simp only [Zae]
    simp only [decide_eq_true_eq] at h1
    have ia:i < u.kids.length:=by omega
    refine Zac ?_
    refine Zaj ?_
    refine Zac (Zaa [1,3,33] ?_)
    simp only [Zab,Zad,Zaf,pok,pval,VA.ev,Env.get,Env.put,Env.keep,Zae,aggV,unV,unOk,isInt,numOf,lenV,Zao,Zan,Zag,Zap,Zax,Zas,PV.nth,PV.row,Heap.get,HL.get,Nat.le_refl,Nat.succ_ne_self,List.map,List.length,List.getD_cons_zero,List.take,List.drop,List.take_succ_cons,List.drop_succ_cons,Nat.reduceEqDiff,Nat.reduceLT,Bool.false_eq_true,Bool.true_eq_false,ite_true,ite_false,true_and,and_true,implies_true,Nat.zero_add,List.length_cons,imp_self,Int.toNat_natCast,eu,List.length_map,rowm ia,un_t8,rd.un_len]
    repeat (with_reducible refine And.intro ?_ ?_; first | omega | (with_reducible constructor <;> omega) | exact False.elim | exact True.intro)
    refine Zdl (sp_words u.kids[i] ((un_ok_kids hu).2 _ (List.getElem_mem ia))) ?_
    rintro p ⟨b2,rfl⟩
    simp only [true_and]
    refine Zai rfl (fun h2=>?_) (fun h2=>?_)
    · refine Zac (Zaa [2] ?_)
      simp only [Zab,Zad,Zaf,pok,pval,VA.ev,Env.get,Env.put,Env.keep,Zae,Nat.succ_ne_self,Nat.reduceEqDiff,ite_true,ite_false,true_and]
      refine Zar ?_
      try simp only [Env.get,Zae,Zal,retQ,resV,Zau,RS.ev,RS.ok,ite_true,true_and,and_true]
      exact Zc5 _
    refine Zak ?_
    try simp only [Zae,Zal]
    refine Zaa [1,3] ?_
    simp only [Zab,Zad,Zaf,pok,pval,VA.ev,Env.get,Env.put,Env.keep,Zae,intV,binV,Zah,HL.get,Nat.le_refl,Nat.reduceEqDiff,ite_true,ite_false,true_and,and_true,w64 (n:=(i:Int) + 1) (by omega) (by omega)]
    refine ⟨⟨i + 1,by omega⟩,?_⟩
    try simp only [eu]
    all_goals (repeat' (first | rfl | trivial | omega | (simp only []; omega) | refine And.intro ?_ ?_))
  · refine Zaz ?_
    try simp only [Zae,Zal,retQ,ite_true]
    refine Zac (Zaa [2] ?_)
    simp only [Zab,Zad,Zaf,pok,pval,VA.ev,Env.get,Env.put,Env.keep,Zae,Nat.succ_ne_self,Nat.reduceEqDiff,ite_true,ite_false,true_and]
    refine Zar ?_
    try simp only [Env.get,retQ,resV,Zau,RS.ev,RS.ok,ite_true,true_and,and_true]
    exact Zc5 _
termination_by SizeOf.sizeOf u
decreasing_by exact un_size ia
theorem sp_size (u:Un) (hu:u.ok) (deep most:Int):PCallS Tryz.prog 94 [.agg u.enc,pI deep,pI most] anyI:=by
  have eu:=Un.Zcl u
  refine Zdf ?_ (clo3 (Zay (Un.closed _)) (cI _) (cI _))
  refine Zaq (vc:=c_pandectref06_size) (ts:=[.t 6]) Go.Proofs.Tryz.func94 (by kernel_rfl) rfl rfl (Nat.le_of_ble_eq_true rfl) (by kernel_rfl) ?_
  unfold c_pandectref06_size
  try dsimp only [ZM,ZO,ZN,ZG]
  refine Zac (Zaa [1,2,3] ?_)
  simp only [Zab,Zad,Zaf,pok,pval,VA.ev,Env.get,Env.put,Env.keep,Za2,Zae,PV.cells,PV.fits,Heap.push,Heap.nil,Nat.succ_ne_self,List.length,Nat.reduceEqDiff,Nat.reduceAdd,ite_true,ite_false,true_and,reduceCtorEq,BEq.rfl,Nat.zero_add,eu]
  refine Zac ?_
  refine Zac (Zaa [1,2,3,10] ?_)
  simp only [Zab,Zad,Zaf,pok,pval,VA.ev,Env.get,Env.put,Env.keep,Zae,intV,binV,Zah,Nat.succ_ne_self,Nat.reduceEqDiff,ite_true,ite_false,true_and]
  refine Zai rfl (fun h1=>?_) (fun h1=>?_)
  · refine Zac (Zaa [6] ?_)
    simp only [Zab,Zad,Zaf,pok,pval,VA.ev,Env.get,Env.put,Env.keep,Zae,intV,binV,Zah,Nat.succ_ne_self,Nat.reduceEqDiff,ite_true,ite_false,true_and]
    refine Zar ?_
    try simp only [Env.get,Zae,retQ,resV,Zau,RS.ev,RS.ok,ite_true,true_and,and_true]
    exact anyI_ret _
  refine Zak ?_
  try simp only [Zae]
  have hkl:u.kids.length ≤ 9223372036854775807:=(un_ok_kids hu).1
  refine Zac (Zaa [1,2,3,7] ?_)
  simp only [Zab,Zad,Zaf,pok,pval,VA.ev,Env.get,Env.put,Env.keep,Zae,Nat.succ_ne_self,Nat.reduceEqDiff,ite_true,ite_false,true_and]
  refine Zac ?_
  refine Zac (Zaa [1,2,3,7,8] ?_)
  simp only [Zab,Zad,Zaf,pok,pval,VA.ev,Env.get,Env.put,Env.keep,Zae,Nat.succ_ne_self,Nat.reduceEqDiff,ite_true,ite_false,true_and]
  refine Zaj ?_
  refine Za4 (σ:={ s:Nat × Int // s.1 ≤ u.kids.length }) (fun s=>([(1,pI deep),(2,pI most),(3,.loc 0 0 0),(7,pI s.1.2),(8,pI s.1.1)],⟨[(0,.arr false 8 [u.enc])],1⟩)) (fun s=>u.kids.length - s.1.1) ⟨(0,1),Nat.zero_le _⟩ ?_ ?_ ?_
  · try simp only [Env.get,Nat.succ_ne_self,Env.le,Nat.reduceEqDiff,ite_true,ite_false,true_and,and_true]
    all_goals (repeat' (first | rfl | trivial | omega | (simp only []; omega) | refine And.intro ?_ ?_))
  · try simp only [Heap.get,Heap.le,HL.get,HL.le,Nat.le_refl,ite_true,and_true,eu]
    all_goals (repeat' (first | rfl | trivial | omega | (simp only []; omega) | refine And.intro ?_ ?_))
  rintro ⟨⟨i,n⟩,hi⟩
  simp only [] at hi ⊢
  refine Zac ?_
  refine VW_seqE (σ:={ b:Bool // b = true → i < u.kids.length }) [1,2,3,7,8,22] (fun s=>[(1,pI deep),(2,pI most),(3,.loc 0 0 0),(7,pI n),(8,pI i),(22,.bool s.1)]) ?_ (fun b=>?_)
  · by_cases ia:i < u.kids.length
    · have e1:decide ((i:Int) < (u.kids.length:Int)) = true:=decide_eq_true (by omega)
      simp only [Zab,Zad,Za6,Zaf,pok,pval,VA.ev,Env.get,Env.put,Env.keep,Za1,isBool,aggV,intV,binV,Zah,lenV,Zao,Zan,Zag,Zap,Za8,PV.nth,PV.row,Heap.get,HL.get,Nat.le_refl,Nat.succ_ne_self,Env.le,List.length,List.getD_cons_zero,List.take,List.drop,List.take_succ_cons,List.drop_succ_cons,Nat.reduceEqDiff,Nat.reduceLT,Bool.false_eq_true,ite_true,ite_false,true_and,and_true,implies_true,Nat.zero_add,List.length_cons,eu,List.length_map,e1]
      exact ⟨⟨_,fun _=>ia⟩,by first | trivial | rfl⟩
    · have e1:decide ((i:Int) < (u.kids.length:Int)) = false:=decide_eq_false (by omega)
      simp only [Zab,Zad,Zbi,Zaf,pok,pval,VA.ev,Env.get,Env.put,Env.keep,Za1,isBool,aggV,intV,binV,Zah,lenV,Zao,Zan,Zag,Zap,Za8,PV.nth,PV.row,Heap.get,HL.get,Nat.le_refl,Nat.succ_ne_self,Env.le,List.length,List.getD_cons_zero,List.take,List.drop,List.take_succ_cons,List.drop_succ_cons,Nat.reduceEqDiff,Nat.reduceLT,Bool.false_eq_true,ite_true,ite_false,true_and,and_true,implies_true,Nat.zero_add,List.length_cons,eu,List.length_map,e1]
      exact ⟨⟨false,fun h=>Bool.noConfusion h⟩,by first | trivial | rfl⟩
  obtain ⟨b,hb⟩:=b
  refine Zai rfl (fun h1=>?_) (fun h1=>?_)
  · refine Zak ?_
    try simp only [Zae,Heap.get,Heap.le,HL.le,Env.le,and_true]
    have ia:=hb h1
    refine Zac ?_
    refine Zaj ?_
    refine Zaa [1,2,3,7,8] ?_
    simp only [Zab,Zad,Zaf,pok,pval,VA.ev,Env.get,Env.put,Env.keep,Zae,Zal,aggV,intV,binV,Zah,strV,isInt,numOf,lenV,Zao,Zan,Zag,Zap,Zax,Zas,PV.nth,PV.row,Heap.get,HL.get,Nat.le_refl,Nat.succ_ne_self,List.map,List.length,List.getD_cons_zero,List.take,List.drop,List.take_succ_cons,List.drop_succ_cons,Nat.reduceEqDiff,Nat.reduceLT,Bool.false_eq_true,Bool.true_eq_false,ite_true,ite_false,true_and,and_true,implies_true,Nat.zero_add,List.length_cons,imp_self,Int.toNat_natCast,eu,List.length_map,rowm ia,un_t8,rd.un_len]
    repeat (with_reducible refine And.intro ?_ ?_; first | omega | (with_reducible constructor <;> omega) | exact False.elim | exact True.intro)
    refine Zdl (sp_size u.kids[i] ((un_ok_kids hu).2 _ (List.getElem_mem ia)) _ _) ?_
    rintro p ⟨m,rfl⟩
    simp only [true_and]
    refine Zaa [1,2,3,7,8] ?_
    simp only [Zab,Zad,Zaf,pok,pval,VA.ev,Env.get,Env.put,Env.keep,Zae,intV,binV,Zah,HL.get,Nat.le_refl,Nat.succ_ne_self,Nat.reduceEqDiff,ite_true,ite_false,true_and,and_true,w64 (n:=(i:Int) + 1) (by omega) (by omega)]
    refine ⟨⟨(i + 1,IntKind.i64.wrap (n + m)),by show i + 1 ≤ u.kids.length; omega⟩,?_⟩
    try simp only [true_and,eu]
    all_goals (repeat' (first | rfl | trivial | omega | (simp only []; omega) | refine And.intro ?_ ?_))
  · refine Zaz ?_
    try simp only [Zae,Zal,retQ,ite_true]
    refine Zac (Zaa [6] ?_)
    simp only [Zab,Zad,Zaf,pok,pval,VA.ev,Env.get,Env.put,Env.keep,Zae,Nat.succ_ne_self,Nat.reduceEqDiff,ite_true,ite_false,true_and]
    refine Zar ?_
    try simp only [Env.get,retQ,resV,Zau,RS.ev,RS.ok,ite_true,true_and,and_true]
    exact anyI_ret _
termination_by SizeOf.sizeOf u
decreasing_by exact un_size ia
theorem sp_few06 (u:Un) (hu:u.ok) (most:Int):PCallS Tryz.prog 66 [.agg u.enc,pI most] anyB:=by
  have eu:=Un.Zcl u
  refine Zdf ?_ (clo2 (Zay (Un.closed _)) (cI _))
  refine Zaq (vc:=c_pandectref06_Few) (ts:=[.t 4]) Go.Proofs.Tryz.func66 (by kernel_rfl) rfl rfl (Nat.le_of_ble_eq_true rfl) (by kernel_rfl) ?_
  unfold c_pandectref06_Few
  try dsimp only [ZM,ZO,ZN,ZG]
  refine Zac (Zaa [1,2,4] ?_)
  simp only [Zab,Zad,Zaf,pok,pval,VA.ev,Env.get,Env.put,Env.keep,Za2,Zae,PV.cells,PV.fits,Heap.push,Heap.nil,Nat.succ_ne_self,List.length,Nat.reduceEqDiff,Nat.reduceAdd,ite_true,ite_false,true_and,reduceCtorEq,BEq.rfl,Nat.zero_add,eu]
  refine Zac (Zaa [4] ?_)
  simp only [Zad,Zaf,pok,pval,VA.ev,Env.get,Env.put,Env.keep,Zae,aggV,intV,binV,Zah,strV,Zag,Zap,PV.nth,PV.row,Heap.get,HL.get,Nat.le_refl,Nat.succ_ne_self,List.map,List.length,List.getD_cons_zero,List.take,List.drop,List.take_succ_cons,Nat.reduceEqDiff,Nat.reduceAdd,Nat.reduceLT,Bool.true_eq_false,ite_true,ite_false,true_and,and_true,Nat.zero_add,List.length_cons,imp_self]
  rw [← eu]
  refine Zdl (sp_size u hu _ _) ?_
  rintro p ⟨m,rfl⟩
  simp only [true_and]
  cases e1:decide (m ≤ most) with
  | true =>
    simp only [Zab,Zad,Za6,Zaf,pok,pval,VA.ev,Env.get,Env.put,Za1,isBool,aggV,Zag,Zap,PV.nth,PV.row,Heap.get,HL.get,Nat.le_refl,Nat.succ_ne_self,List.map,List.length,List.getD_cons_zero,List.drop,Nat.reduceEqDiff,Nat.reduceLT,Bool.true_eq_false,ite_true,ite_false,true_and,and_true,Nat.zero_add,imp_self,e1,rd.un_len,un_t8]
    repeat (with_reducible refine And.intro ?_ ?_; first | omega | (with_reducible constructor <;> omega) | exact False.elim | exact True.intro)
    refine Zdl (sp_words u hu) ?_
    rintro p ⟨b,rfl⟩
    skip
    refine Zar ?_
    try simp only [Env.get,retQ,resV,Zau,RS.ev,RS.ok,ite_true,true_and,and_true]
    exact Zc5 _
  | false =>
    simp only [Zab,Zad,Zbi,Zaf,pok,pval,VA.ev,Env.get,Env.put,Za1,isBool,Nat.succ_ne_self,Nat.reduceEqDiff,Bool.false_eq_true,ite_true,ite_false,true_and,e1]
    refine Zar ?_
    try simp only [Env.get,retQ,resV,Zau,RS.ev,RS.ok,ite_true,true_and,and_true]
    exact Zc5 _
end Go.Proofs.YtehokmhebnkfdaaGreat.w
namespace Go.Proofs.YtehokmhebnkfdaaGreat.w
open Go Go.VM
set_option maxRecDepth 20000
set_option maxHeartbeats 0
set_option pp.deepTerms false
def c_pandectref17_Few:VC:=(.seq (.region [ZO 1 (.box 25 (.t 0)),ZO 2 (.mv (.c (.bool false)))] false) (.seq (.seq (.region [ZO 8 (.faddr 1 (.t 1)),ZO 9 (.load false 1 (.t 8)),ZO 10 (.len false (.t 9)),ZO 11 (.bin .gtr (.t 10) (.c (.int .i64 12))),ZM 12 11,ZG 13 (.faddr 2 (.t 1)) 12 false,ZG 14 (.load false 1 (.t 13)) 12 false,ZG 15 (.len false (.t 14)) 12 false,ZG 16 (.bin .gtr (.t 15) (.c (.int .i64 12))) 12 false,ZO 17 (.pick (.t 12) (.c (.bool true)) (.t 16)),ZM 18 17,ZG 19 (.faddr 13 (.t 1)) 18 false,ZG 20 (.load false 1 (.t 19)) 18 false,ZG 21 (.len false (.t 20)) 18 false,ZG 22 (.bin .gtr (.t 21) (.c (.int .i64 300))) 18 false,ZO 23 (.pick (.t 18) (.c (.bool true)) (.t 22)),ZM 24 23,ZG 25 (.faddr 14 (.t 1)) 24 false,ZG 26 (.load false 1 (.t 25)) 24 false,ZG 27 (.len false (.t 26)) 24 false,ZG 28 (.bin .gtr (.t 27) (.c (.int .i64 300))) 24 false,ZO 29 (.pick (.t 24) (.c (.bool true)) (.t 28)),ZM 30 29,ZG 31 (.faddr 15 (.t 1)) 30 false,ZG 32 (.load false 1 (.t 31)) 30 false,ZG 33 (.len true (.t 32)) 30 false,ZG 34 (.bin .gtr (.t 33) (.c (.int .i64 100))) 30 false,ZO 35 (.pick (.t 30) (.c (.bool true)) (.t 34)),ZM 36 35,ZG 37 (.faddr 16 (.t 1)) 36 false,ZG 38 (.load false 1 (.t 37)) 36 false,ZG 39 (.len true (.t 38)) 36 false,ZG 40 (.bin .gtr (.t 39) (.c (.int .i64 100))) 36 false,ZO 41 (.pick (.t 36) (.c (.bool true)) (.t 40)),ZM 42 41,ZG 43 (.faddr 17 (.t 1)) 42 false,ZG 44 (.faddr 2 (.t 43)) 42 false,ZG 45 (.load false 1 (.t 44)) 42 false,ZG 46 (.len true (.t 45)) 42 false,ZG 47 (.bin .gtr (.t 46) (.c (.int .i64 100))) 42 false,ZO 48 (.pick (.t 42) (.c (.bool true)) (.t 47)),ZM 49 48,ZG 50 (.faddr 23 (.t 1)) 49 false,ZG 51 (.load false 1 (.t 50)) 49 false,ZG 52 (.len true (.t 51)) 49 false,ZG 53 (.bin .gtr (.t 52) (.c (.int .i64 100))) 49 false,ZO 54 (.pick (.t 49) (.c (.bool true)) (.t 53)),ZM 55 54,ZG 56 (.faddr 24 (.t 1)) 55 false,ZG 57 (.load false 1 (.t 56)) 55 false,ZG 58 (.len false (.t 57)) 55 false,ZG 59 (.bin .gtr (.t 58) (.c (.int .i64 2))) 55 false,ZO 60 (.pick (.t 55) (.c (.bool true)) (.t 59)),ZM 61 60,ZG 62 (.faddr 5 (.t 1)) 61 false,ZG 63 (.load true 8 (.t 62)) 61 false,ZG 64 (.call 66 [(.t 63),(.c (.int .i64 30))]) 61 false,ZG 65 (.un .not (.t 64)) 61 false,ZO 66 (.pick (.t 61) (.c (.bool true)) (.t 65))] false) (.cond (.t 66) (.seq (.region [ZO 2 (.mv (.c (.bool false)))] false) .ret) .skip)) (.seq (.seq (.region [ZO 3 (.mv (.c (.int .i64 0)))] false) (.block 0 (.loop (.seq (.seq (.region [ZM 67 3,ZO 68 (.faddr 13 (.t 1)),ZO 69 (.load false 1 (.t 68)),ZO 70 (.len false (.t 69)),ZO 71 (.bin .lss (.t 67) (.t 70))] false) (.cond (.t 71) .skip (.exit 0))) (.seq (.block 1 (.seq (.region [ZO 74 (.faddr 13 (.t 1)),ZO 75 (.load false 1 (.t 74)),ZM 76 3,ZO 77 (.iaddr 1 (.t 75) (.t 76)),ZO 78 (.load false 1 (.t 77)),ZO 79 (.len true (.t 78)),ZO 80 (.bin .gtr (.t 79) (.c (.int .i64 100)))] false) (.cond (.t 80) (.seq (.region [ZO 2 (.mv (.c (.bool false)))] false) .ret) .skip))) (.region [ZM 72 3,ZO 73 (.bin .add (.t 72) (.c (.int .i64 1))),ZM 3 73] false)))))) (.seq (.seq (.region [ZO 4 (.mv (.c (.int .i64 0)))] false) (.block 2 (.loop (.seq (.seq (.region [ZM 81 4,ZO 82 (.faddr 14 (.t 1)),ZO 83 (.load false 1 (.t 82)),ZO 84 (.len false (.t 83)),ZO 85 (.bin .lss (.t 81) (.t 84))] false) (.cond (.t 85) .skip (.exit 2))) (.seq (.block 3 (.seq (.region [ZO 88 (.faddr 14 (.t 1)),ZO 89 (.load false 1 (.t 88)),ZM 90 4,ZO 91 (.iaddr 1 (.t 89) (.t 90)),ZO 92 (.load false 1 (.t 91)),ZO 93 (.len true (.t 92)),ZO 94 (.bin .gtr (.t 93) (.c (.int .i64 100)))] false) (.cond (.t 94) (.seq (.region [ZO 2 (.mv (.c (.bool false)))] false) .ret) .skip))) (.region [ZM 86 4,ZO 87 (.bin .add (.t 86) (.c (.int .i64 1))),ZM 4 87] false)))))) (.seq (.seq (.region [ZO 5 (.mv (.c (.int .i64 0)))] false) (.block 4 (.loop (.seq (.seq (.region [ZM 95 5,ZO 96 (.faddr 1 (.t 1)),ZO 97 (.load false 1 (.t 96)),ZO 98 (.len false (.t 97)),ZO 99 (.bin .lss (.t 95) (.t 98))] false) (.cond (.t 99) .skip (.exit 4))) (.seq (.block 5 (.seq (.region [ZO 102 (.faddr 1 (.t 1)),ZO 103 (.load false 1 (.t 102)),ZM 104 5,ZO 105 (.iaddr 2 (.t 103) (.t 104)),ZO 106 (.faddr 1 (.t 105)),ZO 107 (.load false 1 (.t 106)),ZO 108 (.len true (.t 107)),ZO 109 (.bin .gtr (.t 108) (.c (.int .i64 100)))] false) (.cond (.t 109) (.seq (.region [ZO 2 (.mv (.c (.bool false)))] false) .ret) .skip))) (.region [ZM 100 5,ZO 101 (.bin .add (.t 100) (.c (.int .i64 1))),ZM 5 101] false)))))) (.seq (.seq (.region [ZO 6 (.mv (.c (.int .i64 0)))] false) (.block 6 (.loop (.seq (.seq (.region [ZM 110 6,ZO 111 (.faddr 2 (.t 1)),ZO 112 (.load false 1 (.t 111)),ZO 113 (.len false (.t 112)),ZO 114 (.bin .lss (.t 110) (.t 113))] false) (.cond (.t 114) .skip (.exit 6))) (.seq (.block 7 (.seq (.region [ZO 117 (.faddr 2 (.t 1)),ZO 118 (.load false 1 (.t 117)),ZM 119 6,ZO 120 (.iaddr 2 (.t 118) (.t 119)),ZO 121 (.faddr 1 (.t 120)),ZO 122 (.load false 1 (.t 121)),ZO 123 (.len true (.t 122)),ZO 124 (.bin .gtr (.t 123) (.c (.int .i64 100)))] false) (.cond (.t 124) (.seq (.region [ZO 2 (.mv (.c (.bool false)))] false) .ret) .skip))) (.region [ZM 115 6,ZO 116 (.bin .add (.t 115) (.c (.int .i64 1))),ZM 6 116] false)))))) (.seq (.seq (.region [ZO 7 (.mv (.c (.int .i64 0)))] false) (.block 8 (.loop (.seq (.seq (.region [ZM 125 7,ZO 126 (.faddr 24 (.t 1)),ZO 127 (.load false 1 (.t 126)),ZO 128 (.len false (.t 127)),ZO 129 (.bin .lss (.t 125) (.t 128))] false) (.cond (.t 129) .skip (.exit 8))) (.seq (.block 9 (.seq (.region [ZO 132 (.faddr 24 (.t 1)),ZO 133 (.load false 1 (.t 132)),ZM 134 7,ZO 135 (.iaddr 25 (.t 133) (.t 134)),ZO 136 (.faddr 24 (.t 135)),ZO 137 (.load false 1 (.t 136)),ZO 138 (.len false (.t 137)),ZO 139 (.bin .gtr (.t 138) (.c (.int .i64 0))),ZM 140 139,ZG 141 (.faddr 24 (.t 1)) 140 true,ZG 142 (.load false 1 (.t 141)) 140 true,ZG 143 (.mv (.t 7)) 140 true,ZG 144 (.iaddr 25 (.t 142) (.t 143)) 140 true,ZG 145 (.faddr 24 (.t 144)) 140 true,ZG 146 (.load false 1 (.t 145)) 140 true,ZG 147 (.iaddr 25 (.t 146) (.c (.int .i64 0))) 140 true,ZG 148 (.faddr 24 (.t 147)) 140 true,ZG 149 (.load false 1 (.t 148)) 140 true,ZG 150 (.len false (.t 149)) 140 true,ZG 151 (.bin .gtr (.t 150) (.c (.int .i64 0))) 140 true,ZO 152 (.pick (.t 140) (.t 151) (.c (.bool false))),ZM 153 152,ZG 154 (.faddr 24 (.t 1)) 153 false,ZG 155 (.load false 1 (.t 154)) 153 false,ZG 156 (.mv (.t 7)) 153 false,ZG 157 (.iaddr 25 (.t 155) (.t 156)) 153 false,ZG 158 (.load true 25 (.t 157)) 153 false,ZG 159 (.call 41 [(.t 158)]) 153 false,ZG 160 (.un .not (.t 159)) 153 false,ZO 161 (.pick (.t 153) (.c (.bool true)) (.t 160))] false) (.cond (.t 161) (.seq (.region [ZO 2 (.mv (.c (.bool false)))] false) .ret) .skip))) (.region [ZM 130 7,ZO 131 (.bin .add (.t 130) (.c (.int .i64 1))),ZM 7 131] false)))))) (.seq (.region [ZO 2 (.mv (.c (.bool true)))] false) .ret))))))))
theorem rowS {l:List Str} {k:Nat} (h:k < l.length):(l.map fun s=>[PV.str s]).getD k [] = [.str l[k]]:=by simp [List.getD_eq_getElem?_getD,h]
theorem sp_few17 (x:It) (hx:x.ok):PCallS Tryz.prog 41 [.agg x.enc] anyB:=by
  have ex:=It.Zcl x
  have ox:=it_ok hx
  have hu:=sp_few06 x.unit ox.unit 30
  have eu:=Un.Zcl x.unit
  rw [eu] at hu
  have l1:x.at'.length ≤ 9223372036854775807:=ox.at'
  have l2:x.to.length ≤ 9223372036854775807:=ox.to
  have l3:x.old.length ≤ 9223372036854775807:=ox.old
  have l4:x.new.length ≤ 9223372036854775807:=ox.new
  have l5:x.by'.length ≤ 9223372036854775807:=ox.len
  refine Zdf ?_ (clo1 (Zay (It.closed _)))
  refine Zaq (vc:=c_pandectref17_Few) (ts:=[.t 2]) Go.Proofs.Tryz.func41 (by kernel_rfl) rfl rfl (Nat.le_of_ble_eq_true rfl) (by kernel_rfl) ?_
  unfold c_pandectref17_Few
  try dsimp only [ZM,ZO,ZN,ZG]
  refine Zac (Zaa [1] ?_)
  simp only [Zab,Zad,Zaf,pok,pval,VA.ev,Env.get,Env.put,Env.keep,Za2,Zae,PV.cells,PV.fits,Heap.push,Heap.nil,Nat.succ_ne_self,List.length,Nat.reduceAdd,ite_true,ite_false,true_and,reduceCtorEq,BEq.rfl,Nat.zero_add,ex]
  refine Zac ?_
  refine VW_seqE (σ:=Bool) [1,66] (fun s=>[(1,.loc 0 0 0),(66,.bool s)]) ?_ (fun b=>?_)
  · simp only [Zad,Zaf,pok,pval,VA.ev,Env.get,Env.put,Env.keep,aggV,intV,binV,Zah,lenV,Zao,Zan,Zag,Zap,Za8,PV.nth,PV.row,Heap.get,HL.get,Env.le,List.length,List.getD_cons_zero,List.take,List.drop,List.take_succ_cons,List.drop_succ_cons,Nat.reduceEqDiff,Nat.reduceAdd,Nat.reduceLT,Nat.reduceLeDiff,Bool.false_eq_true,ite_true,ite_false,true_and,and_true,implies_true,Nat.zero_add,List.length_cons,It.strs]
    refine Zbw rfl (fun g1=>?_) (fun g1=>?_)
    rotate_left
    · simp only [Zab,Zad,Zbz,Zaf,pok,pval,VA.ev,Env.get,Env.put,Za1,isBool,Nat.succ_ne_self,Nat.reduceEqDiff,ite_true,ite_false,true_and,and_true,Bool.not_false,g1]
      exact ⟨true,by first | trivial | rfl | exact ⟨rfl,rfl⟩⟩
    simp only [Zad,Za6,Zaf,pok,pval,VA.ev,Env.get,Env.put,Za1,isBool,aggV,intV,binV,Zah,lenV,Zao,Zan,Zag,Zap,Za8,PV.nth,PV.row,Heap.get,HL.get,Nat.succ_ne_self,List.length,List.getD_cons_zero,List.take,List.drop,List.take_succ_cons,List.drop_succ_cons,Nat.reduceEqDiff,Nat.reduceAdd,Nat.reduceLT,Nat.reduceLeDiff,Bool.false_eq_true,ite_true,ite_false,true_and,and_true,implies_true,Nat.zero_add,List.length_cons,g1]
    refine Zbw rfl (fun g2=>?_) (fun g2=>?_)
    rotate_left
    · simp only [Zab,Zad,Zbz,Zaf,pok,pval,VA.ev,Env.get,Env.put,Za1,isBool,Nat.succ_ne_self,Nat.reduceEqDiff,ite_true,ite_false,true_and,and_true,Bool.not_false,g2]
      exact ⟨true,by first | trivial | rfl | exact ⟨rfl,rfl⟩⟩
    simp only [Zad,Za6,Zaf,pok,pval,VA.ev,Env.get,Env.put,Za1,isBool,aggV,intV,binV,Zah,lenV,Zao,Zan,Zag,Zap,Za8,PV.nth,PV.row,Heap.get,HL.get,Nat.succ_ne_self,List.length,List.getD_cons_zero,List.take,List.drop,List.take_succ_cons,List.drop_succ_cons,Nat.reduceEqDiff,Nat.reduceAdd,Nat.reduceLT,Nat.reduceLeDiff,Bool.false_eq_true,ite_true,ite_false,true_and,and_true,implies_true,Nat.zero_add,List.length_cons,g2]
    refine Zbw rfl (fun g3=>?_) (fun g3=>?_)
    rotate_left
    · simp only [Zab,Zad,Zbz,Zaf,pok,pval,VA.ev,Env.get,Env.put,Za1,isBool,Nat.succ_ne_self,Nat.reduceEqDiff,ite_true,ite_false,true_and,and_true,Bool.not_false,g3]
      exact ⟨true,by first | trivial | rfl | exact ⟨rfl,rfl⟩⟩
    simp only [Zad,Za6,Zaf,pok,pval,VA.ev,Env.get,Env.put,Za1,isBool,aggV,intV,binV,Zah,lenV,Zao,Zan,Zag,Zap,Za8,PV.nth,PV.row,Heap.get,HL.get,Nat.succ_ne_self,List.length,List.getD_cons_zero,List.take,List.drop,List.take_succ_cons,List.drop_succ_cons,Nat.reduceEqDiff,Nat.reduceAdd,Nat.reduceLT,Nat.reduceLeDiff,Bool.false_eq_true,ite_true,ite_false,true_and,and_true,implies_true,Nat.zero_add,List.length_cons,g3]
    refine Zbw rfl (fun g4=>?_) (fun g4=>?_)
    rotate_left
    · simp only [Zab,Zad,Zbz,Zaf,pok,pval,VA.ev,Env.get,Env.put,Za1,isBool,Nat.succ_ne_self,Nat.reduceEqDiff,ite_true,ite_false,true_and,and_true,Bool.not_false,g4]
      exact ⟨true,by first | trivial | rfl | exact ⟨rfl,rfl⟩⟩
    simp only [Zad,Za6,Zaf,pok,pval,VA.ev,Env.get,Env.put,Za1,isBool,aggV,intV,binV,Zah,lenV,Zao,Zan,Zag,Zap,Za8,PV.nth,PV.row,Heap.get,HL.get,Nat.succ_ne_self,List.length,List.getD_cons_zero,List.take,List.drop,List.take_succ_cons,List.drop_succ_cons,Nat.reduceEqDiff,Nat.reduceAdd,Nat.reduceLT,Nat.reduceLeDiff,Bool.false_eq_true,ite_true,ite_false,true_and,and_true,implies_true,Nat.zero_add,List.length_cons,g4]
    refine Zbw rfl (fun g5=>?_) (fun g5=>?_)
    rotate_left
    · simp only [Zab,Zad,Zbz,Zaf,pok,pval,VA.ev,Env.get,Env.put,Za1,isBool,Nat.succ_ne_self,Nat.reduceEqDiff,ite_true,ite_false,true_and,and_true,Bool.not_false,g5]
      exact ⟨true,by first | trivial | rfl | exact ⟨rfl,rfl⟩⟩
    simp only [Zad,Za6,Zaf,pok,pval,VA.ev,Env.get,Env.put,Za1,isBool,aggV,intV,binV,Zah,lenV,Zao,Zan,Zag,Zap,Za8,PV.nth,PV.row,Heap.get,HL.get,Nat.succ_ne_self,List.length,List.getD_cons_zero,List.take,List.drop,List.take_succ_cons,List.drop_succ_cons,Nat.reduceEqDiff,Nat.reduceAdd,Nat.reduceLT,Nat.reduceLeDiff,Bool.false_eq_true,ite_true,ite_false,true_and,and_true,implies_true,Nat.zero_add,List.length_cons,g5]
    refine Zbw rfl (fun g6=>?_) (fun g6=>?_)
    rotate_left
    · simp only [Zab,Zad,Zbz,Zaf,pok,pval,VA.ev,Env.get,Env.put,Za1,isBool,Nat.succ_ne_self,Nat.reduceEqDiff,ite_true,ite_false,true_and,and_true,Bool.not_false,g6]
      exact ⟨true,by first | trivial | rfl | exact ⟨rfl,rfl⟩⟩
    simp only [Zad,Za6,Zaf,pok,pval,VA.ev,Env.get,Env.put,Za1,isBool,aggV,intV,binV,Zah,lenV,Zao,Zan,Zag,Zap,Za8,PV.nth,PV.row,Heap.get,HL.get,Nat.succ_ne_self,List.length,List.getD_cons_zero,List.take,List.drop,List.take_succ_cons,List.drop_succ_cons,Nat.reduceEqDiff,Nat.reduceAdd,Nat.reduceLT,Nat.reduceLeDiff,Bool.false_eq_true,ite_true,ite_false,true_and,and_true,implies_true,Nat.zero_add,List.length_cons,g6]
    refine Zbw rfl (fun g7=>?_) (fun g7=>?_)
    rotate_left
    · simp only [Zab,Zad,Zbz,Zaf,pok,pval,VA.ev,Env.get,Env.put,Za1,isBool,Nat.succ_ne_self,Nat.reduceEqDiff,ite_true,ite_false,true_and,and_true,Bool.not_false,g7]
      exact ⟨true,by first | trivial | rfl | exact ⟨rfl,rfl⟩⟩
    simp only [Zad,Za6,Zaf,pok,pval,VA.ev,Env.get,Env.put,Za1,isBool,aggV,intV,binV,Zah,lenV,Zao,Zan,Zag,Zap,Za8,PV.nth,PV.row,Heap.get,HL.get,Nat.succ_ne_self,List.length,List.getD_cons_zero,List.take,List.drop,List.take_succ_cons,List.drop_succ_cons,Nat.reduceEqDiff,Nat.reduceAdd,Nat.reduceLT,Nat.reduceLeDiff,Bool.false_eq_true,ite_true,ite_false,true_and,and_true,implies_true,Nat.zero_add,List.length_cons,g7]
    refine Zbw rfl (fun g8=>?_) (fun g8=>?_)
    rotate_left
    · simp only [Zab,Zad,Zbz,Zaf,pok,pval,VA.ev,Env.get,Env.put,Za1,isBool,Nat.succ_ne_self,Nat.reduceEqDiff,ite_true,ite_false,true_and,and_true,Bool.not_false,g8]
      exact ⟨true,by first | trivial | rfl | exact ⟨rfl,rfl⟩⟩
    simp only [Zad,Za6,Zaf,pok,pval,VA.ev,Env.get,Env.put,Za1,isBool,aggV,intV,binV,Zah,lenV,Zao,Zan,Zag,Zap,Za8,PV.nth,PV.row,Heap.get,HL.get,Nat.le_refl,Nat.succ_ne_self,List.length,List.getD_cons_zero,List.take,List.drop,List.take_succ_cons,List.drop_succ_cons,Nat.reduceEqDiff,Nat.reduceLT,Bool.false_eq_true,ite_true,ite_false,true_and,and_true,implies_true,Nat.zero_add,List.length_cons,g8]
    refine Zbw rfl (fun g9=>?_) (fun g9=>?_)
    rotate_left
    · simp only [Zab,Zad,Zbz,Zaf,pok,pval,VA.ev,Env.get,Env.put,Za1,isBool,Nat.succ_ne_self,Nat.reduceEqDiff,ite_true,ite_false,true_and,and_true,Bool.not_false,g9]
      exact ⟨true,by first | trivial | rfl | exact ⟨rfl,rfl⟩⟩
    simp only [Zab,Zad,Za6,Zaf,pok,pval,VA.ev,Env.get,Env.put,Za1,isBool,aggV,unV,unOk,Zao,Zan,Zag,Zap,PV.nth,PV.row,Heap.get,HL.get,Nat.succ_ne_self,List.map,List.length,List.getD_cons_zero,List.take,List.drop,List.take_succ_cons,List.drop_succ_cons,Nat.reduceEqDiff,Nat.reduceAdd,Nat.reduceLT,Nat.reduceLeDiff,Bool.false_eq_true,Bool.true_eq_false,ite_true,ite_false,true_and,and_true,Nat.zero_add,List.length_cons,imp_self,g9]
    refine Zdl hu ?_
    rintro p ⟨b1,rfl⟩
    simp only [true_and,and_true]
    exact ⟨!b1,by first | trivial | rfl⟩
  refine Zai rfl (fun h1=>?_) (fun h1=>?_)
  · refine Zac (Zaa [2] ?_)
    simp only [Zab,Zad,Zaf,pok,pval,VA.ev,Env.get,Env.put,Env.keep,Zae,Nat.reduceEqDiff,ite_true,ite_false,true_and]
    refine Zar ?_
    try simp only [Env.get,Zae,retQ,resV,Zau,RS.ev,RS.ok,ite_true,true_and,and_true]
    exact Zc5 _
  refine Zak ?_
  try simp only [Zae]
  clear hu
  refine Zac ?_
  refine Zac (Zaa [1,3] ?_)
  simp only [Zab,Zad,Zaf,pok,pval,VA.ev,Env.get,Env.put,Env.keep,Zae,Nat.reduceEqDiff,ite_true,ite_false,true_and]
  refine Zaj ?_
  refine Za4 (σ:={ i:Nat // i ≤ x.old.length }) (fun s=>([(1,.loc 0 0 0),(3,pI s.1)],⟨[(0,.arr false 25 [x.enc])],1⟩)) (fun s=>x.old.length - s.1) ⟨0,Nat.zero_le _⟩ ?_ ?_ ?_
  · try simp only [Env.get,Env.le,Nat.reduceEqDiff,ite_true,ite_false,true_and,and_true]
    all_goals (repeat' (first | rfl | trivial | omega | (simp only []; omega) | refine And.intro ?_ ?_))
  · try simp only [Heap.get,Heap.le,HL.get,HL.le,Nat.le_refl,ite_true,and_true,ex]
    all_goals (repeat' (first | rfl | trivial | omega | (simp only []; omega) | refine And.intro ?_ ?_))
  rintro ⟨i,hi⟩
  simp only []
  refine Zac ?_
  refine Zac (Zaa [1,3,71] ?_)
  simp only [Zab,Zad,Zaf,pok,pval,VA.ev,Env.get,Env.put,Env.keep,Zae,aggV,intV,binV,Zah,lenV,Zao,Zan,Zag,Zap,Za8,PV.nth,PV.row,Heap.get,Heap.le,HL.get,HL.le,Nat.succ_ne_self,Env.le,List.length,List.getD_cons_zero,List.take,List.drop,List.take_succ_cons,List.drop_succ_cons,Nat.reduceEqDiff,Nat.reduceAdd,Nat.reduceLT,Nat.reduceLeDiff,Bool.false_eq_true,ite_true,ite_false,true_and,and_true,implies_true,Nat.zero_add,List.length_cons,ex,It.strs,List.length_map]
  refine Zai rfl (fun h1=>?_) (fun h1=>?_)
  · refine Zak ?_
    try simp only [Zae]
    simp only [decide_eq_true_eq] at h1
    have ia:i < x.old.length:=by omega
    refine Zac ?_
    refine Zaj ?_
    refine Zac (Zaa [1,3,80] ?_)
    simp only [Zab,Zad,Zaf,pok,pval,VA.ev,Env.get,Env.put,Env.keep,Zae,aggV,intV,binV,Zah,isInt,numOf,lenV,Zao,Zan,Zag,Zap,Zax,Zas,Za8,PV.nth,PV.row,Heap.get,HL.get,Nat.le_refl,Nat.succ_ne_self,List.length,List.getD_cons_zero,List.take,List.drop,List.take_succ_cons,List.drop_succ_cons,Nat.reduceEqDiff,Nat.reduceAdd,Nat.reduceLT,Nat.reduceLeDiff,Bool.false_eq_true,ite_true,ite_false,true_and,and_true,implies_true,Nat.zero_add,List.length_cons,Int.toNat_natCast,ex,It.strs,List.length_map,rowS ia]
    repeat (with_reducible refine And.intro ?_ ?_; first | omega | (with_reducible constructor <;> omega) | exact False.elim | exact True.intro)
    refine Zai rfl (fun h2=>?_) (fun h2=>?_)
    · refine Zac (Zaa [2] ?_)
      simp only [Zab,Zad,Zaf,pok,pval,VA.ev,Env.get,Env.put,Env.keep,Zae,Nat.succ_ne_self,Nat.reduceEqDiff,ite_true,ite_false,true_and]
      refine Zar ?_
      try simp only [Env.get,Zae,Zal,retQ,resV,Zau,RS.ev,RS.ok,ite_true,true_and,and_true]
      exact Zc5 _
    refine Zak ?_
    try simp only [Zae,Zal]
    refine Zaa [1,3] ?_
    simp only [Zab,Zad,Zaf,pok,pval,VA.ev,Env.get,Env.put,Env.keep,Zae,intV,binV,Zah,HL.get,Nat.le_refl,Nat.reduceEqDiff,ite_true,ite_false,true_and,and_true,w64 (n:=(i:Int) + 1) (by omega) (by omega)]
    refine ⟨⟨i + 1,by omega⟩,?_⟩
    try simp only [ex]
    all_goals (repeat' (first | rfl | trivial | omega | (simp only []; omega) | refine And.intro ?_ ?_))
  simp only [decide_eq_false_iff_not] at h1
  refine Zaz ?_
  try simp only [Zae,Zal,retQ,ite_true]
  clear h1 hi
  refine Zac ?_
  refine Zac (Zaa [1,4] ?_)
  simp only [Zab,Zad,Zaf,pok,pval,VA.ev,Env.get,Env.put,Env.keep,Zae,Nat.reduceEqDiff,ite_true,ite_false,true_and]
  refine Zaj ?_
  refine Za4 (σ:={ i:Nat // i ≤ x.new.length }) (fun s=>([(1,.loc 0 0 0),(4,pI s.1)],⟨[(0,.arr false 25 [x.enc])],1⟩)) (fun s=>x.new.length - s.1) ⟨0,Nat.zero_le _⟩ ?_ ?_ ?_
  · try simp only [Env.get,Env.le,Nat.reduceEqDiff,ite_true,ite_false,true_and,and_true]
    all_goals (repeat' (first | rfl | trivial | omega | (simp only []; omega) | refine And.intro ?_ ?_))
  · try simp only [Heap.get,Heap.le,HL.get,HL.le,Nat.le_refl,ite_true,true_and,and_true,Option.some.injEq,ex]
    all_goals (repeat' (first | rfl | trivial | omega | (simp only []; omega) | refine And.intro ?_ ?_))
  rintro ⟨i,hi⟩
  simp only []
  refine Zac ?_
  refine Zac (Zaa [1,4,85] ?_)
  simp only [Zab,Zad,Zaf,pok,pval,VA.ev,Env.get,Env.put,Env.keep,Zae,aggV,intV,binV,Zah,lenV,Zao,Zan,Zag,Zap,Za8,PV.nth,PV.row,Heap.get,Heap.le,HL.get,HL.le,Nat.succ_ne_self,Env.le,List.length,List.getD_cons_zero,List.take,List.drop,List.take_succ_cons,List.drop_succ_cons,Nat.reduceEqDiff,Nat.reduceAdd,Nat.reduceLT,Nat.reduceLeDiff,Bool.false_eq_true,ite_true,ite_false,true_and,and_true,implies_true,Nat.zero_add,List.length_cons,ex,It.strs,List.length_map]
  refine Zai rfl (fun h1=>?_) (fun h1=>?_)
  · refine Zak ?_
    try simp only [Zae]
    simp only [decide_eq_true_eq] at h1
    have ia:i < x.new.length:=by omega
    refine Zac ?_
    refine Zaj ?_
    refine Zac (Zaa [1,4,94] ?_)
    simp only [Zab,Zad,Zaf,pok,pval,VA.ev,Env.get,Env.put,Env.keep,Zae,aggV,intV,binV,Zah,isInt,numOf,lenV,Zao,Zan,Zag,Zap,Zax,Zas,Za8,PV.nth,PV.row,Heap.get,HL.get,Nat.le_refl,Nat.succ_ne_self,List.length,List.getD_cons_zero,List.take,List.drop,List.take_succ_cons,List.drop_succ_cons,Nat.reduceEqDiff,Nat.reduceAdd,Nat.reduceLT,Nat.reduceLeDiff,Bool.false_eq_true,ite_true,ite_false,true_and,and_true,implies_true,Nat.zero_add,List.length_cons,Int.toNat_natCast,ex,It.strs,List.length_map,rowS ia]
    repeat (with_reducible refine And.intro ?_ ?_; first | omega | (with_reducible constructor <;> omega) | exact False.elim | exact True.intro)
    refine Zai rfl (fun h2=>?_) (fun h2=>?_)
    · refine Zac (Zaa [2] ?_)
      simp only [Zab,Zad,Zaf,pok,pval,VA.ev,Env.get,Env.put,Env.keep,Zae,Nat.reduceEqDiff,ite_true,ite_false,true_and]
      refine Zar ?_
      try simp only [Env.get,Zae,Zal,retQ,resV,Zau,RS.ev,RS.ok,ite_true,true_and,and_true]
      exact Zc5 _
    refine Zak ?_
    try simp only [Zae,Zal]
    refine Zaa [1,4] ?_
    simp only [Zab,Zad,Zaf,pok,pval,VA.ev,Env.get,Env.put,Env.keep,Zae,intV,binV,Zah,HL.get,Nat.le_refl,Nat.reduceEqDiff,ite_true,ite_false,true_and,and_true,w64 (n:=(i:Int) + 1) (by omega) (by omega)]
    refine ⟨⟨i + 1,by omega⟩,?_⟩
    try simp only [ex]
    all_goals (repeat' (first | rfl | trivial | omega | (simp only []; omega) | refine And.intro ?_ ?_))
  simp only [decide_eq_false_iff_not] at h1
  refine Zaz ?_
  try simp only [Zae,Zal,retQ,ite_true]
  clear h1 hi
  refine Zac ?_
  refine Zac (Zaa [1,5] ?_)
  simp only [Zab,Zad,Zaf,pok,pval,VA.ev,Env.get,Env.put,Env.keep,Zae,Nat.reduceEqDiff,ite_true,ite_false,true_and]
  refine Zaj ?_
  refine Za4 (σ:={ i:Nat // i ≤ x.at'.length }) (fun s=>([(1,.loc 0 0 0),(5,pI s.1)],⟨[(0,.arr false 25 [x.enc])],1⟩)) (fun s=>x.at'.length - s.1) ⟨0,Nat.zero_le _⟩ ?_ ?_ ?_
  · try simp only [Env.get,Env.le,Nat.reduceEqDiff,ite_true,ite_false,true_and,and_true]
    all_goals (repeat' (first | rfl | trivial | omega | (simp only []; omega) | refine And.intro ?_ ?_))
  · try simp only [Heap.get,Heap.le,HL.get,HL.le,Nat.le_refl,ite_true,true_and,and_true,Option.some.injEq,ex]
    all_goals (repeat' (first | rfl | trivial | omega | (simp only []; omega) | refine And.intro ?_ ?_))
  rintro ⟨i,hi⟩
  simp only []
  refine Zac ?_
  refine Zac (Zaa [1,5,99] ?_)
  simp only [Zab,Zad,Zaf,pok,pval,VA.ev,Env.get,Env.put,Env.keep,Zae,aggV,intV,binV,Zah,lenV,Zao,Zan,Zag,Zap,Za8,PV.nth,PV.row,Heap.get,Heap.le,HL.get,HL.le,Nat.succ_ne_self,Env.le,List.length,List.getD_cons_zero,List.take,List.drop,List.take_succ_cons,List.drop_succ_cons,Nat.reduceEqDiff,Nat.reduceAdd,Nat.reduceLT,Nat.reduceLeDiff,Bool.false_eq_true,ite_true,ite_false,true_and,and_true,implies_true,Nat.zero_add,List.length_cons,ex,It.strs,List.length_map]
  refine Zai rfl (fun h1=>?_) (fun h1=>?_)
  · refine Zak ?_
    try simp only [Zae]
    simp only [decide_eq_true_eq] at h1
    have ia:i < x.at'.length:=by omega
    refine Zac ?_
    refine Zaj ?_
    refine Zac (Zaa [1,5,109] ?_)
    simp only [Zab,Zad,Zaf,pok,pval,VA.ev,Env.get,Env.put,Env.keep,Zae,aggV,intV,binV,Zah,isInt,numOf,lenV,Zao,Zan,Zag,Zap,Zax,Zas,Za8,PV.nth,PV.row,Heap.get,HL.get,Nat.le_refl,Nat.succ_ne_self,List.length,List.getD_cons_zero,List.take,List.drop,List.take_succ_cons,List.drop_succ_cons,Nat.reduceEqDiff,Nat.reduceAdd,Nat.reduceLT,Nat.reduceLeDiff,Bool.false_eq_true,ite_true,ite_false,true_and,and_true,implies_true,Nat.zero_add,List.length_cons,Int.toNat_natCast,ex,It.strs,List.length_map,rowm ia,St.enc]
    repeat (with_reducible refine And.intro ?_ ?_; first | omega | (with_reducible constructor <;> omega) | exact False.elim | exact True.intro)
    refine Zai rfl (fun h2=>?_) (fun h2=>?_)
    · refine Zac (Zaa [2] ?_)
      simp only [Zab,Zad,Zaf,pok,pval,VA.ev,Env.get,Env.put,Env.keep,Zae,Nat.reduceEqDiff,ite_true,ite_false,true_and]
      refine Zar ?_
      try simp only [Env.get,Zae,Zal,retQ,resV,Zau,RS.ev,RS.ok,ite_true,true_and,and_true]
      exact Zc5 _
    refine Zak ?_
    try simp only [Zae,Zal]
    refine Zaa [1,5] ?_
    simp only [Zab,Zad,Zaf,pok,pval,VA.ev,Env.get,Env.put,Env.keep,Zae,intV,binV,Zah,HL.get,Nat.le_refl,Nat.reduceEqDiff,ite_true,ite_false,true_and,and_true,w64 (n:=(i:Int) + 1) (by omega) (by omega)]
    refine ⟨⟨i + 1,by omega⟩,?_⟩
    try simp only [ex]
    all_goals (repeat' (first | rfl | trivial | omega | (simp only []; omega) | refine And.intro ?_ ?_))
  simp only [decide_eq_false_iff_not] at h1
  refine Zaz ?_
  try simp only [Zae,Zal,retQ,ite_true]
  clear h1 hi
  refine Zac ?_
  refine Zac (Zaa [1,6] ?_)
  simp only [Zab,Zad,Zaf,pok,pval,VA.ev,Env.get,Env.put,Env.keep,Zae,Nat.reduceEqDiff,ite_true,ite_false,true_and]
  refine Zaj ?_
  refine Za4 (σ:={ i:Nat // i ≤ x.to.length }) (fun s=>([(1,.loc 0 0 0),(6,pI s.1)],⟨[(0,.arr false 25 [x.enc])],1⟩)) (fun s=>x.to.length - s.1) ⟨0,Nat.zero_le _⟩ ?_ ?_ ?_
  · try simp only [Env.get,Env.le,Nat.reduceEqDiff,ite_true,ite_false,true_and,and_true]
    all_goals (repeat' (first | rfl | trivial | omega | (simp only []; omega) | refine And.intro ?_ ?_))
  · try simp only [Heap.get,Heap.le,HL.get,HL.le,Nat.le_refl,ite_true,true_and,and_true,Option.some.injEq,ex]
    all_goals (repeat' (first | rfl | trivial | omega | (simp only []; omega) | refine And.intro ?_ ?_))
  rintro ⟨i,hi⟩
  simp only []
  refine Zac ?_
  refine Zac (Zaa [1,6,114] ?_)
  simp only [Zab,Zad,Zaf,pok,pval,VA.ev,Env.get,Env.put,Env.keep,Zae,aggV,intV,binV,Zah,lenV,Zao,Zan,Zag,Zap,Za8,PV.nth,PV.row,Heap.get,Heap.le,HL.get,HL.le,Nat.succ_ne_self,Env.le,List.length,List.getD_cons_zero,List.take,List.drop,List.take_succ_cons,List.drop_succ_cons,Nat.reduceEqDiff,Nat.reduceAdd,Nat.reduceLT,Nat.reduceLeDiff,Bool.false_eq_true,ite_true,ite_false,true_and,and_true,implies_true,Nat.zero_add,List.length_cons,ex,It.strs,List.length_map]
  refine Zai rfl (fun h1=>?_) (fun h1=>?_)
  · refine Zak ?_
    try simp only [Zae]
    simp only [decide_eq_true_eq] at h1
    have ia:i < x.to.length:=by omega
    refine Zac ?_
    refine Zaj ?_
    refine Zac (Zaa [1,6,124] ?_)
    simp only [Zab,Zad,Zaf,pok,pval,VA.ev,Env.get,Env.put,Env.keep,Zae,aggV,intV,binV,Zah,isInt,numOf,lenV,Zao,Zan,Zag,Zap,Zax,Zas,Za8,PV.nth,PV.row,Heap.get,HL.get,Nat.le_refl,Nat.succ_ne_self,List.length,List.getD_cons_zero,List.take,List.drop,List.take_succ_cons,List.drop_succ_cons,Nat.reduceEqDiff,Nat.reduceAdd,Nat.reduceLT,Nat.reduceLeDiff,Bool.false_eq_true,ite_true,ite_false,true_and,and_true,implies_true,Nat.zero_add,List.length_cons,Int.toNat_natCast,ex,It.strs,List.length_map,rowm ia,St.enc]
    repeat (with_reducible refine And.intro ?_ ?_; first | omega | (with_reducible constructor <;> omega) | exact False.elim | exact True.intro)
    refine Zai rfl (fun h2=>?_) (fun h2=>?_)
    · refine Zac (Zaa [2] ?_)
      simp only [Zab,Zad,Zaf,pok,pval,VA.ev,Env.get,Env.put,Env.keep,Zae,Nat.reduceEqDiff,ite_true,ite_false,true_and]
      refine Zar ?_
      try simp only [Env.get,Zae,Zal,retQ,resV,Zau,RS.ev,RS.ok,ite_true,true_and,and_true]
      exact Zc5 _
    refine Zak ?_
    try simp only [Zae,Zal]
    refine Zaa [1,6] ?_
    simp only [Zab,Zad,Zaf,pok,pval,VA.ev,Env.get,Env.put,Env.keep,Zae,intV,binV,Zah,HL.get,Nat.le_refl,Nat.reduceEqDiff,ite_true,ite_false,true_and,and_true,w64 (n:=(i:Int) + 1) (by omega) (by omega)]
    refine ⟨⟨i + 1,by omega⟩,?_⟩
    try simp only [ex]
    all_goals (repeat' (first | rfl | trivial | omega | (simp only []; omega) | refine And.intro ?_ ?_))
  simp only [decide_eq_false_iff_not] at h1
  refine Zaz ?_
  try simp only [Zae,Zal,retQ,ite_true]
  clear h1 hi
  refine Zac ?_
  refine Zac (Zaa [1,7] ?_)
  simp only [Zab,Zad,Zaf,pok,pval,VA.ev,Env.get,Env.put,Env.keep,Zae,Nat.reduceEqDiff,ite_true,ite_false,true_and]
  refine Zaj ?_
  refine Za4 (σ:={ i:Nat // i ≤ x.by'.length }) (fun s=>([(1,.loc 0 0 0),(7,pI s.1)],⟨[(0,.arr false 25 [x.enc])],1⟩)) (fun s=>x.by'.length - s.1) ⟨0,Nat.zero_le _⟩ ?_ ?_ ?_
  · try simp only [Env.get,Env.le,Nat.reduceEqDiff,ite_true,ite_false,true_and,and_true]
    all_goals (repeat' (first | rfl | trivial | omega | (simp only []; omega) | refine And.intro ?_ ?_))
  · try simp only [Heap.get,Heap.le,HL.get,HL.le,Nat.le_refl,ite_true,true_and,and_true,Option.some.injEq,ex]
    all_goals (repeat' (first | rfl | trivial | omega | (simp only []; omega) | refine And.intro ?_ ?_))
  rintro ⟨i,hi⟩
  simp only []
  refine Zac ?_
  refine Zac (Zaa [1,7,129] ?_)
  simp only [Zab,Zad,Zaf,pok,pval,VA.ev,Env.get,Env.put,Env.keep,Zae,aggV,intV,binV,Zah,lenV,Zao,Zan,Zag,Zap,Za8,PV.nth,PV.row,Heap.get,Heap.le,HL.get,HL.le,Nat.le_refl,Nat.succ_ne_self,Env.le,List.length,List.getD_cons_zero,List.take,List.drop,List.take_succ_cons,List.drop_succ_cons,Nat.reduceEqDiff,Nat.reduceLT,Bool.false_eq_true,ite_true,ite_false,true_and,and_true,implies_true,Nat.zero_add,List.length_cons,ex,List.length_map]
  refine Zai rfl (fun h1=>?_) (fun h1=>?_)
  · refine Zak ?_
    try simp only [Zae]
    simp only [decide_eq_true_eq] at h1
    have ia:i < x.by'.length:=by omega
    have hrec:=sp_few17 x.by'[i] (ox.by' _ (List.getElem_mem ia))
    have ry:=rowm (enc:=It.enc) ia
    generalize x.by'[i] = y at hrec ry
    refine Zac ?_
    refine Zaj ?_
    refine VW_seqE (σ:=Bool) [1,7,161] (fun s=>[(1,.loc 0 0 0),(7,pI i),(161,.bool s)]) ?_ (fun b=>?_)
    · cases hb:y.by' with
      | nil =>
        have e2:decide (0 < (y.by'.length:Int)) = false:=by rw [hb]; rfl
        simp only [Zab,Zad,Za6,Zbi,Zaf,pok,pval,VA.ev,Env.get,Env.put,Env.keep,Za1,isBool,aggV,intV,binV,Zah,unV,unOk,isInt,numOf,lenV,Zao,Zan,Zag,Zap,Zax,Zas,Za8,PV.nth,PV.row,Heap.get,HL.get,Nat.le_refl,Nat.succ_ne_self,Env.le,List.map,List.length,List.getD_cons_zero,List.take,List.drop,List.take_succ_cons,List.drop_succ_cons,Nat.reduceEqDiff,Nat.reduceLT,Bool.false_eq_true,Bool.true_eq_false,ite_true,ite_false,true_and,and_true,implies_true,Nat.zero_add,List.length_cons,imp_self,Int.toNat_natCast,ex,List.length_map,ry,it_by,it_l24,Zbt,Zcf,e2]
        repeat (with_reducible refine And.intro ?_ ?_; first | omega | (with_reducible constructor <;> omega) | exact False.elim | exact True.intro)
        refine Zdl hrec ?_
        rintro p ⟨b1,rfl⟩
        simp only [true_and,and_true]
        exact ⟨!b1,by first | trivial | rfl⟩
      | cons z r =>
        have e2:decide (0 < (y.by'.length:Int)) = true:=by rw [hb,decide_eq_true_eq]; simp
        have e3:(0:Int) < (y.by'.length:Int):=by simpa using e2
        have e4:(y.by'.map It.enc).getD 0 [] = z.enc:=by rw [hb]; rfl
        cases e5:decide (0 < (z.by'.length:Int)) with
        | true =>
          simp only [Zab,Zad,Za6,Zbz,Zaf,pok,pval,VA.ev,Env.get,Env.put,Env.keep,Za1,isBool,aggV,intV,binV,Zah,isInt,numOf,lenV,Zao,Zan,Zag,Zap,Zax,Zas,Za8,PV.nth,PV.row,Heap.get,HL.get,Nat.le_refl,Nat.succ_ne_self,Env.le,List.length,List.getD_cons_zero,List.take,List.drop,List.take_succ_cons,List.drop_succ_cons,Nat.reduceEqDiff,Nat.reduceLT,Bool.false_eq_true,ite_true,ite_false,true_and,and_true,implies_true,Nat.zero_add,List.length_cons,Int.reduceToNat,Int.toNat_natCast,ex,List.length_map,ry,it_by,it_l24,Zbt,Zcf,e2,e4,e5]
          repeat (with_reducible refine And.intro ?_ ?_; first | omega | (with_reducible constructor <;> omega) | exact False.elim | exact True.intro)
          exact ⟨true,by first | trivial | rfl⟩
        | false =>
          simp only [Zab,Zad,Za6,Zaf,pok,pval,VA.ev,Env.get,Env.put,Env.keep,Za1,isBool,aggV,intV,binV,Zah,unV,unOk,isInt,numOf,lenV,Zao,Zan,Zag,Zap,Zax,Zas,Za8,PV.nth,PV.row,Heap.get,HL.get,Nat.le_refl,Nat.succ_ne_self,Env.le,List.map,List.length,List.getD_cons_zero,List.take,List.drop,List.take_succ_cons,List.drop_succ_cons,Nat.reduceEqDiff,Nat.reduceLT,Bool.false_eq_true,Bool.true_eq_false,ite_true,ite_false,true_and,and_true,implies_true,Nat.zero_add,List.length_cons,imp_self,Int.reduceToNat,Int.toNat_natCast,ex,List.length_map,ry,it_by,it_l24,Zbt,Zcf,e2,e4,e5]
          repeat (with_reducible refine And.intro ?_ ?_; first | omega | (with_reducible constructor <;> omega) | exact False.elim | exact True.intro)
          refine Zdl hrec ?_
          rintro p ⟨b1,rfl⟩
          simp only [true_and,and_true]
          exact ⟨!b1,by first | trivial | rfl⟩
    refine Zai rfl (fun h2=>?_) (fun h2=>?_)
    · refine Zac (Zaa [2] ?_)
      simp only [Zab,Zad,Zaf,pok,pval,VA.ev,Env.get,Env.put,Env.keep,Zae,Nat.reduceEqDiff,ite_true,ite_false,true_and]
      refine Zar ?_
      try simp only [Env.get,Zae,Zal,retQ,resV,Zau,RS.ev,RS.ok,ite_true,true_and,and_true]
      exact Zc5 _
    refine Zak ?_
    try simp only [Zae,Zal]
    refine Zaa [1,7] ?_
    simp only [Zab,Zad,Zaf,pok,pval,VA.ev,Env.get,Env.put,Env.keep,Zae,intV,binV,Zah,HL.get,Nat.le_refl,Nat.reduceEqDiff,ite_true,ite_false,true_and,and_true,w64 (n:=(i:Int) + 1) (by omega) (by omega)]
    refine ⟨⟨i + 1,by omega⟩,?_⟩
    try simp only [ex]
    all_goals (repeat' (first | rfl | trivial | omega | (simp only []; omega) | refine And.intro ?_ ?_))
  · refine Zaz ?_
    try simp only [Zae,Zal,retQ,ite_true]
    refine Zac (Zaa [2] ?_)
    simp only [Zab,Zad,Zaf,pok,pval,VA.ev,Env.get,Env.put,Env.keep,Zae,Nat.reduceEqDiff,ite_true,ite_false,true_and]
    refine Zar ?_
    try simp only [Env.get,retQ,resV,Zau,RS.ev,RS.ok,ite_true,true_and,and_true]
    exact Zc5 _
termination_by SizeOf.sizeOf x
decreasing_by exact it_size ia
end Go.Proofs.YtehokmhebnkfdaaGreat.w
