import Derived.Test.YtihfbefagcdpmaaDoorP1
set_option linter.all false
namespace Go.Proofs.YtihfbefagcdpmaaDoor.w
open Go Go.VM
set_option maxRecDepth 20000
set_option maxHeartbeats 0
set_option pp.deepTerms false
def c_label_parted:VC:=(.seq (.region [ZO 2 (.mv (.c (.str []))),ZO 3 (.mv (.c (.str [])))] false) (.seq (.region [ZM 5 0,ZO 6 (.call 44 [(.t 5),(.c (.fn (.func 45) [] []))]),ZM 4 6] false) (.seq (.seq (.region [ZM 7 4,ZO 8 (.bin .lss (.t 7) (.c (.int .i64 0)))] false) (.cond (.t 8) (.seq (.region [ZM 9 0,ZM 2 9,ZO 3 (.mv (.c (.str [])))] false) .ret) .skip)) (.seq (.region [ZM 10 0,ZM 11 4,ZO 12 (.slice true 0 (.t 10) none (some (.t 11))),ZM 13 0,ZM 14 4,ZO 15 (.slice true 0 (.t 13) (some (.t 14)) none),ZM 2 12,ZM 3 15] true) .ret))))
def c_label_Valid:VC:=(.seq (.region [ZO 2 (.mv (.c (.bool false)))] false) (.seq (.region [ZM 7 0,ZO 8 (.call 28 [(.t 7)]),ZM 6 8,ZO 9 (.ext (.t 6) 0),ZO 10 (.ext (.t 6) 1),ZM 3 9,ZM 4 10] false) (.seq (.region [ZO 5 (.mv (.c (.fn (.func 31) [] [])))] false) (.seq (.region [ZM 11 3,ZO 12 (.len true (.t 11)),ZO 13 (.bin .geq (.t 12) (.c (.int .i64 1))),ZM 14 13,ZG 15 (.mv (.t 3)) 14 true,ZG 16 (.len true (.t 15)) 14 true,ZG 17 (.bin .leq (.t 16) (.c (.int .i64 4))) 14 true,ZO 18 (.pick (.t 14) (.t 17) (.c (.bool false))),ZM 19 18,ZG 20 (.mv (.t 3)) 19 true,ZG 21 (.idx (.t 20) (.c (.int .i64 0))) 19 true,ZG 22 (.bin .neq (.t 21) (.c (.int .u8 48))) 19 true,ZO 23 (.pick (.t 19) (.t 22) (.c (.bool false))),ZM 24 23,ZG 25 (.mv (.t 4)) 24 true,ZG 26 (.len true (.t 25)) 24 true,ZG 27 (.bin .leq (.t 26) (.c (.int .i64 3))) 24 true,ZO 28 (.pick (.t 24) (.t 27) (.c (.bool false))),ZM 29 28,ZG 30 (.mv (.t 4)) 29 true,ZG 31 (.mv (.t 5)) 29 true,ZG 32 (.call 32 [(.t 30),(.t 31)]) 29 true,ZG 33 (.un .not (.t 32)) 29 true,ZO 34 (.pick (.t 29) (.t 33) (.c (.bool false))),ZM 2 34] false) .ret))))
def c_label_Split:VC:=(.seq (.region [ZO 2 (.mv (.c (.int .i64 0))),ZO 3 (.mv (.c (.str [])))] false) (.seq (.seq (.region [ZM 8 0,ZO 9 (.call 13 [(.t 8)]),ZO 10 (.un .not (.t 9))] false) (.cond (.t 10) (.seq (.region [ZO 2 (.mv (.c (.int .i64 0))),ZO 3 (.mv (.c (.str [])))] false) .ret) .skip)) (.seq (.region [ZM 12 0,ZO 13 (.call 28 [(.t 12)]),ZM 11 13,ZO 14 (.ext (.t 11) 0),ZO 15 (.ext (.t 11) 1),ZM 4 14,ZM 5 15] false) (.seq (.region [ZM 17 4,ZO 18 (.call 29 [(.t 17)]),ZM 16 18,ZO 19 (.ext (.t 16) 0),ZO 20 (.ext (.t 16) 1),ZM 6 19,ZM 7 20] false) (.seq (.region [ZM 21 6,ZM 22 5,ZM 2 21,ZM 3 22] false) .ret)))))
def c_label_Compare:VC:=(.seq (.region [ZO 4 (.mv (.c (.int .i64 0)))] false) (.seq (.region [ZM 11 0,ZO 12 (.call 13 [(.t 11)]),ZM 13 1,ZO 14 (.call 13 [(.t 13)]),ZM 5 12,ZM 6 14] false) (.seq (.seq (.region [ZM 15 5,ZO 16 (.un .not (.t 15)),ZM 17 16,ZG 18 (.mv (.t 6)) 17 false,ZG 19 (.un .not (.t 18)) 17 false,ZO 20 (.pick (.t 17) (.c (.bool true)) (.t 19))] false) (.cond (.t 20) (.seq (.seq (.region [ZM 21 5] false) (.cond (.t 21) (.seq (.region [ZO 4 (.mv (.c (.int .i64 (-1))))] false) .ret) .skip)) (.seq (.seq (.region [ZM 22 6] false) (.cond (.t 22) (.seq (.region [ZO 4 (.mv (.c (.int .i64 1)))] false) .ret) .skip)) (.seq (.region [ZM 23 0,ZM 24 1,ZO 25 (.call 33 [(.t 23),(.t 24)]),ZM 4 25] false) .ret))) .skip)) (.seq (.region [ZM 27 0,ZO 28 (.call 11 [(.t 27)]),ZM 26 28,ZO 29 (.ext (.t 26) 0),ZO 30 (.ext (.t 26) 1),ZM 7 29,ZM 8 30] false) (.seq (.region [ZM 32 1,ZO 33 (.call 11 [(.t 32)]),ZM 31 33,ZO 34 (.ext (.t 31) 0),ZO 35 (.ext (.t 31) 1),ZM 9 34,ZM 10 35] false) (.seq (.region [ZM 36 7,ZM 37 9,ZO 38 (.call 35 [(.t 36),(.t 37)]),ZM 39 8,ZM 40 10,ZO 41 (.call 33 [(.t 39),(.t 40)]),ZO 42 (.bslice 1 2 [(.int .i64 0)] [(0,(.t 38)),(1,(.t 41))]),ZO 43 (.call 34 [(.t 42)]),ZM 4 43] false) .ret))))))
def c_label_made:VC:=(.seq (.region [ZO 4 (.mv (.c (.str []))),ZO 5 (.mv (.c (.bool false)))] false) (.seq (.seq (.region [ZM 6 0,ZO 7 (.bin .gtr (.t 6) (.c (.int .i64 9999)))] false) (.cond (.t 7) (.seq (.region [ZO 4 (.mv (.c (.str []))),ZO 5 (.mv (.c (.bool false)))] false) .ret) .skip)) (.seq (.region [ZM 8 0,ZO 9 (.call 50 [(.t 8)]),ZM 10 1,ZO 11 (.bin .add (.t 9) (.t 10)),ZM 4 11,ZO 5 (.mv (.c (.bool true)))] false) .ret)))
def c_label_up:VC:=(.seq (.region [ZO 2 (.mv (.c (.str []))),ZO 3 (.mv (.c (.bool false)))] false) (.scope (.seq (.region [ZM 5 0,ZO 6 (.len true (.t 5)),ZO 7 (.bin .sub (.t 6) (.c (.int .i64 1))),ZM 4 7] false) (.seq .skip (.seq (.block 0 (.loop (.seq (.seq (.region [ZM 8 4,ZO 9 (.bin .geq (.t 8) (.c (.int .i64 0)))] false) (.cond (.t 9) .skip (.exit 0))) (.seq (.block 1 (.seq (.region [ZM 12 0,ZM 13 4,ZO 14 (.idx (.t 12) (.t 13)),ZO 15 (.bin .neq (.t 14) (.c (.int .u8 90)))] false) (.cond (.t 15) (.exit 0) .skip))) (.region [ZM 10 4,ZO 11 (.bin .sub (.t 10) (.c (.int .i64 1))),ZM 4 11] false))))) (.seq (.seq (.region [ZM 16 4,ZO 17 (.bin .lss (.t 16) (.c (.int .i64 0)))] false) (.cond (.t 17) (.seq (.region [ZO 2 (.mv (.c (.str []))),ZO 3 (.mv (.c (.bool false)))] false) .ret) .skip)) (.seq (.region [ZM 18 0,ZM 19 4,ZO 20 (.slice true 0 (.t 18) none (some (.t 19))),ZM 21 0,ZM 22 4,ZO 23 (.idx (.t 21) (.t 22)),ZO 24 (.bin .add (.t 23) (.c (.int .u8 1))),ZO 25 (.bslice 1 1 [(.int .u8 0)] [(0,(.t 24))]),ZO 26 (.px .b2s [(.t 25)]),ZO 27 (.bin .add (.t 20) (.t 26)),ZM 2 27,ZO 3 (.mv (.c (.bool true)))] true) .ret)))))))
def c_cmp_Or_int:VC:=(.seq (.region [ZO 2 (.mv (.c (.int .i64 0)))] false) (.seq (.region [ZO 3 (.mv (.c (.int .i64 0)))] false) (.seq (.seq (.region [ZM 6 0,ZO 7 (.len false (.t 6)),ZO 8 (.mv (.c (.int .i64 0)))] false) (.block 0 (.loop (.seq (.region [ZO 9 (.bin .lss (.t 8) (.t 7))] false) (.seq (.cond (.t 9) .skip (.exit 0)) (.seq (.block 1 (.seq (.region [ZO 10 (.iaddr 1 (.t 6) (.t 8)),ZO 11 (.load false 1 (.t 10)),ZM 5 11] false) (.seq (.region [ZM 12 5,ZM 13 3,ZO 14 (.bin .neq (.t 12) (.t 13))] false) (.cond (.t 14) (.seq (.region [ZM 15 5,ZM 2 15] false) .ret) .skip)))) (.region [ZO 16 (.bin .add (.t 8) (.c (.int .i64 1))),ZM 8 16] false))))))) (.seq (.region [ZM 17 3,ZM 2 17] false) .ret))))
def c_cmp_Compare_string:VC:=(.seq (.region [ZO 4 (.mv (.c (.int .i64 0)))] false) (.seq (.region [ZM 7 0,ZO 8 (.call 48 [(.t 7)]),ZM 5 8] false) (.seq (.region [ZM 9 1,ZO 10 (.call 48 [(.t 9)]),ZM 6 10] false) (.seq (.seq (.region [ZM 11 5] false) (.cond (.t 11) (.seq (.seq (.region [ZM 12 6] false) (.cond (.t 12) (.seq (.region [ZO 4 (.mv (.c (.int .i64 0)))] false) .ret) .skip)) (.seq (.region [ZO 4 (.mv (.c (.int .i64 (-1))))] false) .ret)) .skip)) (.seq (.seq (.region [ZM 13 6] false) (.cond (.t 13) (.seq (.region [ZO 4 (.mv (.c (.int .i64 1)))] false) .ret) .skip)) (.seq (.seq (.region [ZM 14 0,ZM 15 1,ZO 16 (.bin .lss (.t 14) (.t 15))] false) (.cond (.t 16) (.seq (.region [ZO 4 (.mv (.c (.int .i64 (-1))))] false) .ret) .skip)) (.seq (.seq (.region [ZM 17 0,ZM 18 1,ZO 19 (.bin .gtr (.t 17) (.t 18))] false) (.cond (.t 19) (.seq (.region [ZO 4 (.mv (.c (.int .i64 1)))] false) .ret) .skip)) (.seq (.region [ZO 4 (.mv (.c (.int .i64 0)))] false) .ret))))))))
def c_cmp_isNaN_string:VC:=(.seq (.region [ZO 2 (.mv (.c (.bool false)))] false) (.seq (.region [ZM 3 0,ZM 4 0,ZO 5 (.bin .neq (.t 3) (.t 4)),ZM 2 5] false) .ret))
def c_cmp_Compare_int:VC:=(.seq (.region [ZO 4 (.mv (.c (.int .i64 0)))] false) (.seq (.region [ZM 7 0,ZO 8 (.call 49 [(.t 7)]),ZM 5 8] false) (.seq (.region [ZM 9 1,ZO 10 (.call 49 [(.t 9)]),ZM 6 10] false) (.seq (.seq (.region [ZM 11 5] false) (.cond (.t 11) (.seq (.seq (.region [ZM 12 6] false) (.cond (.t 12) (.seq (.region [ZO 4 (.mv (.c (.int .i64 0)))] false) .ret) .skip)) (.seq (.region [ZO 4 (.mv (.c (.int .i64 (-1))))] false) .ret)) .skip)) (.seq (.seq (.region [ZM 13 6] false) (.cond (.t 13) (.seq (.region [ZO 4 (.mv (.c (.int .i64 1)))] false) .ret) .skip)) (.seq (.seq (.region [ZM 14 0,ZM 15 1,ZO 16 (.bin .lss (.t 14) (.t 15))] false) (.cond (.t 16) (.seq (.region [ZO 4 (.mv (.c (.int .i64 (-1))))] false) .ret) .skip)) (.seq (.seq (.region [ZM 17 0,ZM 18 1,ZO 19 (.bin .gtr (.t 17) (.t 18))] false) (.cond (.t 19) (.seq (.region [ZO 4 (.mv (.c (.int .i64 1)))] false) .ret) .skip)) (.seq (.region [ZO 4 (.mv (.c (.int .i64 0)))] false) .ret))))))))
def c_cmp_isNaN_int:VC:=(.seq (.region [ZO 2 (.mv (.c (.bool false)))] false) (.seq (.region [ZM 3 0,ZM 4 0,ZO 5 (.bin .neq (.t 3) (.t 4)),ZM 2 5] false) .ret))
theorem closed_ss (a b:Str):Closed (.tup [.str a,.str b]):=closed_tup (by simp only [List.mem_cons,List.not_mem_nil,or_false,forall_eq_or_imp,forall_eq]; exact ⟨cS _,cS _⟩)
theorem closed_sb (a:Str) (b:Bool):Closed (.tup [.str a,.bool b]):=closed_tup (by simp only [List.mem_cons,List.not_mem_nil,or_false,forall_eq_or_imp,forall_eq]; exact ⟨cS _,cB _⟩)
theorem sp_label_parted (s:Str) (hl:s.length ≤ 1000000):Za8 Tryd.prog 28 [.str s] (.tup [.str (dgs s),.str (caps s)]):=by
  have hdl:=dgs_le s
  have hcl:=caps_len' s
  have A:=sp_IndexFunc s
  refine Zaj ?_ (closed_ss _ _) (by simp only [Zat,List.mem_cons,List.not_mem_nil,or_false,forall_eq_or_imp,forall_eq,false_implies,implies_true]; repeat' (first  | exact cS _ | refine And.intro ?_ ?_))
  refine Zar (vc:=c_label_parted) (ts:=[.t 2,.t 3]) Go.Proofs.Tryd.func28 (by kernel_rfl) rfl rfl (Nat.le_of_ble_eq_true rfl) (by kernel_rfl) ?_
  unfold c_label_parted
  try dsimp only [ZM,ZO,ZN,ZG]
  refine Zac (Zaa [0] ?_)
  simp only [Zab,Zad,Zaf,pok,pval,VA.ev,Env.get,Env.put,Env.keep,Za1,Zae,Heap.nil,ite_true,ite_false,true_and,reduceCtorEq]
  refine Zac (Zaa [0,4] ?_)
  simp only [Zab,Zad,Zaf,pok,pval,VA.ev,Env.get,Env.put,Env.keep,Zae,Nat.succ_ne_self,List.map,Nat.reduceEqDiff,ite_true,ite_false,true_and,reduceCtorEq]
  refine Zah A ?_
  skip
  refine Zac ?_
  rcases Nat.lt_or_ge (dgs s).length s.length with c | c
  · rw [if_pos c]
    refine Zac (Zaa [0,4,8] ?_)
    simp only [Zab,Zad,Zaf,pok,pval,VA.ev,Env.get,Env.put,Env.keep,Zae,intV,binV,Zan,Nat.reduceEqDiff,ite_true,ite_false,true_and,reduceCtorEq]
    refine Zai rfl (fun h1=>by simp at h1; omega) (fun h1=>?_)
    refine Zak ?_
    try simp only [Zae]
    refine Zac (VW_drawS [2,3] (by simp [Heap.le,Heap.get,HL.le,HL.get]) ?_)
    simp only [DrawW_nil,DrawW_n,QW,dok,dval,VOp.pure,VOp.simple,VOp.det,pok,pval,VA.ev,Env.get,Env.put,Env.keep,Zae,gd,numOf,loV,hiV,lenV,boundOk,sliceV,sliceOk,Nat.le_refl,Nat.succ_ne_self,List.drop_zero,Option.map,Nat.reduceEqDiff,ite_true,ite_false,true_and,and_true,implies_true,forall_const,reduceCtorEq,Int.toNat_natCast,Nat.sub_zero]
    repeat (with_reducible refine And.intro ?_ ?_; first | omega | (with_reducible constructor <;> omega) | exact False.elim | exact True.intro)
    refine Zal ?_
    try simp only [Env.get,retQ,resV,Zas,RS.ev,RS.ok,Nat.succ_ne_self,List.map,Nat.reduceEqDiff,ite_true,ite_false,true_and,and_true]
    have e2:List.take (s.length - (dgs s).length) (List.drop (dgs s).length s) = caps s:=by
      rw [caps_drop,List.take_of_length_le (by simp)]
    rw [← dgs_take,e2]
    exact View.refl _ _
  · rw [if_neg (by omega)]
    have e0:caps s = []:=List.eq_nil_of_length_eq_zero (by omega)
    have e1:dgs s = s:=by have:=dgs_caps s; rw [e0,List.append_nil] at this; exact this
    refine Zac (Zaa [0,4,8] ?_)
    simp only [Zab,Zad,Zaf,pok,pval,VA.ev,Env.get,Env.put,Env.keep,Zae,intV,binV,Zan,Nat.reduceEqDiff,ite_true,ite_false,true_and,reduceCtorEq]
    refine Zai rfl (fun h1=>?_) (fun h1=>by simp at h1)
    refine Zac (Zaa [2,3] ?_)
    simp only [Zab,Zad,Zaf,pok,pval,VA.ev,Env.get,Env.put,Env.keep,Zae,Nat.succ_ne_self,Nat.reduceEqDiff,ite_true,ite_false,true_and,reduceCtorEq]
    refine Zal ?_
    try simp only [Env.get,Zae,retQ,resV,Zas,RS.ev,RS.ok,Nat.succ_ne_self,List.map,Nat.reduceEqDiff,ite_true,ite_false,true_and,and_true]
    rw [e0,e1]
    exact View.refl _ _
theorem Zbd (s:Str) (hl:s.length ≤ 1000000):Za8 Tryd.prog 13 [.str s] (.bool (may s)):=by
  have hdl:=dgs_le s
  have hcl:=caps_len' s
  refine Zaj ?_ (cB _) (by simp only [Zat,List.mem_cons,List.not_mem_nil,or_false,forall_eq_or_imp,forall_eq,false_implies,implies_true]; repeat' (first  | exact cS _ | exact cB _ | refine And.intro ?_ ?_))
  refine Zar (vc:=c_label_Valid) (ts:=[.t 2]) Go.Proofs.Tryd.func13 (by kernel_rfl) rfl rfl (Nat.le_of_ble_eq_true rfl) (by kernel_rfl) ?_
  unfold c_label_Valid
  try dsimp only [ZM,ZO,ZN,ZG]
  refine Zac (Zaa [0] ?_)
  simp only [Zab,Zad,Zaf,pok,pval,VA.ev,Env.get,Env.put,Env.keep,Za1,Zae,Heap.nil,ite_true,ite_false,true_and,reduceCtorEq]
  refine Zac (Zaa [3,4] ?_)
  simp only [Zab,Zad,Zaf,pok,pval,VA.ev,Env.get,Env.put,Env.keep,Zae,extV,extOk,PV.nth,Nat.succ_ne_self,List.map,Nat.reduceEqDiff,ite_true,ite_false,true_and,reduceCtorEq]
  refine Zah (sp_label_parted s hl) ?_
  try simp only [List.length,List.getD_cons_zero,List.getD_cons_succ,Nat.reduceAdd,Nat.reduceLT,true_and,Nat.zero_add]
  refine Zac (Zaa [3,4,5] ?_)
  simp only [Zab,Zad,Zaf,pok,pval,VA.ev,Env.get,Env.put,Env.keep,Zae,Nat.succ_ne_self,Nat.reduceEqDiff,ite_true,ite_false,true_and]
  have A:=sp_ContainsFunc (caps s)
  have fin:∀ b,b = may s → View ⟨[],0⟩ (PV.bool b) (.bool (may s)):=fun b e=>by rw [e]; exact View.refl _ _
  refine Zac (Zaa [2] ?_)
  by_cases c1:(dgs s).length < 1
  · have e1:decide ((1:Int) ≤ ((dgs s).length:Int)) = false:=by simp only [decide_eq_false_iff_not]; omega
    simp only [Zab,Zad,OpsW_xt,Zaf,pok,pval,VA.ev,Env.get,Env.put,Env.keep,Zae,Za4,isBool,intV,binV,Zan,lenV,lenOk,Nat.succ_ne_self,Nat.reduceEqDiff,Bool.false_eq_true,ite_true,ite_false,true_and,e1]
    refine Zal ?_
    try simp only [Env.get,retQ,resV,Zas,RS.ev,RS.ok,ite_true,true_and,and_true]
    refine fin _ ?_
    unfold may; rw [decide_eq_false (show ¬ 1 ≤ (dgs s).length by omega)]; rfl
  have e1:decide ((1:Int) ≤ ((dgs s).length:Int)) = true:=by simp only [decide_eq_true_eq]; omega
  by_cases c2:(dgs s).length > 4
  · have e2:decide (((dgs s).length:Int) ≤ 4) = false:=by simp only [decide_eq_false_iff_not]; omega
    simp only [Zab,Zad,Zbc,OpsW_xt,Zaf,pok,pval,VA.ev,Env.get,Env.put,Env.keep,Zae,Za4,isBool,intV,binV,Zan,lenV,lenOk,Nat.succ_ne_self,Nat.reduceEqDiff,Bool.false_eq_true,ite_true,ite_false,true_and,e1,e2]
    refine Zal ?_
    try simp only [Env.get,retQ,resV,Zas,RS.ev,RS.ok,ite_true,true_and,and_true]
    refine fin _ ?_
    unfold may; rw [decide_eq_false (show ¬ (dgs s).length ≤ 4 by omega),Bool.and_false]; rfl
  have e2:decide (((dgs s).length:Int) ≤ 4) = true:=by simp only [decide_eq_true_eq]; omega
  have hne:s ≠ []:=by intro e; subst e; exact c1 (by simp [dgs])
  have hh:=head_getD hne
  have hp:0 < s.length:=by cases s with | nil=>exact absurd rfl hne | cons=>simp
  have hd0:(dgs s).getD 0 0 = s.getD 0 0:=by
    rw [dgs_take,List.getD_eq_getElem?_getD,List.getElem?_take,if_pos (by omega),← List.getD_eq_getElem?_getD]
  by_cases c3:(s.getD 0 0).toNat = 48
  · have e3:(((s.getD 0 0).toNat:Int) != 48) = false:=by rw [bne_eq_false_iff_eq]; omega
    simp only [Zab,Zad,Zbc,OpsW_xt,Zaf,pok,pval,VA.ev,Env.get,Env.put,Env.keep,Zae,Za4,isBool,intV,binV,Zan,isInt,numOf,lenV,idxV,idxOk,lenOk,Nat.succ_ne_self,Nat.reduceEqDiff,Bool.false_eq_true,ite_true,ite_false,true_and,and_true,e1,e2,e3,Int.toNat_zero,hd0]
    repeat (with_reducible refine And.intro ?_ ?_; first | omega | (with_reducible constructor <;> omega) | exact False.elim | exact True.intro)
    refine Zal ?_
    try simp only [Env.get,retQ,resV,Zas,RS.ev,RS.ok,ite_true,true_and,and_true]
    refine fin _ ?_
    rw [decide_eq_true c3] at hh
    unfold may; rw [hh]; simp
  have e3:(((s.getD 0 0).toNat:Int) != 48) = true:=by rw [bne_iff_ne]; omega
  rw [decide_eq_false c3] at hh
  by_cases c4:(caps s).length ≤ 3
  · have e4:decide (((caps s).length:Int) ≤ 3) = true:=by simp only [decide_eq_true_eq]; omega
    simp only [Zab,Zad,Zbc,Zaf,pok,pval,VA.ev,Env.get,Env.put,Env.keep,Zae,Za4,isBool,intV,binV,Zan,unV,unOk,isInt,numOf,lenV,idxV,idxOk,lenOk,Nat.succ_ne_self,List.map,Nat.reduceEqDiff,ite_true,ite_false,true_and,and_true,e1,e2,e3,e4,Int.toNat_zero,hd0]
    repeat (with_reducible refine And.intro ?_ ?_; first | omega | (with_reducible constructor <;> omega) | exact False.elim | exact True.intro)
    refine Zah A ?_
    try simp only [true_and]
    refine Zal ?_
    try simp only [Env.get,retQ,resV,Zas,RS.ev,RS.ok,ite_true,true_and,and_true]
    refine fin _ ?_
    unfold may; rw [hh,decide_eq_true (show 1 ≤ (dgs s).length by omega),decide_eq_true (show (dgs s).length ≤ 4 by omega),decide_eq_true c4]; simp
  · have e4:decide (((caps s).length:Int) ≤ 3) = false:=by simp only [decide_eq_false_iff_not]; omega
    simp only [Zab,Zad,Zbc,OpsW_xt,Zaf,pok,pval,VA.ev,Env.get,Env.put,Env.keep,Zae,Za4,isBool,intV,binV,Zan,isInt,numOf,lenV,idxV,idxOk,lenOk,Nat.succ_ne_self,Nat.reduceEqDiff,Bool.false_eq_true,ite_true,ite_false,true_and,and_true,e1,e2,e3,e4,Int.toNat_zero,hd0]
    repeat (with_reducible refine And.intro ?_ ?_; first | omega | (with_reducible constructor <;> omega) | exact False.elim | exact True.intro)
    refine Zal ?_
    try simp only [Env.get,retQ,resV,Zas,RS.ev,RS.ok,ite_true,true_and,and_true]
    refine fin _ ?_
    unfold may; rw [decide_eq_false c4]; simp
theorem sp_label_Split (s:Str) (hl:s.length ≤ 1000000):Za8 Tryd.prog 11 [.str s] (.tup [pI (splitN s),.str (splitC s)]):=by
  refine Zaj ?_ (closed_is _ _) (by simp only [Zat,List.mem_cons,List.not_mem_nil,or_false,forall_eq_or_imp,forall_eq,false_implies,implies_true]; repeat' (first  | exact cI _ | exact cS _ | exact Zbb (by simp only [List.mem_cons,List.not_mem_nil,or_false,forall_eq]; first | exact cI _ | exact cS _ | exact Za5 _) | refine And.intro ?_ ?_))
  refine Zar (vc:=c_label_Split) (ts:=[.t 2,.t 3]) Go.Proofs.Tryd.func11 (by kernel_rfl) rfl rfl (Nat.le_of_ble_eq_true rfl) (by kernel_rfl) ?_
  unfold c_label_Split
  try dsimp only [ZM,ZO,ZN,ZG]
  refine Zac (Zaa [0] ?_)
  simp only [Zab,Zad,Zaf,pok,pval,VA.ev,Env.get,Env.put,Env.keep,Za1,Zae,Heap.nil,ite_true,ite_false,true_and,reduceCtorEq]
  refine Zac ?_
  refine Zac (Zaa [0,10] ?_)
  simp only [Zab,Zad,Zaf,pok,pval,VA.ev,Env.get,Env.put,Env.keep,Zae,unV,unOk,List.map,Nat.reduceEqDiff,ite_true,ite_false,true_and,reduceCtorEq]
  refine Zah (Zbd s hl) ?_
  try simp only [true_and]
  refine Zai rfl (fun h1=>?_) (fun h1=>?_)
  · refine Zac (Zaa [2,3] ?_)
    simp only [Zab,Zad,Zaf,pok,pval,VA.ev,Env.get,Env.put,Env.keep,Zae,Nat.succ_ne_self,Nat.reduceEqDiff,ite_true,ite_false,true_and,reduceCtorEq]
    refine Zal ?_
    try simp only [Env.get,Zae,retQ,resV,Zas,RS.ev,RS.ok,Nat.succ_ne_self,List.map,Nat.reduceEqDiff,ite_true,ite_false,true_and,and_true]
    have e:may s = false:=by cases h:may s; rfl; rw [h] at h1; cases h1
    simp only [splitN,splitC,e,Bool.false_eq_true,if_false]
    exact View.refl _ _
  have hm:may s = true:=by cases h:may s; rw [h] at h1; cases h1; rfl
  obtain ⟨m1,m2,_⟩:=may_iff.1 hm
  refine Zak ?_
  try simp only [Zae]
  refine Zac (Zaa [4,5] ?_)
  simp only [Zab,Zad,Zaf,pok,pval,VA.ev,Env.get,Env.put,Env.keep,Zae,extV,extOk,PV.nth,Nat.succ_ne_self,List.map,Nat.reduceEqDiff,ite_true,ite_false,true_and,reduceCtorEq]
  refine Zah (sp_label_parted s hl) ?_
  try simp only [List.length,List.getD_cons_zero,List.getD_cons_succ,Nat.reduceAdd,Nat.reduceLT,true_and,Nat.zero_add]
  refine Zac (Zaa [5,6] ?_)
  simp only [Zab,Zad,Zaf,pok,pval,VA.ev,Env.get,Env.put,Env.keep,Zae,extV,extOk,PV.nth,Nat.succ_ne_self,List.map,Nat.reduceEqDiff,ite_true,ite_false,true_and]
  refine Zah (sp_Atoi (dgs s) (dgs_all s) (by intro e; rw [e] at m1; simp at m1) (by omega)) ?_
  try simp only [List.length,List.getD_cons_zero,Nat.reduceAdd,Nat.reduceLT,true_and,Nat.zero_add]
  refine Zac (Zaa [2,3] ?_)
  simp only [Zab,Zad,Zaf,pok,pval,VA.ev,Env.get,Env.put,Env.keep,Zae,Nat.succ_ne_self,Nat.reduceEqDiff,ite_true,ite_false,true_and]
  refine Zal ?_
  try simp only [Env.get,retQ,resV,Zas,RS.ev,RS.ok,Nat.succ_ne_self,List.map,Nat.reduceEqDiff,ite_true,ite_false,true_and,and_true]
  simp only [splitN,splitC,hm,if_true,num]
  exact View.refl _ _
theorem sp_cmp_isNaN_int (x:Int):Za8 Tryd.prog 49 [pI x] (.bool false):=by
  refine Zaj ?_ (cB _) (by simp only [Zat,List.mem_cons,List.not_mem_nil,or_false,forall_eq_or_imp,forall_eq,false_implies,implies_true]; repeat' (first  | exact cI _ | exact cB _ | exact Zbb (by simp only [List.mem_cons,List.not_mem_nil,or_false,forall_eq]; first | exact cI _ | exact cS _ | exact Za5 _) | refine And.intro ?_ ?_))
  refine Zar (vc:=c_cmp_isNaN_int) (ts:=[.t 2]) Go.Proofs.Tryd.func49 (by kernel_rfl) rfl rfl (Nat.le_of_ble_eq_true rfl) (by kernel_rfl) ?_
  unfold c_cmp_isNaN_int
  try dsimp only [ZM,ZO,ZN,ZG]
  refine Zac (Zaa [0] ?_)
  simp only [Zab,Zad,Zaf,pok,pval,VA.ev,Env.get,Env.put,Env.keep,Za1,Zae,Heap.nil,ite_true,ite_false,true_and,reduceCtorEq]
  refine Zac (Zaa [2] ?_)
  simp only [Zab,Zad,Zaf,pok,pval,VA.ev,Env.get,Env.put,Env.keep,Zae,intV,binV,Zan,Nat.succ_ne_self,Nat.reduceEqDiff,ite_true,ite_false,true_and,reduceCtorEq]
  refine Zal ?_
  try simp only [Env.get,retQ,resV,Zas,RS.ev,RS.ok,ite_true,true_and,and_true]
  simp only [bne_self_eq_false]
  exact View.refl _ _
theorem sp_cmp_isNaN_string (x:Str):Za8 Tryd.prog 48 [.str x] (.bool false):=by
  refine Zaj ?_ (cB _) (by simp only [Zat,List.mem_cons,List.not_mem_nil,or_false,forall_eq_or_imp,forall_eq,false_implies,implies_true]; repeat' (first  | exact cS _ | exact cB _ | refine And.intro ?_ ?_))
  refine Zar (vc:=c_cmp_isNaN_string) (ts:=[.t 2]) Go.Proofs.Tryd.func48 (by kernel_rfl) rfl rfl (Nat.le_of_ble_eq_true rfl) (by kernel_rfl) ?_
  unfold c_cmp_isNaN_string
  try dsimp only [ZM,ZO,ZN,ZG]
  refine Zac (Zaa [0] ?_)
  simp only [Zab,Zad,Zaf,pok,pval,VA.ev,Env.get,Env.put,Env.keep,Za1,Zae,Heap.nil,ite_true,ite_false,true_and,reduceCtorEq]
  refine Zac (Zaa [2] ?_)
  simp only [Zab,Zad,Zaf,pok,pval,VA.ev,Env.get,Env.put,Env.keep,Zae,binV,Zan,strV,Nat.succ_ne_self,Nat.reduceEqDiff,ite_true,ite_false,true_and,reduceCtorEq]
  refine Zal ?_
  try simp only [Env.get,retQ,resV,Zas,RS.ev,RS.ok,ite_true,true_and,and_true]
  simp only [bne_self_eq_false]
  exact View.refl _ _
theorem sp_cmp_Compare_int (x y:Int):Za8 Tryd.prog 35 [pI x,pI y] (pI (cmpN x y)):=by
  refine Zaj ?_ (cI _) (by simp only [Zat,List.mem_cons,List.not_mem_nil,or_false,forall_eq_or_imp,forall_eq,false_implies,implies_true]; repeat' (first  | exact cI _ | exact Zbb (by simp only [List.mem_cons,List.not_mem_nil,or_false,forall_eq]; first | exact cI _ | exact cS _ | exact Za5 _) | refine And.intro ?_ ?_))
  refine Zar (vc:=c_cmp_Compare_int) (ts:=[.t 4]) Go.Proofs.Tryd.func35 (by kernel_rfl) rfl rfl (Nat.le_of_ble_eq_true rfl) (by kernel_rfl) ?_
  unfold c_cmp_Compare_int
  try dsimp only [ZM,ZO,ZN,ZG]
  refine Zac (Zaa [0,1] ?_)
  simp only [Zab,Zad,Zaf,pok,pval,VA.ev,Env.get,Env.put,Env.keep,Za1,Zae,Heap.nil,Nat.succ_ne_self,Nat.reduceEqDiff,ite_true,ite_false,true_and,reduceCtorEq,Nat.zero_add]
  refine Zac (Zaa [0,1,5] ?_)
  simp only [Zab,Zad,Zaf,pok,pval,VA.ev,Env.get,Env.put,Env.keep,Zae,Nat.succ_ne_self,List.map,Nat.reduceEqDiff,ite_true,ite_false,true_and,reduceCtorEq]
  refine Zah (sp_cmp_isNaN_int ..) ?_
  skip
  refine Zac (Zaa [0,1,5,6] ?_)
  simp only [Zab,Zad,Zaf,pok,pval,VA.ev,Env.get,Env.put,Env.keep,Zae,Nat.succ_ne_self,List.map,Nat.reduceEqDiff,ite_true,ite_false,true_and,reduceCtorEq]
  refine Zah (sp_cmp_isNaN_int ..) ?_
  skip
  refine Zac ?_
  refine Zac (Zaa [0,1,6,11] ?_)
  simp only [Zab,Zad,Zaf,pok,pval,VA.ev,Env.get,Env.put,Env.keep,Zae,Nat.succ_ne_self,Nat.reduceEqDiff,ite_true,ite_false,true_and,reduceCtorEq]
  refine Zai rfl (fun h1=>by cases h1) (fun h1=>?_)
  refine Zak ?_
  try simp only [Zae]
  refine Zac ?_
  refine Zac (Zaa [0,1,13] ?_)
  simp only [Zab,Zad,Zaf,pok,pval,VA.ev,Env.get,Env.put,Env.keep,Zae,Nat.succ_ne_self,Nat.reduceEqDiff,ite_true,ite_false,true_and,reduceCtorEq]
  refine Zai rfl (fun h1=>by cases h1) (fun h1=>?_)
  refine Zak ?_
  try simp only [Zae]
  refine Zac ?_
  refine Zac (Zaa [0,1,16] ?_)
  simp only [Zab,Zad,Zaf,pok,pval,VA.ev,Env.get,Env.put,Env.keep,Zae,intV,binV,Zan,Nat.succ_ne_self,Nat.reduceEqDiff,ite_true,ite_false,true_and,reduceCtorEq]
  refine Zai rfl (fun h4=>?_) (fun h4=>?_)
  · refine Zac (Zaa [4] ?_)
    simp only [Zab,Zad,Zaf,pok,pval,VA.ev,Env.get,Env.put,Env.keep,Zae,Nat.reduceEqDiff,ite_true,ite_false,true_and,reduceCtorEq]
    refine Zal ?_
    try simp only [Env.get,Zae,retQ,resV,Zas,RS.ev,RS.ok,ite_true,true_and,and_true]
    have e:cmpN x y = -1:=by unfold cmpN; rw [if_pos (by simpa using h4)]
    rw [e]; exact View.refl _ _
  refine Zak ?_
  try simp only [Zae]
  refine Zac ?_
  refine Zac (Zaa [19] ?_)
  simp only [Zab,Zad,Zaf,pok,pval,VA.ev,Env.get,Env.put,Env.keep,Zae,intV,binV,Zan,Nat.succ_ne_self,Nat.reduceEqDiff,ite_true,ite_false,true_and,reduceCtorEq]
  refine Zai rfl (fun h5=>?_) (fun h5=>?_)
  · refine Zac (Zaa [4] ?_)
    simp only [Zab,Zad,Zaf,pok,pval,VA.ev,Env.get,Env.put,Env.keep,Zae,Nat.reduceEqDiff,ite_true,ite_false,true_and]
    refine Zal ?_
    try simp only [Env.get,Zae,retQ,resV,Zas,RS.ev,RS.ok,ite_true,true_and,and_true]
    have e:cmpN x y = 1:=by simp only [decide_eq_true_eq,decide_eq_false_iff_not] at h4 h5; unfold cmpN; rw [if_neg (by omega),if_neg (by omega)]
    rw [e]; exact View.refl _ _
  refine Zak ?_
  try simp only [Zae]
  refine Zac (Zaa [4] ?_)
  simp only [Zab,Zad,Zaf,pok,pval,VA.ev,Env.get,Env.put,Env.keep,Zae,Nat.reduceEqDiff,ite_true,ite_false,true_and]
  refine Zal ?_
  try simp only [Env.get,retQ,resV,Zas,RS.ev,RS.ok,ite_true,true_and,and_true]
  have e:cmpN x y = 0:=by simp only [decide_eq_false_iff_not] at h4 h5; unfold cmpN; rw [if_neg (by omega),if_pos (by omega)]
  rw [e]; exact View.refl _ _
theorem sp_cmp_Compare_string (x y:Str):Za8 Tryd.prog 33 [.str x,.str y] (pI (cmpS x y)):=by
  refine Zaj ?_ (cI _) (by simp only [Zat,List.mem_cons,List.not_mem_nil,or_false,forall_eq_or_imp,forall_eq,false_implies,implies_true]; repeat' (first  | exact cI _ | exact cS _ | exact Zbb (by simp only [List.mem_cons,List.not_mem_nil,or_false,forall_eq]; first | exact cI _ | exact cS _ | exact Za5 _) | refine And.intro ?_ ?_))
  refine Zar (vc:=c_cmp_Compare_string) (ts:=[.t 4]) Go.Proofs.Tryd.func33 (by kernel_rfl) rfl rfl (Nat.le_of_ble_eq_true rfl) (by kernel_rfl) ?_
  unfold c_cmp_Compare_string
  try dsimp only [ZM,ZO,ZN,ZG]
  refine Zac (Zaa [0,1] ?_)
  simp only [Zab,Zad,Zaf,pok,pval,VA.ev,Env.get,Env.put,Env.keep,Za1,Zae,Heap.nil,Nat.succ_ne_self,Nat.reduceEqDiff,ite_true,ite_false,true_and,reduceCtorEq,Nat.zero_add]
  refine Zac (Zaa [0,1,5] ?_)
  simp only [Zab,Zad,Zaf,pok,pval,VA.ev,Env.get,Env.put,Env.keep,Zae,Nat.succ_ne_self,List.map,Nat.reduceEqDiff,ite_true,ite_false,true_and,reduceCtorEq]
  refine Zah (sp_cmp_isNaN_string ..) ?_
  skip
  refine Zac (Zaa [0,1,5,6] ?_)
  simp only [Zab,Zad,Zaf,pok,pval,VA.ev,Env.get,Env.put,Env.keep,Zae,Nat.succ_ne_self,List.map,Nat.reduceEqDiff,ite_true,ite_false,true_and,reduceCtorEq]
  refine Zah (sp_cmp_isNaN_string ..) ?_
  skip
  refine Zac ?_
  refine Zac (Zaa [0,1,6,11] ?_)
  simp only [Zab,Zad,Zaf,pok,pval,VA.ev,Env.get,Env.put,Env.keep,Zae,Nat.succ_ne_self,Nat.reduceEqDiff,ite_true,ite_false,true_and,reduceCtorEq]
  refine Zai rfl (fun h1=>by cases h1) (fun h1=>?_)
  refine Zak ?_
  try simp only [Zae]
  refine Zac ?_
  refine Zac (Zaa [0,1,13] ?_)
  simp only [Zab,Zad,Zaf,pok,pval,VA.ev,Env.get,Env.put,Env.keep,Zae,Nat.succ_ne_self,Nat.reduceEqDiff,ite_true,ite_false,true_and,reduceCtorEq]
  refine Zai rfl (fun h1=>by cases h1) (fun h1=>?_)
  refine Zak ?_
  try simp only [Zae]
  refine Zac ?_
  refine Zac (Zaa [0,1,16] ?_)
  simp only [Zab,Zad,Zaf,pok,pval,VA.ev,Env.get,Env.put,Env.keep,Zae,binV,Zan,strV,Nat.succ_ne_self,Nat.reduceEqDiff,ite_true,ite_false,true_and,reduceCtorEq,bytesLess_eq]
  refine Zai rfl (fun h4=>?_) (fun h4=>?_)
  · refine Zac (Zaa [4] ?_)
    simp only [Zab,Zad,Zaf,pok,pval,VA.ev,Env.get,Env.put,Env.keep,Zae,Nat.reduceEqDiff,ite_true,ite_false,true_and,reduceCtorEq]
    refine Zal ?_
    try simp only [Env.get,Zae,retQ,resV,Zas,RS.ev,RS.ok,ite_true,true_and,and_true]
    have e:cmpS x y = -1:=by unfold cmpS; rw [if_pos (by simpa using h4)]
    rw [e]; exact View.refl _ _
  refine Zak ?_
  try simp only [Zae]
  refine Zac ?_
  refine Zac (Zaa [19] ?_)
  simp only [Zab,Zad,Zaf,pok,pval,VA.ev,Env.get,Env.put,Env.keep,Zae,binV,Zan,strV,Nat.succ_ne_self,Nat.reduceEqDiff,ite_true,ite_false,true_and,reduceCtorEq,bytesLess_eq]
  have h4':¬ x < y:=of_decide_eq_false h4
  refine Zai rfl (fun h5=>?_) (fun h5=>?_)
  · refine Zac (Zaa [4] ?_)
    simp only [Zab,Zad,Zaf,pok,pval,VA.ev,Env.get,Env.put,Env.keep,Zae,Nat.reduceEqDiff,ite_true,ite_false,true_and]
    refine Zal ?_
    try simp only [Env.get,Zae,retQ,resV,Zas,RS.ev,RS.ok,ite_true,true_and,and_true]
    have e:cmpS x y = 1:=by
      unfold cmpS; rw [if_neg h4',if_neg]
      intro e; subst e; simp at h5
    rw [e]; exact View.refl _ _
  refine Zak ?_
  try simp only [Zae]
  refine Zac (Zaa [4] ?_)
  simp only [Zab,Zad,Zaf,pok,pval,VA.ev,Env.get,Env.put,Env.keep,Zae,Nat.reduceEqDiff,ite_true,ite_false,true_and]
  refine Zal ?_
  try simp only [Env.get,retQ,resV,Zas,RS.ev,RS.ok,ite_true,true_and,and_true]
  have e:cmpS x y = 0:=by
    unfold cmpS; rw [if_neg h4',if_pos]
    simp [h4'] at h5; exact h5
  rw [e]; exact View.refl _ _
def orL:List Int → Int
  | []=>0
  | a :: r=>if a = 0 then orL r else a
theorem orL_at:∀ (l:List Int) (k:Nat),(∀ (j:Nat) (hj:j < l.length),j < k → l[j] = 0) → ∀ (hk:k < l.length),l[k] ≠ 0 → orL l = l[k]
  | [],k,_,hk,_=>by simp at hk
  | a :: r,0,_,_,h=>by simp only [List.getElem_cons_zero] at h ⊢; simp [orL,h]
  | a :: r,k + 1,h1,hk,h=>by
    have h0:a = 0:=h1 0 (by simp) (by omega)
    simp only [List.getElem_cons_succ] at h ⊢
    simp only [orL,h0,if_true]
    exact orL_at r k (fun j hj hjk=>h1 (j + 1) (by simpa using hj) (by omega)) (by simpa using hk) h
theorem orL_zero:∀ (l:List Int),(∀ (j:Nat) (hj:j < l.length),l[j] = 0) → orL l = 0
  | [],_=>rfl
  | a :: r,h=>by
    have h0:a = 0:=h 0 (by simp)
    simp only [orL,h0,if_true]
    exact orL_zero r (fun j hj=>h (j + 1) (by simpa using hj))
theorem sp_cmp_Or_int (l:List Int) (hl:l.length ≤ 1000000):Za8 Tryd.prog 34 [.sl 1 (l.map fun x=>[pI x])] (pI (orL l)):=by
  refine Zaj ?_ (cI _) (by simp only [Zat,List.mem_cons,List.not_mem_nil,or_false,forall_eq_or_imp,forall_eq,false_implies,implies_true]; repeat' (first  | exact cI _ | exact closed_sc _ | exact Zbb (by simp only [List.mem_cons,List.not_mem_nil,or_false,forall_eq]; first | exact cI _ | exact cS _ | exact Za5 _) | refine And.intro ?_ ?_))
  refine Zar (vc:=c_cmp_Or_int) (ts:=[.t 2]) Go.Proofs.Tryd.func34 (by kernel_rfl) rfl rfl (Nat.le_of_ble_eq_true rfl) (by kernel_rfl) ?_
  unfold c_cmp_Or_int
  try dsimp only [ZM,ZO,ZN,ZG]
  refine Zac (Zaa [0] ?_)
  simp only [Zab,Zad,Zaf,pok,pval,VA.ev,Env.get,Env.put,Env.keep,Za1,Zae,Heap.nil,ite_true,ite_false,true_and,reduceCtorEq]
  refine Zac (Zaa [0,3] ?_)
  simp only [Zab,Zad,Zaf,pok,pval,VA.ev,Env.get,Env.put,Env.keep,Zae,ite_true,ite_false,true_and,reduceCtorEq]
  refine Zac ?_
  refine Zac (Zaa [3,6,7,8] ?_)
  simp only [Zab,Zad,Zaf,pok,pval,VA.ev,Env.get,Env.put,Env.keep,Zae,lenV,lenOk,Nat.succ_ne_self,Nat.reduceEqDiff,ite_true,ite_false,true_and,reduceCtorEq,List.length_map]
  refine Za0 ?_
  refine VW_loop (σ:={ k:Nat // k ≤ l.length ∧ ∀ (j:Nat) (hj:j < l.length),j < k → l[j] = 0 }) (fun x=>([(3,pI 0),(6,.sl 1 (l.map fun x=>[pI x])),(7,pI l.length),(8,pI x.1)],⟨[],0⟩)) (fun x=>l.length - x.1) ⟨0,Nat.zero_le _,fun j _ h=>by cases h⟩ ?_ ?_ ?_
  · simp only [Env.get,Nat.succ_ne_self,Env.le,Nat.reduceEqDiff,ite_true,ite_false,true_and,and_true]
    rfl
  · simp only [Heap.le,HL.le,Nat.le_refl,and_true]
  rintro ⟨k,hk,hpre⟩
  simp only []
  refine Zac (Zaa [3,6,7,8,9] ?_)
  simp only [Zab,Zad,Zaf,pok,pval,VA.ev,Env.get,Env.put,Env.keep,Zae,intV,binV,Zan,Heap.le,HL.le,Nat.succ_ne_self,Env.le,Nat.reduceEqDiff,ite_true,ite_false,true_and,and_true]
  refine Zac ?_
  refine Zai rfl (fun h1=>?_) (fun h1=>?_)
  · have ka:k < l.length:=by simp only [decide_eq_true_eq] at h1; omega
    refine Zak ?_
    try simp only [Zae]
    refine Zac ?_
    refine Za0 ?_
    refine Zac (Zaa [3,5,6,7,8] ?_)
    simp only [Zab,Zad,Zaf,pok,pval,VA.ev,Env.get,Env.put,Env.keep,Zae,aggV,isInt,numOf,lenV,Za3,locOk,iaddrV,iaddrOk,PV.nth,PV.row,Nat.le_refl,Nat.succ_ne_self,List.length,List.getD_cons_zero,List.take,List.take_succ_cons,Nat.reduceEqDiff,Bool.false_eq_true,ite_true,ite_false,true_and,and_true,implies_true,Nat.zero_add,List.length_cons,Int.toNat_natCast,List.length_map,rowm ka]
    repeat (with_reducible refine And.intro ?_ ?_; first | omega | (with_reducible constructor <;> omega) | exact False.elim | exact True.intro)
    refine Zac (Zaa [3,5,6,7,8,14] ?_)
    simp only [Zab,Zad,Zaf,pok,pval,VA.ev,Env.get,Env.put,Env.keep,Zae,intV,binV,Zan,Nat.succ_ne_self,Nat.reduceEqDiff,ite_true,ite_false,true_and]
    refine Zai rfl (fun h2=>?_) (fun h2=>?_)
    · refine Zac (Zaa [2] ?_)
      simp only [Zab,Zad,Zaf,pok,pval,VA.ev,Env.get,Env.put,Env.keep,Zae,Nat.succ_ne_self,Nat.reduceEqDiff,ite_true,ite_false,true_and]
      refine Zal ?_
      try simp only [Env.get,Zae,Za2,retQ,resV,Zas,RS.ev,RS.ok,ite_true,true_and,and_true]
      rw [orL_at l k hpre ka (by simpa using h2)]
      exact View.refl _ _
    refine Zak ?_
    try simp only [Zae,Za2]
    have hz:l[k] = 0:=by simpa using h2
    refine Zaa [3,6,7,8] ?_
    simp only [Zab,Zad,Zaf,pok,pval,VA.ev,Env.get,Env.put,Env.keep,Zae,intV,binV,Zan,Nat.le_refl,Nat.succ_ne_self,Nat.reduceEqDiff,ite_true,ite_false,true_and,w64 (n:=(k:Int) + 1) (by omega) (by omega)]
    refine ⟨⟨k + 1,ka,fun j hj hjk=>?_⟩,?_,?_⟩
    · by_cases e:j = k
      · subst e; exact hz
      · exact hpre j hj (by omega)
    · rfl
    · simp only []; omega
  · have ka:k = l.length:=by simp only [decide_eq_false_iff_not] at h1; omega
    refine VW_exit ?_
    try simp only [Zae,Za2,retQ,ite_true]
    refine Zac (Zaa [2] ?_)
    simp only [Zab,Zad,Zaf,pok,pval,VA.ev,Env.get,Env.put,Env.keep,Zae,Nat.succ_ne_self,Nat.reduceEqDiff,ite_true,ite_false,true_and]
    refine Zal ?_
    try simp only [Env.get,retQ,resV,Zas,RS.ev,RS.ok,ite_true,true_and,and_true]
    rw [orL_zero l (fun j hj=>hpre j hj (by omega))]
    exact View.refl _ _
theorem or_two (a b:Int):orL [a,b] = orI a b:=by
  unfold orI; simp only [orL]; split
  · split
    · rename_i h; rw [h]
    · rfl
  · rfl
theorem sp_label_Compare (a b:Str) (ha:a.length ≤ 1000000) (hb:b.length ≤ 1000000):Za8 Tryd.prog 15 [.str a,.str b] (pI (cmpL a b)):=by
  have A:=Zbd a ha
  have B:=Zbd b hb
  have SA:=sp_label_Split a ha
  have SB:=sp_label_Split b hb
  refine Zaj ?_ (cI _) (by simp only [Zat,List.mem_cons,List.not_mem_nil,or_false,forall_eq_or_imp,forall_eq,false_implies,implies_true]; repeat' (first  | exact cI _ | exact cS _ | exact Zbb (by simp only [List.mem_cons,List.not_mem_nil,or_false,forall_eq]; first | exact cI _ | exact cS _ | exact Za5 _) | refine And.intro ?_ ?_))
  refine Zar (vc:=c_label_Compare) (ts:=[.t 4]) Go.Proofs.Tryd.func15 (by kernel_rfl) rfl rfl (Nat.le_of_ble_eq_true rfl) (by kernel_rfl) ?_
  unfold c_label_Compare
  try dsimp only [ZM,ZO,ZN,ZG]
  refine Zac (Zaa [0,1] ?_)
  simp only [Zab,Zad,Zaf,pok,pval,VA.ev,Env.get,Env.put,Env.keep,Za1,Zae,Heap.nil,Nat.succ_ne_self,Nat.reduceEqDiff,ite_true,ite_false,true_and,reduceCtorEq,Nat.zero_add]
  refine Zac (Zaa [0,1,5,6] ?_)
  simp only [Zab,Zad,Zaf,pok,pval,VA.ev,Env.get,Env.put,Env.keep,Zae,Nat.succ_ne_self,List.map,Nat.reduceEqDiff,ite_true,ite_false,true_and,reduceCtorEq]
  refine Zah A ?_
  skip
  refine Zah B ?_
  skip
  refine Zac ?_
  refine Zac (Zaa [0,1,5,6,20] ?_)
  cases hma:may a <;> cases hmb:may b
  · simp only [Zab,Zad,OpsW_xf,Zaf,pok,pval,VA.ev,Env.get,Env.put,Env.keep,Zae,Za4,isBool,unV,unOk,Nat.succ_ne_self,Nat.reduceEqDiff,ite_true,ite_false,true_and,reduceCtorEq,Bool.not_false]
    refine Zai rfl (fun _=>?_) (fun h=>by cases h)
    refine Zac ?_
    refine Zac (Zaa [0,1,6,21] ?_)
    simp only [Zab,Zad,Zaf,pok,pval,VA.ev,Env.get,Env.put,Env.keep,Zae,Nat.succ_ne_self,Nat.reduceEqDiff,ite_true,ite_false,true_and,reduceCtorEq]
    refine Zai rfl (fun h=>by cases h) (fun _=>?_)
    refine Zak ?_
    try simp only [Zae]
    refine Zac ?_
    refine Zac (Zaa [0,1,22] ?_)
    simp only [Zab,Zad,Zaf,pok,pval,VA.ev,Env.get,Env.put,Env.keep,Zae,Nat.succ_ne_self,Nat.reduceEqDiff,ite_true,ite_false,true_and,reduceCtorEq]
    refine Zai rfl (fun h=>by cases h) (fun _=>?_)
    refine Zak ?_
    try simp only [Zae]
    refine Zac (Zaa [4] ?_)
    simp only [Zab,Zad,Zaf,pok,pval,VA.ev,Env.get,Env.put,Env.keep,Zae,Nat.succ_ne_self,List.map,Nat.reduceEqDiff,ite_true,ite_false,true_and,reduceCtorEq]
    refine Zah (sp_cmp_Compare_string a b) ?_
    skip
    refine Zal ?_
    try simp only [Env.get,Zae,retQ,resV,Zas,RS.ev,RS.ok,ite_true,true_and,and_true]
    have e:cmpL a b = cmpS a b:=by unfold cmpL; simp [hma,hmb]
    rw [e]; exact View.refl _ _
  · simp only [Zab,Zad,OpsW_xf,Zaf,pok,pval,VA.ev,Env.get,Env.put,Env.keep,Zae,Za4,isBool,unV,unOk,Nat.succ_ne_self,Nat.reduceEqDiff,ite_true,ite_false,true_and,reduceCtorEq,Bool.not_false]
    refine Zai rfl (fun _=>?_) (fun h=>by cases h)
    refine Zac ?_
    refine Zac (Zaa [0,1,6,21] ?_)
    simp only [Zab,Zad,Zaf,pok,pval,VA.ev,Env.get,Env.put,Env.keep,Zae,Nat.succ_ne_self,Nat.reduceEqDiff,ite_true,ite_false,true_and,reduceCtorEq]
    refine Zai rfl (fun h=>by cases h) (fun _=>?_)
    refine Zak ?_
    try simp only [Zae]
    refine Zac ?_
    refine Zac (Zaa [0,1,22] ?_)
    simp only [Zab,Zad,Zaf,pok,pval,VA.ev,Env.get,Env.put,Env.keep,Zae,Nat.succ_ne_self,Nat.reduceEqDiff,ite_true,ite_false,true_and,reduceCtorEq]
    refine Zai rfl (fun _=>?_) (fun h=>by cases h)
    refine Zac (Zaa [4] ?_)
    simp only [Zab,Zad,Zaf,pok,pval,VA.ev,Env.get,Env.put,Env.keep,Zae,Nat.reduceEqDiff,ite_true,ite_false,true_and,reduceCtorEq]
    refine Zal ?_
    try simp only [Env.get,Zae,retQ,resV,Zas,RS.ev,RS.ok,ite_true,true_and,and_true]
    have e:cmpL a b = 1:=by unfold cmpL; simp [hma,hmb]
    rw [e]; exact View.refl _ _
  · simp only [Zab,Zad,Zbc,Zaf,pok,pval,VA.ev,Env.get,Env.put,Env.keep,Zae,Za4,isBool,unV,unOk,Nat.succ_ne_self,Nat.reduceEqDiff,Bool.false_eq_true,ite_true,ite_false,true_and,reduceCtorEq,Bool.not_false,Bool.not_true]
    refine Zai rfl (fun _=>?_) (fun h=>by cases h)
    refine Zac ?_
    refine Zac (Zaa [0,1,6,21] ?_)
    simp only [Zab,Zad,Zaf,pok,pval,VA.ev,Env.get,Env.put,Env.keep,Zae,Nat.succ_ne_self,Nat.reduceEqDiff,ite_true,ite_false,true_and,reduceCtorEq]
    refine Zai rfl (fun _=>?_) (fun h=>by cases h)
    refine Zac (Zaa [4] ?_)
    simp only [Zab,Zad,Zaf,pok,pval,VA.ev,Env.get,Env.put,Env.keep,Zae,Nat.reduceEqDiff,ite_true,ite_false,true_and,reduceCtorEq]
    refine Zal ?_
    try simp only [Env.get,Zae,retQ,resV,Zas,RS.ev,RS.ok,ite_true,true_and,and_true]
    have e:cmpL a b = -1:=by unfold cmpL; simp [hma,hmb]
    rw [e]; exact View.refl _ _
  · have ena:splitN a = (num a:Int):=by simp [splitN,hma]
    have enb:splitN b = (num b:Int):=by simp [splitN,hmb]
    have eca:splitC a = caps a:=by simp [splitC,hma]
    have ecb:splitC b = caps b:=by simp [splitC,hmb]
    rw [ena,eca] at SA
    rw [enb,ecb] at SB
    simp only [Zab,Zad,Zbc,Zaf,pok,pval,VA.ev,Env.get,Env.put,Env.keep,Zae,Za4,isBool,unV,unOk,Nat.succ_ne_self,Nat.reduceEqDiff,Bool.false_eq_true,ite_true,ite_false,true_and,reduceCtorEq,Bool.not_true]
    refine Zai rfl (fun h=>by cases h) (fun _=>?_)
    refine Zak ?_
    try simp only [Zae]
    refine Zac (Zaa [1,7,8] ?_)
    simp only [Zab,Zad,Zaf,pok,pval,VA.ev,Env.get,Env.put,Env.keep,Zae,extV,extOk,PV.nth,Nat.succ_ne_self,List.map,Nat.reduceEqDiff,ite_true,ite_false,true_and,reduceCtorEq]
    refine Zah SA ?_
    try simp only [List.length,List.getD_cons_zero,List.getD_cons_succ,Nat.reduceAdd,Nat.reduceLT,true_and,Nat.zero_add]
    refine Zac (Zaa [7,8,9,10] ?_)
    simp only [Zab,Zad,Zaf,pok,pval,VA.ev,Env.get,Env.put,Env.keep,Zae,extV,extOk,PV.nth,Nat.succ_ne_self,List.map,Nat.reduceEqDiff,ite_true,ite_false,true_and]
    refine Zah SB ?_
    try simp only [List.length,List.getD_cons_zero,List.getD_cons_succ,Nat.reduceAdd,Nat.reduceLT,true_and,Nat.zero_add]
    refine Zac (Zaa [4] ?_)
    simp only [Zab,Zad,Zaf,pok,pval,VA.ev,Env.get,Env.put,Env.keep,Zae,PV.cells,PV.fits,Heap.push,Nat.succ_ne_self,Za6,Zbi,List.map,List.set,List.replicate,Nat.reduceEqDiff,Nat.reduceLT,ite_true,ite_false,true_and,and_true,BEq.rfl]
    refine Zah (sp_cmp_Compare_int ..) ?_
    try simp only [true_and]
    refine Zah (sp_cmp_Compare_string ..) ?_
    try simp only [true_and,Nat.zero_add]
    refine ACall_f [.sl 1 (List.map (fun x=>[pI x]) [cmpN (num a) (num b),cmpS (caps a) (caps b)])] ⟨View.own_all (fz:=false) rfl rfl,trivial⟩ (Zah (sp_cmp_Or_int [cmpN (num a) (num b),cmpS (caps a) (caps b)] (by simp)) ?_)
    try simp only []
    refine Zal ?_
    try simp only [Env.get,retQ,resV,Zas,RS.ev,RS.ok,ite_true,true_and,and_true]
    have e:cmpL a b = orI (cmpN (num a) (num b)) (cmpS (caps a) (caps b)):=by unfold cmpL; simp [hma,hmb]
    rw [e,or_two]; exact View.refl _ _
def optT (o:Option Str):PV:=.tup [.str (o.getD []),.bool o.isSome]
theorem closed_opt (o:Option Str):Closed (optT o):=closed_sb _ _
theorem sp_label_made (n:Nat) (c:Str) (hn:n ≤ 1000000) (hc:c.length ≤ 1000000):Za8 Tryd.prog 37 [pI n,.str c] (optT (made n c)):=by
  refine Zaj ?_ (closed_opt _) (by simp only [Zat,List.mem_cons,List.not_mem_nil,or_false,forall_eq_or_imp,forall_eq,false_implies,implies_true]; repeat' (first  | exact cI _ | exact cS _ | exact Zbb (by simp only [List.mem_cons,List.not_mem_nil,or_false,forall_eq]; first | exact cI _ | exact cS _ | exact Za5 _) | refine And.intro ?_ ?_))
  refine Zar (vc:=c_label_made) (ts:=[.t 4,.t 5]) Go.Proofs.Tryd.func37 (by kernel_rfl) rfl rfl (Nat.le_of_ble_eq_true rfl) (by kernel_rfl) ?_
  unfold c_label_made
  try dsimp only [ZM,ZO,ZN,ZG]
  refine Zac (Zaa [0,1] ?_)
  simp only [Zab,Zad,Zaf,pok,pval,VA.ev,Env.get,Env.put,Env.keep,Za1,Zae,Heap.nil,Nat.succ_ne_self,Nat.reduceEqDiff,ite_true,ite_false,true_and,reduceCtorEq,Nat.zero_add]
  refine Zac ?_
  refine Zac (Zaa [0,1,7] ?_)
  simp only [Zab,Zad,Zaf,pok,pval,VA.ev,Env.get,Env.put,Env.keep,Zae,intV,binV,Zan,Nat.succ_ne_self,Nat.reduceEqDiff,ite_true,ite_false,true_and,reduceCtorEq]
  refine Zai rfl (fun h1=>?_) (fun h1=>?_)
  · have h9:n > 9999:=by simp only [decide_eq_true_eq] at h1; omega
    refine Zac (Zaa [4,5] ?_)
    simp only [Zab,Zad,Zaf,pok,pval,VA.ev,Env.get,Env.put,Env.keep,Zae,Nat.succ_ne_self,Nat.reduceEqDiff,ite_true,ite_false,true_and,reduceCtorEq]
    refine Zal ?_
    try simp only [Env.get,Zae,retQ,resV,Zas,RS.ev,RS.ok,Nat.succ_ne_self,List.map,Nat.reduceEqDiff,ite_true,ite_false,true_and,and_true]
    have e:made n c = none:=by unfold made; rw [if_pos h9]
    rw [e]; exact View.refl _ _
  have h9:¬ n > 9999:=by simp only [decide_eq_false_iff_not] at h1; omega
  have hd:=decDigits_four (n:=n) (by omega)
  refine Zak ?_
  try simp only [Zae]
  refine Zac (Zaa [4,5] ?_)
  simp only [Zab,Zad,Zaf,pok,pval,VA.ev,Env.get,Env.put,Env.keep,Zae,intV,binV,Zan,strV,Nat.succ_ne_self,List.map,Nat.reduceEqDiff,ite_true,ite_false,true_and,reduceCtorEq]
  refine Zah (sp_Itoa n (by omega)) ?_
  try simp only []
  refine ⟨by omega,?_⟩
  refine Zal ?_
  try simp only [Env.get,retQ,resV,Zas,RS.ev,RS.ok,Nat.succ_ne_self,List.map,Nat.reduceEqDiff,ite_true,ite_false,true_and,and_true]
  have e:made n c = some (text n c):=by unfold made; rw [if_neg h9]
  rw [e]; exact View.refl _ _
theorem sp_label_up (s:Str) (hl:s.length ≤ 1000000):Za8 Tryd.prog 36 [.str s] (optT (up s)):=by
  refine Zaj ?_ (closed_opt _) (by simp only [Zat,List.mem_cons,List.not_mem_nil,or_false,forall_eq_or_imp,forall_eq,false_implies,implies_true]; repeat' (first  | exact cS _ | refine And.intro ?_ ?_))
  refine Zar (vc:=c_label_up) (ts:=[.t 2,.t 3]) Go.Proofs.Tryd.func36 (by kernel_rfl) rfl rfl (Nat.le_of_ble_eq_true rfl) (by kernel_rfl) ?_
  unfold c_label_up
  try dsimp only [ZM,ZO,ZN,ZG]
  refine Zac (Zaa [0] ?_)
  simp only [Zab,Zad,Zaf,pok,pval,VA.ev,Env.get,Env.put,Env.keep,Za1,Zae,Heap.nil,ite_true,ite_false,true_and,reduceCtorEq]
  refine VW_scope ?_
  refine Zac (Zaa [0,4] ?_)
  simp only [Zab,Zad,Zaf,pok,pval,VA.ev,Env.get,Env.put,Env.keep,Zae,intV,binV,Zan,lenV,lenOk,Nat.succ_ne_self,Nat.reduceEqDiff,ite_true,ite_false,true_and,reduceCtorEq,w64 (n:=(s.length:Int) - 1) (by omega) (by omega)]
  refine Zac ?_
  refine Zak ?_
  try simp only [Zae]
  refine Zac ?_
  refine Za0 ?_
  refine VW_loop (σ:={ k:Nat // k ≤ s.length ∧ sgo s s.length = sgo s k }) (fun x=>([(0,.str s),(4,pI ((x.1:Int) - 1))],⟨[],0⟩)) (fun x=>x.1) ⟨s.length,Nat.le_refl _,rfl⟩ ?_ ?_ ?_
  · simp only [Env.get,Env.le,ite_true,ite_false,and_true,reduceCtorEq]
  · simp only [Heap.le,HL.le,Nat.le_refl,and_true]
  rintro ⟨k,hk,hgo⟩
  simp only []
  refine Zac ?_
  refine Zac (Zaa [0,4,9] ?_)
  simp only [Zab,Zad,Zaf,pok,pval,VA.ev,Env.get,Env.put,Env.keep,Zae,intV,binV,Zan,Heap.le,HL.le,Env.le,Nat.reduceEqDiff,ite_true,ite_false,true_and,and_true,reduceCtorEq]
  refine Zai rfl (fun h1=>?_) (fun h1=>?_)
  · have hk0:0 < k:=by simp only [decide_eq_true_eq] at h1; omega
    obtain ⟨m,rfl⟩:∃ m,k = m + 1:=⟨k - 1,by omega⟩
    have em:((m + 1:Nat):Int) - 1 = (m:Int):=by omega
    rw [em]
    refine Zak ?_
    try simp only [Zae]
    refine Zac ?_
    refine Za0 ?_
    refine Zac (Zaa [0,4,15] ?_)
    simp only [Zab,Zad,Zaf,pok,pval,VA.ev,Env.get,Env.put,Env.keep,Zae,intV,binV,Zan,isInt,numOf,lenV,idxV,idxOk,Nat.succ_ne_self,Nat.reduceEqDiff,ite_true,ite_false,true_and,and_true,reduceCtorEq,Int.toNat_natCast]
    repeat (with_reducible refine And.intro ?_ ?_; first | omega | (with_reducible constructor <;> omega) | exact False.elim | exact True.intro)
    refine Zai rfl (fun h2=>?_) (fun h2=>?_)
    · have h90 : ¬ s.getD m 0 = 90 := by
        intro e; rw [eq90] at e
        simp only [bne_iff_ne] at h2; omega
      have hs1:sgo s s.length = m + 1:=by rw [hgo]; simp only [sgo]; rw [if_neg h90]
      refine VW_exit ?_
      try simp only [Zae,Za2,ite_true,ite_false,reduceCtorEq]
      refine Zac ?_
      refine Zac (Zaa [0,4,17] ?_)
      simp only [Zab,Zad,Zaf,pok,pval,VA.ev,Env.get,Env.put,Env.keep,Zae,intV,binV,Zan,Nat.reduceEqDiff,ite_true,ite_false,true_and,reduceCtorEq]
      refine Zai rfl (fun h3=>by simp only [decide_eq_true_eq] at h3; omega) (fun _=>?_)
      refine Zak ?_
      try simp only [Zae]
      have tl2:(s.take m).length = m:=by simp; omega
      refine Zac (VW_drawS [2,3] (by simp [Heap.le,Heap.get,HL.le,HL.get]) ?_)
      simp only [DrawW_nil,DrawW_n,QW,dok,dval,VOp.pure,VOp.simple,VOp.det,pok,pval,VA.ev,Env.get,Env.put,Env.keep,Zae,gd,intV,binV,Zan,strV,isInt,numOf,loV,hiV,lenV,boundOk,sliceV,sliceOk,idxV,idxOk,PV.cells,PV.fits,Nat.succ_ne_self,Za6,Zbi,pxV,pxOk,List.map,List.set,List.replicate,List.length,List.drop_zero,Option.map,Nat.reduceEqDiff,Nat.reduceLT,Nat.reduceLeDiff,ite_true,ite_false,true_and,and_true,implies_true,forall_const,reduceCtorEq,BEq.rfl,Nat.zero_add,Int.toNat_natCast,Nat.sub_zero,bytesOk,isByte,byteRows,byte_inc,tl2]
      refine ⟨⟨by omega,by omega,by omega⟩,⟨by omega,by omega⟩,fun r hr=>by rw [List.mem_singleton] at hr; subst hr; trivial,by omega,?_⟩
      refine Zal ?_
      try simp only [Env.get,retQ,resV,Zas,RS.ev,RS.ok,Nat.succ_ne_self,List.map,Nat.reduceEqDiff,ite_true,ite_false,true_and,and_true,scopeQ]
      have e:up s = some (s.take m ++ [s.getD m 0 + 1]):=by unfold up; rw [hs1]
      rw [e]; exact View.refl _ _
    have h90:s.getD m 0 = 90:=by
      rw [eq90]
      simp only [bne_eq_false_iff_eq] at h2; omega
    refine Zak ?_
    try simp only [Zae,Za2]
    refine Zaa [0,4] ?_
    simp only [Zab,Zad,Zaf,pok,pval,VA.ev,Env.get,Env.put,Env.keep,Zae,intV,binV,Zan,Nat.le_refl,Nat.reduceEqDiff,ite_true,ite_false,true_and,reduceCtorEq,w64 (n:=(m:Int) - 1) (by omega) (by omega)]
    refine ⟨⟨m,by omega,?_⟩,?_,?_⟩
    · rw [hgo]; show sgo s (m + 1) = _
      simp only [sgo]; rw [if_pos h90]
    · rfl
    · simp only []; omega
  · have hk0:k = 0:=by simp only [decide_eq_false_iff_not] at h1; omega
    subst hk0
    have hs0:sgo s s.length = 0:=hgo
    refine VW_exit ?_
    try simp only [Zae,Za2,ite_true]
    refine Zac ?_
    refine Zac (Zaa [0,4,17] ?_)
    simp only [Zab,Zad,Zaf,pok,pval,VA.ev,Env.get,Env.put,Env.keep,Zae,intV,binV,Zan,Nat.reduceEqDiff,ite_true,ite_false,true_and,reduceCtorEq]
    refine Zai rfl (fun _=>?_) (fun h3=>by simp only [decide_eq_false_iff_not] at h3; omega)
    refine Zac (Zaa [2,3] ?_)
    simp only [Zab,Zad,Zaf,pok,pval,VA.ev,Env.get,Env.put,Env.keep,Zae,Nat.succ_ne_self,Nat.reduceEqDiff,ite_true,ite_false,true_and,reduceCtorEq]
    refine Zal ?_
    try simp only [Env.get,Zae,retQ,resV,Zas,RS.ev,RS.ok,Nat.succ_ne_self,List.map,Nat.reduceEqDiff,ite_true,ite_false,true_and,and_true,scopeQ]
    have e:up s = none:=by unfold up; rw [hs0]
    rw [e]; exact View.refl _ _
end Go.Proofs.YtihfbefagcdpmaaDoor.w
