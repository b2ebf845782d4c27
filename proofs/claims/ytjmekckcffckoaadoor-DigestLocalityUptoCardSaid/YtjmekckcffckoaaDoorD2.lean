import Derived.Test.YtjmekckcffckoaaDoorE1
import Derived.Test.YtjmekckcffckoaaDoorVmAs
import Derived.Test.YtjmekckcffckoaaDoorVmQ
set_option linter.all false
namespace Go.Proofs.YtjmekckcffckoaaDoor.w
open Go Go.VM
set_option maxRecDepth 20000
set_option maxHeartbeats 0
set_option pp.deepTerms false
def c_cmp_isNaN_int:VC:=(.seq (.region [ZO 2 (.mv (.c (.bool false)))] false) (.seq (.region [ZM 3 0,ZM 4 0,ZO 5 (.bin .neq (.t 3) (.t 4)),ZM 2 5] false) .ret))
def c_cmp_Compare_int:VC:=(.seq (.region [ZO 4 (.mv (.c (.int .i64 0)))] false) (.seq (.region [ZM 7 0,ZO 8 (.call 58 [(.t 7)]),ZM 5 8] false) (.seq (.region [ZM 9 1,ZO 10 (.call 58 [(.t 9)]),ZM 6 10] false) (.seq (.seq (.region [ZM 11 5] false) (.cond (.t 11) (.seq (.seq (.region [ZM 12 6] false) (.cond (.t 12) (.seq (.region [ZO 4 (.mv (.c (.int .i64 0)))] false) .ret) .skip)) (.seq (.region [ZO 4 (.mv (.c (.int .i64 (-1))))] false) .ret)) .skip)) (.seq (.seq (.region [ZM 13 6] false) (.cond (.t 13) (.seq (.region [ZO 4 (.mv (.c (.int .i64 1)))] false) .ret) .skip)) (.seq (.seq (.region [ZM 14 0,ZM 15 1,ZO 16 (.bin .lss (.t 14) (.t 15))] false) (.cond (.t 16) (.seq (.region [ZO 4 (.mv (.c (.int .i64 (-1))))] false) .ret) .skip)) (.seq (.seq (.region [ZM 17 0,ZM 18 1,ZO 19 (.bin .gtr (.t 17) (.t 18))] false) (.cond (.t 19) (.seq (.region [ZO 4 (.mv (.c (.int .i64 1)))] false) .ret) .skip)) (.seq (.region [ZO 4 (.mv (.c (.int .i64 0)))] false) .ret))))))))
def c_cmp_Or_int:VC:=(.seq (.region [ZO 2 (.mv (.c (.int .i64 0)))] false) (.seq (.region [ZO 3 (.mv (.c (.int .i64 0)))] false) (.seq (.seq (.region [ZM 6 0,ZO 7 (.len false (.t 6)),ZO 8 (.mv (.c (.int .i64 0)))] false) (.block 0 (.loop (.seq (.region [ZO 9 (.bin .lss (.t 8) (.t 7))] false) (.seq (.cond (.t 9) .skip (.exit 0)) (.seq (.block 1 (.seq (.region [ZO 10 (.iaddr 1 (.t 6) (.t 8)),ZO 11 (.load false 1 (.t 10)),ZM 5 11] false) (.seq (.region [ZM 12 5,ZM 13 3,ZO 14 (.bin .neq (.t 12) (.t 13))] false) (.cond (.t 14) (.seq (.region [ZM 15 5,ZM 2 15] false) .ret) .skip)))) (.region [ZO 16 (.bin .add (.t 8) (.c (.int .i64 1))),ZM 8 16] false))))))) (.seq (.region [ZM 17 3,ZM 2 17] false) .ret))))
def c_digest_Diff_1:VC:=(.seq (.region [ZO 2 (.box 3 (.t 0)),ZO 3 (.box 3 (.t 1)),ZO 4 (.mv (.c (.int .i64 0)))] false) (.seq (.region [ZO 5 (.faddr 0 (.t 2)),ZO 6 (.load false 1 (.t 5)),ZO 7 (.faddr 0 (.t 3)),ZO 8 (.load false 1 (.t 7)),ZO 9 (.call 41 [(.t 6),(.t 8)]),ZO 10 (.faddr 1 (.t 2)),ZO 11 (.load false 1 (.t 10)),ZO 12 (.faddr 1 (.t 3)),ZO 13 (.load false 1 (.t 12)),ZO 14 (.call 41 [(.t 11),(.t 13)]),ZO 15 (.faddr 2 (.t 2)),ZO 16 (.load false 1 (.t 15)),ZO 17 (.faddr 2 (.t 3)),ZO 18 (.load false 1 (.t 17)),ZO 19 (.call 41 [(.t 16),(.t 18)]),ZO 20 (.bslice 1 3 [(.int .i64 0)] [(0,(.t 9)),(1,(.t 14)),(2,(.t 19))]),ZO 21 (.call 40 [(.t 20)]),ZM 4 21] true) .ret))
def cmpI (x y:Int):Int:=if x < y then -1 else if x > y then 1 else 0
theorem sp_cmp_isNaN_int (x:Int):Za8 Tryd.prog 58 [pI x] (.bool false):=by
  refine Zai ?_ (cB _) (by simp only [Zax,List.mem_cons,List.not_mem_nil,or_false,forall_eq_or_imp,forall_eq,false_implies,implies_true]; repeat' (first  | exact cI _ | exact cB _ | exact Zbd (by simp only [List.mem_cons,List.not_mem_nil,or_false,forall_eq]; first | exact cI _ | exact cS _ | exact Za9 _) | refine And.intro ?_ ?_))
  refine Zan (vc:=c_cmp_isNaN_int) (ts:=[.t 2]) Go.Proofs.Tryd.func58 (by kernel_rfl) rfl rfl (Nat.le_of_ble_eq_true rfl) (by kernel_rfl) ?_
  unfold c_cmp_isNaN_int
  try dsimp only [ZM,ZO,ZN,ZG]
  refine Zac (Zaa [0] ?_)
  simp only [Zab,Zad,Zaf,pok,pval,VA.ev,Env.get,Env.put,Env.keep,Za3,Zae,Heap.nil,ite_true,ite_false,true_and,reduceCtorEq]
  refine Zac (Zaa [2] ?_)
  simp only [Zab,Zad,Zaf,pok,pval,VA.ev,Env.get,Env.put,Env.keep,Zae,intV,binV,Zal,Nat.succ_ne_self,Nat.reduceEqDiff,ite_true,ite_false,true_and,reduceCtorEq]
  refine Zaz ?_
  try simp only [Env.get,retQ,resV,Zbc,RS.ev,RS.ok,ite_true,true_and,and_true]
  simp only [bne_self_eq_false]
  exact View.refl _ _
theorem sp_cmp_Compare_int (x y:Int):Za8 Tryd.prog 41 [pI x,pI y] (pI (cmpI x y)):=by
  refine Zai ?_ (cI _) (by simp only [Zax,List.mem_cons,List.not_mem_nil,or_false,forall_eq_or_imp,forall_eq,false_implies,implies_true]; repeat' (first  | exact cI _ | exact Zbd (by simp only [List.mem_cons,List.not_mem_nil,or_false,forall_eq]; first | exact cI _ | exact cS _ | exact Za9 _) | refine And.intro ?_ ?_))
  refine Zan (vc:=c_cmp_Compare_int) (ts:=[.t 4]) Go.Proofs.Tryd.func41 (by kernel_rfl) rfl rfl (Nat.le_of_ble_eq_true rfl) (by kernel_rfl) ?_
  unfold c_cmp_Compare_int
  try dsimp only [ZM,ZO,ZN,ZG]
  refine Zac (Zaa [0,1] ?_)
  simp only [Zab,Zad,Zaf,pok,pval,VA.ev,Env.get,Env.put,Env.keep,Za3,Zae,Heap.nil,Nat.succ_ne_self,Nat.reduceEqDiff,ite_true,ite_false,true_and,reduceCtorEq,Nat.zero_add]
  refine Zac (Zaa [0,1,5] ?_)
  simp only [Zab,Zad,Zaf,pok,pval,VA.ev,Env.get,Env.put,Env.keep,Zae,Nat.succ_ne_self,List.map,Nat.reduceEqDiff,ite_true,ite_false,true_and,reduceCtorEq]
  refine Zaq (sp_cmp_isNaN_int ..) ?_
  skip
  refine Zac (Zaa [0,1,5,6] ?_)
  simp only [Zab,Zad,Zaf,pok,pval,VA.ev,Env.get,Env.put,Env.keep,Zae,Nat.succ_ne_self,List.map,Nat.reduceEqDiff,ite_true,ite_false,true_and,reduceCtorEq]
  refine Zaq (sp_cmp_isNaN_int ..) ?_
  skip
  refine Zac ?_
  refine Zac (Zaa [0,1,6,11] ?_)
  simp only [Zab,Zad,Zaf,pok,pval,VA.ev,Env.get,Env.put,Env.keep,Zae,Nat.succ_ne_self,Nat.reduceEqDiff,ite_true,ite_false,true_and,reduceCtorEq]
  refine Zaj rfl (fun h1=>by cases h1) (fun h1=>?_)
  refine Zap ?_
  try simp only [Zae]
  refine Zac ?_
  refine Zac (Zaa [0,1,13] ?_)
  simp only [Zab,Zad,Zaf,pok,pval,VA.ev,Env.get,Env.put,Env.keep,Zae,Nat.succ_ne_self,Nat.reduceEqDiff,ite_true,ite_false,true_and,reduceCtorEq]
  refine Zaj rfl (fun h1=>by cases h1) (fun h1=>?_)
  refine Zap ?_
  try simp only [Zae]
  refine Zac ?_
  refine Zac (Zaa [0,1,16] ?_)
  simp only [Zab,Zad,Zaf,pok,pval,VA.ev,Env.get,Env.put,Env.keep,Zae,intV,binV,Zal,Nat.succ_ne_self,Nat.reduceEqDiff,ite_true,ite_false,true_and,reduceCtorEq]
  refine Zaj rfl (fun h4=>?_) (fun h4=>?_)
  · refine Zac (Zaa [4] ?_)
    simp only [Zab,Zad,Zaf,pok,pval,VA.ev,Env.get,Env.put,Env.keep,Zae,Nat.reduceEqDiff,ite_true,ite_false,true_and,reduceCtorEq]
    refine Zaz ?_
    try simp only [Env.get,Zae,retQ,resV,Zbc,RS.ev,RS.ok,ite_true,true_and,and_true]
    have e:cmpI x y = -1:=by unfold cmpI; rw [if_pos (by simpa using h4)]
    rw [e]; exact View.refl _ _
  refine Zap ?_
  try simp only [Zae]
  refine Zac ?_
  refine Zac (Zaa [19] ?_)
  simp only [Zab,Zad,Zaf,pok,pval,VA.ev,Env.get,Env.put,Env.keep,Zae,intV,binV,Zal,Nat.succ_ne_self,Nat.reduceEqDiff,ite_true,ite_false,true_and,reduceCtorEq]
  refine Zaj rfl (fun h5=>?_) (fun h5=>?_)
  · refine Zac (Zaa [4] ?_)
    simp only [Zab,Zad,Zaf,pok,pval,VA.ev,Env.get,Env.put,Env.keep,Zae,Nat.reduceEqDiff,ite_true,ite_false,true_and]
    refine Zaz ?_
    try simp only [Env.get,Zae,retQ,resV,Zbc,RS.ev,RS.ok,ite_true,true_and,and_true]
    have e:cmpI x y = 1:=by unfold cmpI; rw [if_neg (by simpa using h4),if_pos (by simpa using h5)]
    rw [e]; exact View.refl _ _
  refine Zap ?_
  try simp only [Zae]
  refine Zac (Zaa [4] ?_)
  simp only [Zab,Zad,Zaf,pok,pval,VA.ev,Env.get,Env.put,Env.keep,Zae,Nat.reduceEqDiff,ite_true,ite_false,true_and]
  refine Zaz ?_
  try simp only [Env.get,retQ,resV,Zbc,RS.ev,RS.ok,ite_true,true_and,and_true]
  have e:cmpI x y = 0:=by unfold cmpI; rw [if_neg (by simpa using h4),if_neg (by simpa using h5)]
  rw [e]; exact View.refl _ _
def orI:List Int → Int
  | []=>0
  | x :: r=>if x ≠ 0 then x else orI r
theorem sp_cmp_Or_int (l:List Int) (hl:l.length ≤ 1000000):Za8 Tryd.prog 40 [.sl 1 (l.map fun x=>[pI x])] (pI (orI l)):=by
  refine Zai ?_ (cI _) (by intro x hx; rw [List.mem_singleton] at hx; subst hx; exact closed_sc _)
  refine Zan (vc:=c_cmp_Or_int) (ts:=[.t 2]) Go.Proofs.Tryd.func40 (by kernel_rfl) rfl rfl (Nat.le_of_ble_eq_true rfl) (by kernel_rfl) ?_
  unfold c_cmp_Or_int
  try dsimp only [ZM,ZO,ZN,ZG]
  refine Zac (Zaa [0] ?_)
  simp only [Zab,Zad,Zaf,pok,pval,VA.ev,Env.get,Env.put,Env.keep,Za3,Zae,Heap.nil,ite_true,ite_false,true_and,reduceCtorEq]
  refine Zac (Zaa [0,3] ?_)
  simp only [Zab,Zad,Zaf,pok,pval,VA.ev,Env.get,Env.put,Env.keep,Zae,ite_true,ite_false,true_and,reduceCtorEq]
  refine Zac ?_
  refine Zac (Zaa [3,6,7,8] ?_)
  simp only [Zab,Zad,Zaf,pok,pval,VA.ev,Env.get,Env.put,Env.keep,Zae,lenV,Zcd,Nat.succ_ne_self,Nat.reduceEqDiff,ite_true,ite_false,true_and,reduceCtorEq,List.length_map]
  refine Zam ?_
  refine Zb6 (σ:={ k:Nat // k ≤ l.length ∧ orI l = orI (l.drop k) }) (fun k=>([(3,pI 0),(6,.sl 1 (l.map fun x=>[pI x])),(7,pI l.length),(8,pI k.1)],⟨[],0⟩)) (fun k=>l.length - k.1) ⟨0,Nat.zero_le _,rfl⟩ ?_ ?_ ?_
  · try simp only [Env.get,Nat.succ_ne_self,Env.le,Nat.reduceEqDiff,ite_true,ite_false,true_and,and_true,true_and]
    all_goals (repeat' (first | rfl | trivial | omega | (simp only []; omega) | refine And.intro ?_ ?_))
  · simp only [Heap.le,HL.le,Nat.le_refl,and_true]
  rintro ⟨k,hk,hor⟩
  simp only [] at hk hor ⊢
  refine Zac (Zaa [3,6,7,8,9] ?_)
  simp only [Zab,Zad,Zaf,pok,pval,VA.ev,Env.get,Env.put,Env.keep,Zae,intV,binV,Zal,Heap.le,HL.le,Nat.succ_ne_self,Env.le,Nat.reduceEqDiff,ite_true,ite_false,true_and,and_true]
  refine Zac ?_
  refine Zaj rfl (fun h1=>?_) (fun h1=>?_)
  · simp only [decide_eq_true_eq] at h1
    have ka:k < l.length:=by omega
    have hrow:(l.map fun x=>[pI x]).getD k [] = [pI l[k]]:=rowm ka
    have hd:l.drop k = l[k] :: l.drop (k + 1):=List.drop_eq_getElem_cons ka
    rw [hd] at hor
    generalize l[k] = y at hrow hor
    refine Zap ?_
    try simp only [Zae]
    refine Zac ?_
    refine Zam ?_
    refine Zac (Zaa [3,5,6,7,8] ?_)
    simp only [Zab,Zad,Zaf,pok,pval,VA.ev,Env.get,Env.put,Env.keep,Zae,aggV,isInt,numOf,lenV,Zag,Zas,iaddrV,Zb5,PV.nth,PV.row,Nat.le_refl,Nat.succ_ne_self,List.length,List.getD_cons_zero,List.take,List.take_succ_cons,Nat.reduceEqDiff,Bool.false_eq_true,ite_true,ite_false,true_and,and_true,implies_true,Nat.zero_add,List.length_cons,Int.toNat_natCast,List.length_map,hrow]
    refine ⟨by omega,?_⟩
    refine Zac (Zaa [3,5,6,7,8,14] ?_)
    simp only [Zab,Zad,Zaf,pok,pval,VA.ev,Env.get,Env.put,Env.keep,Zae,intV,binV,Zal,Nat.succ_ne_self,Nat.reduceEqDiff,ite_true,ite_false,true_and]
    refine Zaj rfl (fun h2=>?_) (fun h2=>?_)
    · refine Zac (Zaa [2] ?_)
      simp only [Zab,Zad,Zaf,pok,pval,VA.ev,Env.get,Env.put,Env.keep,Zae,Nat.succ_ne_self,Nat.reduceEqDiff,ite_true,ite_false,true_and]
      refine Zaz ?_
      try simp only [Env.get,Zae,Zaw,retQ,resV,Zbc,RS.ev,RS.ok,ite_true,true_and,and_true]
      have e:orI l = y:=by rw [hor,orI,if_pos (by simpa using h2)]
      rw [e]
      exact View.refl _ _
    refine Zap ?_
    try simp only [Zae,Zaw]
    refine Zaa [3,6,7,8] ?_
    simp only [Zab,Zad,Zaf,pok,pval,VA.ev,Env.get,Env.put,Env.keep,Zae,intV,binV,Zal,Nat.le_refl,Nat.succ_ne_self,Nat.reduceEqDiff,ite_true,ite_false,true_and,ad1 (a:=k) (by omega)]
    refine ⟨⟨k + 1,ka,by rw [hor,orI,if_neg (by simpa using h2)]⟩,?_⟩
    try simp only [true_and,true_and]
    all_goals (repeat' (first | rfl | trivial | omega | (simp only []; omega) | refine And.intro ?_ ?_))
  simp only [decide_eq_false_iff_not] at h1
  obtain rfl:k = l.length:=by omega
  refine Zbs ?_
  try simp only [Zae,Zaw,retQ,ite_true]
  refine Zac (Zaa [2] ?_)
  simp only [Zab,Zad,Zaf,pok,pval,VA.ev,Env.get,Env.put,Env.keep,Zae,Nat.succ_ne_self,Nat.reduceEqDiff,ite_true,ite_false,true_and]
  refine Zaz ?_
  try simp only [Env.get,retQ,resV,Zbc,RS.ev,RS.ok,ite_true,true_and,and_true]
  have e:orI l = 0:=by rw [hor]; simp [orI]
  rw [e]
  exact View.refl _ _
def cfId (x y:Idt):Int:=orI [cmpI x.act y.act,cmpI x.item y.item,cmpI x.n y.n]
theorem sp_digest_Diff_1 (x y:Idt):Za8 Tryd.prog 39 [.agg x.enc,.agg y.enc] (pI (cfId x y)):=by
  have A:=sp_cmp_Compare_int x.act y.act
  have B:=sp_cmp_Compare_int x.item y.item
  have C:=sp_cmp_Compare_int x.n y.n
  have O:=sp_cmp_Or_int [cmpI x.act y.act,cmpI x.item y.item,cmpI x.n y.n] (by simp)
  have e:orI [cmpI x.act y.act,cmpI x.item y.item,cmpI x.n y.n] = cfId x y:=rfl
  rw [e] at O
  simp only [List.map_cons,List.map_nil] at O
  generalize cfId x y = R at O ⊢
  generalize cmpI x.act y.act = a at A O
  generalize cmpI x.item y.item = b at B O
  generalize cmpI x.n y.n = c at C O
  refine Zai ?_ (cI _) (by intro z hz; simp only [List.mem_cons,List.not_mem_nil,or_false] at hz; rcases hz with rfl | rfl <;> exact closed_id _)
  refine Zan (vc:=c_digest_Diff_1) (ts:=[.t 4]) Go.Proofs.Tryd.func39 (by kernel_rfl) rfl rfl (Nat.le_of_ble_eq_true rfl) (by kernel_rfl) ?_
  unfold c_digest_Diff_1
  try dsimp only [ZM,ZO,ZN,ZG]
  unfold Idt.enc
  refine Zac (Zaa [2,3] ?_)
  simp only [Zab,Zad,Zaf,pok,pval,VA.ev,Env.get,Env.put,Env.keep,Za3,Zae,PV.cells,PV.fits,Heap.push,Heap.nil,Nat.succ_ne_self,List.length,Nat.reduceEqDiff,Nat.reduceAdd,ite_true,ite_false,true_and,reduceCtorEq,BEq.rfl,Nat.zero_add]
  refine Zbu [(2,.ro [pI x.act,pI x.item,pI x.n]),(3,.ro [pI y.act,pI y.item,pI y.n])] ⟨View.loc (z:=3) (fz:=false) (es:=[[pI x.act,pI x.item,pI x.n]]) (by simp [Heap.get,HL.get]) (by simp) rfl (by simp),View.loc (z:=3) (fz:=false) (es:=[[pI y.act,pI y.item,pI y.n]]) (by simp [Heap.get,HL.get]) (by simp) rfl (by simp),trivial⟩ ?_
  refine Zac (VW_drawS [4] (by simp [Heap.le,Heap.get,HL.le,HL.get]) ?_)
  simp only [DrawW_nil,DrawW_n,QW,dok,dval,VOp.pure,VOp.simple,VOp.det,pok,pval,VA.ev,Env.get,Env.put,Env.keep,Zae,gd,aggV,Zbi,Zbf,Zag,Zas,PV.cells,PV.fits,PV.nth,Nat.le_refl,Nat.succ_ne_self,Zbg,Zbr,List.set,List.replicate,List.length,List.getD_cons_zero,List.take,List.drop,List.take_succ_cons,Nat.reduceEqDiff,Nat.reduceAdd,Nat.reduceLT,Nat.reduceLeDiff,Bool.false_eq_true,ite_true,ite_false,true_and,and_true,implies_true,forall_const,BEq.rfl,Nat.zero_add,List.length_cons]
  refine ⟨_,.inl A,_,.inl B,_,.inl C,?_⟩
  try simp only [true_and,and_true]
  refine ⟨_,.inl O,?_⟩
  skip
  refine Zaz ?_
  try simp only [Env.get,retQ,resV,Zbc,RS.ev,RS.ok,ite_true,true_and,and_true]
  exact View.refl _ _
theorem cmpI_neg {x y:Int}:cmpI x y < 0 ↔ x < y:=by unfold cmpI; split <;> (try split) <;> simp <;> omega
theorem cmpI_zero {x y:Int}:cmpI x y = 0 ↔ x = y:=by unfold cmpI; split <;> (try split) <;> simp <;> omega
theorem cfId_neg (x y:Idt):cfId x y < 0 ↔ (x.act < y.act ∨ (x.act = y.act ∧ (x.item < y.item ∨ (x.item = y.item ∧ x.n < y.n)))):=by
  have e:cfId x y = if cmpI x.act y.act ≠ 0 then cmpI x.act y.act else if cmpI x.item y.item ≠ 0 then cmpI x.item y.item else if cmpI x.n y.n ≠ 0 then cmpI x.n y.n else 0:=rfl
  rw [e]
  by_cases h1:x.act = y.act
  · have e1:cmpI x.act y.act = 0:=cmpI_zero.2 h1
    rw [if_neg (by simp [e1])]
    by_cases h2:x.item = y.item
    · have e2:cmpI x.item y.item = 0:=cmpI_zero.2 h2
      rw [if_neg (by simp [e2])]
      by_cases h3:x.n = y.n
      · have e3:cmpI x.n y.n = 0:=cmpI_zero.2 h3
        rw [if_neg (by simp [e3])]; omega
      · have e3:¬ cmpI x.n y.n = 0:=fun h=>h3 (cmpI_zero.1 h)
        rw [if_pos e3,cmpI_neg]; omega
    · have e2:¬ cmpI x.item y.item = 0:=fun h=>h2 (cmpI_zero.1 h)
      rw [if_pos e2,cmpI_neg]; omega
  · have e1:¬ cmpI x.act y.act = 0:=fun h=>h1 (cmpI_zero.1 h)
    rw [if_pos e1,cmpI_neg]; omega
theorem ltOf_id (x y:Idt):Go.Proofs.ltOf cfId x y = ltId x y:=by
  rw [Bool.eq_iff_iff]
  unfold Go.Proofs.ltOf ltId
  rw [decide_eq_true_iff,cfId_neg]
  split
  · simp; omega
  · split
    · simp; omega
    · simp; omega
end Go.Proofs.YtjmekckcffckoaaDoor.w
