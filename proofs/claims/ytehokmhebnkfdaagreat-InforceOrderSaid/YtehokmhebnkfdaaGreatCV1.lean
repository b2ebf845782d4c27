import Derived.Test.YtehokmhebnkfdaaGreatVmS
import Derived.Test.YtehokmhebnkfdaaGreatRd
set_option linter.all false
namespace Go.VM
open Go
theorem Sta.closed (s:Sta):∀ x ∈ s.enc,Closed x:=by
  intro x hx
  simp only [Sta.enc,List.mem_cons,List.not_mem_nil,or_false] at hx
  rcases hx with rfl | rfl | rfl
  · exact cI _
  · exact cI _
  · exact cS _
end Go.VM
namespace Go.Proofs.YtehokmhebnkfdaaGreat.c
open Go Go.VM
set_option maxRecDepth 20000
set_option maxHeartbeats 0
set_option pp.deepTerms false
def Zcz:VC:=(.seq (.region [ZO 2 (.box 3 (.t 0)),ZO 3 (.box 3 (.t 1)),ZO 4 (.alloc [(.int .i64 0),(.int .i64 0),(.str [])])] false) (.seq (.seq (.region [ZO 5 (.faddr 0 (.t 3)),ZO 6 (.load false 1 (.t 5)),ZO 7 (.bin .neq (.t 6) (.c (.int .i64 0)))] false) (.cond (.t 7) (.seq (.region [ZO 8 (.load true 3 (.t 3)),ZN (.store 3 (.t 4) (.t 8))] false) .ret) .skip)) (.seq (.region [ZO 9 (.load true 3 (.t 2)),ZN (.store 3 (.t 4) (.t 9))] false) .ret)))
def Zdu:VC:=(.seq (.region [ZO 2 (.box 28 (.t 0)),ZO 3 (.mv (.c (.bool false)))] false) (.seq (.region [ZO 4 (.faddr 3 (.t 2)),ZO 5 (.faddr 0 (.t 4)),ZO 6 (.load false 1 (.t 5)),ZO 7 (.bin .eql (.t 6) (.c (.int .i64 10))),ZM 8 7,ZG 9 (.faddr 3 (.t 2)) 8 true,ZG 10 (.faddr 23 (.t 9)) 8 true,ZG 11 (.load false 1 (.t 10)) 8 true,ZG 12 (.load false 1 (.t 1)) 8 true,ZG 13 (.bin .eql (.t 11) (.t 12)) 8 true,ZO 14 (.pick (.t 8) (.t 13) (.c (.bool false))),ZM 3 14] false) .ret))
def c_commencement_EventDay:VC:=(.seq (.region [ZO 2 (.box 1 (.t 0)),ZO 4 (.mv (.c (.int .i64 0))),ZO 5 (.mv (.c (.bool false)))] false) (.seq (.region [ZM 7 1,ZO 8 (.mkfn (.func 140) [] [(.t 2)]),ZO 9 (.call 139 [(.t 7),(.t 8)]),ZM 6 9] false) (.seq (.seq (.region [ZM 10 6,ZO 11 (.bin .lss (.t 10) (.c (.int .i64 0)))] false) (.cond (.t 11) (.seq (.region [ZO 4 (.mv (.c (.int .i64 0))),ZO 5 (.mv (.c (.bool false)))] false) .ret) .skip)) (.seq (.region [ZM 12 1,ZM 13 6,ZO 14 (.iaddr 28 (.t 12) (.t 13)),ZO 15 (.faddr 3 (.t 14)),ZO 16 (.faddr 22 (.t 15)),ZO 17 (.load false 1 (.t 16)),ZM 4 17,ZO 5 (.mv (.c (.bool true)))] false) .ret))))
def Zcc:VC:=(.seq (.region [ZO 4 (.mv (.c (.int .i64 0)))] false) (.seq (.seq (.region [ZM 6 0,ZO 7 (.len false (.t 6)),ZO 8 (.mv (.c (.int .i64 0)))] false) (.block 0 (.loop (.seq (.region [ZO 9 (.bin .lss (.t 8) (.t 7))] false) (.seq (.cond (.t 9) .skip (.exit 0)) (.seq (.block 1 (.seq (.region [ZM 10 8,ZM 5 10] false) (.seq (.region [ZM 11 1,ZM 12 0,ZM 13 5,ZO 14 (.iaddr 28 (.t 12) (.t 13)),ZO 15 (.load true 28 (.t 14)),ZO 16 (.callv (.t 11) [(.t 15)])] false) (.cond (.t 16) (.seq (.region [ZM 17 5,ZM 4 17] false) .ret) .skip)))) (.region [ZO 18 (.bin .add (.t 8) (.c (.int .i64 1))),ZM 8 18] false))))))) (.seq (.region [ZO 4 (.mv (.c (.int .i64 (-1))))] false) .ret)))
def ruleS (a b:Sta):Sta:=if b.kind ≠ 0 then b else a
theorem sp_commencement_EffectiveStart (a b:Sta):Zbo Tryz.prog 80 [.agg a.enc,.agg b.enc] (.agg (ruleS a b).enc):=by
  refine Zam ?_ (Zay (Sta.closed _)) (by simp only [Za0,List.mem_cons,List.not_mem_nil,or_false,forall_eq_or_imp,forall_eq,false_implies,implies_true]; repeat' (first  | exact Zay (Sta.closed _) | refine And.intro ?_ ?_))
  refine Zaq (vc:=Zcz) (ts:=[.c 4 true 3]) Go.Proofs.Tryz.func80 (by kernel_rfl) rfl rfl (Nat.le_of_ble_eq_true rfl) (by kernel_rfl) ?_
  unfold Zcz
  try dsimp only [ZM,ZO,ZN,ZG]
  refine Zac (Zaa [2,3,4] ?_)
  simp only [Zab,Zad,Zaf,VA.ev,Env.get,Env.put,Env.keep,Za2,Zae,PV.cells,PV.fits,Heap.push,Heap.nil,Nat.succ_ne_self,List.length,Nat.reduceEqDiff,Nat.reduceAdd,ite_true,ite_false,true_and,reduceCtorEq,BEq.rfl,Nat.zero_add,Sta.enc]
  refine Zac ?_
  refine Zac (Zaa [2,3,4,7] ?_)
  simp only [Zab,Zad,Zaf,pok,pval,VA.ev,Env.get,Env.put,Env.keep,Zae,aggV,intV,binV,Zah,Zao,Zan,Zag,Zap,PV.nth,PV.row,Heap.get,HL.get,Nat.succ_ne_self,List.length,List.getD_cons_zero,List.take,List.drop,List.take_succ_cons,Nat.reduceEqDiff,Nat.reduceAdd,Nat.reduceLT,Nat.reduceLeDiff,Bool.false_eq_true,ite_true,ite_false,true_and,and_true,implies_true,reduceCtorEq,Nat.zero_add,Nat.add_zero,List.length_cons]
  refine Zai rfl (fun h1=>?_) (fun h1=>?_)
  · refine Zac (Zaa [4] ?_)
    simp only [Zab,Zad,Zaf,pok,pval,VA.ev,Env.get,Env.put,Env.keep,Zae,aggV,Zag,Zap,PV.cells,PV.fits,overlay,PV.nth,PV.row,Heap.get,Heap.set,HL.get,HL.set,HL.del,Nat.le_refl,Nat.succ_ne_self,Zbh,Za9,List.set,List.length,List.getD_cons_zero,List.take,List.drop,List.take_succ_cons,List.drop_succ_cons,List.cons_append,List.nil_append,Nat.reduceEqDiff,Nat.reduceAdd,Nat.reduceLT,Bool.true_eq_false,ite_true,ite_false,true_and,and_true,reduceCtorEq,BEq.rfl,Nat.zero_add,List.length_cons,imp_self]
    refine Zar ?_
    try simp only [Env.get,Zae,retQ,resV,Zau,RS.ev,RS.ok,aggV,Zag,Zap,PV.nth,PV.row,Heap.get,HL.get,Nat.le_refl,List.length,List.getD_cons_zero,List.take,List.drop,List.take_succ_cons,Nat.reduceEqDiff,Nat.reduceAdd,Nat.reduceLT,Bool.true_eq_false,ite_true,ite_false,true_and,and_true,reduceCtorEq,Nat.zero_add,List.length_cons,imp_self]
    have e:ruleS a b = b:=if_pos (by simpa using h1)
    rw [e]
    exact View.refl _ _
  refine Zak ?_
  try simp only [Zae]
  refine Zac (Zaa [4] ?_)
  simp only [Zab,Zad,Zaf,pok,pval,VA.ev,Env.get,Env.put,Env.keep,Zae,aggV,Zag,Zap,PV.cells,PV.fits,overlay,PV.nth,PV.row,Heap.get,Heap.set,HL.get,HL.set,HL.del,Nat.le_refl,Nat.succ_ne_self,Zbh,Za9,List.set,List.length,List.getD_cons_zero,List.take,List.drop,List.take_succ_cons,List.drop_succ_cons,List.cons_append,List.nil_append,Nat.reduceEqDiff,Nat.reduceAdd,Nat.reduceLT,Bool.true_eq_false,ite_true,ite_false,true_and,and_true,reduceCtorEq,BEq.rfl,Nat.zero_add,List.length_cons,imp_self]
  refine Zar ?_
  try simp only [Env.get,retQ,resV,Zau,RS.ev,RS.ok,aggV,Zag,Zap,PV.nth,PV.row,Heap.get,HL.get,Nat.le_refl,List.length,List.getD_cons_zero,List.take,List.drop,List.take_succ_cons,Nat.reduceEqDiff,Nat.reduceAdd,Nat.reduceLT,Bool.true_eq_false,ite_true,ite_false,true_and,and_true,reduceCtorEq,Nat.zero_add,List.length_cons,imp_self]
  have e:ruleS a b = a:=if_neg (by simpa using h1)
  rw [e]
  exact View.refl _ _
def toldB (name:Str) (x:EI):Bool:=x.it.kind == 10 && x.it.event == name
theorem ac_EventDay_1 (x : EI) (name : Str) (n : Nat) (hn : 0 < n) : Zbg Tryz.prog 140 [.agg x.enc, .loc 0 0 0] ⟨[(0, .arr false 1 [[.str name]])], n⟩
    (fun p h'=>p = .bool (toldB name x) ∧ ∃ n',n ≤ n' ∧ h' = ⟨[(0,.arr false 1 [[.str name]])],n'⟩):=by
  have ea:=It.Zcl x.it
  have q0:(0 = n) = False:=by simp; omega
  have q1:(n = 0) = False:=by simp; omega
  refine Zbg.drop ?_
  refine Zaq (vc:=Zdu) (ts:=[.t 3]) Go.Proofs.Tryz.func140 (by kernel_rfl) rfl rfl (Nat.le_of_ble_eq_true rfl) (by kernel_rfl) ?_
  unfold Zdu
  try dsimp only [ZM,ZO,ZN,ZG]
  refine Zac (Zaa [1,2] ?_)
  simp only [Zab,Zad,Zaf,pok,pval,VA.ev,Env.get,Env.put,Env.keep,Za2,Zae,PV.cells,PV.fits,Heap.le,Heap.push,Nat.succ_ne_self,List.length,Nat.reduceEqDiff,Nat.reduceAdd,ite_true,ite_false,true_and,reduceCtorEq,BEq.rfl,Nat.zero_add,EI.enc,ea,q0,q1]
  refine Zac (Zaa [3] ?_)
  cases e1:x.it.kind == 10 with
  | true =>
    simp only [Zab,Zad,Za6,Zaf,pok,pval,VA.ev,Env.get,Env.put,Env.keep,Zae,Za1,isBool,aggV,intV,binV,Zah,strV,Zao,Zan,Zag,Zap,PV.nth,PV.row,Heap.get,HL.get,Nat.le_refl,Nat.succ_ne_self,List.length,List.getD_cons_zero,List.take,List.drop,List.take_succ_cons,List.drop_succ_cons,Nat.reduceEqDiff,Nat.reduceAdd,Nat.reduceLT,Nat.reduceLeDiff,Bool.false_eq_true,ite_true,ite_false,true_and,and_true,implies_true,Nat.zero_add,Nat.add_zero,List.length_cons,q0,q1,e1]
    refine Zar ?_
    try simp only [Env.get,retQ,resV,Zau,RS.ev,RS.ok,ite_true,true_and,and_true]
    refine ⟨⟨[(0,.arr false 1 [[.str name]])],n + 1⟩,?_,?_,n + 1,by omega,rfl⟩
    · refine ⟨Nat.le_refl _,?_⟩
      simp only [Heap.get,HL.get,HL.le,ite_true,ite_false,and_true,q0,q1]
    · unfold toldB
      rw [e1]
      rfl
  | false =>
    simp only [Zab,Zad,Zbi,Zaf,pok,pval,VA.ev,Env.get,Env.put,Env.keep,Zae,Za1,isBool,aggV,intV,binV,Zah,Zao,Zan,Zag,Zap,PV.nth,PV.row,Heap.get,HL.get,Nat.succ_ne_self,List.length,List.getD_cons_zero,List.take,List.drop,List.take_succ_cons,List.drop_succ_cons,Nat.reduceEqDiff,Nat.reduceAdd,Nat.reduceLT,Nat.reduceLeDiff,Bool.false_eq_true,ite_true,ite_false,true_and,and_true,implies_true,Nat.zero_add,Nat.add_zero,List.length_cons,q0,q1,e1]
    refine Zar ?_
    try simp only [Env.get,retQ,resV,Zau,RS.ev,RS.ok,ite_true,true_and,and_true]
    refine ⟨⟨[(0,.arr false 1 [[.str name]])],n + 1⟩,?_,?_,n + 1,by omega,rfl⟩
    · refine ⟨Nat.le_refl _,?_⟩
      simp only [Heap.get,HL.get,HL.le,ite_true,ite_false,and_true,q0,q1]
    · unfold toldB
      rw [e1]
      rfl
def firstS (p:EI → Bool) (l:List EI):Int:=if l.findIdx p < l.length then (l.findIdx p:Nat) else -1
theorem ac_IndexFunc (l : List EI) (name : Str) (hl : l.length ≤ 1000000) : Zbg Tryz.prog 139 [.sl 28 (l.map EI.enc), .fn (.func 140) [] [.loc 0 0 0]] ⟨[(0, .arr false 1 [[.str name]])], 1⟩
    (fun p _=>p = pI (firstS (toldB name) l)):=by
  refine Zaq (vc:=Zcc) (ts:=[.t 4]) Go.Proofs.Tryz.func139 (by kernel_rfl) rfl rfl (Nat.le_of_ble_eq_true rfl) (by kernel_rfl) ?_
  unfold Zcc
  try dsimp only [ZM,ZO,ZN,ZG]
  refine Zac (Zaa [0,1] ?_)
  simp only [Zab,Zad,Zaf,pok,pval,VA.ev,Env.get,Env.put,Env.keep,Za2,Zae,Nat.succ_ne_self,Nat.reduceEqDiff,ite_true,ite_false,true_and,reduceCtorEq,Nat.zero_add]
  refine Zac ?_
  refine Zac (Zaa [0,1,7,8] ?_)
  simp only [Zab,Zad,Zaf,pok,pval,VA.ev,Env.get,Env.put,Env.keep,Zae,lenV,Za8,Nat.succ_ne_self,Nat.reduceEqDiff,ite_true,ite_false,true_and,reduceCtorEq,List.length_map]
  refine Zaj ?_
  refine Za4 (σ:={ s:Nat × Nat // s.1 ≤ l.length ∧ 0 < s.2 ∧ ∀ (j:Nat) (hj:j < s.1) (h:j < l.length),toldB name l[j] = false }) (fun s=>([(0,.sl 28 (l.map EI.enc)),(1,.fn (.func 140) [] [.loc 0 0 0]),(7,pI l.length),(8,pI s.1.1)],⟨[(0,.arr false 1 [[.str name]])],s.1.2⟩)) (fun s=>l.length - s.1.1) ⟨(0,1),by simp⟩ ?_ ?_ ?_
  · simp only [Env.get,Nat.succ_ne_self,Env.le,Nat.reduceEqDiff,ite_true,ite_false,true_and,and_true,reduceCtorEq]
    rfl
  · simp only [Heap.get,Heap.le,HL.get,HL.le,Nat.le_refl,ite_true,and_true]
  rintro ⟨⟨i,n⟩,hi,hn,hpre⟩
  simp only [] at hi hn hpre ⊢
  refine Zac (Zaa [0,1,7,8,9] ?_)
  simp only [Zab,Zad,Zaf,pok,pval,VA.ev,Env.get,Env.put,Env.keep,Zae,intV,binV,Zah,Heap.get,Heap.le,HL.le,Nat.succ_ne_self,Env.le,Nat.reduceEqDiff,ite_true,ite_false,true_and,and_true,reduceCtorEq]
  refine Zac ?_
  refine Zai rfl (fun h1=>?_) (fun h1=>?_)
  · refine Zak ?_
    try simp only [Zae]
    simp only [decide_eq_true_eq] at h1
    have ia:i < l.length:=by omega
    refine Zac ?_
    refine Zaj ?_
    refine Zac (Zaa [0,1,5,7,8] ?_)
    simp only [Zab,Zad,Zaf,pok,pval,VA.ev,Env.get,Env.put,Env.keep,Zae,Nat.succ_ne_self,Nat.reduceEqDiff,ite_true,ite_false,true_and,reduceCtorEq]
    refine Zac (Zaa [0,1,5,7,8,16] ?_)
    simp only [Zab,Zad,Zaf,pok,pval,VA.ev,Env.get,Env.put,Env.keep,Zae,aggV,isInt,numOf,lenV,Zag,Zap,Zax,Zas,PV.nth,PV.row,Nat.succ_ne_self,List.map,List.cons_append,List.nil_append,Nat.reduceEqDiff,Bool.true_eq_false,ite_true,ite_false,true_and,and_true,reduceCtorEq,imp_self,Int.toNat_natCast,List.length_map,rowm ia]
    have el:l[i].enc.length = 28:=by simp [EI.enc,It.Zby]
    have et:List.take 28 l[i].enc = l[i].enc:=List.take_of_length_le (by omega)
    rw [et]
    refine ⟨by omega,by omega,?_⟩
    refine Zbg.mono (ac_EventDay_1 l[i] name n hn) ?_
    rintro p h' ⟨rfl,n',hn',rfl⟩
    refine Zai rfl (fun h2=>?_) (fun h2=>?_)
    · refine Zac (Zaa [4] ?_)
      simp only [Zab,Zad,Zaf,pok,pval,VA.ev,Env.get,Env.put,Env.keep,Zae,Nat.succ_ne_self,Nat.reduceEqDiff,ite_true,ite_false,true_and,reduceCtorEq]
      refine Zar ?_
      try simp only [Env.get,Zae,Zal,retQ,resV,Zau,RS.ev,RS.ok,ite_true,true_and,and_true]
      have ef:l.findIdx (toldB name) = i:=(List.findIdx_eq ia).2 ⟨h2,fun j hj=>by simpa using hpre j hj (by omega)⟩
      unfold firstS
      rw [ef,if_pos ia]
    refine Zak ?_
    try simp only [Zae,Zal]
    refine Zaa [0,1,7,8] ?_
    simp only [Zab,Zad,Zaf,pok,pval,VA.ev,Env.get,Env.put,Env.keep,Zae,intV,binV,Zah,HL.get,Nat.succ_ne_self,Nat.reduceEqDiff,ite_true,ite_false,true_and,and_true,reduceCtorEq,w64 (n:=(i:Int) + 1) (by omega) (by omega)]
    refine ⟨⟨(i + 1,n'),by simp only []; omega,by simp only []; omega,fun j hj h=>?_⟩,?_,?_,?_⟩
    · simp only [] at hj
      rcases Nat.lt_or_eq_of_le (Nat.le_of_lt_succ hj) with h3 | rfl
      · exact hpre j h3 h
      · exact h2
    · rfl
    · exact Nat.le_refl _
    · simp only []; omega
  · simp only [decide_eq_false_iff_not] at h1
    refine Zaz ?_
    try simp only [Zae,Zal,retQ,ite_true]
    refine Zac (Zaa [4] ?_)
    simp only [Zab,Zad,Zaf,pok,pval,VA.ev,Env.get,Env.put,Env.keep,Zae,Nat.reduceEqDiff,ite_true,ite_false,true_and,reduceCtorEq]
    refine Zar ?_
    try simp only [Env.get,retQ,resV,Zau,RS.ev,RS.ok,ite_true,true_and,and_true]
    have ef:l.findIdx (toldB name) = l.length:=List.findIdx_eq_length.2 fun x hx=>by
      obtain ⟨j,hj,rfl⟩:=List.mem_iff_getElem.1 hx
      exact hpre j (by omega) hj
    unfold firstS
    rw [ef,if_neg (Nat.lt_irrefl _)]
theorem find_idx (p:EI → Bool):∀ l:List EI,l.find? p = l[l.findIdx p]?
  | []=>rfl
  | x :: r=>by
    have:=find_idx p r
    cases h:p x <;> simp [List.find?,List.findIdx_cons,h,this]
def eventS (name:Str) (l:List EI):Int × Bool:=match l.find? (toldB name) with | some x=>(x.it.day,true) | none=>(0,false)
theorem sp_commencement_EventDay (l:List EI) (name:Str) (hl:l.length ≤ 1000000):Zbo Tryz.prog 119 [.str name,.sl 28 (l.map EI.enc)] (.tup [pI (eventS name l).1,.bool (eventS name l).2]):=by
  refine Zam ?_ (closed_tup (by simp only [List.mem_cons,List.not_mem_nil,or_false,forall_eq_or_imp,forall_eq]; exact ⟨cI _,cB _⟩)) (by simp only [Za0,List.mem_cons,List.not_mem_nil,or_false,forall_eq_or_imp,forall_eq,false_implies,implies_true]; repeat' (first  | exact cI _ | exact cS _ | exact cB _ | exact Zaw _ | exact Zav _ | exact Za7 (by simp only [List.mem_cons,List.not_mem_nil,or_false,forall_eq]; first | exact cI _ | exact cS _ | exact Zaw _) | refine And.intro ?_ ?_))
  refine Zaq (vc:=c_commencement_EventDay) (ts:=[.t 4,.t 5]) Go.Proofs.Tryz.func119 (by kernel_rfl) rfl rfl (Nat.le_of_ble_eq_true rfl) (by kernel_rfl) ?_
  unfold c_commencement_EventDay
  try dsimp only [ZM,ZO,ZN,ZG]
  refine Zac (Zaa [1,2] ?_)
  simp only [Zab,Zad,Zaf,pok,pval,VA.ev,Env.get,Env.put,Env.keep,Za2,Zae,PV.cells,PV.fits,Heap.push,Heap.nil,Nat.succ_ne_self,Nat.reduceEqDiff,ite_true,ite_false,true_and,reduceCtorEq,BEq.rfl,Nat.zero_add]
  refine Zac (Zaa [1,6] ?_)
  simp only [Zab,Zad,Zaf,pok,pval,VA.ev,Env.get,Env.put,Env.keep,Zae,Nat.succ_ne_self,List.map,Nat.reduceEqDiff,ite_true,ite_false,true_and]
  refine Zbg.mono (ac_IndexFunc l name hl) ?_
  rintro p h' rfl
  refine Zac ?_
  refine Zac (Zaa [1,6,11] ?_)
  simp only [Zab,Zad,Zaf,pok,pval,VA.ev,Env.get,Env.put,Env.keep,Zae,intV,binV,Zah,Nat.reduceEqDiff,ite_true,ite_false,true_and]
  by_cases hf:l.findIdx (toldB name) < l.length
  · have e1:firstS (toldB name) l = (l.findIdx (toldB name):Nat):=if_pos hf
    have hsome:l.find? (toldB name) = some l[l.findIdx (toldB name)]:=by
      rw [find_idx,List.getElem?_eq_getElem hf]
    generalize l.findIdx (toldB name) = i at e1 hf hsome
    have ev:eventS name l = (l[i].it.day,true):=by unfold eventS; rw [hsome]
    rw [e1]
    refine Zai rfl (fun h1=>by simp at h1; omega) (fun h1=>?_)
    refine Zak ?_
    try simp only [Zae]
    refine Zac (Zaa [4,5] ?_)
    have ea:=It.Zcl l[i].it
    simp only [Zab,Zad,Zaf,pok,pval,VA.ev,Env.get,Env.put,Env.keep,Zae,aggV,isInt,numOf,lenV,Zao,Zan,Zag,Zap,Zax,Zas,PV.nth,PV.row,Nat.succ_ne_self,List.length,List.getD_cons_zero,List.take,List.drop,List.take_succ_cons,Nat.reduceEqDiff,Nat.reduceAdd,Nat.reduceLeDiff,Bool.false_eq_true,ite_true,ite_false,true_and,and_true,implies_true,Nat.zero_add,List.length_cons,Int.toNat_natCast,List.length_map,rowm hf,EI.enc,ea]
    repeat (with_reducible refine And.intro ?_ ?_; first | omega | (with_reducible constructor <;> omega) | exact False.elim | exact True.intro)
    refine Zar ?_
    try simp only [Env.get,retQ,resV,Zau,RS.ev,RS.ok,Nat.succ_ne_self,List.map,Nat.reduceEqDiff,ite_true,ite_false,true_and,and_true]
    rw [ev]
    exact View.refl _ _
  · have e1:firstS (toldB name) l = -1:=if_neg hf
    have hnone:l.find? (toldB name) = none:=by
      rw [find_idx,List.getElem?_eq_none (by omega)]
    have ev:eventS name l = (0,false):=by unfold eventS; rw [hnone]
    rw [e1]
    refine Zai rfl (fun h1=>?_) (fun h1=>by simp at h1)
    refine Zac (Zaa [4,5] ?_)
    simp only [Zab,Zad,Zaf,pok,pval,VA.ev,Env.get,Env.put,Env.keep,Zae,Nat.succ_ne_self,Nat.reduceEqDiff,ite_true,ite_false,true_and]
    refine Zar ?_
    try simp only [Env.get,Zae,retQ,resV,Zau,RS.ev,RS.ok,Nat.succ_ne_self,List.map,Nat.reduceEqDiff,ite_true,ite_false,true_and,and_true]
    rw [ev]
    exact View.refl _ _
end Go.Proofs.YtehokmhebnkfdaaGreat.c
