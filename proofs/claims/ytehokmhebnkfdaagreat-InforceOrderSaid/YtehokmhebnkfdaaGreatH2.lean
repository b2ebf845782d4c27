import Derived.Test.YtehokmhebnkfdaaGreatH1
import Derived.Test.YtehokmhebnkfdaaGreatVmP
set_option linter.all false
namespace Go.Proofs.YtehokmhebnkfdaaGreat.w
open Go Go.VM
set_option maxRecDepth 20000
set_option maxHeartbeats 0
set_option pp.deepTerms false
def c_pandectref28_all:VC:=(.seq (.region [ZO 2 (.mv (.c .nilsl))] false) (.seq (.region [ZO 5 (.fx (.mk0 7) []),ZM 3 5] false) (.seq (.seq (.region [ZO 4 (.mv (.c (.int .i64 0)))] false) (.block 0 (.loop (.seq (.seq (.region [ZM 6 4,ZM 7 0,ZO 8 (.len false (.t 7)),ZO 9 (.bin .lss (.t 6) (.t 8))] false) (.cond (.t 9) .skip (.exit 0))) (.seq (.block 1 (.region [ZM 12 3,ZM 13 0,ZM 14 4,ZO 15 (.iaddr 4 (.t 13) (.t 14)),ZO 16 (.faddr 3 (.t 15)),ZO 17 (.load false 1 (.t 16)),ZO 18 (.app 7 88 [(.int .i64 0),(.str []),(.int .i64 0),(.int .i64 0),(.int .i64 0),(.str []),.nilsl] false (.t 12) (.t 17)),ZM 3 18] false)) (.region [ZM 10 4,ZO 11 (.bin .add (.t 10) (.c (.int .i64 1))),ZM 4 11] false)))))) (.seq (.region [ZM 19 3,ZM 2 19] false) .ret))))
def c_pandectref28_first:VC:=(.seq (.region [ZO 4 (.mv (.c (.int .i64 0)))] false) (.seq (.seq (.region [ZO 5 (.mv (.c (.int .i64 0)))] false) (.block 0 (.loop (.seq (.seq (.region [ZM 6 5,ZM 7 0,ZO 8 (.len false (.t 7)),ZO 9 (.bin .lss (.t 6) (.t 8))] false) (.cond (.t 9) .skip (.exit 0))) (.seq (.block 1 (.seq (.region [ZM 12 0,ZM 13 5,ZO 14 (.iaddr 7 (.t 12) (.t 13)),ZO 15 (.faddr 0 (.t 14)),ZO 16 (.load false 1 (.t 15)),ZM 17 1,ZO 18 (.bin .eql (.t 16) (.t 17))] false) (.cond (.t 18) (.seq (.region [ZM 19 5,ZM 4 19] false) .ret) .skip))) (.region [ZM 10 5,ZO 11 (.bin .add (.t 10) (.c (.int .i64 1))),ZM 5 11] false)))))) (.seq (.region [ZO 4 (.mv (.c (.int .i64 (-1))))] false) .ret)))
def c_pandectref28_ahead:VC:=(.seq (.region [ZO 2 (.box 7 (.t 0)),ZO 3 (.box 7 (.t 1)),ZO 4 (.mv (.c (.bool false)))] false) (.seq (.seq (.region [ZO 5 (.faddr 2 (.t 2)),ZO 6 (.load false 1 (.t 5)),ZO 7 (.faddr 2 (.t 3)),ZO 8 (.load false 1 (.t 7)),ZO 9 (.bin .neq (.t 6) (.t 8))] false) (.cond (.t 9) (.seq (.region [ZO 10 (.faddr 2 (.t 2)),ZO 11 (.load false 1 (.t 10)),ZO 12 (.faddr 2 (.t 3)),ZO 13 (.load false 1 (.t 12)),ZO 14 (.bin .lss (.t 11) (.t 13)),ZM 4 14] false) .ret) .skip)) (.seq (.region [ZO 15 (.faddr 0 (.t 2)),ZO 16 (.load false 1 (.t 15)),ZO 17 (.faddr 0 (.t 3)),ZO 18 (.load false 1 (.t 17)),ZO 19 (.bin .lss (.t 16) (.t 18)),ZM 4 19] false) .ret)))
def c_pandectref28_Acts:VC:=(.seq (.region [ZO 2 (.mv (.c .nilsl))] false) (.seq (.region [ZM 8 0,ZO 9 (.call 43 [(.t 8)]),ZM 3 9] false) (.seq (.region [ZO 10 (.fx (.mk0 7) []),ZM 4 10] false) (.seq (.seq (.region [ZO 5 (.mv (.c (.int .i64 0)))] false) (.block 0 (.loop (.seq (.seq (.region [ZM 11 5,ZM 12 3,ZO 13 (.len false (.t 12)),ZO 14 (.bin .lss (.t 11) (.t 13))] false) (.cond (.t 14) .skip (.exit 0))) (.seq (.block 1 (.seq (.seq (.region [ZM 17 3,ZM 18 3,ZM 19 5,ZO 20 (.iaddr 7 (.t 18) (.t 19)),ZO 21 (.faddr 0 (.t 20)),ZO 22 (.load false 1 (.t 21)),ZO 23 (.call 44 [(.t 17),(.t 22)]),ZM 24 5,ZO 25 (.bin .neq (.t 23) (.t 24))] false) (.cond (.t 25) (.exit 1) .skip)) (.seq (.region [ZO 6 (.mv (.c (.int .i64 0)))] false) (.seq (.block 2 (.loop (.seq (.seq (.region [ZM 26 6,ZM 27 4,ZO 28 (.len false (.t 27)),ZO 29 (.bin .lss (.t 26) (.t 28)),ZM 30 29,ZG 31 (.mv (.t 4)) 30 true,ZG 32 (.mv (.t 6)) 30 true,ZG 33 (.iaddr 7 (.t 31) (.t 32)) 30 true,ZG 34 (.load true 7 (.t 33)) 30 true,ZG 35 (.mv (.t 3)) 30 true,ZG 36 (.mv (.t 5)) 30 true,ZG 37 (.iaddr 7 (.t 35) (.t 36)) 30 true,ZG 38 (.load true 7 (.t 37)) 30 true,ZG 39 (.call 45 [(.t 34),(.t 38)]) 30 true,ZO 40 (.pick (.t 30) (.t 39) (.c (.bool false)))] true) (.cond (.t 40) .skip (.exit 2))) (.block 3 (.region [ZM 41 6,ZO 42 (.bin .add (.t 41) (.c (.int .i64 1))),ZM 6 42] false))))) (.seq (.region [ZO 43 (.fx (.mk0 7) []),ZM 44 4,ZM 45 6,ZO 46 (.slice false 7 (.t 44) (some (.t 45)) none),ZO 47 (.app 7 88 [(.int .i64 0),(.str []),(.int .i64 0),(.int .i64 0),(.int .i64 0),(.str []),.nilsl] false (.t 43) (.t 46)),ZM 7 47] false) (.draw2 [ZM 48 4,ZM 49 6,ZO 50 (.slice false 7 (.t 48) none (some (.t 49))),ZM 51 3,ZM 52 5,ZO 53 (.iaddr 7 (.t 51) (.t 52)),ZO 54 (.load true 7 (.t 53)),ZO 55 (.bslice 7 1 [(.int .i64 0),(.str []),(.int .i64 0),(.int .i64 0),(.int .i64 0),(.str []),.nilsl] [(0,(.t 54))]),ZO 56 (.app 7 88 [(.int .i64 0),(.str []),(.int .i64 0),(.int .i64 0),(.int .i64 0),(.str []),.nilsl] false (.t 50) (.t 55)),ZM 57 7,ZO 58 (.app 7 88 [(.int .i64 0),(.str []),(.int .i64 0),(.int .i64 0),(.int .i64 0),(.str []),.nilsl] false (.t 56) (.t 57)),ZM 4 58] [true,true,true,true,true,true,true,true,false,false,false,false])))))) (.region [ZM 15 5,ZO 16 (.bin .add (.t 15) (.c (.int .i64 1))),ZM 5 16] false)))))) (.seq (.region [ZM 59 4,ZM 2 59] false) .ret)))))
theorem sp_pandectref28_all (l:List Gz) (hl:l.length ≤ 1000000) (hr:(rowG l).length ≤ 1000000):Zbo Tryz.prog 43 [.sl 4 (l.map Gz.enc)] (.sl 7 ((rowG l).map Ac.enc)):=by
  refine Zam ?_ (Zcq _) (by simp only [Za0,List.mem_cons,List.not_mem_nil,or_false,forall_eq_or_imp,forall_eq,false_implies,implies_true]; repeat' (first  | exact Zcq _ | exact Zbp _ | refine And.intro ?_ ?_))
  refine Zaq (vc:=c_pandectref28_all) (ts:=[.t 2]) Go.Proofs.Tryz.func43 (by kernel_rfl) rfl rfl (Nat.le_of_ble_eq_true rfl) (by kernel_rfl) ?_
  unfold c_pandectref28_all
  try dsimp only [ZM,ZO,ZN,ZG]
  refine Zac (Zaa [0] ?_)
  simp only [Zab,Zad,Zaf,pok,pval,VA.ev,Env.get,Env.put,Env.keep,Za2,Zae,Heap.nil,ite_true,ite_false,true_and,reduceCtorEq]
  refine Zac (Zaa [0,3] ?_)
  simp only [Zab,Zad,Zaf,pok,pval,VA.ev,Env.get,Env.put,Env.keep,Zae,Heap.push,fxV,fxOk,List.map,Nat.reduceEqDiff,ite_true,ite_false,true_and,reduceCtorEq,Nat.zero_add]
  refine Zac ?_
  refine Zac (Zaa [0,3,4] ?_)
  simp only [Zab,Zad,Zaf,pok,pval,VA.ev,Env.get,Env.put,Env.keep,Zae,Nat.succ_ne_self,Nat.reduceEqDiff,ite_true,ite_false,true_and,reduceCtorEq]
  refine Zaj ?_
  refine Za4 (σ:={ s:Nat × Nat × Nat // s.1 ≤ l.length ∧ s.2.1 < s.2.2 }) (fun s=>([(0,.sl 4 (l.map Gz.enc)),(3,.own s.1.2.1 0 (rowG (l.take s.1.1)).length),(4,pI s.1.1)],⟨[(s.1.2.1,.arr false 7 ((rowG (l.take s.1.1)).map Ac.enc))],s.1.2.2⟩)) (fun s=>l.length - s.1.1) ⟨(0,0,1),⟨Nat.zero_le _,by show 0 < 1; omega⟩⟩ ?_ ?_ ?_
  · try simp only [Env.get,Nat.succ_ne_self,Env.le,List.take,Nat.reduceEqDiff,ite_true,ite_false,true_and,and_true,reduceCtorEq,List.length_nil,List.take_zero,rowG,List.flatMap_nil]
    all_goals (repeat' (first | rfl | trivial | omega | (simp only []; omega) | refine And.intro ?_ ?_))
  · try simp only [Heap.get,Heap.le,HL.get,HL.le,Nat.le_refl,List.map,List.take,ite_true,and_true,List.take_zero,rowG,List.flatMap_nil]
    all_goals (repeat' (first | rfl | trivial | omega | (simp only []; omega) | refine And.intro ?_ ?_))
  rintro ⟨⟨i,id,t⟩,hi,ht⟩
  simp only [] at hi ht ⊢
  refine Zac ?_
  refine Zac (Zaa [0,3,4,9] ?_)
  simp only [Zab,Zad,Zaf,pok,pval,VA.ev,Env.get,Env.put,Env.keep,Zae,intV,binV,Zah,lenV,Za8,Heap.get,Heap.le,HL.le,Nat.succ_ne_self,Env.le,Nat.reduceEqDiff,ite_true,ite_false,true_and,and_true,reduceCtorEq,List.length_map]
  refine Zai rfl (fun h1=>?_) (fun h1=>?_)
  · refine Zak ?_
    try simp only [Zae]
    simp only [decide_eq_true_eq] at h1
    have ia:i < l.length:=by omega
    have hrow:=rowG_take ia
    have hrl:=rowG_le l (i + 1)
    rw [hrow,List.length_append] at hrl
    have qi0:(id = t) = False:=eq_false (by omega)
    have qi1:(t = id) = False:=eq_false (by omega)
    refine Zac ?_
    refine Zaj ?_
    refine Zaa [0,3,4] ?_
    have hlen:((rowG (l.take i)).map Ac.enc).length = (rowG (l.take i)).length:=by simp
    have htk:((rowG (l.take i)).map Ac.enc).take (rowG (l.take i)).length = (rowG (l.take i)).map Ac.enc:=List.take_of_length_le (by simp)
    simp only [Zab,Zad,Zaf,pok,pval,VA.ev,Env.get,Env.put,Env.keep,Zae,Zal,aggV,isInt,numOf,lenV,Zao,Zan,Zag,Zap,Zax,Zas,PV.nth,PV.row,Heap.get,Heap.del,HL.get,HL.del,Heap.push,Nat.le_refl,Nat.succ_ne_self,Zbq,Zc8,Zbk,Zda,Zbc,Zcw,List.length,List.getD_cons_zero,List.take,List.drop,List.take_succ_cons,Nat.reduceEqDiff,Bool.false_eq_true,ite_true,ite_false,true_and,and_true,implies_true,reduceCtorEq,Nat.zero_add,List.length_cons,Int.toNat_natCast,List.length_map,rowm ia,gz_take,gz_len,gz_drop,gz_acts,List.append_nil,htk,qi0,qi1]
    repeat (with_reducible refine And.intro ?_ ?_; first | omega | (with_reducible constructor <;> omega) | exact False.elim | exact True.intro)
    refine Zaa [0,3,4] ?_
    simp only [Zab,Zad,Zaf,pok,pval,VA.ev,Env.get,Env.put,Env.keep,Zae,intV,binV,Zah,HL.get,Nat.succ_ne_self,Nat.reduceEqDiff,ite_true,ite_false,true_and,reduceCtorEq,List.length_map,ad1 (a:=i) (by omega)]
    refine ⟨⟨(i + 1,t,t + 1),⟨ia,by show t < t + 1; omega⟩⟩,?_⟩
    rw [hrow,List.map_append,List.length_append]
    try simp only [Nat.le_refl,ite_true,true_and,and_true,qi0,qi1]
    all_goals (repeat' (first | rfl | trivial | omega | (simp only []; omega) | refine And.intro ?_ ?_))
  · simp only [decide_eq_false_iff_not] at h1
    obtain rfl:i = l.length:=by omega
    refine Zaz ?_
    try simp only [Zae,Zal,retQ,ite_true]
    refine Zac (Zaa [2] ?_)
    simp only [Zab,Zad,Zaf,pok,pval,VA.ev,Env.get,Env.put,Env.keep,Zae,Nat.succ_ne_self,Nat.reduceEqDiff,ite_true,ite_false,true_and,reduceCtorEq]
    refine Zar ?_
    try simp only [Env.get,retQ,resV,Zau,RS.ev,RS.ok,ite_true,true_and,and_true]
    rw [List.take_length]
    exact View.own_all (fz:=false) (by simp [Heap.get,HL.get]) (by simp)
def firstS (n:Int):List Ac → Nat → Int
  | [],_=>-1
  | x :: r,k=>if x.number = n then k else firstS n r (k + 1)
theorem firstS_spec:∀ (l:List Ac) (k i:Nat) (h:i < l.length),firstS l[i].number l k = ((k + i:Nat):Int) ↔ l[i].number ∉ (l.take i).map Ac.number
  | x :: r,k,0,h=>by simp [firstS]
  | x :: r,k,i + 1,h=>by
    have hi:i < r.length:=by simpa using h
    have ih:=firstS_spec r (k + 1) i hi
    simp only [List.getElem_cons_succ,firstS,List.take_succ_cons,List.map_cons,List.mem_cons]
    by_cases e:x.number = r[i].number
    · rw [if_pos e]
      constructor
      · intro h; omega
      · intro h; exact absurd (.inl e.symm) h
    · rw [if_neg e,show k + (i + 1) = k + 1 + i by omega,ih]
      constructor
      · rintro h (h2 | h2)
        · exact e h2.symm
        · exact h h2
      · intro h h2; exact h (.inr h2)
theorem sp_pandectref28_first (l:List Ac) (n:Int) (hl:l.length ≤ 1000000):Zbo Tryz.prog 44 [.sl 7 (l.map Ac.enc),pI n] (pI (firstS n l 0)):=by
  refine Zam ?_ (cI _) (by simp only [Za0,List.mem_cons,List.not_mem_nil,or_false,forall_eq_or_imp,forall_eq,false_implies,implies_true]; repeat' (first  | exact cI _ | exact Zcq _ | exact Za7 (by simp only [List.mem_cons,List.not_mem_nil,or_false,forall_eq]; first | exact cI _ | exact cS _ | exact Zaw _) | refine And.intro ?_ ?_))
  refine Zaq (vc:=c_pandectref28_first) (ts:=[.t 4]) Go.Proofs.Tryz.func44 (by kernel_rfl) rfl rfl (Nat.le_of_ble_eq_true rfl) (by kernel_rfl) ?_
  unfold c_pandectref28_first
  try dsimp only [ZM,ZO,ZN,ZG]
  refine Zac (Zaa [0,1] ?_)
  simp only [Zab,Zad,Zaf,pok,pval,VA.ev,Env.get,Env.put,Env.keep,Za2,Zae,Heap.nil,Nat.succ_ne_self,Nat.reduceEqDiff,ite_true,ite_false,true_and,reduceCtorEq,Nat.zero_add]
  refine Zac ?_
  refine Zac (Zaa [0,1,5] ?_)
  simp only [Zab,Zad,Zaf,pok,pval,VA.ev,Env.get,Env.put,Env.keep,Zae,Nat.succ_ne_self,Nat.reduceEqDiff,ite_true,ite_false,true_and,reduceCtorEq]
  refine Zaj ?_
  refine Za4 (σ:={ i:Nat // i ≤ l.length ∧ firstS n l 0 = firstS n (l.drop i) i }) (fun s=>([(0,.sl 7 (l.map Ac.enc)),(1,pI n),(5,pI s.1)],⟨[],0⟩)) (fun s=>l.length - s.1) ⟨0,⟨Nat.zero_le _,rfl⟩⟩ ?_ ?_ ?_
  · try simp only [Env.get,Nat.succ_ne_self,Env.le,Nat.reduceEqDiff,ite_true,ite_false,true_and,and_true,reduceCtorEq]
    all_goals (repeat' (first | rfl | trivial | omega | (simp only []; omega) | refine And.intro ?_ ?_))
  · try simp only [Heap.le,HL.le,Nat.le_refl,and_true]
    all_goals (repeat' (first | rfl | trivial | omega | (simp only []; omega) | refine And.intro ?_ ?_))
  rintro ⟨i,hi,hf⟩
  simp only [] at hi hf ⊢
  refine Zac ?_
  refine Zac (Zaa [0,1,5,9] ?_)
  simp only [Zab,Zad,Zaf,pok,pval,VA.ev,Env.get,Env.put,Env.keep,Zae,intV,binV,Zah,lenV,Za8,Heap.le,HL.le,Nat.succ_ne_self,Env.le,Nat.reduceEqDiff,ite_true,ite_false,true_and,and_true,reduceCtorEq,List.length_map]
  refine Zai rfl (fun h1=>?_) (fun h1=>?_)
  · refine Zak ?_
    try simp only [Zae]
    simp only [decide_eq_true_eq] at h1
    have ia:i < l.length:=by omega
    have hd:l.drop i = l[i] :: l.drop (i + 1):=List.drop_eq_getElem_cons ia
    rw [hd,firstS] at hf
    refine Zac ?_
    refine Zaj ?_
    refine Zac (Zaa [0,1,5,18] ?_)
    simp only [Zab,Zad,Zaf,pok,pval,VA.ev,Env.get,Env.put,Env.keep,Zae,aggV,intV,binV,Zah,isInt,numOf,lenV,Zao,Zan,Zag,Zap,Zax,Zas,PV.nth,PV.row,Nat.succ_ne_self,List.drop,Nat.reduceEqDiff,Nat.reduceLeDiff,Bool.false_eq_true,ite_true,ite_false,true_and,and_true,implies_true,reduceCtorEq,Int.toNat_natCast,List.length_map,rowm ia,ac_num,Zb2]
    repeat (with_reducible refine And.intro ?_ ?_; first | omega | (with_reducible constructor <;> omega) | exact False.elim | exact True.intro)
    refine Zai rfl (fun h2=>?_) (fun h2=>?_)
    · simp only [beq_iff_eq] at h2
      rw [if_pos h2] at hf
      refine Zac (Zaa [4] ?_)
      simp only [Zab,Zad,Zaf,pok,pval,VA.ev,Env.get,Env.put,Env.keep,Zae,Nat.succ_ne_self,Nat.reduceEqDiff,ite_true,ite_false,true_and,reduceCtorEq]
      refine Zar ?_
      try simp only [Env.get,Zae,Zal,retQ,resV,Zau,RS.ev,RS.ok,ite_true,true_and,and_true]
      rw [hf]
      exact View.refl _ _
    refine Zak ?_
    try simp only [Zae,Zal]
    simp only [beq_eq_false_iff_ne,ne_eq] at h2
    rw [if_neg h2] at hf
    refine Zaa [0,1,5] ?_
    simp only [Zab,Zad,Zaf,pok,pval,VA.ev,Env.get,Env.put,Env.keep,Zae,intV,binV,Zah,Nat.le_refl,Nat.succ_ne_self,Nat.reduceEqDiff,ite_true,ite_false,true_and,reduceCtorEq,ad1 (a:=i) (by omega)]
    refine ⟨⟨i + 1,⟨ia,hf⟩⟩,?_⟩
    try simp only [true_and]
    all_goals (repeat' (first | rfl | trivial | omega | (simp only []; omega) | refine And.intro ?_ ?_))
  · simp only [decide_eq_false_iff_not] at h1
    obtain rfl:i = l.length:=by omega
    refine Zaz ?_
    try simp only [Zae,Zal,retQ,ite_true]
    refine Zac (Zaa [4] ?_)
    simp only [Zab,Zad,Zaf,pok,pval,VA.ev,Env.get,Env.put,Env.keep,Zae,Nat.succ_ne_self,Nat.reduceEqDiff,ite_true,ite_false,true_and,reduceCtorEq]
    refine Zar ?_
    try simp only [Env.get,retQ,resV,Zau,RS.ev,RS.ok,ite_true,true_and,and_true]
    rw [hf,List.drop_length]
    exact View.refl _ _
theorem sp_pandectref28_ahead (a b:Ac):Zbo Tryz.prog 45 [.agg a.enc,.agg b.enc] (.bool (aheadA a b)):=by
  refine Zam ?_ (cB _) (by simp only [Za0,List.mem_cons,List.not_mem_nil,or_false,forall_eq_or_imp,forall_eq,false_implies,implies_true]; repeat' (first  | exact cB _ | exact Zay (Ac.closed _) | refine And.intro ?_ ?_))
  refine Zaq (vc:=c_pandectref28_ahead) (ts:=[.t 4]) Go.Proofs.Tryz.func45 (by kernel_rfl) rfl rfl (Nat.le_of_ble_eq_true rfl) (by kernel_rfl) ?_
  unfold c_pandectref28_ahead
  try dsimp only [ZM,ZO,ZN,ZG]
  refine Zac (Zaa [2,3] ?_)
  simp only [Zab,Zad,Zaf,pok,pval,VA.ev,Env.get,Env.put,Env.keep,Za2,Zae,PV.cells,PV.fits,Heap.push,Heap.nil,Nat.succ_ne_self,List.length,Nat.reduceEqDiff,Nat.reduceAdd,ite_true,ite_false,true_and,reduceCtorEq,BEq.rfl,Nat.zero_add,Ac.enc]
  refine Zac ?_
  refine Zac (Zaa [2,3,9] ?_)
  simp only [Zab,Zad,Zaf,pok,pval,VA.ev,Env.get,Env.put,Env.keep,Zae,aggV,intV,binV,Zah,Zao,Zan,Zag,Zap,PV.nth,PV.row,Heap.get,HL.get,Nat.succ_ne_self,List.length,List.getD_cons_zero,List.take,List.drop,List.take_succ_cons,List.drop_succ_cons,Nat.reduceEqDiff,Nat.reduceAdd,Nat.reduceLT,Nat.reduceLeDiff,Bool.false_eq_true,ite_true,ite_false,true_and,and_true,implies_true,reduceCtorEq,Nat.zero_add,List.length_cons]
  unfold aheadA
  refine Zai rfl (fun h1=>?_) (fun h1=>?_)
  · simp only [bne_iff_ne,ne_eq] at h1
    refine Zac (Zaa [4] ?_)
    simp only [Zab,Zad,Zaf,pok,pval,VA.ev,Env.get,Env.put,Env.keep,Zae,aggV,intV,binV,Zah,Zao,Zan,Zag,Zap,PV.nth,PV.row,Heap.get,HL.get,Nat.succ_ne_self,List.length,List.getD_cons_zero,List.take,List.drop,List.take_succ_cons,List.drop_succ_cons,Nat.reduceEqDiff,Nat.reduceAdd,Nat.reduceLT,Nat.reduceLeDiff,Bool.false_eq_true,ite_true,ite_false,true_and,and_true,implies_true,ne_eq,reduceCtorEq,Nat.zero_add,List.length_cons]
    refine Zar ?_
    try simp only [Env.get,Zae,retQ,resV,Zau,RS.ev,RS.ok,ite_true,true_and,and_true]
    rw [if_pos h1]
    exact View.refl _ _
  refine Zak ?_
  try simp only [Zae,ne_eq]
  simp only [bne_eq_false_iff_eq] at h1
  refine Zac (Zaa [4] ?_)
  simp only [Zab,Zad,Zaf,pok,pval,VA.ev,Env.get,Env.put,Env.keep,Zae,aggV,intV,binV,Zah,Zao,Zan,Zag,Zap,PV.nth,PV.row,Heap.get,HL.get,Nat.succ_ne_self,List.length,List.getD_cons_zero,List.take,List.drop,List.take_succ_cons,Nat.reduceEqDiff,Nat.reduceAdd,Nat.reduceLT,Nat.reduceLeDiff,Bool.false_eq_true,ite_true,ite_false,true_and,and_true,implies_true,reduceCtorEq,Nat.zero_add,Nat.add_zero,List.length_cons]
  refine Zar ?_
  try simp only [Env.get,retQ,resV,Zau,RS.ev,RS.ok,ite_true,true_and,and_true]
  rw [if_neg (by simpa using h1)]
  exact View.refl _ _
theorem fstA_snoc:∀ (r:List Ac) (s:List Int) (x:Ac),fstA s (r ++ [x]) = fstA s r ++ if x.number ∈ s ∨ x.number ∈ r.map Ac.number then [] else [x]
  | [],s,x=>by simp only [List.nil_append,fstA,List.map_nil,List.not_mem_nil,or_false]
  | y :: r,s,x=>by
    simp only [List.cons_append,fstA]
    split
    · rename_i hy
      rw [fstA_snoc r s x]
      congr 1
      have:(x.number ∈ s ∨ x.number ∈ (y :: r).map Ac.number) ↔ (x.number ∈ s ∨ x.number ∈ r.map Ac.number):=by
        simp only [List.map_cons,List.mem_cons]
        constructor
        · rintro (h | h | h)
          · exact .inl h
          · rw [h]; exact .inl hy
          · exact .inr h
        · rintro (h | h)
          · exact .inl h
          · exact .inr (.inr h)
      simp only [this]
    · rw [fstA_snoc r (y.number :: s) x,List.cons_append]
      congr 2
      have:(x.number ∈ y.number :: s ∨ x.number ∈ r.map Ac.number) ↔ (x.number ∈ s ∨ x.number ∈ (y :: r).map Ac.number):=by
        simp only [List.map_cons,List.mem_cons]
        constructor
        · rintro ((h | h) | h)
          · exact .inr (.inl h)
          · exact .inl h
          · exact .inr (.inr h)
        · rintro (h | h | h)
          · exact .inl (.inr h)
          · exact .inl (.inl h)
          · exact .inr h
      simp only [this]
theorem tw_at (p:Ac → Bool):∀ (l:List Ac) (k:Nat),(∀ y ∈ l.take k,p y = true) → (k = l.length ∨ ∃ h:k < l.length,p l[k] = false) → l.takeWhile p = l.take k ∧ l.dropWhile p = l.drop k
  | [],k,_,_=>by simp
  | x :: r,0,_,h=>by
    rcases h with h | ⟨_,h⟩
    · simp at h
    · simp only [List.getElem_cons_zero] at h; simp [List.takeWhile_cons,List.dropWhile_cons,h]
  | x :: r,k + 1,h1,h2=>by
    have hx:=h1 x (by simp)
    have:=tw_at p r k (fun y hy=>h1 y (by simp [hy])) (by simpa using h2)
    simp [List.takeWhile_cons,List.dropWhile_cons,hx,this]
theorem insA_len (o:List Ac) (x:Ac):(insA o x).length = o.length + 1:=(insA_perm o x).length_eq
theorem foldIns_len:∀ (l o:List Ac),(l.foldl insA o).length = o.length + l.length
  | [],o=>rfl
  | x :: r,o=>by rw [List.foldl_cons,foldIns_len r,insA_len,List.length_cons]; omega
theorem Zdr (l:List Gz) (hl:l.length ≤ 1000000) (hr:(rowG l).length ≤ 1000000):Zbo Tryz.prog 20 [.sl 4 (l.map Gz.enc)] (.sl 7 ((Zbr (rowG l)).map Ac.enc)):=by
  refine Zam ?_ (Zcq _) (by simp only [Za0,List.mem_cons,List.not_mem_nil,or_false,forall_eq_or_imp,forall_eq,false_implies,implies_true]; repeat' (first  | exact Zcq _ | exact Zbp _ | refine And.intro ?_ ?_))
  refine Zaq (vc:=c_pandectref28_Acts) (ts:=[.t 2]) Go.Proofs.Tryz.func20 (by kernel_rfl) rfl rfl (Nat.le_of_ble_eq_true rfl) (by kernel_rfl) ?_
  unfold c_pandectref28_Acts
  try dsimp only [ZM,ZO,ZN,ZG]
  refine Zac (Zaa [0] ?_)
  simp only [Zab,Zad,Zaf,pok,pval,VA.ev,Env.get,Env.put,Env.keep,Za2,Zae,Heap.nil,ite_true,ite_false,true_and,reduceCtorEq]
  refine Zac (Zaa [3] ?_)
  simp only [Zab,Zad,Zaf,pok,pval,VA.ev,Env.get,Env.put,Env.keep,Zae,List.map,Nat.reduceEqDiff,ite_true,ite_false,true_and,reduceCtorEq]
  refine Zat (sp_pandectref28_all l hl hr) ?_
  unfold Zbr
  generalize rowG l = row at hr ⊢
  skip
  refine Zac (Zaa [3,4] ?_)
  simp only [Zab,Zad,Zaf,pok,pval,VA.ev,Env.get,Env.put,Env.keep,Zae,Heap.push,Nat.succ_ne_self,fxV,fxOk,List.map,Nat.reduceEqDiff,ite_true,ite_false,true_and,Nat.zero_add]
  refine Zac ?_
  refine Zac (Zaa [3,4,5] ?_)
  simp only [Zab,Zad,Zaf,pok,pval,VA.ev,Env.get,Env.put,Env.keep,Zae,Nat.succ_ne_self,Nat.reduceEqDiff,ite_true,ite_false,true_and]
  refine Zaj ?_
  refine Za4 (σ:={ s:Nat × Nat × Nat // s.1 ≤ row.length ∧ s.2.1 < s.2.2 }) (fun s=>([(3,.sl 7 (row.map Ac.enc)),(4,.own s.1.2.1 0 ((fstA [] (row.take s.1.1)).foldl insA []).length),(5,pI s.1.1)],⟨[(s.1.2.1,.arr false 7 (((fstA [] (row.take s.1.1)).foldl insA []).map Ac.enc))],s.1.2.2⟩)) (fun s=>row.length - s.1.1) ⟨(0,0,1),⟨Nat.zero_le _,by show 0 < 1; omega⟩⟩ ?_ ?_ ?_
  · try simp only [Env.get,Nat.succ_ne_self,Env.le,List.take,Nat.reduceEqDiff,ite_true,ite_false,true_and,and_true,List.length_nil,List.take_zero,fstA,List.foldl_nil]
    all_goals (repeat' (first | rfl | trivial | omega | (simp only []; omega) | refine And.intro ?_ ?_))
  · try simp only [Heap.get,Heap.le,HL.get,HL.le,Nat.le_refl,List.map,List.take,ite_true,and_true,List.take_zero,fstA,List.foldl_nil]
    all_goals (repeat' (first | rfl | trivial | omega | (simp only []; omega) | refine And.intro ?_ ?_))
  rintro ⟨⟨i,id,t⟩,hi,ht⟩
  simp only [] at hi ht ⊢
  refine Zac ?_
  refine Zac (Zaa [3,4,5,14] ?_)
  simp only [Zab,Zad,Zaf,pok,pval,VA.ev,Env.get,Env.put,Env.keep,Zae,intV,binV,Zah,lenV,Za8,Heap.get,Heap.le,HL.le,Nat.succ_ne_self,Env.le,Nat.reduceEqDiff,ite_true,ite_false,true_and,and_true,List.length_map]
  refine Zai rfl (fun h1=>?_) (fun h1=>?_)
  · refine Zak ?_
    try simp only [Zae]
    simp only [decide_eq_true_eq] at h1
    have ia:i < row.length:=by omega
    have hfs:=fstA_snoc (row.take i) [] row[i]
    have htk1:row.take (i + 1) = row.take i ++ [row[i]]:=by rw [List.take_add_one,List.getElem?_eq_getElem ia]; rfl
    rw [← htk1] at hfs
    have hspec:=firstS_spec row 0 i ia
    rw [Nat.zero_add] at hspec
    have hol:=foldIns_len (fstA [] (row.take i)) []
    have hfl:=fst_le (row.take i) []
    refine Zac ?_
    refine Zaj ?_
    refine Zac ?_
    refine Zac (Zaa [3,4,5,25] ?_)
    simp only [Zab,Zad,Zaf,pok,pval,VA.ev,Env.get,Env.put,Env.keep,Zae,aggV,intV,binV,Zah,strV,isInt,numOf,lenV,Zao,Zan,Zag,Zap,Zax,Zas,PV.nth,PV.row,Nat.succ_ne_self,List.map,List.drop,Nat.reduceEqDiff,Nat.reduceLeDiff,Bool.false_eq_true,ite_true,ite_false,true_and,and_true,implies_true,Int.toNat_natCast,List.length_map,rowm ia,ac_num,Zb2]
    repeat (with_reducible refine And.intro ?_ ?_; first | omega | (with_reducible constructor <;> omega) | exact False.elim | exact True.intro)
    refine Zat (sp_pandectref28_first row row[i].number hr) ?_
    try simp only [true_and]
    refine Zai rfl (fun h2=>?_) (fun h2=>?_)
    · simp only [bne_iff_ne,ne_eq] at h2
      have hin:row[i].number ∈ (row.take i).map Ac.number:=Classical.byContradiction fun h=>h2 (hspec.2 h)
      rw [if_pos (.inr hin),List.append_nil] at hfs
      refine Zaz ?_
      try simp only [Zae,Zal,retQ,Nat.succ_ne_self,ite_true,ite_false]
      refine Zaa [3,4,5] ?_
      simp only [Zab,Zad,Zaf,pok,pval,VA.ev,Env.get,Env.put,Env.keep,Zae,intV,binV,Zah,HL.get,Nat.succ_ne_self,Nat.reduceEqDiff,ite_true,ite_false,true_and,ad1 (a:=i) (by omega)]
      refine ⟨⟨(i + 1,id,t),⟨ia,ht⟩⟩,?_⟩
      rw [hfs]
      try simp only [Nat.le_refl,ite_true,true_and,and_true]
      all_goals (repeat' (first | rfl | trivial | omega | (simp only []; omega) | refine And.intro ?_ ?_))
    refine Zak ?_
    try simp only [Zae]
    simp only [bne_eq_false_iff_eq] at h2
    have hnin:=hspec.1 h2
    rw [if_neg (by rintro (h | h); exact (List.not_mem_nil h).elim; exact hnin h)] at hfs
    have hins:(fstA [] (row.take (i + 1))).foldl insA [] = insA ((fstA [] (row.take i)).foldl insA []) row[i]:=by rw [hfs,List.foldl_append]; rfl
    generalize (fstA [] (row.take i)).foldl insA [] = out at hins hol ⊢
    have hol':out.length ≤ 1000000:=by simp only [List.length_nil,List.length_take] at hol hfl; omega
    refine Zac (Zaa [3,4,5,6] ?_)
    simp only [Zab,Zad,Zaf,pok,pval,VA.ev,Env.get,Env.put,Env.keep,Zae,Nat.succ_ne_self,Nat.reduceEqDiff,ite_true,ite_false,true_and]
    refine Zac ?_
    refine Zaj ?_
    refine Za4 (σ:={ k:Nat // k ≤ out.length ∧ ∀ y ∈ out.take k,aheadA y row[i] = true }) (fun s=>([(3,.sl 7 (row.map Ac.enc)),(4,.own id 0 out.length),(5,pI i),(6,pI s.1)],⟨[(id,.arr false 7 (out.map Ac.enc))],t⟩)) (fun s=>out.length - s.1) ⟨0,⟨Nat.zero_le _,fun y hy=>by simp at hy⟩⟩ ?_ ?_ ?_
    · try simp only [Env.get,Nat.succ_ne_self,Env.le,Nat.reduceEqDiff,ite_true,ite_false,true_and,and_true]
      all_goals (repeat' (first | rfl | trivial | omega | (simp only []; omega) | refine And.intro ?_ ?_))
    · try simp only [Heap.get,Heap.le,HL.get,HL.le,Nat.le_refl,ite_true,and_true]
      all_goals (repeat' (first | rfl | trivial | omega | (simp only []; omega) | refine And.intro ?_ ?_))
    rintro ⟨k,hk,hall⟩
    simp only [] at hk hall ⊢
    have done:(k = out.length ∨ ∃ h:k < out.length,aheadA out[k] row[i] = false) → insA out row[i] = out.take k ++ row[i] :: out.drop k:=fun h=>by
      obtain ⟨e1,e2⟩:=tw_at (aheadA · row[i]) out k hall h
      unfold insA; rw [e1,e2]
    refine Zac ?_
    refine Zac ?_
    refine VW_mid (σ:={ b:Bool // (b = true → ∃ h:k < out.length,aheadA out[k] row[i] = true) ∧ (b = false → insA out row[i] = out.take k ++ row[i] :: out.drop k) }) (fun s=>([(3,.sl 7 (row.map Ac.enc)),(4,.own id 0 out.length),(5,pI i),(6,pI k),(40,.bool s.1)],⟨[(id,.arr false 7 (out.map Ac.enc))],t⟩)) ?_ (fun s=>?_)
    · refine Zb3 [3,4,5,6,40] (by simp [Heap.le,Heap.get,HL.le,HL.get]) ?_
      by_cases hko:k < out.length
      · have e0:decide ((k:Int) < (out.length:Int)) = true:=decide_eq_true (by omega)
        simp only [midQ,Zbb,Zbu,DrawW_y,QW,dok,dval,VOp.pure,VOp.simple,VOp.det,pok,pval,VA.ev,Env.get,Env.put,Env.keep,gd,Za1,isBool,aggV,intV,binV,Zah,isInt,numOf,lenV,Zag,Zap,Zax,Zas,Za8,PV.nth,PV.row,Heap.get,Heap.le,HL.get,HL.le,Nat.le_refl,Nat.succ_ne_self,Env.le,List.drop,Nat.reduceEqDiff,Bool.true_eq_false,ite_true,ite_false,true_and,and_true,implies_true,forall_const,Nat.zero_add,imp_self,Int.toNat_natCast,List.length_map,rowm ia,rowm hko,e0,Zcs,Zb2]
        repeat (with_reducible refine And.intro ?_ ?_; first | omega | (with_reducible constructor <;> omega) | exact False.elim | exact True.intro)
        refine ⟨_,.inl (sp_pandectref28_ahead ..),?_⟩
        skip
        refine ⟨⟨aheadA out[k] row[i],⟨fun h=>⟨hko,h⟩,fun h=>done (.inr ⟨hko,h⟩)⟩⟩,?_⟩
        try simp only []
        all_goals (repeat' (first | rfl | trivial | omega | (simp only []; omega) | refine And.intro ?_ ?_))
      · have e0:decide ((k:Int) < (out.length:Int)) = false:=decide_eq_false (by omega)
        simp only [midQ,Zbb,Zbu,DrawW_xt,QW,dok,dval,VOp.pure,VOp.simple,VOp.det,pok,pval,VA.ev,Env.get,Env.put,Env.keep,gd,Za1,isBool,intV,binV,Zah,lenV,Za8,Heap.get,Heap.le,HL.get,HL.le,Nat.le_refl,Nat.succ_ne_self,Env.le,Nat.reduceEqDiff,Bool.false_eq_true,ite_true,ite_false,true_and,and_true,implies_true,e0]
        refine ⟨⟨false,⟨fun h=>Bool.noConfusion h,fun _=>done (.inl (by omega))⟩⟩,?_⟩
        try simp only []
        all_goals (repeat' (first | rfl | trivial | omega | (simp only []; omega) | refine And.intro ?_ ?_))
    obtain ⟨b,hb1,hb2⟩:=s
    refine Zai rfl (fun h3=>?_) (fun h3=>?_)
    · obtain ⟨hko,hah⟩:=hb1 h3
      refine Zak ?_
      try simp only [Zae,Heap.get,Heap.le,HL.le,Env.le,and_true]
      refine Zaj ?_
      refine Zaa [3,4,5,6] ?_
      simp only [Zab,Zad,Zaf,pok,pval,VA.ev,Env.get,Env.put,Env.keep,Zae,Zal,intV,binV,Zah,HL.get,Nat.le_refl,Nat.succ_ne_self,Nat.reduceEqDiff,ite_true,ite_false,true_and,and_true,ad1 (a:=k) (by omega)]
      refine ⟨⟨k + 1,⟨hko,fun y hy=>?_⟩⟩,?_⟩
      · rw [List.take_add_one,List.getElem?_eq_getElem hko] at hy
        rcases List.mem_append.1 hy with h | h
        · exact hall y h
        · simp only [Option.toList_some,List.mem_singleton] at h; rw [h]; exact hah
      try simp only [true_and]
      all_goals (repeat' (first | rfl | trivial | omega | (simp only []; omega) | refine And.intro ?_ ?_))
    · have hin:=hb2 h3
      refine Zaz ?_
      try simp only [Zae,Zal,retQ,Nat.succ_ne_self,ite_true,ite_false,reduceCtorEq]
      refine Zac (Zaa [3,4,5,6,7] ?_)
      have a1:(out.map Ac.enc).take out.length = out.map Ac.enc:=List.take_of_length_le (by simp)
      have a2:((out.map Ac.enc).drop k).take (out.length - k) = (out.map Ac.enc).drop k:=List.take_of_length_le (by simp)
      have a3:((out.map Ac.enc).drop k).length = out.length - k:=by simp
      have qi0:(id = t) = False:=eq_false (by omega)
      have qi1:(id = (t + 1)) = False:=eq_false (by omega)
      have qi2:(t = id) = False:=eq_false (by omega)
      have qi3:(t = (t + 1)) = False:=eq_false (by omega)
      have qi4:((t + 1) = id) = False:=eq_false (by omega)
      have qi5:((t + 1) = t) = False:=eq_false (by omega)
      simp only [Zab,Zad,Zaf,pok,pval,VA.ev,Env.get,Env.put,Env.keep,Zae,numOf,loV,hiV,lenV,Zc9,sliceV,sliceOk,Heap.get,Heap.del,HL.get,HL.del,Heap.push,Nat.le_refl,Nat.succ_ne_self,Zbq,Zc8,Zbk,Zda,Zbc,Zcw,fxV,fxOk,List.map,List.length,List.take,List.nil_append,Option.map,Nat.reduceEqDiff,ite_true,ite_false,true_and,and_true,Nat.zero_add,Nat.add_zero,List.length_nil,Int.toNat_natCast,List.length_map,a2,a3,qi0,qi1,qi2,qi3,qi4,qi5]
      repeat (with_reducible refine And.intro ?_ ?_; first | omega | (with_reducible constructor <;> omega) | exact False.elim | exact True.intro)
      refine VW_draw2A (t + 10) [3,4,5] ?_ ?_
      · try simp only [Heap.get,Heap.le,HL.get,HL.le,Nat.reduceLeDiff,ite_true,ite_false,and_true,qi0,qi1,qi2,qi3,qi4,qi5]
        all_goals (repeat' (first | rfl | trivial | omega | (simp only []; omega) | refine And.intro ?_ ?_))
      have a4:((out.map Ac.enc).take k).length = k:=by simp; omega
      have a5:((out.map Ac.enc).take k ++ [row[i].enc]).length = k + 1:=by simp; omega
      have a6:((out.map Ac.enc).take k ++ [row[i].enc]).take (k + 1) = (out.map Ac.enc).take k ++ [row[i].enc]:=List.take_of_length_le (by rw [a5]; exact Nat.le_refl _)
      have a7:((out.map Ac.enc).drop k).take (out.length - k) = (out.map Ac.enc).drop k:=a2
      simp only [Zaf,QW,dok,dval,VOp.pure,VOp.simple,VOp.det,pok,pval,VA.ev,Env.get,Env.put,Env.keep,Zae,Zal,gd,aggV,isInt,numOf,loV,hiV,lenV,Zc9,sliceV,sliceOk,Zag,Zap,Zax,Zas,PV.cells,PV.fits,PV.nth,PV.row,Heap.get,Heap.del,Heap.le,HL.get,HL.del,HL.le,Heap.push,Nat.le_refl,Nat.add_eq_left,Nat.left_eq_add,Nat.succ_ne_self,Zbq,Zc8,Zbk,Zda,Zbc,Zcw,Zbj,Zbf,List.set,List.replicate,List.length,List.getD_cons_zero,List.getD_cons_succ,List.drop,Option.map,Nat.reduceEqDiff,Nat.reduceAdd,Nat.reduceLT,Nat.reduceLeDiff,Bool.true_eq_false,ite_true,ite_false,true_and,and_true,implies_true,forall_const,reduceCtorEq,BEq.rfl,Nat.zero_add,Nat.add_zero,List.length_cons,imp_self,Int.toNat_natCast,DrawA,List.length_map,qi0,qi1,qi2,qi3,qi4,qi5,a1,a2,a3,VOp.writes,rowm ia,Zcs,Zb2,Nat.sub_zero,a4,a5,a6,false_implies,implies_true]
      repeat (with_reducible refine And.intro ?_ ?_; first | omega | (with_reducible constructor <;> omega) | exact False.elim | exact True.intro)
      skip
      refine Zaa [3,4,5] ?_
      simp only [Zab,Zad,Zaf,pok,pval,VA.ev,Env.get,Env.put,Env.keep,Zae,intV,binV,Zah,HL.get,Nat.succ_ne_self,Nat.reduceEqDiff,ite_true,ite_false,true_and,ad1 (a:=i) (by omega)]
      refine ⟨⟨(i + 1,t + 1 + 1 + 1,t + 1 + 1 + 1 + 1),⟨ia,by show t + 1 + 1 + 1 < t + 1 + 1 + 1 + 1; omega⟩⟩,?_⟩
      rw [hins,show (insA out row[i]).length = k + 1 + (out.length - k) by rw [insA_len]; omega,hin,List.map_append,List.map_cons,List.map_take,List.map_drop]
      try simp only [Nat.le_refl,Nat.left_eq_add,List.cons_append,List.nil_append,Nat.reduceEqDiff,ite_true,ite_false,true_and,and_true,reduceCtorEq,qi0,qi1,qi2,qi3,qi4,qi5,List.append_assoc]
      all_goals (repeat' (first | rfl | trivial | omega | (simp only []; omega) | refine And.intro ?_ ?_))
  · simp only [decide_eq_false_iff_not] at h1
    obtain rfl:i = row.length:=by omega
    refine Zaz ?_
    try simp only [Zae,Zal,retQ,ite_true]
    refine Zac (Zaa [2] ?_)
    simp only [Zab,Zad,Zaf,pok,pval,VA.ev,Env.get,Env.put,Env.keep,Zae,Nat.succ_ne_self,Nat.reduceEqDiff,ite_true,ite_false,true_and]
    refine Zar ?_
    try simp only [Env.get,retQ,resV,Zau,RS.ev,RS.ok,ite_true,true_and,and_true]
    rw [List.take_length]
    exact View.own_all (fz:=false) (by simp [Heap.get,HL.get]) (by simp)
end Go.Proofs.YtehokmhebnkfdaaGreat.w
namespace Go.Proofs.YtehokmhebnkfdaaGreat.w
open Go Go.VM
set_option maxRecDepth 20000
set_option maxHeartbeats 0
set_option pp.deepTerms false
def c_corpus_corrections:VC:=(.seq (.region [ZO 2 (.mv (.c .nilmp))] false) (.seq (.region [ZO 8 .mkmap,ZM 3 8] false) (.seq (.seq (.region [ZM 9 0,ZO 10 (.len false (.t 9)),ZO 11 (.mv (.c (.int .i64 0)))] false) (.block 0 (.loop (.seq (.region [ZO 12 (.bin .lss (.t 11) (.t 10))] false) (.seq (.cond (.t 12) .skip (.exit 0)) (.seq (.block 1 (.seq (.region [ZO 13 (.iaddr 7 (.t 9) (.t 11)),ZO 14 (.load true 7 (.t 13)),ZO 5 (.alloc [(.int .i64 0),(.str []),(.int .i64 0),(.int .i64 0),(.int .i64 0),(.str []),.nilsl]),ZN (.store 7 (.t 5) (.t 14))] false) (.seq (.region [ZO 15 (.faddr 6 (.t 5)),ZO 16 (.load false 1 (.t 15)),ZO 17 (.len false (.t 16)),ZO 18 (.mv (.c (.int .i64 0)))] false) (.block 2 (.loop (.seq (.region [ZO 19 (.bin .lss (.t 18) (.t 17))] false) (.seq (.cond (.t 19) .skip (.exit 2)) (.seq (.block 3 (.seq (.region [ZO 20 (.iaddr 25 (.t 16) (.t 18)),ZO 21 (.load true 25 (.t 20)),ZO 7 (.alloc [(.int .i64 0),.nilsl,.nilsl,(.int .i64 0),(.int .i64 0),(.int .i64 0),(.int .i64 0),(.int .i64 0),(.int .i64 0),(.str []),.nilsl,.nilsl,.nilsl,.nilsl,.nilsl,(.str []),(.str []),(.int .i64 0),(.int .i64 0),(.str []),(.int .i64 0),(.int .i64 0),(.int .i64 0),(.str []),.nilsl]),ZN (.store 25 (.t 7) (.t 21))] false) (.seq (.region [ZO 22 (.faddr 0 (.t 7)),ZO 23 (.load false 1 (.t 22)),ZO 24 (.bin .eql (.t 23) (.c (.int .i64 11))),ZM 25 24,ZG 26 (.faddr 24 (.t 7)) 25 true,ZG 27 (.load false 1 (.t 26)) 25 true,ZG 28 (.len false (.t 27)) 25 true,ZG 29 (.bin .gtr (.t 28) (.c (.int .i64 0))) 25 true,ZO 30 (.pick (.t 25) (.t 29) (.c (.bool false))),ZM 31 30,ZG 32 (.faddr 24 (.t 7)) 31 true,ZG 33 (.load false 1 (.t 32)) 31 true,ZG 34 (.iaddr 25 (.t 33) (.c (.int .i64 0))) 31 true,ZG 35 (.faddr 0 (.t 34)) 31 true,ZG 36 (.load false 1 (.t 35)) 31 true,ZG 37 (.call 59 [(.t 36)]) 31 true,ZO 38 (.pick (.t 31) (.t 37) (.c (.bool false)))] false) (.cond (.t 38) (.draw2 [ZM 39 3,ZO 40 (.faddr 20 (.t 7)),ZO 41 (.load false 1 (.t 40)),ZO 42 (.faddr 21 (.t 7)),ZO 43 (.load false 1 (.t 42)),ZO 44 (.build [(.int .i64 0),(.int .i64 0)] [(0,(1,(.t 41))),(1,(1,(.t 43)))]),ZO 45 (.faddr 24 (.t 7)),ZO 46 (.load false 1 (.t 45)),ZO 47 (.iaddr 25 (.t 46) (.c (.int .i64 0))),ZO 48 (.load true 25 (.t 47)),ZN (.mapset (.st [.i,.i]) (.t 39) (.t 44) (.t 48))] [true,true,true,true,true,true,true,true,true,true,false]) .skip)))) (.region [ZO 49 (.bin .add (.t 18) (.c (.int .i64 1))),ZM 18 49] false))))))))) (.region [ZO 50 (.bin .add (.t 11) (.c (.int .i64 1))),ZM 11 50] false))))))) (.seq (.region [ZM 51 3,ZM 2 51] false) .ret))))
def Zd3:VC:=(.seq (.region [ZO 7 (.box 25 (.t 3)),ZO 8 (.alloc [(.int .i64 0),.nilsl,.nilsl,(.int .i64 0),(.int .i64 0),(.int .i64 0),(.int .i64 0),(.int .i64 0),(.int .i64 0),(.str []),.nilsl,.nilsl,.nilsl,.nilsl,.nilsl,(.str []),(.str []),(.int .i64 0),(.int .i64 0),(.str []),(.int .i64 0),(.int .i64 0),(.int .i64 0),(.str []),.nilsl])] false) (.seq (.seq (.region [ZO 13 (.faddr 0 (.t 7)),ZO 14 (.load false 1 (.t 13)),ZO 15 (.call 47 [(.t 14)]),ZO 16 (.un .not (.t 15))] false) (.cond (.t 16) (.seq (.region [ZO 17 (.load true 25 (.t 7)),ZN (.store 25 (.t 8) (.t 17))] false) .ret) .skip)) (.seq (.region [ZO 18 (.load true 25 (.t 7)),ZO 9 (.alloc [(.int .i64 0),.nilsl,.nilsl,(.int .i64 0),(.int .i64 0),(.int .i64 0),(.int .i64 0),(.int .i64 0),(.int .i64 0),(.str []),.nilsl,.nilsl,.nilsl,.nilsl,.nilsl,(.str []),(.str []),(.int .i64 0),(.int .i64 0),(.str []),(.int .i64 0),(.int .i64 0),(.int .i64 0),(.str []),.nilsl]),ZN (.store 25 (.t 9) (.t 18))] false) (.seq (.seq (.region [ZO 10 (.mv (.c (.int .i64 0)))] false) (.block 0 (.loop (.seq (.seq (.region [ZM 19 10,ZM 20 0,ZO 21 (.len false (.t 20)),ZO 22 (.bin .lss (.t 19) (.t 21))] false) (.cond (.t 22) .skip (.exit 0))) (.seq (.block 1 (.seq (.region [ZO 11 (.mv (.c (.int .i64 0)))] false) (.block 2 (.loop (.seq (.seq (.region [ZM 25 11,ZM 26 0,ZM 27 10,ZO 28 (.iaddr 7 (.t 26) (.t 27)),ZO 29 (.faddr 6 (.t 28)),ZO 30 (.load false 1 (.t 29)),ZO 31 (.len false (.t 30)),ZO 32 (.bin .lss (.t 25) (.t 31))] false) (.cond (.t 32) .skip (.exit 2))) (.seq (.block 3 (.seq (.region [ZM 35 0,ZM 36 10,ZO 37 (.iaddr 7 (.t 35) (.t 36)),ZO 38 (.faddr 6 (.t 37)),ZO 39 (.load false 1 (.t 38)),ZM 40 11,ZO 41 (.iaddr 25 (.t 39) (.t 40)),ZO 42 (.load true 25 (.t 41)),ZO 12 (.alloc [(.int .i64 0),.nilsl,.nilsl,(.int .i64 0),(.int .i64 0),(.int .i64 0),(.int .i64 0),(.int .i64 0),(.int .i64 0),(.str []),.nilsl,.nilsl,.nilsl,.nilsl,.nilsl,(.str []),(.str []),(.int .i64 0),(.int .i64 0),(.str []),(.int .i64 0),(.int .i64 0),(.int .i64 0),(.str []),.nilsl]),ZN (.store 25 (.t 12) (.t 42))] false) (.seq (.region [ZO 43 (.faddr 0 (.t 12)),ZO 44 (.load false 1 (.t 43)),ZO 45 (.bin .eql (.t 44) (.c (.int .i64 11))),ZM 46 45,ZG 47 (.faddr 20 (.t 12)) 46 true,ZG 48 (.load false 1 (.t 47)) 46 true,ZG 49 (.mv (.t 1)) 46 true,ZG 50 (.bin .eql (.t 48) (.t 49)) 46 true,ZO 51 (.pick (.t 46) (.t 50) (.c (.bool false))),ZM 52 51,ZG 53 (.faddr 21 (.t 12)) 52 true,ZG 54 (.load false 1 (.t 53)) 52 true,ZG 55 (.mv (.t 2)) 52 true,ZG 56 (.bin .eql (.t 54) (.t 55)) 52 true,ZO 57 (.pick (.t 52) (.t 56) (.c (.bool false))),ZM 58 57,ZG 59 (.faddr 24 (.t 12)) 58 true,ZG 60 (.load false 1 (.t 59)) 58 true,ZG 61 (.len false (.t 60)) 58 true,ZG 62 (.bin .gtr (.t 61) (.c (.int .i64 0))) 58 true,ZO 63 (.pick (.t 58) (.t 62) (.c (.bool false))),ZM 64 63,ZG 65 (.faddr 24 (.t 12)) 64 true,ZG 66 (.load false 1 (.t 65)) 64 true,ZG 67 (.iaddr 25 (.t 66) (.c (.int .i64 0))) 64 true,ZG 68 (.faddr 0 (.t 67)) 64 true,ZG 69 (.load false 1 (.t 68)) 64 true,ZG 70 (.call 47 [(.t 69)]) 64 true,ZO 71 (.pick (.t 64) (.t 70) (.c (.bool false)))] false) (.cond (.t 71) (.region [ZO 72 (.faddr 24 (.t 12)),ZO 73 (.load false 1 (.t 72)),ZO 74 (.iaddr 25 (.t 73) (.c (.int .i64 0))),ZO 75 (.load true 25 (.t 74)),ZN (.store 25 (.t 9) (.t 75))] false) .skip)))) (.region [ZM 33 11,ZO 34 (.bin .add (.t 33) (.c (.int .i64 1))),ZM 11 34] false))))))) (.region [ZM 23 10,ZO 24 (.bin .add (.t 23) (.c (.int .i64 1))),ZM 10 24] false)))))) (.seq (.region [ZO 76 (.load true 25 (.t 9)),ZN (.store 25 (.t 8) (.t 76))] false) .ret)))))
def fixOf (x:It):Option ((Int × Int) × It) :=
  if x.kind = 11 then (match x.by' with
    | []=>none
    | b :: _=>if amend b.kind then some ((x.act,x.item),b) else none) else none
def putF (k:Int × Int) (v:It):List ((Int × Int) × It) → List ((Int × Int) × It)
  | []=>[(k,v)]
  | (x,u) :: r=>if k = x then (k,v) :: r else (x,u) :: putF k v r
def findF (k:Int × Int):List ((Int × Int) × It) → Option It
  | []=>none
  | (x,u) :: r=>if k = x then some u else findF k r
def stepF (M:List ((Int × Int) × It)) (x:It):List ((Int × Int) × It):=match fixOf x with
  | some p=>putF p.1 p.2 M
  | none=>M
def fixAt (k:Int × Int) (o:Option It) (x:It):Option It:=match fixOf x with
  | some p=>if p.1 = k then some p.2 else o
  | none=>o
def fixTo (k:Int × Int) (o:It) (x:It):It:=match fixOf x with
  | some p=>if p.1 = k then p.2 else o
  | none=>o
theorem findF_put (k k':Int × Int) (v:It):∀ M,findF k (putF k' v M) = if k' = k then some v else findF k M
  | []=>by simp only [putF,findF]; simp only [eq_comm]
  | (x,u) :: r=>by
    simp only [putF]
    by_cases h:k' = x
    · subst h
      rw [if_pos rfl,findF,findF]
      by_cases h2:k = k'
      · subst h2; simp
      · have h3:¬ k' = k:=fun e=>h2 e.symm
        rw [if_neg h2,if_neg h3,if_neg h2]
    · rw [if_neg h,findF,findF,findF_put k k' v r]
      by_cases h2:k = x
      · subst h2; simp [h]
      · simp [h2]
theorem findF_fold (k:Int × Int):∀ (xs:List It) (M:List ((Int × Int) × It)),findF k (xs.foldl stepF M) = xs.foldl (fixAt k) (findF k M)
  | [],_=>rfl
  | x :: r,M=>by
    rw [List.foldl_cons,List.foldl_cons,findF_fold k r]
    congr 1
    unfold stepF fixAt
    cases fixOf x with
    | none=>rfl
    | some p=>exact findF_put k p.1 p.2 M
theorem fix_fold (k:Int × Int) (it:It):∀ (xs:List It) (o:Option It),(xs.foldl (fixAt k) o).getD it = xs.foldl (fixTo k) (o.getD it)
  | [],_=>rfl
  | x :: r,o=>by
    rw [List.foldl_cons,List.foldl_cons,fix_fold k it r]
    congr 1
    unfold fixTo fixAt
    cases fixOf x with
    | none=>rfl
    | some p=>simp only; split <;> rfl
def corrS (xs:List It) (k:Int × Int) (it:It):It:=if amend it.kind then (xs.foldl (fixAt k) none).getD it else it
def Zba (acts:List Ac):List It:=acts.flatMap Ac.items
theorem itemsS_take {l:List Ac} {i:Nat} (h:i < l.length):Zba (l.take (i + 1)) = Zba (l.take i) ++ l[i].items:=by
  rw [Zba,Zba,List.take_add_one,List.getElem?_eq_getElem h,List.flatMap_append]; simp
def keyF (k:Int × Int):PV:=.agg [pI k.1,pI k.2]
def encF (M:List ((Int × Int) × It)):List (PV × PV):=M.map fun p=>(keyF p.1,.agg p.2.enc)
theorem keyF_eq (k x:Int × Int):Zdj (keyF k) (keyF x) = decide (k = x):=by
  obtain ⟨a,b⟩:=k
  obtain ⟨c,d⟩:=x
  rw [Bool.eq_iff_iff]
  simp only [keyF,Zdj,PV.cells,Zbe,Zb8,Bool.and_true,Bool.and_eq_true,beq_iff_eq,decide_eq_true_eq,Prod.mk.injEq]
theorem encF_find (k:Int × Int):∀ M,Zb9 (keyF k) (encF M) = (findF k M).map fun u=>.agg u.enc
  | []=>rfl
  | (x,u) :: r=>by
    have ih:=encF_find k r
    simp only [encF,List.map_cons,Zb9,keyF_eq,decide_eq_true_eq,findF] at ih ⊢
    split
    · rfl
    · exact ih
theorem encF_put (k:Int × Int) (v:It):∀ M,mapPut (keyF k) (.agg v.enc) (encF M) = encF (putF k v M)
  | []=>rfl
  | (x,u) :: r=>by
    have ih:=encF_put k v r
    simp only [encF,List.map_cons,mapPut,keyF_eq,decide_eq_true_eq,putF] at ih ⊢
    split
    · rfl
    · rw [List.map_cons,ih]
theorem encF_keys (k:Int × Int) (M:List ((Int × Int) × It)):keysOk (.st [.i,.i]) (keyF k) (encF M):=by
  refine ⟨⟨trivial,trivial,rfl,rfl,trivial⟩,fun p hp=>?_⟩
  simp only [encF,List.mem_map] at hp
  obtain ⟨x,_,rfl⟩:=hp
  exact ⟨trivial,trivial,rfl,rfl,trivial⟩
theorem closed_encF (M:List ((Int × Int) × It)):Closed (.rmp (encF M)):=closed_rmp fun e he=>by
  simp only [encF,List.mem_map] at he
  obtain ⟨x,_,rfl⟩:=he
  exact ⟨Zay (by simp only [List.mem_cons,List.not_mem_nil,or_false,forall_eq_or_imp,forall_eq]; exact ⟨cI _,cI _⟩),Zay (It.closed _)⟩
theorem ac_items (x:Ac):x.enc.drop 6 = [.sl 25 (x.items.map It.enc)]:=rfl
theorem Zbt (x:It):x.enc.length = 25:=It.Zby x
theorem Zcf (x:It):x.enc.take 25 = x.enc:=List.take_of_length_le (by rw [It.Zby]; exact Nat.le_refl _)
theorem it_drop25 (x:It):x.enc.drop 25 = []:=List.drop_of_length_le (by rw [It.Zby]; exact Nat.le_refl _)
theorem it_kind (x:It):(x.enc.take 1).getD 0 .any = pI x.kind:=by rw [It.Zcl]; rfl
theorem it_act (x:It):((x.enc.drop 20).take 1).getD 0 .any = pI x.act:=by rw [It.Zcl]; rfl
theorem it_item (x:It):((x.enc.drop 21).take 1).getD 0 .any = pI x.item:=by rw [It.Zcl]; rfl
theorem it_by (x:It):((x.enc.drop 24).take 1).getD 0 .any = .sl 25 (x.by'.map It.enc):=by rw [It.Zcl]; rfl
theorem it_l20 (x:It):(x.enc.drop 20).length = 5:=by simp [It.Zby]
theorem it_l21 (x:It):(x.enc.drop 21).length = 4:=by simp [It.Zby]
theorem it_l24 (x:It):(x.enc.drop 24).length = 1:=by simp [It.Zby]
theorem sp_corpus_corrections (l:List Ac) (hl:l.length ≤ 1000000) (hit:∀ a ∈ l,a.items.length ≤ 1000000):Zbo Tryz.prog 77 [.sl 7 (l.map Ac.enc)] (.rmp (encF ((Zba l).foldl stepF []))):=by
  refine Zam ?_ (closed_encF _) (by simp only [Za0,List.mem_cons,List.not_mem_nil,or_false,forall_eq_or_imp,forall_eq,false_implies,implies_true]; repeat' (first  | exact Zcq _ | refine And.intro ?_ ?_))
  refine Zaq (vc:=c_corpus_corrections) (ts:=[.t 2]) Go.Proofs.Tryz.func77 (by kernel_rfl) rfl rfl (Nat.le_of_ble_eq_true rfl) (by kernel_rfl) ?_
  unfold c_corpus_corrections
  try dsimp only [ZM,ZO,ZN,ZG]
  refine Zac (Zaa [0] ?_)
  simp only [Zab,Zad,Zaf,pok,pval,VA.ev,Env.get,Env.put,Env.keep,Za2,Zae,Heap.nil,ite_true,ite_false,true_and,reduceCtorEq]
  refine Zac (Zaa [0,3] ?_)
  simp only [Zab,Zad,Zaf,pok,pval,VA.ev,Env.get,Env.put,Env.keep,Zae,Heap.push,Nat.reduceEqDiff,ite_true,ite_false,true_and,reduceCtorEq,Nat.zero_add]
  refine Zac ?_
  refine Zac (Zaa [3,9,10,11] ?_)
  simp only [Zab,Zad,Zaf,pok,pval,VA.ev,Env.get,Env.put,Env.keep,Zae,lenV,Za8,Nat.succ_ne_self,Nat.reduceEqDiff,ite_true,ite_false,true_and,reduceCtorEq,List.length_map]
  refine Zaj ?_
  refine Za4 (σ:={ s:Nat × Nat // s.1 ≤ l.length ∧ 0 < s.2 }) (fun s=>([(3,.mp 0),(9,.sl 7 (l.map Ac.enc)),(10,pI l.length),(11,pI s.1.1)],⟨[(0,.map (encF ((Zba (l.take s.1.1)).foldl stepF [])))],s.1.2⟩)) (fun s=>l.length - s.1.1) ⟨(0,1),⟨Nat.zero_le _,by show 0 < 1; omega⟩⟩ ?_ ?_ ?_
  · try simp only [Env.get,Nat.succ_ne_self,Env.le,Nat.reduceEqDiff,ite_true,ite_false,true_and,and_true]
    all_goals (repeat' (first | rfl | trivial | omega | (simp only []; omega) | refine And.intro ?_ ?_))
  · try simp only [Heap.get,Heap.le,HL.get,HL.le,Nat.le_refl,List.take,ite_true,and_true,List.take_zero,Zba,List.flatMap_nil,List.foldl_nil,encF,List.map_nil]
    all_goals (repeat' (first | rfl | trivial | omega | (simp only []; omega) | refine And.intro ?_ ?_))
  rintro ⟨⟨i,t⟩,hi,ht⟩
  simp only [] at hi ht ⊢
  refine Zac (Zaa [3,9,10,11,12] ?_)
  simp only [Zab,Zad,Zaf,pok,pval,VA.ev,Env.get,Env.put,Env.keep,Zae,intV,binV,Zah,Heap.get,Heap.le,HL.le,Nat.succ_ne_self,Env.le,Nat.reduceEqDiff,ite_true,ite_false,true_and,and_true]
  refine Zac ?_
  refine Zai rfl (fun h1=>?_) (fun h1=>?_)
  · refine Zak ?_
    try simp only [Zae]
    simp only [decide_eq_true_eq] at h1
    have ia:i < l.length:=by omega
    have hrow:=itemsS_take ia
    have hitl:=hit l[i] (List.getElem_mem ia)
    have qi0:(0 = t) = False:=eq_false (by omega)
    have qi1:(0 = (t + 1)) = False:=eq_false (by omega)
    have qi2:(t = 0) = False:=eq_false (by omega)
    have qi3:(t = (t + 1)) = False:=eq_false (by omega)
    have qi4:((t + 1) = 0) = False:=eq_false (by omega)
    have qi5:((t + 1) = t) = False:=eq_false (by omega)
    refine Zac ?_
    refine Zaj ?_
    refine Zac (Zaa [3,5,9,10,11] ?_)
    simp only [Zab,Zad,Zaf,pok,pval,VA.ev,Env.get,Env.put,Env.keep,Zae,aggV,isInt,numOf,lenV,Zag,Zap,Zax,Zas,PV.cells,PV.fits,overlay,PV.nth,PV.row,Heap.get,Heap.set,HL.get,HL.set,HL.del,Heap.push,Nat.le_refl,Nat.succ_ne_self,Zbh,Za9,List.set,List.length,List.getD_cons_zero,List.take,List.drop,List.drop_succ_cons,List.nil_append,Nat.reduceEqDiff,Nat.reduceAdd,Nat.reduceLT,Bool.true_eq_false,ite_true,ite_false,true_and,and_true,BEq.rfl,Nat.zero_add,imp_self,Int.toNat_natCast,List.length_map,rowm ia,Zcs,Zb2,ac_drop,List.append_nil,qi0,qi1,qi2,qi3,qi4,qi5]
    repeat (with_reducible refine And.intro ?_ ?_; first | omega | (with_reducible constructor <;> omega) | exact False.elim | exact True.intro)
    refine Zac (Zaa [3,9,10,11,16,17,18] ?_)
    simp only [Zab,Zad,Zaf,pok,pval,VA.ev,Env.get,Env.put,Env.keep,Zae,aggV,lenV,Zao,Zan,Zag,Zap,Za8,PV.nth,PV.row,Heap.get,HL.get,Nat.le_refl,Nat.succ_ne_self,List.length,List.getD_cons_zero,List.take,List.take_succ_cons,Nat.reduceEqDiff,Nat.reduceLT,Bool.false_eq_true,ite_true,ite_false,true_and,and_true,implies_true,Nat.zero_add,List.length_cons,ac_items,List.length_map,Zb2,qi0,qi1,qi2,qi3,qi4,qi5]
    refine Zaj ?_
    refine Za4 (σ:={ s:Nat × Nat // s.1 ≤ l[i].items.length ∧ 0 < s.2 }) (fun s=>([(3,.mp 0),(9,.sl 7 (l.map Ac.enc)),(10,pI l.length),(11,pI i),(16,.sl 25 (l[i].items.map It.enc)),(17,pI l[i].items.length),(18,pI s.1.1)],⟨[(0,.map (encF ((Zba (l.take i) ++ l[i].items.take s.1.1).foldl stepF [])))],s.1.2⟩)) (fun s=>l[i].items.length - s.1.1) ⟨(0,t + 1),⟨Nat.zero_le _,by show 0 < t + 1; omega⟩⟩ ?_ ?_ ?_
    · try simp only [Env.get,Nat.succ_ne_self,Env.le,Nat.reduceEqDiff,ite_true,ite_false,true_and,and_true]
      all_goals (repeat' (first | rfl | trivial | omega | (simp only []; omega) | refine And.intro ?_ ?_))
    · try simp only [Heap.get,Heap.le,HL.get,HL.le,Nat.le_refl,List.take,ite_true,ite_false,and_true,List.take_zero,List.append_nil,qi0,qi1,qi2,qi3,qi4,qi5]
      all_goals (repeat' (first | rfl | trivial | omega | (simp only []; omega) | refine And.intro ?_ ?_))
    clear ht
    rintro ⟨⟨j,t⟩,hj,ht⟩
    simp only [] at hj ht ⊢
    refine Zac (Zaa [3,9,10,11,16,17,18,19] ?_)
    simp only [Zab,Zad,Zaf,pok,pval,VA.ev,Env.get,Env.put,Env.keep,Zae,intV,binV,Zah,Heap.get,Heap.le,HL.le,Nat.succ_ne_self,Env.le,Nat.reduceEqDiff,ite_true,ite_false,true_and,and_true]
    refine Zac ?_
    refine Zai rfl (fun h2=>?_) (fun h2=>?_)
    · refine Zak ?_
      try simp only [Zae]
      simp only [decide_eq_true_eq] at h2
      have ja:j < l[i].items.length:=by omega
      have hnext:(Zba (l.take i) ++ l[i].items.take (j + 1)).foldl stepF [] = stepF ((Zba (l.take i) ++ l[i].items.take j).foldl stepF []) l[i].items[j]:=by
        rw [List.take_add_one,List.getElem?_eq_getElem ja,Option.toList_some,← List.append_assoc,List.foldl_append]; rfl
      generalize hM:(Zba (l.take i) ++ l[i].items.take j).foldl stepF [] = M at hnext ⊢
      generalize hx:l[i].items[j] = x at hnext ⊢
      have hrx:(l[i].items.map It.enc).getD j [] = x.enc:=by rw [rowm ja,hx]
      have qi0:(0 = t) = False:=eq_false (by omega)
      have qi1:(0 = (t + 1)) = False:=eq_false (by omega)
      have qi2:(t = 0) = False:=eq_false (by omega)
      have qi3:(t = (t + 1)) = False:=eq_false (by omega)
      have qi4:((t + 1) = 0) = False:=eq_false (by omega)
      have qi5:((t + 1) = t) = False:=eq_false (by omega)
      refine Zac ?_
      refine Zaj ?_
      refine Zac (Zaa [3,7,9,10,11,16,17,18] ?_)
      simp only [Zab,Zad,Zaf,pok,pval,VA.ev,Env.get,Env.put,Env.keep,Zae,aggV,isInt,numOf,lenV,Zag,Zap,Zax,Zas,PV.cells,PV.fits,overlay,PV.nth,PV.row,Heap.get,Heap.set,HL.get,HL.set,HL.del,Heap.push,Nat.le_refl,Nat.succ_ne_self,Zbh,Za9,List.set,List.length,List.getD_cons_zero,List.take,List.drop,List.drop_succ_cons,List.nil_append,Nat.reduceEqDiff,Nat.reduceAdd,Nat.reduceLT,Bool.true_eq_false,ite_true,ite_false,true_and,and_true,BEq.rfl,Nat.zero_add,imp_self,Int.toNat_natCast,List.length_map,hrx,Zcf,Zbt,it_drop25,List.append_nil,qi0,qi1,qi2,qi3,qi4,qi5]
      repeat (with_reducible refine And.intro ?_ ?_; first | omega | (with_reducible constructor <;> omega) | exact False.elim | exact True.intro)
      refine VW_seqJ (σ:=Unit) [3,7,9,10,11,16,17,18,38] (fun _=>([(3,.mp 0),(7,.loc t 0 0),(9,.sl 7 (l.map Ac.enc)),(10,pI l.length),(11,pI i),(16,.sl 25 (l[i].items.map It.enc)),(17,pI l[i].items.length),(18,pI j),(38,.bool (fixOf x).isSome)],⟨[(t,.arr false 25 [x.enc]),(0,.map (encF M))],t + 1⟩)) ?_ (fun _=>?_)
      · unfold fixOf
        by_cases hk:x.kind = 11
        · have e1:(x.kind == 11) = true:=by simpa using hk
          rw [if_pos hk]
          cases hb:x.by' with
          | nil =>
            have e2:decide (0 < (x.by'.length:Int)) = false:=by rw [hb]; rfl
            simp only [Zab,Zad,Za6,Zbi,Zaf,pok,pval,VA.ev,Env.get,Env.put,Env.keep,Za1,isBool,aggV,intV,binV,Zah,lenV,Zao,Zan,Zag,Zap,Za8,PV.nth,PV.row,Heap.get,Heap.le,HL.get,HL.le,Nat.le_refl,Nat.succ_ne_self,Env.le,List.length,List.getD_cons_zero,List.drop,Nat.reduceEqDiff,Nat.reduceLT,Nat.reduceLeDiff,Bool.false_eq_true,ite_true,ite_false,true_and,and_true,implies_true,Nat.zero_add,Nat.add_zero,List.length_map,Zbt,it_kind,it_by,it_l24,e1,e2,qi0,qi1,qi2,qi3,qi4,qi5]
            exact ⟨(),by first | trivial | rfl⟩
          | cons b r =>
            have e2:decide (0 < (x.by'.length:Int)) = true:=by rw [hb,decide_eq_true_eq]; simp
            have e3:(0:Int) < (x.by'.length:Int):=by simpa using e2
            have e4:(x.by'.map It.enc).getD 0 [] = b.enc:=by rw [hb]; rfl
            simp only [Zab,Zad,Za6,Zaf,pok,pval,VA.ev,Env.get,Env.put,Env.keep,Za1,isBool,aggV,intV,binV,Zah,isInt,numOf,lenV,Zao,Zan,Zag,Zap,Zax,Zas,Za8,PV.nth,PV.row,Heap.get,Heap.le,HL.get,HL.le,Nat.le_refl,Nat.succ_ne_self,Env.le,List.map,List.length,List.getD_cons_zero,List.drop,Nat.reduceEqDiff,Nat.reduceLT,Nat.reduceLeDiff,Bool.false_eq_true,ite_true,ite_false,true_and,and_true,implies_true,Nat.zero_add,Nat.add_zero,Int.reduceToNat,List.length_map,Zbt,it_kind,it_by,it_l24,e1,e2,e4,qi0,qi1,qi2,qi3,qi4,qi5]
            repeat (with_reducible refine And.intro ?_ ?_; first | omega | (with_reducible constructor <;> omega) | exact False.elim | exact True.intro)
            refine Zat (Zdd b.kind) ?_
            cases ham:amend b.kind with
            | true =>
              try simp only [HL.get,Nat.le_refl,ite_true,ite_false,and_true,qi0,qi1,qi2,qi3,qi4,qi5]
              exact ⟨(),by first | trivial | rfl⟩
            | false =>
              try simp only [HL.get,Nat.le_refl,Bool.false_eq_true,ite_true,ite_false,and_true,qi0,qi1,qi2,qi3,qi4,qi5]
              exact ⟨(),by first | trivial | rfl⟩
        · have e1:(x.kind == 11) = false:=by simpa using hk
          rw [if_neg hk]
          simp only [Zab,Zad,Zbi,Zaf,pok,pval,VA.ev,Env.get,Env.put,Env.keep,Za1,isBool,aggV,intV,binV,Zah,Zao,Zan,Zag,Zap,PV.nth,PV.row,Heap.get,Heap.le,HL.get,HL.le,Nat.le_refl,Nat.succ_ne_self,Env.le,List.length,List.getD_cons_zero,List.drop,Nat.reduceEqDiff,Nat.reduceLT,Nat.reduceLeDiff,Bool.false_eq_true,ite_true,ite_false,true_and,and_true,implies_true,Nat.zero_add,Nat.add_zero,List.length_map,Zbt,it_kind,e1,qi0,qi1,qi2,qi3,qi4,qi5]
          exact ⟨(),by first | trivial | rfl⟩
      refine Zai rfl (fun h3=>?_) (fun h3=>?_)
      · obtain ⟨⟨k,v⟩,hfx⟩:=Option.isSome_iff_exists.1 h3
        have hst:stepF M x = putF k v M:=by unfold stepF; rw [hfx]
        obtain ⟨hk,r,hb⟩:k = (x.act,x.item) ∧ ∃ r,x.by' = v :: r:=by
          unfold fixOf at hfx
          split at hfx
          · split at hfx
            · cases hfx
            · rename_i b r hb
              split at hfx
              · cases hfx; exact ⟨rfl,r,hb⟩
              · cases hfx
          · cases hfx
        subst hk
        have e3:(0:Int) < (x.by'.length:Int):=by rw [hb]; simp
        have e4:(x.by'.map It.enc).getD 0 [] = v.enc:=by rw [hb]; rfl
        have hkeys:=encF_keys (x.act,x.item) M
        have hput:=encF_put (x.act,x.item) v M
        simp only [keyF] at hkeys hput
        refine VW_draw2H [3,9,10,11,16,17,18] (by simp [Heap.le,Heap.get,HL.le,HL.get,show ¬ t = 0 by omega]) ?_
        simp only [Zaf,DrawH,VOp.isIaddr,QW,dok,dval,VOp.pure,VOp.simple,VOp.det,pok,pval,VA.ev,Env.get,Env.put,Env.keep,Zae,Zal,gd,aggV,isInt,numOf,lenV,Zao,Zan,Zag,Zap,Zax,Zas,Zcu,Zcb,PV.cells,PV.fits,overlay,PV.nth,PV.row,Zca,mapHas,mapsetV,Heap.get,Heap.set,HL.get,HL.set,HL.del,Nat.le_refl,Nat.succ_ne_self,List.length,List.getD_cons_zero,List.getD_cons_succ,List.take,List.drop,List.take_succ_cons,List.drop_succ_cons,List.cons_append,List.nil_append,Nat.reduceEqDiff,Nat.reduceAdd,Nat.reduceLT,Nat.reduceLeDiff,Bool.false_eq_true,Bool.true_eq_false,ite_true,ite_false,true_and,and_true,implies_true,forall_const,BEq.rfl,Nat.zero_add,List.length_cons,imp_self,Int.reduceToNat,List.length_map,Zbt,it_act,it_item,it_by,it_l20,it_l21,it_l24,Zcf,e3,e4,hkeys,hput,qi0,qi1,qi2,qi3,qi4,qi5]
        repeat (with_reducible refine And.intro ?_ ?_; first | omega | (with_reducible constructor <;> omega) | exact False.elim | exact True.intro)
        skip
        refine Zaa [3,9,10,11,16,17,18] ?_
        simp only [Zab,Zad,Zaf,pok,pval,VA.ev,Env.get,Env.put,Env.keep,Zae,intV,binV,Zah,HL.get,Nat.succ_ne_self,Nat.reduceEqDiff,ite_true,ite_false,true_and,ad1 (a:=j) (by omega)]
        refine ⟨⟨(j + 1,t + 1),⟨ja,by show 0 < t + 1; omega⟩⟩,?_⟩
        rw [hnext,hst]
        try simp only [Nat.le_refl,ite_false,true_and,and_true,qi0,qi1,qi2,qi3,qi4,qi5]
        all_goals (repeat' (first | rfl | trivial | omega | (simp only []; omega) | refine And.intro ?_ ?_))
      · have hst : stepF M x = M := by
          unfold stepF
          cases hfx:fixOf x with
          | none=>rfl
          | some p=>rw [hfx] at h3; cases h3
        refine Zak ?_
        try simp only [Zae,Zal]
        refine Zaa [3,9,10,11,16,17,18] ?_
        simp only [Zab,Zad,Zaf,pok,pval,VA.ev,Env.get,Env.put,Env.keep,Zae,intV,binV,Zah,HL.get,Nat.succ_ne_self,Nat.reduceEqDiff,ite_true,ite_false,true_and,ad1 (a:=j) (by omega)]
        refine ⟨⟨(j + 1,t + 1),⟨ja,by show 0 < t + 1; omega⟩⟩,?_⟩
        rw [hnext,hst]
        try simp only [Nat.le_refl,ite_false,true_and,and_true,qi0,qi1,qi2,qi3,qi4,qi5]
        all_goals (repeat' (first | rfl | trivial | omega | (simp only []; omega) | refine And.intro ?_ ?_))
    · simp only [decide_eq_false_iff_not] at h2
      obtain rfl:j = l[i].items.length:=by omega
      refine Zaz ?_
      try simp only [Zae,Zal,retQ,Nat.succ_ne_self,ite_true,ite_false,reduceCtorEq]
      refine Zaa [3,9,10,11] ?_
      simp only [Zab,Zad,Zaf,pok,pval,VA.ev,Env.get,Env.put,Env.keep,Zae,intV,binV,Zah,HL.get,Nat.succ_ne_self,Nat.reduceEqDiff,ite_true,ite_false,true_and,Option.some.injEq,ad1 (a:=i) (by omega)]
      refine ⟨⟨(i + 1,t),⟨ia,ht⟩⟩,?_⟩
      rw [hrow,List.take_length]
      try simp only [Nat.le_refl,true_and,and_true]
      all_goals (repeat' (first | rfl | trivial | omega | (simp only []; omega) | refine And.intro ?_ ?_))
  · simp only [decide_eq_false_iff_not] at h1
    obtain rfl:i = l.length:=by omega
    refine Zaz ?_
    try simp only [Zae,Zal,retQ,ite_true]
    refine Zac (Zaa [2] ?_)
    simp only [Zab,Zad,Zaf,pok,pval,VA.ev,Env.get,Env.put,Env.keep,Zae,Nat.succ_ne_self,Nat.reduceEqDiff,ite_true,ite_false,true_and]
    refine Zar ?_
    try simp only [Env.get,retQ,resV,Zau,RS.ev,RS.ok,ite_true,true_and,and_true]
    rw [List.take_length]
    exact View.map (by simp [Heap.get,HL.get]) rfl (fun i a b h1 h2=>by rw [h1] at h2; cases h2; exact ⟨View.refl _ _,View.refl _ _⟩)
def zIt:List PV:=[.int .i64 0,.nilsl,.nilsl,.int .i64 0,.int .i64 0,.int .i64 0,.int .i64 0,.int .i64 0,.int .i64 0,.str [],.nilsl,.nilsl,.nilsl,.nilsl,.nilsl,.str [],.str [],.int .i64 0,.int .i64 0,.str [],.int .i64 0,.int .i64 0,.int .i64 0,.str [],.nilsl]
theorem zIt_drop:zIt.drop 25 = []:=rfl
theorem zIt_len:zIt.length = 25:=rfl
def hitB (k:Int × Int) (x:It):Bool:=match fixOf x with
  | some p=>decide (p.1 = k)
  | none=>false
theorem fixTo_hit (k:Int × Int) (o x:It):fixTo k o x = if hitB k x then (match x.by' with | b :: _=>b | []=>o) else o:=by
  unfold fixTo hitB fixOf
  by_cases hk:x.kind = 11
  · rw [if_pos hk]
    cases hb:x.by' with
    | nil=>rfl
    | cons b r =>
      simp only
      cases ham:amend b.kind with
      | true=>simp
      | false=>simp
  · rw [if_neg hk]; rfl
theorem hitB_by {k:Int × Int} {x:It} (h:hitB k x = true):∃ b r,x.by' = b :: r:=by
  unfold hitB fixOf at h
  split at h
  · rename_i p hp
    split at hp
    · split at hp
      · cases hp
      · rename_i b r hb; exact ⟨b,r,hb⟩
    · cases hp
  · cases h
theorem sp_pandectref28_corrected (l : List Ac) (act item : Int) (it : It) (hl : l.length ≤ 1000000) (hit : ∀ a ∈ l, a.items.length ≤ 1000000) :
    Zbo Tryz.prog 67 [.sl 7 (l.map Ac.enc),pI act,pI item,.agg it.enc] (.agg (corrS (Zba l) (act,item) it).enc):=by
  refine Zam ?_ (Zay (It.closed _)) (by simp only [Za0,List.mem_cons,List.not_mem_nil,or_false,forall_eq_or_imp,forall_eq,false_implies,implies_true]; repeat' (first  | exact cI _ | exact Zay (It.closed _) | exact Zay (Ac.closed _) | exact Zcq _ | exact Zbm (fun w _=>It.closed w) | exact Za7 (by simp only [List.mem_cons,List.not_mem_nil,or_false,forall_eq]; first | exact cI _ | exact cS _ | exact Zaw _) | refine And.intro ?_ ?_))
  refine Zaq (vc:=Zd3) (ts:=[.c 8 true 25]) Go.Proofs.Tryz.func67 (by kernel_rfl) rfl rfl (Nat.le_of_ble_eq_true rfl) (by kernel_rfl) ?_
  unfold Zd3
  try dsimp only [ZM,ZO,ZN,ZG]
  refine Zac (Zaa [0,1,2,7,8] ?_)
  simp only [Zab,Zad,Zaf,VA.ev,Env.get,Env.put,Env.keep,Za2,Zae,PV.cells,PV.fits,Heap.push,Heap.nil,Nat.succ_ne_self,List.length,Nat.reduceEqDiff,Nat.reduceAdd,ite_true,ite_false,true_and,reduceCtorEq,BEq.rfl,Nat.zero_add,Zbt]
  change VW Tryz.prog _ _ _ _ ⟨[(1,.arr false 25 [zIt]),(0,.arr false 25 [it.enc])],2⟩
  refine Zac ?_
  refine Zac (Zaa [0,1,2,7,8,16] ?_)
  simp only [Zab,Zad,Zaf,pok,pval,VA.ev,Env.get,Env.put,Env.keep,Zae,aggV,unV,unOk,Zao,Zan,Zag,Zap,PV.nth,PV.row,Heap.get,HL.get,Nat.succ_ne_self,List.map,List.length,List.getD_cons_zero,List.drop,Nat.reduceEqDiff,Nat.reduceLT,Nat.reduceLeDiff,Bool.false_eq_true,ite_true,ite_false,true_and,and_true,implies_true,reduceCtorEq,Nat.zero_add,Nat.add_zero,Zbt,it_kind]
  refine Zat (Zc1 it.kind) ?_
  try simp only [true_and]
  unfold corrS
  refine Zai rfl (fun h1=>?_) (fun h1=>?_)
  · simp only [Bool.not_eq_true'] at h1
    refine Zac (Zaa [8] ?_)
    simp only [Zab,Zad,Zaf,pok,pval,VA.ev,Env.get,Env.put,Env.keep,Zae,aggV,Zag,Zap,PV.cells,PV.fits,overlay,PV.nth,PV.row,Heap.get,Heap.set,HL.get,HL.set,HL.del,Nat.le_refl,Nat.succ_ne_self,Zbh,Za9,List.set,List.length,List.getD_cons_zero,List.take,List.drop,List.nil_append,Nat.reduceEqDiff,Nat.reduceLT,Bool.true_eq_false,ite_true,ite_false,true_and,and_true,reduceCtorEq,BEq.rfl,Nat.zero_add,imp_self,Zbt,Zcf,zIt_len,zIt_drop,List.append_nil]
    refine Zar ?_
    try simp only [Env.get,Zae,retQ,resV,Zau,RS.ev,RS.ok,aggV,Zag,Zap,PV.nth,PV.row,Heap.get,HL.get,Nat.le_refl,List.length,List.getD_cons_zero,List.drop,Nat.reduceEqDiff,Nat.reduceLT,Bool.true_eq_false,ite_true,ite_false,true_and,and_true,reduceCtorEq,Nat.zero_add,imp_self,Zbt,Zcf]
    rw [if_neg (by rw [h1]; exact Bool.false_ne_true)]
    exact View.refl _ _
  simp only [Bool.not_eq_false'] at h1
  rw [if_pos h1,fix_fold]
  simp only [Option.getD_none]
  refine Zak ?_
  try simp only [Zae]
  refine Zac (Zaa [0,1,2,8,9] ?_)
  simp only [Zab,Zad,Zaf,pok,pval,VA.ev,Env.get,Env.put,Env.keep,Zae,aggV,Zag,Zap,PV.cells,PV.fits,overlay,PV.nth,PV.row,Heap.get,Heap.set,HL.get,HL.set,HL.del,Heap.push,Nat.le_refl,Nat.succ_ne_self,Zbh,Za9,List.set,List.length,List.getD_cons_zero,List.take,List.drop,List.drop_succ_cons,List.nil_append,Nat.reduceEqDiff,Nat.reduceAdd,Nat.reduceLT,Bool.true_eq_false,ite_true,ite_false,true_and,and_true,reduceCtorEq,BEq.rfl,Nat.zero_add,imp_self,Zbt,Zcf,it_drop25,List.append_nil]
  refine Zac ?_
  refine Zac (Zaa [0,1,2,8,9,10] ?_)
  simp only [Zab,Zad,Zaf,pok,pval,VA.ev,Env.get,Env.put,Env.keep,Zae,Nat.succ_ne_self,Nat.reduceEqDiff,ite_true,ite_false,true_and,reduceCtorEq]
  refine Zaj ?_
  refine Za4 (σ:={ s:Nat × Nat // s.1 ≤ l.length ∧ 2 < s.2 }) (fun s=>([(0,.sl 7 (l.map Ac.enc)),(1,pI act),(2,pI item),(8,.loc 1 0 0),(9,.loc 2 0 0),(10,pI s.1.1)],⟨[(2,.arr false 25 [((Zba (l.take s.1.1)).foldl (fixTo (act,item)) it).enc]),(1,.arr false 25 [zIt])],s.1.2⟩)) (fun s=>l.length - s.1.1) ⟨(0,3),⟨Nat.zero_le _,by show 2 < 3; omega⟩⟩ ?_ ?_ ?_
  · try simp only [Env.get,Nat.succ_ne_self,Env.le,Nat.reduceEqDiff,ite_true,ite_false,true_and,and_true,reduceCtorEq]
    all_goals (repeat' (first | rfl | trivial | omega | (simp only []; omega) | refine And.intro ?_ ?_))
  · try simp only [Heap.get,Heap.le,HL.get,HL.le,Nat.le_refl,Nat.succ_ne_self,List.take,Nat.reduceEqDiff,ite_true,ite_false,and_true,reduceCtorEq,List.take_zero,Zba,List.flatMap_nil,List.foldl_nil]
    all_goals (repeat' (first | rfl | trivial | omega | (simp only []; omega) | refine And.intro ?_ ?_))
  rintro ⟨⟨i,t⟩,hi,ht⟩
  simp only [] at hi ht ⊢
  refine Zac ?_
  refine Zac (Zaa [0,1,2,8,9,10,22] ?_)
  simp only [Zab,Zad,Zaf,pok,pval,VA.ev,Env.get,Env.put,Env.keep,Zae,intV,binV,Zah,lenV,Za8,Heap.get,Heap.le,HL.le,Nat.succ_ne_self,Env.le,Nat.reduceEqDiff,ite_true,ite_false,true_and,and_true,reduceCtorEq,List.length_map]
  refine Zai rfl (fun h2=>?_) (fun h2=>?_)
  · refine Zak ?_
    try simp only [Zae]
    simp only [decide_eq_true_eq] at h2
    have ia:i < l.length:=by omega
    have hrow:=itemsS_take ia
    have hitl:=hit l[i] (List.getElem_mem ia)
    refine Zac ?_
    refine Zaj ?_
    refine Zac (Zaa [0,1,2,8,9,10,11] ?_)
    simp only [Zab,Zad,Zaf,pok,pval,VA.ev,Env.get,Env.put,Env.keep,Zae,Nat.succ_ne_self,Nat.reduceEqDiff,ite_true,ite_false,true_and,reduceCtorEq]
    refine Zaj ?_
    refine Za4 (σ:={ s:Nat × Nat // s.1 ≤ l[i].items.length ∧ 2 < s.2 }) (fun s=>([(0,.sl 7 (l.map Ac.enc)),(1,pI act),(2,pI item),(8,.loc 1 0 0),(9,.loc 2 0 0),(10,pI i),(11,pI s.1.1)],⟨[(2,.arr false 25 [((Zba (l.take i) ++ l[i].items.take s.1.1).foldl (fixTo (act,item)) it).enc]),(1,.arr false 25 [zIt])],s.1.2⟩)) (fun s=>l[i].items.length - s.1.1) ⟨(0,t),⟨Nat.zero_le _,ht⟩⟩ ?_ ?_ ?_
    · try simp only [Env.get,Nat.succ_ne_self,Env.le,Nat.reduceEqDiff,ite_true,ite_false,true_and,and_true,reduceCtorEq]
      all_goals (repeat' (first | rfl | trivial | omega | (simp only []; omega) | refine And.intro ?_ ?_))
    · try simp only [Heap.get,Heap.le,HL.get,HL.le,Nat.le_refl,Nat.succ_ne_self,List.take,Nat.reduceEqDiff,ite_true,ite_false,and_true,List.take_zero,List.append_nil]
      all_goals (repeat' (first | rfl | trivial | omega | (simp only []; omega) | refine And.intro ?_ ?_))
    clear ht
    rintro ⟨⟨j,t⟩,hj,ht⟩
    simp only [] at hj ht ⊢
    refine Zac ?_
    refine Zac (Zaa [0,1,2,8,9,10,11,32] ?_)
    simp only [Zab,Zad,Zaf,pok,pval,VA.ev,Env.get,Env.put,Env.keep,Zae,aggV,intV,binV,Zah,isInt,numOf,lenV,Zao,Zan,Zag,Zap,Zax,Zas,Za8,PV.nth,PV.row,Heap.get,Heap.le,HL.le,Nat.le_refl,Nat.succ_ne_self,Env.le,List.length,List.getD_cons_zero,List.take,List.take_succ_cons,Nat.reduceEqDiff,Bool.false_eq_true,ite_true,ite_false,true_and,and_true,implies_true,reduceCtorEq,Nat.zero_add,List.length_cons,Int.toNat_natCast,List.length_map,rowm ia,ac_items,Zb2]
    repeat (with_reducible refine And.intro ?_ ?_; first | omega | (with_reducible constructor <;> omega) | exact False.elim | exact True.intro)
    refine Zai rfl (fun h3=>?_) (fun h3=>?_)
    · refine Zak ?_
      try simp only [Zae]
      simp only [decide_eq_true_eq] at h3
      have ja:j < l[i].items.length:=by omega
      have hnext:(Zba (l.take i) ++ l[i].items.take (j + 1)).foldl (fixTo (act,item)) it = fixTo (act,item) ((Zba (l.take i) ++ l[i].items.take j).foldl (fixTo (act,item)) it) l[i].items[j]:=by
        rw [List.take_add_one,List.getElem?_eq_getElem ja,Option.toList_some,← List.append_assoc,List.foldl_append]; rfl
      generalize hM:(Zba (l.take i) ++ l[i].items.take j).foldl (fixTo (act,item)) it = o at hnext ⊢
      have hrx0:=rowm (enc:=It.enc) ja
      generalize hx:l[i].items[j] = x at hnext hrx0 ⊢
      rw [fixTo_hit] at hnext
      have qi0:(1 = 2) = False:=eq_false (by omega)
      have qi1:(1 = t) = False:=eq_false (by omega)
      have qi2:(1 = (t + 1)) = False:=eq_false (by omega)
      have qi3:(2 = 1) = False:=eq_false (by omega)
      have qi4:(2 = t) = False:=eq_false (by omega)
      have qi5:(2 = (t + 1)) = False:=eq_false (by omega)
      have qi6:(t = 1) = False:=eq_false (by omega)
      have qi7:(t = 2) = False:=eq_false (by omega)
      have qi8:(t = (t + 1)) = False:=eq_false (by omega)
      have qi9:((t + 1) = 1) = False:=eq_false (by omega)
      have qi10:((t + 1) = 2) = False:=eq_false (by omega)
      have qi11:((t + 1) = t) = False:=eq_false (by omega)
      refine Zac ?_
      refine Zaj ?_
      refine Zac (Zaa [0,1,2,8,9,10,11,12] ?_)
      simp only [Zab,Zad,Zaf,pok,pval,VA.ev,Env.get,Env.put,Env.keep,Zae,aggV,isInt,numOf,lenV,Zao,Zan,Zag,Zap,Zax,Zas,PV.cells,PV.fits,overlay,PV.nth,PV.row,Heap.get,Heap.set,HL.get,HL.set,HL.del,Heap.push,Nat.le_refl,Nat.succ_ne_self,Zbh,Za9,List.set,List.length,List.getD_cons_zero,List.take,List.drop,List.take_succ_cons,List.drop_succ_cons,List.nil_append,Nat.reduceEqDiff,Nat.reduceAdd,Nat.reduceLT,Bool.false_eq_true,Bool.true_eq_false,ite_true,ite_false,true_and,and_true,implies_true,reduceCtorEq,BEq.rfl,Nat.zero_add,List.length_cons,imp_self,Int.toNat_natCast,List.length_map,rowm ia,ac_items,Zb2,hrx0,Zcf,Zbt,it_drop25,List.append_nil,qi0,qi1,qi2,qi3,qi4,qi5,qi6,qi7,qi8,qi9,qi10,qi11]
      repeat (with_reducible refine And.intro ?_ ?_; first | omega | (with_reducible constructor <;> omega) | exact False.elim | exact True.intro)
      refine VW_seqJ (σ:=Unit) [0,1,2,8,9,10,11,12,71] (fun _=>([(0,.sl 7 (l.map Ac.enc)),(1,pI act),(2,pI item),(8,.loc 1 0 0),(9,.loc 2 0 0),(10,pI i),(11,pI j),(12,.loc t 0 0),(71,.bool (hitB (act,item) x))],⟨[(t,.arr false 25 [x.enc]),(2,.arr false 25 [o.enc]),(1,.arr false 25 [zIt])],t + 1⟩)) ?_ (fun _=>?_)
      · unfold hitB fixOf
        by_cases hk:x.kind = 11
        · have e1:(x.kind == 11) = true:=by simpa using hk
          rw [if_pos hk]
          by_cases ha:x.act = act
          · have f1:(x.act == act) = true:=by simpa using ha
            by_cases hi2:x.item = item
            · have f2:(x.item == item) = true:=by simpa using hi2
              cases hb:x.by' with
              | nil =>
                have e2:decide (0 < (x.by'.length:Int)) = false:=by rw [hb]; rfl
                simp only [Zab,Zad,Za6,Zbi,Zaf,pok,pval,VA.ev,Env.get,Env.put,Env.keep,Za1,isBool,aggV,intV,binV,Zah,lenV,Zao,Zan,Zag,Zap,Za8,PV.nth,PV.row,Heap.get,Heap.le,HL.get,HL.le,Nat.le_refl,Nat.succ_ne_self,Env.le,List.length,List.getD_cons_zero,List.drop,Nat.reduceEqDiff,Nat.reduceLT,Nat.reduceLeDiff,Bool.false_eq_true,ite_true,ite_false,true_and,and_true,implies_true,reduceCtorEq,Nat.zero_add,Nat.add_zero,List.length_map,Zbt,it_kind,it_act,it_item,it_l20,it_l21,it_by,it_l24,e1,e2,f1,f2,qi0,qi1,qi2,qi3,qi4,qi5,qi6,qi7,qi8,qi9,qi10,qi11]
                exact ⟨(),by first | trivial | rfl⟩
              | cons b r =>
                have e2:decide (0 < (x.by'.length:Int)) = true:=by rw [hb,decide_eq_true_eq]; simp
                have e3:(0:Int) < (x.by'.length:Int):=by simpa using e2
                have e4:(x.by'.map It.enc).getD 0 [] = b.enc:=by rw [hb]; rfl
                simp only [Zab,Zad,Za6,Zaf,pok,pval,VA.ev,Env.get,Env.put,Env.keep,Za1,isBool,aggV,intV,binV,Zah,isInt,numOf,lenV,Zao,Zan,Zag,Zap,Zax,Zas,Za8,PV.nth,PV.row,Heap.get,Heap.le,HL.get,HL.le,Nat.le_refl,Nat.succ_ne_self,Env.le,List.map,List.length,List.getD_cons_zero,List.drop,Nat.reduceEqDiff,Nat.reduceLT,Nat.reduceLeDiff,Bool.false_eq_true,ite_true,ite_false,true_and,and_true,implies_true,reduceCtorEq,Nat.zero_add,Nat.add_zero,Int.reduceToNat,List.length_map,Zbt,it_kind,it_act,it_item,it_l20,it_l21,it_by,it_l24,e1,e2,e4,f1,f2,qi0,qi1,qi2,qi3,qi4,qi5,qi6,qi7,qi8,qi9,qi10,qi11]
                repeat (with_reducible refine And.intro ?_ ?_; first | omega | (with_reducible constructor <;> omega) | exact False.elim | exact True.intro)
                refine Zat (Zc1 b.kind) ?_
                cases ham:amend b.kind with
                | true =>
                  try simp only [HL.get,Nat.le_refl,ite_true,ite_false,and_true,qi0,qi1,qi2,qi3,qi4,qi5,qi6,qi7,qi8,qi9,qi10,qi11]
                  refine ⟨(),?_⟩
                  try simp only [ha,hi2,decide_true]
                  all_goals (repeat' (first | rfl | trivial | omega | (simp only []; omega) | refine And.intro ?_ ?_))
                | false =>
                  try simp only [HL.get,Nat.le_refl,Bool.false_eq_true,ite_true,ite_false,and_true,qi0,qi1,qi2,qi3,qi4,qi5,qi6,qi7,qi8,qi9,qi10,qi11]
                  refine ⟨(),?_⟩
                  try simp only []
                  all_goals (repeat' (first | rfl | trivial | omega | (simp only []; omega) | refine And.intro ?_ ?_))
            · have f2:(x.item == item) = false:=by simpa using hi2
              simp only [Zab,Zad,Za6,Zbi,Zaf,pok,pval,VA.ev,Env.get,Env.put,Env.keep,Za1,isBool,aggV,intV,binV,Zah,Zao,Zan,Zag,Zap,PV.nth,PV.row,Heap.get,Heap.le,HL.get,HL.le,Nat.le_refl,Nat.succ_ne_self,Env.le,List.length,List.getD_cons_zero,List.drop,Nat.reduceEqDiff,Nat.reduceLT,Nat.reduceLeDiff,Bool.false_eq_true,ite_true,ite_false,true_and,and_true,implies_true,reduceCtorEq,Nat.zero_add,Nat.add_zero,List.length_map,Zbt,it_kind,it_act,it_item,it_l20,it_l21,e1,f1,f2,qi0,qi1,qi2,qi3,qi4,qi5,qi6,qi7,qi8,qi9,qi10,qi11]
              refine ⟨(),?_⟩
              cases hb:x.by' with
              | nil=>rfl
              | cons b r=>cases ham:amend b.kind <;> simp [hi2,ham]
          · have f1:(x.act == act) = false:=by simpa using ha
            simp only [Zab,Zad,Za6,Zbi,Zaf,pok,pval,VA.ev,Env.get,Env.put,Env.keep,Za1,isBool,aggV,intV,binV,Zah,Zao,Zan,Zag,Zap,PV.nth,PV.row,Heap.get,Heap.le,HL.get,HL.le,Nat.le_refl,Nat.succ_ne_self,Env.le,List.length,List.getD_cons_zero,List.drop,Nat.reduceEqDiff,Nat.reduceLT,Nat.reduceLeDiff,Bool.false_eq_true,ite_true,ite_false,true_and,and_true,implies_true,reduceCtorEq,Nat.zero_add,Nat.add_zero,List.length_map,Zbt,it_kind,it_act,it_l20,e1,f1,qi0,qi1,qi2,qi3,qi4,qi5,qi6,qi7,qi8,qi9,qi10,qi11]
            refine ⟨(),?_⟩
            cases hb:x.by' with
            | nil=>rfl
            | cons b r=>cases ham:amend b.kind <;> simp [ha,ham]
        · have e1:(x.kind == 11) = false:=by simpa using hk
          rw [if_neg hk]
          simp only [Zab,Zad,Zbi,Zaf,pok,pval,VA.ev,Env.get,Env.put,Env.keep,Za1,isBool,aggV,intV,binV,Zah,Zao,Zan,Zag,Zap,PV.nth,PV.row,Heap.get,Heap.le,HL.get,HL.le,Nat.le_refl,Nat.succ_ne_self,Env.le,List.length,List.getD_cons_zero,List.drop,Nat.reduceEqDiff,Nat.reduceLT,Nat.reduceLeDiff,Bool.false_eq_true,ite_true,ite_false,true_and,and_true,implies_true,reduceCtorEq,Nat.zero_add,Nat.add_zero,List.length_map,Zbt,it_kind,e1,qi0,qi1,qi2,qi3,qi4,qi5,qi6,qi7,qi8,qi9,qi10,qi11]
          exact ⟨(),by first | trivial | rfl⟩
      refine Zai rfl (fun h4=>?_) (fun h4=>?_)
      · obtain ⟨b,r,hb⟩:=hitB_by h4
        rw [if_pos h4,hb] at hnext
        have e3:(0:Int) < (x.by'.length:Int):=by rw [hb]; simp
        have e4:(x.by'.map It.enc).getD 0 [] = b.enc:=by rw [hb]; rfl
        refine Zaa [0,1,2,8,9,10,11] ?_
        simp only [Zab,Zad,Zaf,pok,pval,VA.ev,Env.get,Env.put,Env.keep,Zae,Zal,aggV,isInt,numOf,lenV,Zao,Zan,Zag,Zap,Zax,Zas,PV.cells,PV.fits,overlay,PV.nth,PV.row,Heap.get,Heap.set,HL.get,HL.set,HL.del,Nat.le_refl,Nat.succ_ne_self,Zbh,Za9,List.set,List.length,List.getD_cons_zero,List.take,List.nil_append,Nat.reduceEqDiff,Nat.reduceLT,Bool.false_eq_true,Bool.true_eq_false,ite_true,ite_false,true_and,and_true,implies_true,reduceCtorEq,BEq.rfl,Nat.zero_add,imp_self,Int.reduceToNat,List.length_map,Zbt,it_by,it_l24,Zcf,it_drop25,List.append_nil,e4,qi0,qi1,qi2,qi3,qi4,qi5,qi6,qi7,qi8,qi9,qi10,qi11]
        repeat (with_reducible refine And.intro ?_ ?_; first | omega | (with_reducible constructor <;> omega) | exact False.elim | exact True.intro)
        skip
        refine Zaa [0,1,2,8,9,10,11] ?_
        simp only [Zab,Zad,Zaf,pok,pval,VA.ev,Env.get,Env.put,Env.keep,Zae,intV,binV,Zah,HL.get,Nat.succ_ne_self,Nat.reduceEqDiff,ite_true,ite_false,true_and,reduceCtorEq,ad1 (a:=j) (by omega)]
        refine ⟨⟨(j + 1,t + 1),⟨ja,by show 2 < t + 1; omega⟩⟩,?_⟩
        rw [hnext]
        try simp only [Nat.le_refl,ite_false,true_and,and_true,qi0,qi1,qi2,qi3,qi4,qi5,qi6,qi7,qi8,qi9,qi10,qi11]
        all_goals (repeat' (first | rfl | trivial | omega | (simp only []; omega) | refine And.intro ?_ ?_))
      · rw [if_neg (by rw [h4]; exact Bool.false_ne_true)] at hnext
        refine Zak ?_
        try simp only [Zae,Zal]
        refine Zaa [0,1,2,8,9,10,11] ?_
        simp only [Zab,Zad,Zaf,pok,pval,VA.ev,Env.get,Env.put,Env.keep,Zae,intV,binV,Zah,HL.get,Nat.succ_ne_self,Nat.reduceEqDiff,ite_true,ite_false,true_and,reduceCtorEq,ad1 (a:=j) (by omega)]
        refine ⟨⟨(j + 1,t + 1),⟨ja,by show 2 < t + 1; omega⟩⟩,?_⟩
        rw [hnext]
        try simp only [Nat.le_refl,ite_false,true_and,and_true,qi0,qi1,qi2,qi3,qi4,qi5,qi6,qi7,qi8,qi9,qi10,qi11]
        all_goals (repeat' (first | rfl | trivial | omega | (simp only []; omega) | refine And.intro ?_ ?_))
    · simp only [decide_eq_false_iff_not] at h3
      obtain rfl:j = l[i].items.length:=by omega
      refine Zaz ?_
      try simp only [Zae,Zal,retQ,Nat.succ_ne_self,ite_true,ite_false,reduceCtorEq]
      refine Zaa [0,1,2,8,9,10] ?_
      simp only [Zab,Zad,Zaf,pok,pval,VA.ev,Env.get,Env.put,Env.keep,Zae,intV,binV,Zah,HL.get,Nat.succ_ne_self,Nat.reduceEqDiff,ite_true,ite_false,true_and,and_true,reduceCtorEq,Option.some.injEq,ad1 (a:=i) (by omega)]
      refine ⟨⟨(i + 1,t),⟨ia,ht⟩⟩,?_⟩
      rw [hrow,List.take_length]
      try simp only [Nat.le_refl,true_and,and_true]
      all_goals (repeat' (first | rfl | trivial | omega | (simp only []; omega) | refine And.intro ?_ ?_))
  · simp only [decide_eq_false_iff_not] at h2
    obtain rfl:i = l.length:=by omega
    refine Zaz ?_
    try simp only [Zae,Zal,retQ,ite_true]
    refine Zac (Zaa [8] ?_)
    simp only [Zab,Zad,Zaf,pok,pval,VA.ev,Env.get,Env.put,Env.keep,Zae,aggV,Zag,Zap,PV.cells,PV.fits,overlay,PV.nth,PV.row,Heap.get,Heap.set,HL.get,HL.set,HL.del,Nat.le_refl,Nat.succ_ne_self,Zbh,Za9,List.set,List.length,List.getD_cons_zero,List.take,List.drop,List.nil_append,Nat.reduceEqDiff,Nat.reduceLT,Bool.true_eq_false,ite_true,ite_false,true_and,and_true,reduceCtorEq,BEq.rfl,Nat.zero_add,imp_self,Zbt,Zcf,zIt_len,zIt_drop,List.append_nil]
    refine Zar ?_
    try simp only [Env.get,retQ,resV,Zau,RS.ev,RS.ok,aggV,Zag,Zap,PV.nth,PV.row,Heap.get,HL.get,Nat.le_refl,Nat.succ_ne_self,List.length,List.getD_cons_zero,List.drop,Nat.reduceEqDiff,Nat.reduceLT,Bool.true_eq_false,ite_true,ite_false,true_and,and_true,Nat.zero_add,imp_self,Zbt,Zcf]
    rw [List.take_length]
    exact View.refl _ _
end Go.Proofs.YtehokmhebnkfdaaGreat.w
namespace Go.Proofs.YtehokmhebnkfdaaGreat.w
open Go Go.VM
set_option maxRecDepth 20000
set_option maxHeartbeats 0
set_option pp.deepTerms false
def c_corpus_EnactedItems:VC:=(.seq (.region [ZO 2 (.mv (.c .nilsl))] false) (.seq (.region [ZO 3 (.mv (.c .nilsl))] false) (.seq (.region [ZM 12 0,ZO 13 (.call 57 [(.t 12)]),ZM 4 13] false) (.seq (.region [ZM 14 4,ZO 15 (.call 77 [(.t 14)]),ZM 5 15] false) (.seq (.seq (.region [ZM 16 4,ZO 17 (.len false (.t 16)),ZO 18 (.mv (.c (.int .i64 0)))] false) (.block 0 (.loop (.seq (.region [ZO 19 (.bin .lss (.t 18) (.t 17))] false) (.seq (.cond (.t 19) .skip (.exit 0)) (.seq (.block 1 (.seq (.region [ZO 20 (.iaddr 7 (.t 16) (.t 18)),ZO 21 (.load true 7 (.t 20)),ZO 7 (.alloc [(.int .i64 0),(.str []),(.int .i64 0),(.int .i64 0),(.int .i64 0),(.str []),.nilsl]),ZN (.store 7 (.t 7) (.t 21))] false) (.seq (.region [ZO 22 (.load true 7 (.t 7)),ZO 23 (.call 78 [(.t 22)]),ZO 24 (.len false (.t 23)),ZO 25 (.mv (.c (.int .i64 0)))] false) (.block 2 (.loop (.seq (.region [ZO 26 (.bin .lss (.t 25) (.t 24))] false) (.seq (.cond (.t 26) .skip (.exit 2)) (.seq (.block 3 (.seq (.region [ZO 27 (.iaddr 28 (.t 23) (.t 25)),ZO 28 (.load true 28 (.t 27)),ZO 9 (.alloc [(.int .i64 0),(.int .i64 0),(.int .i64 0),(.int .i64 0),.nilsl,.nilsl,(.int .i64 0),(.int .i64 0),(.int .i64 0),(.int .i64 0),(.int .i64 0),(.int .i64 0),(.str []),.nilsl,.nilsl,.nilsl,.nilsl,.nilsl,(.str []),(.str []),(.int .i64 0),(.int .i64 0),(.str []),(.int .i64 0),(.int .i64 0),(.int .i64 0),(.str []),.nilsl]),ZN (.store 28 (.t 9) (.t 28))] false) (.seq (.seq (.region [ZM 30 5,ZO 31 (.faddr 0 (.t 9)),ZO 32 (.load false 1 (.t 31)),ZO 33 (.faddr 1 (.t 9)),ZO 34 (.load false 1 (.t 33)),ZO 35 (.build [(.int .i64 0),(.int .i64 0)] [(0,(1,(.t 32))),(1,(1,(.t 34)))]),ZO 36 (.lookup (.st [.i,.i]) (.agg [(.int .i64 0),.nilsl,.nilsl,(.int .i64 0),(.int .i64 0),(.int .i64 0),(.int .i64 0),(.int .i64 0),(.int .i64 0),(.str []),.nilsl,.nilsl,.nilsl,.nilsl,.nilsl,(.str []),(.str []),(.int .i64 0),(.int .i64 0),(.str []),(.int .i64 0),(.int .i64 0),(.int .i64 0),(.str []),.nilsl]) true (.t 30) (.t 35)),ZM 29 36,ZO 37 (.ext (.t 29) 0),ZO 38 (.ext (.t 29) 1),ZO 10 (.alloc [(.int .i64 0),.nilsl,.nilsl,(.int .i64 0),(.int .i64 0),(.int .i64 0),(.int .i64 0),(.int .i64 0),(.int .i64 0),(.str []),.nilsl,.nilsl,.nilsl,.nilsl,.nilsl,(.str []),(.str []),(.int .i64 0),(.int .i64 0),(.str []),(.int .i64 0),(.int .i64 0),(.int .i64 0),(.str []),.nilsl]),ZN (.store 25 (.t 10) (.t 37)),ZM 11 38] false) (.seq (.region [ZM 39 11,ZM 40 39,ZG 41 (.faddr 3 (.t 9)) 40 true,ZG 42 (.faddr 0 (.t 41)) 40 true,ZG 43 (.load false 1 (.t 42)) 40 true,ZG 44 (.call 59 [(.t 43)]) 40 true,ZO 45 (.pick (.t 40) (.t 44) (.c (.bool false)))] false) (.cond (.t 45) (.region [ZO 46 (.load true 25 (.t 10)),ZO 47 (.faddr 3 (.t 9)),ZN (.store 25 (.t 47) (.t 46))] false) .skip))) (.region [ZM 48 3,ZO 49 (.load true 28 (.t 9)),ZO 50 (.bslice 28 1 [(.int .i64 0),(.int .i64 0),(.int .i64 0),(.int .i64 0),.nilsl,.nilsl,(.int .i64 0),(.int .i64 0),(.int .i64 0),(.int .i64 0),(.int .i64 0),(.int .i64 0),(.str []),.nilsl,.nilsl,.nilsl,.nilsl,.nilsl,(.str []),(.str []),(.int .i64 0),(.int .i64 0),(.str []),(.int .i64 0),(.int .i64 0),(.int .i64 0),(.str []),.nilsl] [(0,(.t 49))]),ZO 51 (.app 28 392 [(.int .i64 0),(.int .i64 0),(.int .i64 0),(.int .i64 0),.nilsl,.nilsl,(.int .i64 0),(.int .i64 0),(.int .i64 0),(.int .i64 0),(.int .i64 0),(.int .i64 0),(.str []),.nilsl,.nilsl,.nilsl,.nilsl,.nilsl,(.str []),(.str []),(.int .i64 0),(.int .i64 0),(.str []),(.int .i64 0),(.int .i64 0),(.int .i64 0),(.str []),.nilsl] false (.t 48) (.t 50)),ZM 3 51] false)))) (.region [ZO 52 (.bin .add (.t 25) (.c (.int .i64 1))),ZM 25 52] false))))))))) (.region [ZO 53 (.bin .add (.t 18) (.c (.int .i64 1))),ZM 18 53] false))))))) (.seq (.region [ZM 54 3,ZM 2 54] false) .ret))))))
def c_pandectref28_Deeds:VC:=(.seq (.region [ZO 2 (.mv (.c .nilsl))] false) (.seq (.region [ZM 7 0,ZO 8 (.call 20 [(.t 7)]),ZM 3 8] false) (.seq (.region [ZO 9 (.fx (.mk0 28) []),ZM 4 9] false) (.seq (.seq (.region [ZO 5 (.mv (.c (.int .i64 0)))] false) (.block 0 (.loop (.seq (.seq (.region [ZM 10 5,ZM 11 3,ZO 12 (.len false (.t 11)),ZO 13 (.bin .lss (.t 10) (.t 12))] false) (.cond (.t 13) .skip (.exit 0))) (.seq (.block 1 (.seq (.region [ZO 6 (.mv (.c (.int .i64 0)))] false) (.block 2 (.loop (.seq (.seq (.region [ZM 16 6,ZM 17 3,ZM 18 5,ZO 19 (.iaddr 7 (.t 17) (.t 18)),ZO 20 (.faddr 6 (.t 19)),ZO 21 (.load false 1 (.t 20)),ZO 22 (.len false (.t 21)),ZO 23 (.bin .lss (.t 16) (.t 22))] false) (.cond (.t 23) .skip (.exit 2))) (.seq (.block 3 (.draw2 [ZM 26 4,ZM 27 3,ZM 28 5,ZO 29 (.iaddr 7 (.t 27) (.t 28)),ZO 30 (.faddr 0 (.t 29)),ZO 31 (.load false 1 (.t 30)),ZM 32 6,ZM 33 3,ZM 34 5,ZO 35 (.iaddr 7 (.t 33) (.t 34)),ZO 36 (.faddr 2 (.t 35)),ZO 37 (.load false 1 (.t 36)),ZM 38 3,ZM 39 3,ZM 40 5,ZO 41 (.iaddr 7 (.t 39) (.t 40)),ZO 42 (.faddr 0 (.t 41)),ZO 43 (.load false 1 (.t 42)),ZM 44 6,ZM 45 3,ZM 46 5,ZO 47 (.iaddr 7 (.t 45) (.t 46)),ZO 48 (.faddr 6 (.t 47)),ZO 49 (.load false 1 (.t 48)),ZM 50 6,ZO 51 (.iaddr 25 (.t 49) (.t 50)),ZO 52 (.load true 25 (.t 51)),ZO 53 (.call 67 [(.t 38),(.t 43),(.t 44),(.t 52)]),ZO 54 (.build [(.int .i64 0),(.int .i64 0),(.int .i64 0),(.int .i64 0),.nilsl,.nilsl,(.int .i64 0),(.int .i64 0),(.int .i64 0),(.int .i64 0),(.int .i64 0),(.int .i64 0),(.str []),.nilsl,.nilsl,.nilsl,.nilsl,.nilsl,(.str []),(.str []),(.int .i64 0),(.int .i64 0),(.str []),(.int .i64 0),(.int .i64 0),(.int .i64 0),(.str []),.nilsl] [(0,(1,(.t 31))),(1,(1,(.t 32))),(2,(1,(.t 37))),(3,(25,(.t 53)))]),ZO 55 (.bslice 28 1 [(.int .i64 0),(.int .i64 0),(.int .i64 0),(.int .i64 0),.nilsl,.nilsl,(.int .i64 0),(.int .i64 0),(.int .i64 0),(.int .i64 0),(.int .i64 0),(.int .i64 0),(.str []),.nilsl,.nilsl,.nilsl,.nilsl,.nilsl,(.str []),(.str []),(.int .i64 0),(.int .i64 0),(.str []),(.int .i64 0),(.int .i64 0),(.int .i64 0),(.str []),.nilsl] [(0,(.t 54))]),ZO 56 (.app 28 392 [(.int .i64 0),(.int .i64 0),(.int .i64 0),(.int .i64 0),.nilsl,.nilsl,(.int .i64 0),(.int .i64 0),(.int .i64 0),(.int .i64 0),(.int .i64 0),(.int .i64 0),(.str []),.nilsl,.nilsl,.nilsl,.nilsl,.nilsl,(.str []),(.str []),(.int .i64 0),(.int .i64 0),(.str []),(.int .i64 0),(.int .i64 0),(.int .i64 0),(.str []),.nilsl] false (.t 26) (.t 55)),ZM 4 56] [true,true,true,true,true,true,true,true,true,true,true,true,true,true,true,true,true,true,true,true,true,true,true,true,true,true,true,true,true,true,false,false])) (.region [ZM 24 6,ZO 25 (.bin .add (.t 24) (.c (.int .i64 1))),ZM 6 25] false))))))) (.region [ZM 14 5,ZO 15 (.bin .add (.t 14) (.c (.int .i64 1))),ZM 5 15] false)))))) (.seq (.region [ZM 57 4,ZM 2 57] false) .ret)))))
def fixE (xs:List It) (d:EI):EI:={ d with it:=corrS xs (d.act,d.item) d.it }
def Zch (xs:List It) (acts:List Ac):List EI:=acts.flatMap fun a=>(deeds a).map (fixE xs)
def deedsS (acts:List Ac):List EI:=Zch (Zba acts) acts
theorem deedsF_len (xs:List It):∀ acts:List Ac,(Zch xs acts).length = (Zba acts).length
  | []=>rfl
  | a :: r=>by
    have ih:=deedsF_len xs r
    simp only [Zch,Zba,List.flatMap_cons,List.length_append,List.length_map,deeds,deeds_len] at ih ⊢
    rw [ih]
theorem deedsF_take {xs:List It} {l:List Ac} {i:Nat} (h:i < l.length):Zch xs (l.take (i + 1)) = Zch xs (l.take i) ++ (deeds l[i]).map (fixE xs):=by
  rw [Zch,Zch,List.take_add_one,List.getElem?_eq_getElem h,List.flatMap_append]; simp
theorem itemsS_le (l:List Ac) (i:Nat):(Zba (l.take i)).length ≤ (Zba l).length:=by
  have:Zba l = Zba (l.take i) ++ Zba (l.drop i):=by simp only [Zba]; rw [← List.flatMap_append,List.take_append_drop]
  rw [this]; simp
theorem items_each (l:List Ac):∀ a ∈ l,a.items.length ≤ (Zba l).length:=by
  intro a ha
  obtain ⟨i,hi,rfl⟩:=List.mem_iff_getElem.1 ha
  have h1:=itemsS_le l (i + 1)
  rw [itemsS_take hi,List.length_append] at h1
  omega
theorem Zb6 (e:EI):e.enc.length = 28:=rd.ei_len e
theorem ei_t28 (e:EI):e.enc.take 28 = e.enc:=List.take_of_length_le (by rw [rd.ei_len]; exact Nat.le_refl _)
theorem ei_d28 (e:EI):e.enc.drop 28 = []:=List.drop_of_length_le (by rw [rd.ei_len]; exact Nat.le_refl _)
theorem ei_act (e:EI):(e.enc.take 1).getD 0 .any = pI e.act:=rfl
theorem ei_item (e:EI):((e.enc.drop 1).take 1).getD 0 .any = pI e.item:=rfl
theorem ei_l1 (e:EI):(e.enc.drop 1).length = 27:=by simp [rd.ei_len]
theorem ei_it (e:EI):e.enc.drop 3 = e.it.enc:=rfl
theorem ei_over (e:EI) (x:It):e.enc.take 3 ++ x.enc = ({ e with it:=x }:EI).enc:=rfl
theorem sp_corpus_EnactedItems (l : List Gz) (hl : l.length ≤ 1000000) (hr : (rowG l).length ≤ 1000000) (hd : (Zba (Zbr (rowG l))).length ≤ 1000000) :
    Zbo Tryz.prog 58 [.sl 4 (l.map Gz.enc)] (.sl 28 ((deedsS (Zbr (rowG l))).map EI.enc)):=by
  refine Zam ?_ (Zaw _) (by simp only [Za0,List.mem_cons,List.not_mem_nil,or_false,forall_eq_or_imp,forall_eq,false_implies,implies_true]; repeat' (first  | exact Zaw _ | exact Zbp _ | exact Zav _ | refine And.intro ?_ ?_))
  refine Zaq (vc:=c_corpus_EnactedItems) (ts:=[.t 2]) Go.Proofs.Tryz.func58 (by kernel_rfl) rfl rfl (Nat.le_of_ble_eq_true rfl) (by kernel_rfl) ?_
  unfold c_corpus_EnactedItems
  try dsimp only [ZM,ZO,ZN,ZG]
  refine Zac (Zaa [0] ?_)
  simp only [Zab,Zad,Zaf,pok,pval,VA.ev,Env.get,Env.put,Env.keep,Za2,Zae,Heap.nil,ite_true,ite_false,true_and,reduceCtorEq]
  refine Zac (Zaa [0,3] ?_)
  simp only [Zab,Zad,Zaf,pok,pval,VA.ev,Env.get,Env.put,Env.keep,Zae,ite_true,ite_false,true_and,reduceCtorEq]
  refine Zac (Zaa [3,4] ?_)
  simp only [Zab,Zad,Zaf,pok,pval,VA.ev,Env.get,Env.put,Env.keep,Zae,Nat.succ_ne_self,List.map,Nat.reduceEqDiff,ite_true,ite_false,true_and,reduceCtorEq]
  refine Zat (sp_corpus_Acts l hl hr) ?_
  have hal:(Zbr (rowG l)).length ≤ 1000000:=by
    have h1:=foldIns_len (fstA [] (rowG l)) []
    have h2:=fst_le (rowG l) []
    unfold Zbr
    simp only [List.length_nil] at h1
    omega
  generalize Zbr (rowG l) = acts at hd hal ⊢
  have heach:=items_each acts
  skip
  refine Zac (Zaa [3,4,5] ?_)
  simp only [Zab,Zad,Zaf,pok,pval,VA.ev,Env.get,Env.put,Env.keep,Zae,Nat.succ_ne_self,List.map,Nat.reduceEqDiff,ite_true,ite_false,true_and]
  refine Zat (sp_corpus_corrections acts hal (fun a ha=>by have:=heach a ha; omega)) ?_
  skip
  refine VW_own0 3 28 rfl ?_
  try simp only [Env.put,Heap.push,Nat.zero_add]
  refine Zac ?_
  refine Zac (Zaa [3,5,16,17,18] ?_)
  simp only [Zab,Zad,Zaf,pok,pval,VA.ev,Env.get,Env.put,Env.keep,Zae,lenV,Za8,Nat.succ_ne_self,Nat.reduceEqDiff,ite_true,ite_false,true_and,List.length_map]
  unfold deedsS
  have hMf:∀ k,findF k ((Zba acts).foldl stepF []) = (Zba acts).foldl (fixAt k) none:=fun k=>findF_fold k _ []
  have hcl:∀ n,(Zch (Zba acts) (acts.take n)).length ≤ 1000000:=fun n=>by rw [deedsF_len]; have:=itemsS_le acts n; omega
  generalize (Zba acts).foldl stepF [] = M at hMf ⊢
  generalize hxs:Zba acts = xs at hd hMf hcl heach ⊢
  refine Zaj ?_
  refine Za4 (σ:={ s:Nat × Nat × Nat // s.1 ≤ acts.length ∧ s.2.1 < s.2.2 }) (fun s=>([(3,.own s.1.2.1 0 (Zch xs (acts.take s.1.1)).length),(5,.rmp (encF M)),(16,.sl 7 (acts.map Ac.enc)),(17,pI acts.length),(18,pI s.1.1)],⟨[(s.1.2.1,.arr false 28 ((Zch xs (acts.take s.1.1)).map EI.enc))],s.1.2.2⟩)) (fun s=>acts.length - s.1.1) ⟨(0,0,1),⟨Nat.zero_le _,by show 0 < 1; omega⟩⟩ ?_ ?_ ?_
  · try simp only [Env.get,Nat.succ_ne_self,Env.le,List.take,Nat.reduceEqDiff,ite_true,ite_false,true_and,and_true,List.length_nil,List.take_zero,Zch,List.flatMap_nil]
    all_goals (repeat' (first | rfl | trivial | omega | (simp only []; omega) | refine And.intro ?_ ?_))
  · try simp only [Heap.get,Heap.le,HL.get,HL.le,Nat.le_refl,List.map,List.take,ite_true,and_true,List.take_zero,Zch,List.flatMap_nil]
    all_goals (repeat' (first | rfl | trivial | omega | (simp only []; omega) | refine And.intro ?_ ?_))
  rintro ⟨⟨i,id,t⟩,hi,ht⟩
  simp only [] at hi ht ⊢
  refine Zac (Zaa [3,5,16,17,18,19] ?_)
  simp only [Zab,Zad,Zaf,pok,pval,VA.ev,Env.get,Env.put,Env.keep,Zae,intV,binV,Zah,Heap.get,Heap.le,HL.le,Nat.succ_ne_self,Env.le,Nat.reduceEqDiff,ite_true,ite_false,true_and,and_true]
  refine Zac ?_
  refine Zai rfl (fun h1=>?_) (fun h1=>?_)
  · refine Zak ?_
    try simp only [Zae]
    simp only [decide_eq_true_eq] at h1
    have ia:i < acts.length:=by omega
    have hrow:=deedsF_take (xs:=xs) ia
    have hcn:=hcl (i + 1)
    rw [hrow,List.length_append,List.length_map] at hcn
    have hitl:=heach acts[i] (List.getElem_mem ia)
    have hdl:(deeds acts[i]).length = acts[i].items.length:=deeds_len _ _ _ _
    have qi0:(id = t) = False:=eq_false (by omega)
    have qi1:(id = (t + 1)) = False:=eq_false (by omega)
    have qi2:(t = id) = False:=eq_false (by omega)
    have qi3:(t = (t + 1)) = False:=eq_false (by omega)
    have qi4:((t + 1) = id) = False:=eq_false (by omega)
    have qi5:((t + 1) = t) = False:=eq_false (by omega)
    refine Zac ?_
    refine Zaj ?_
    refine Zac (Zaa [3,5,7,16,17,18] ?_)
    simp only [Zab,Zad,Zaf,pok,pval,VA.ev,Env.get,Env.put,Env.keep,Zae,aggV,isInt,numOf,lenV,Zag,Zap,Zax,Zas,PV.cells,PV.fits,overlay,PV.nth,PV.row,Heap.get,Heap.set,HL.get,HL.set,HL.del,Heap.push,Nat.le_refl,Nat.succ_ne_self,Zbh,Za9,List.set,List.length,List.getD_cons_zero,List.take,List.drop,List.drop_succ_cons,List.nil_append,Nat.reduceEqDiff,Nat.reduceAdd,Nat.reduceLT,Bool.true_eq_false,ite_true,ite_false,true_and,and_true,BEq.rfl,Nat.zero_add,imp_self,Int.toNat_natCast,List.length_map,rowm ia,Zcs,Zb2,ac_drop,List.append_nil,qi0,qi1,qi2,qi3,qi4,qi5]
    repeat (with_reducible refine And.intro ?_ ?_; first | omega | (with_reducible constructor <;> omega) | exact False.elim | exact True.intro)
    refine Zac (Zaa [3,5,16,17,18,23,24,25] ?_)
    simp only [Zab,Zad,Zaf,pok,pval,VA.ev,Env.get,Env.put,Env.keep,Zae,aggV,lenV,Zag,Zap,Za8,PV.nth,PV.row,Heap.get,HL.get,Nat.le_refl,Nat.succ_ne_self,List.map,List.length,List.getD_cons_zero,List.drop,Nat.reduceEqDiff,Nat.reduceLT,Bool.false_eq_true,Bool.true_eq_false,ite_true,ite_false,true_and,and_true,Nat.zero_add,imp_self,Zcs,Zb2,qi0,qi1,qi2,qi3,qi4,qi5]
    refine Zat (sp_act_EnactedItems acts[i] (by omega)) ?_
    try simp only [true_and,List.length_map]
    refine Zaj ?_
    generalize hds:deeds acts[i] = ds at hrow hcn hdl ⊢
    refine Za4 (σ:={ s:Nat × Nat × Nat // s.1 ≤ ds.length ∧ s.2.1 < s.2.2 }) (fun s=>([(3,.own s.1.2.1 0 (Zch xs (acts.take i) ++ (ds.take s.1.1).map (fixE xs)).length),(5,.rmp (encF M)),(16,.sl 7 (acts.map Ac.enc)),(17,pI acts.length),(18,pI i),(23,.sl 28 (ds.map EI.enc)),(24,pI ds.length),(25,pI s.1.1)],⟨[(s.1.2.1,.arr false 28 ((Zch xs (acts.take i) ++ (ds.take s.1.1).map (fixE xs)).map EI.enc))],s.1.2.2⟩)) (fun s=>ds.length - s.1.1) ⟨(0,id,t + 1),⟨Nat.zero_le _,by show id < t + 1; omega⟩⟩ ?_ ?_ ?_
    · try simp only [Env.get,Nat.succ_ne_self,Env.le,List.take,Nat.reduceEqDiff,ite_true,ite_false,true_and,and_true,List.take_zero,List.map_nil,List.append_nil]
      all_goals (repeat' (first | rfl | trivial | omega | (simp only []; omega) | refine And.intro ?_ ?_))
    · try simp only [Heap.get,Heap.le,HL.get,HL.le,Nat.le_refl,List.map,List.take,ite_true,ite_false,and_true,List.take_zero,List.append_nil,qi0,qi1,qi2,qi3,qi4,qi5]
      all_goals (repeat' (first | rfl | trivial | omega | (simp only []; omega) | refine And.intro ?_ ?_))
    clear ht
    rintro ⟨⟨j,id,t⟩,hj,ht⟩
    simp only [] at hj ht ⊢
    refine Zac (Zaa [3,5,16,17,18,23,24,25,26] ?_)
    simp only [Zab,Zad,Zaf,pok,pval,VA.ev,Env.get,Env.put,Env.keep,Zae,intV,binV,Zah,Heap.get,Heap.le,HL.le,Nat.succ_ne_self,Env.le,Nat.reduceEqDiff,ite_true,ite_false,true_and,and_true]
    refine Zac ?_
    refine Zai rfl (fun h2=>?_) (fun h2=>?_)
    · refine Zak ?_
      try simp only [Zae]
      simp only [decide_eq_true_eq] at h2
      have ja:j < ds.length:=by omega
      have hnext:Zch xs (acts.take i) ++ (ds.take (j + 1)).map (fixE xs) = (Zch xs (acts.take i) ++ (ds.take j).map (fixE xs)) ++ [fixE xs ds[j]]:=by
        rw [List.take_add_one,List.getElem?_eq_getElem ja,Option.toList_some,List.map_append,List.append_assoc]; rfl
      have hol:(Zch xs (acts.take i) ++ (ds.take j).map (fixE xs)).length ≤ 1000000:=by
        simp only [List.length_append,List.length_map,List.length_take]; omega
      generalize hM:Zch xs (acts.take i) ++ (ds.take j).map (fixE xs) = out at hnext hol ⊢
      have hrx0:=rowm (enc:=EI.enc) ja
      generalize hx:ds[j] = x at hnext hrx0 ⊢
      have qi0:(id = t) = False:=eq_false (by omega)
      have qi1:(id = (t + 1)) = False:=eq_false (by omega)
      have qi2:(id = (t + 1 + 1)) = False:=eq_false (by omega)
      have qi3:(id = (t + 1 + 1 + 1)) = False:=eq_false (by omega)
      have qi4:(t = id) = False:=eq_false (by omega)
      have qi5:(t = (t + 1)) = False:=eq_false (by omega)
      have qi6:(t = (t + 1 + 1)) = False:=eq_false (by omega)
      have qi7:(t = (t + 1 + 1 + 1)) = False:=eq_false (by omega)
      have qi8:((t + 1) = id) = False:=eq_false (by omega)
      have qi9:((t + 1) = t) = False:=eq_false (by omega)
      have qi10:((t + 1) = (t + 1 + 1)) = False:=eq_false (by omega)
      have qi11:((t + 1) = (t + 1 + 1 + 1)) = False:=eq_false (by omega)
      have qi12:((t + 1 + 1) = id) = False:=eq_false (by omega)
      have qi13:((t + 1 + 1) = t) = False:=eq_false (by omega)
      have qi14:((t + 1 + 1) = (t + 1)) = False:=eq_false (by omega)
      have qi15:((t + 1 + 1) = (t + 1 + 1 + 1)) = False:=eq_false (by omega)
      have qi16:((t + 1 + 1 + 1) = id) = False:=eq_false (by omega)
      have qi17:((t + 1 + 1 + 1) = t) = False:=eq_false (by omega)
      have qi18:((t + 1 + 1 + 1) = (t + 1)) = False:=eq_false (by omega)
      have qi19:((t + 1 + 1 + 1) = (t + 1 + 1)) = False:=eq_false (by omega)
      refine Zac ?_
      refine Zaj ?_
      refine Zac (Zaa [3,5,9,16,17,18,23,24,25] ?_)
      simp only [Zab,Zad,Zaf,pok,pval,VA.ev,Env.get,Env.put,Env.keep,Zae,aggV,isInt,numOf,lenV,Zag,Zap,Zax,Zas,PV.cells,PV.fits,overlay,PV.nth,PV.row,Heap.get,Heap.set,HL.get,HL.set,HL.del,Heap.push,Nat.le_refl,Nat.succ_ne_self,Zbh,Za9,List.set,List.length,List.getD_cons_zero,List.take,List.drop,List.drop_succ_cons,List.nil_append,Nat.reduceEqDiff,Nat.reduceAdd,Nat.reduceLT,Bool.true_eq_false,ite_true,ite_false,true_and,and_true,BEq.rfl,Nat.zero_add,imp_self,Int.toNat_natCast,List.length_map,hrx0,ei_t28,Zb6,ei_d28,List.append_nil,qi0,qi1,qi2,qi3,qi4,qi5,qi6,qi7,qi8,qi9,qi10,qi11,qi12,qi13,qi14,qi15,qi16,qi17,qi18,qi19]
      repeat (with_reducible refine And.intro ?_ ?_; first | omega | (with_reducible constructor <;> omega) | exact False.elim | exact True.intro)
      refine Zac ?_
      have hkeys:=encF_keys (x.act,x.item) M
      have hfind:=encF_find (x.act,x.item) M
      have hf:=hMf (x.act,x.item)
      simp only [keyF] at hkeys hfind
      refine VW_mid (σ:={ y:EI // y = fixE xs x }) (fun y=>([(3,.own id 0 out.length),(5,.rmp (encF M)),(9,.loc t 0 0),(16,.sl 7 (acts.map Ac.enc)),(17,pI acts.length),(18,pI i),(23,.sl 28 (ds.map EI.enc)),(24,pI ds.length),(25,pI j)],⟨[(t,.arr false 28 [y.1.enc]),(id,.arr false 28 (out.map EI.enc))],t + 1 + 1⟩)) ?_ (fun y=>?_)
      · refine Zac (Zaa [3,5,9,10,11,16,17,18,23,24,25] ?_)
        cases hff:findF (x.act,x.item) M with
        | none =>
          rw [hff] at hfind hf
          simp only [Option.map_none] at hfind
          simp only [Zab,Zad,Zaf,pok,pval,VA.ev,Env.get,Env.put,Env.keep,Zae,aggV,Zao,Zan,Zag,Zap,extV,extOk,Zcu,Zcb,PV.cells,PV.fits,overlay,PV.nth,PV.row,lookV,Zca,mapOk,Heap.get,Heap.set,HL.get,HL.set,HL.del,Heap.push,Nat.le_refl,Nat.succ_ne_self,Zbh,Za9,List.set,List.length,List.getD_cons_zero,List.getD_cons_succ,List.take,List.drop,List.take_succ_cons,List.drop_succ_cons,List.cons_append,List.nil_append,Nat.reduceEqDiff,Nat.reduceAdd,Nat.reduceLT,Nat.reduceLeDiff,Bool.false_eq_true,ite_true,ite_false,true_and,and_true,implies_true,BEq.rfl,Nat.zero_add,Nat.add_zero,List.length_cons,List.length_map,Zb6,ei_act,ei_item,ei_l1,hkeys,hfind,qi0,qi1,qi2,qi3,qi4,qi5,qi6,qi7,qi8,qi9,qi10,qi11,qi12,qi13,qi14,qi15,qi16,qi17,qi18,qi19]
          refine Zac (Zaa [3,5,9,10,16,17,18,23,24,25,45] ?_)
          simp only [Zab,Zad,Zbi,Zaf,pok,pval,VA.ev,Env.get,Env.put,Env.keep,Zae,Za1,isBool,Nat.succ_ne_self,Nat.reduceEqDiff,Bool.false_eq_true,ite_true,ite_false,true_and]
          refine Zai rfl (fun h3=>by cases h3) (fun h3=>?_)
          refine Zak ?_
          try simp only [midQ,Env.get,Heap.get,Heap.le,HL.get,HL.le,Nat.le_refl,Nat.succ_ne_self,Env.le,Nat.reduceEqDiff,ite_true,ite_false,true_and,and_true,Option.some.injEq]
          refine ⟨⟨x,?_⟩,?_⟩
          · unfold fixE corrS; rw [← hf]; simp
          · try simp only [ite_false,and_true,qi0,qi1,qi2,qi3,qi4,qi5,qi6,qi7,qi8,qi9,qi10,qi11,qi12,qi13,qi14,qi15,qi16,qi17,qi18,qi19]
            all_goals (repeat' (first | rfl | trivial | omega | (simp only []; omega) | refine And.intro ?_ ?_))
        | some v =>
          rw [hff] at hfind hf
          simp only [Option.map_some] at hfind
          simp only [Zab,Zad,Zaf,pok,pval,VA.ev,Env.get,Env.put,Env.keep,Zae,aggV,Zao,Zan,Zag,Zap,extV,extOk,Zcu,Zcb,PV.cells,PV.fits,overlay,PV.nth,PV.row,lookV,Zca,mapOk,Heap.get,Heap.set,HL.get,HL.set,HL.del,Heap.push,Nat.le_refl,Nat.succ_ne_self,Zbh,Za9,List.set,List.length,List.getD_cons_zero,List.getD_cons_succ,List.take,List.drop,List.take_succ_cons,List.drop_succ_cons,List.cons_append,List.nil_append,Nat.reduceEqDiff,Nat.reduceAdd,Nat.reduceLT,Nat.reduceLeDiff,Bool.false_eq_true,ite_true,ite_false,true_and,and_true,implies_true,BEq.rfl,Nat.zero_add,Nat.add_zero,List.length_cons,List.length_map,Zb6,ei_act,ei_item,ei_l1,hkeys,hfind,Zcf,Zbt,it_drop25,List.append_nil,qi0,qi1,qi2,qi3,qi4,qi5,qi6,qi7,qi8,qi9,qi10,qi11,qi12,qi13,qi14,qi15,qi16,qi17,qi18,qi19]
          refine Zac (Zaa [3,5,9,10,16,17,18,23,24,25,45] ?_)
          simp only [Zab,Zad,Za6,Zaf,pok,pval,VA.ev,Env.get,Env.put,Env.keep,Zae,Za1,isBool,aggV,Zao,Zan,Zag,Zap,PV.nth,PV.row,Heap.get,HL.get,Nat.succ_ne_self,List.map,List.length,List.getD_cons_zero,Nat.reduceEqDiff,Nat.reduceLT,Nat.reduceLeDiff,Bool.false_eq_true,ite_true,ite_false,true_and,and_true,implies_true,Nat.zero_add,Nat.add_zero,ei_it,it_kind,Zbt,qi0,qi1,qi2,qi3,qi4,qi5,qi6,qi7,qi8,qi9,qi10,qi11,qi12,qi13,qi14,qi15,qi16,qi17,qi18,qi19]
          refine Zat (Zdd x.it.kind) ?_
          skip
          refine Zai rfl (fun h3=>?_) (fun h3=>?_)
          · refine Zaa [3,5,9,16,17,18,23,24,25] ?_
            simp only [midQ,Zab,Zad,Zaf,pok,pval,VA.ev,Env.get,Env.put,Env.keep,aggV,Zao,Zan,Zag,Zap,PV.cells,PV.fits,overlay,PV.nth,PV.row,Heap.get,Heap.set,Heap.le,HL.get,HL.set,HL.del,HL.le,Nat.le_refl,Nat.succ_ne_self,Env.le,Zbh,Za9,List.set,List.length,List.getD_cons_zero,List.drop,Nat.reduceEqDiff,Nat.reduceAdd,Nat.reduceLT,Bool.true_eq_false,ite_true,ite_false,true_and,and_true,BEq.rfl,Option.some.injEq,Nat.zero_add,imp_self,Zcf,Zbt,Zb6,ei_d28,ei_over,List.append_nil,qi0,qi1,qi2,qi3,qi4,qi5,qi6,qi7,qi8,qi9,qi10,qi11,qi12,qi13,qi14,qi15,qi16,qi17,qi18,qi19]
            refine ⟨⟨{ x with it:=v },?_⟩,?_⟩
            · unfold fixE corrS; rw [← hf,if_pos h3]; rfl
            · try simp only [qi0,qi1,qi2,qi3,qi4,qi5,qi6,qi7,qi8,qi9,qi10,qi11,qi12,qi13,qi14,qi15,qi16,qi17,qi18,qi19]
              all_goals (repeat' (first | rfl | trivial | omega | (simp only []; omega) | refine And.intro ?_ ?_))
          · refine Zak ?_
            try simp only [midQ,Env.get,Heap.get,Heap.le,HL.get,HL.le,Nat.le_refl,Nat.succ_ne_self,Env.le,Nat.reduceEqDiff,ite_true,ite_false,true_and,and_true,Option.some.injEq]
            refine ⟨⟨x,?_⟩,?_⟩
            · unfold fixE corrS; rw [if_neg (by rw [h3]; exact Bool.false_ne_true)]
            · try simp only [ite_false,and_true,qi0,qi1,qi2,qi3,qi4,qi5,qi6,qi7,qi8,qi9,qi10,qi11,qi12,qi13,qi14,qi15,qi16,qi17,qi18,qi19]
              all_goals (repeat' (first | rfl | trivial | omega | (simp only []; omega) | refine And.intro ?_ ?_))
      obtain ⟨y,hy⟩:=y
      rw [← hy] at hnext
      have htk:(out.map EI.enc).take out.length = out.map EI.enc:=List.take_of_length_le (by simp)
      refine Zaa [3,5,16,17,18,23,24,25] ?_
      simp only [Zab,Zad,Zaf,pok,pval,VA.ev,Env.get,Env.put,Env.keep,Zae,Zal,aggV,Zag,Zap,PV.cells,PV.fits,PV.nth,PV.row,Heap.get,Heap.del,HL.get,HL.del,Heap.push,Nat.le_refl,Nat.succ_ne_self,Zbq,Zc8,Zbk,Zda,Zbc,Zcw,Zbj,Zbf,List.set,List.replicate,List.length,List.getD_cons_zero,List.take,List.drop,List.take_succ_cons,Nat.reduceEqDiff,Nat.reduceLT,Nat.reduceLeDiff,Bool.true_eq_false,ite_true,ite_false,true_and,and_true,BEq.rfl,Nat.zero_add,List.length_cons,imp_self,List.length_map,Zb6,ei_t28,htk,qi0,qi1,qi2,qi3,qi4,qi5,qi6,qi7,qi8,qi9,qi10,qi11,qi12,qi13,qi14,qi15,qi16,qi17,qi18,qi19]
      repeat (with_reducible refine And.intro ?_ ?_; first | omega | (with_reducible constructor <;> omega) | exact False.elim | exact True.intro)
      skip
      refine Zaa [3,5,16,17,18,23,24,25] ?_
      simp only [Zab,Zad,Zaf,pok,pval,VA.ev,Env.get,Env.put,Env.keep,Zae,intV,binV,Zah,HL.get,Nat.succ_ne_self,Nat.reduceEqDiff,ite_true,ite_false,true_and,ad1 (a:=j) (by omega)]
      refine ⟨⟨(j + 1,t + 1 + 1 + 1,t + 1 + 1 + 1 + 1),⟨ja,by show t + 1 + 1 + 1 < t + 1 + 1 + 1 + 1; omega⟩⟩,?_⟩
      rw [hnext,List.map_append,List.length_append]
      try simp only [Nat.le_refl,List.map,List.length,ite_true,ite_false,true_and,and_true,Nat.zero_add,qi0,qi1,qi2,qi3,qi4,qi5,qi6,qi7,qi8,qi9,qi10,qi11,qi12,qi13,qi14,qi15,qi16,qi17,qi18,qi19]
      all_goals (repeat' (first | rfl | trivial | omega | (simp only []; omega) | refine And.intro ?_ ?_))
    · simp only [decide_eq_false_iff_not] at h2
      obtain rfl:j = ds.length:=by omega
      refine Zaz ?_
      try simp only [Zae,Zal,retQ,Nat.succ_ne_self,ite_true,ite_false,reduceCtorEq]
      refine Zaa [3,5,16,17,18] ?_
      simp only [Zab,Zad,Zaf,pok,pval,VA.ev,Env.get,Env.put,Env.keep,Zae,intV,binV,Zah,HL.get,Nat.succ_ne_self,Nat.reduceEqDiff,ite_true,ite_false,true_and,ad1 (a:=i) (by omega)]
      refine ⟨⟨(i + 1,id,t),⟨ia,ht⟩⟩,?_⟩
      rw [hrow,List.take_length]
      try simp only [Nat.le_refl,ite_true,true_and,and_true]
      all_goals (repeat' (first | rfl | trivial | omega | (simp only []; omega) | refine And.intro ?_ ?_))
  · simp only [decide_eq_false_iff_not] at h1
    obtain rfl:i = acts.length:=by omega
    refine Zaz ?_
    try simp only [Zae,Zal,retQ,ite_true]
    refine Zac (Zaa [2] ?_)
    simp only [Zab,Zad,Zaf,pok,pval,VA.ev,Env.get,Env.put,Env.keep,Zae,Nat.succ_ne_self,Nat.reduceEqDiff,ite_true,ite_false,true_and]
    refine Zar ?_
    try simp only [Env.get,retQ,resV,Zau,RS.ev,RS.ok,ite_true,true_and,and_true]
    rw [List.take_length]
    exact View.own_all (fz:=false) (by simp [Heap.get,HL.get]) (by simp)
theorem deed_get (a:Ac) (k:Nat) (h:k < a.items.length):(deeds a)[k]'(by rw [deeds,deeds_len]; exact h) = ⟨a.number,(k:Nat),a.day,a.items[k]⟩:=by
  have:=deeds_get a.number a.day a.items 0 k h
  simpa [deeds] using this
theorem deed_get' (a:Ac) (k:Nat) (h:k < a.items.length):(deeds a)[k]? = some ⟨a.number,(k:Nat),a.day,a.items[k]⟩:=by
  rw [List.getElem?_eq_getElem (by rw [deeds,deeds_len]; exact h),deed_get a k h]
theorem ac_day (x:Ac):((x.enc.drop 2).take 1).getD 0 .any = pI x.day:=rfl
theorem ac_l2 (x:Ac):(x.enc.drop 2).length = 5:=rfl
theorem ac_l6 (x:Ac):(x.enc.drop 6).length = 1:=rfl
theorem sp_pandectref28_Deeds (l : List Gz) (hl : l.length ≤ 1000000) (hr : (rowG l).length ≤ 1000000) (hd : (Zba (Zbr (rowG l))).length ≤ 1000000) :
    Zbo Tryz.prog 46 [.sl 4 (l.map Gz.enc)] (.sl 28 ((deedsS (Zbr (rowG l))).map EI.enc)):=by
  refine Zam ?_ (Zaw _) (by simp only [Za0,List.mem_cons,List.not_mem_nil,or_false,forall_eq_or_imp,forall_eq,false_implies,implies_true]; repeat' (first  | exact Zaw _ | exact Zbp _ | exact Zav _ | refine And.intro ?_ ?_))
  refine Zaq (vc:=c_pandectref28_Deeds) (ts:=[.t 2]) Go.Proofs.Tryz.func46 (by kernel_rfl) rfl rfl (Nat.le_of_ble_eq_true rfl) (by kernel_rfl) ?_
  unfold c_pandectref28_Deeds
  try dsimp only [ZM,ZO,ZN,ZG]
  refine Zac (Zaa [0] ?_)
  simp only [Zab,Zad,Zaf,pok,pval,VA.ev,Env.get,Env.put,Env.keep,Za2,Zae,Heap.nil,ite_true,ite_false,true_and,reduceCtorEq]
  refine Zac (Zaa [3] ?_)
  simp only [Zab,Zad,Zaf,pok,pval,VA.ev,Env.get,Env.put,Env.keep,Zae,List.map,Nat.reduceEqDiff,ite_true,ite_false,true_and,reduceCtorEq]
  refine Zat (Zdr l hl hr) ?_
  have hal:(Zbr (rowG l)).length ≤ 1000000:=by
    have h1:=foldIns_len (fstA [] (rowG l)) []
    have h2:=fst_le (rowG l) []
    unfold Zbr
    simp only [List.length_nil] at h1
    omega
  generalize Zbr (rowG l) = acts at hd hal ⊢
  have heach:=items_each acts
  skip
  refine Zac (Zaa [3,4] ?_)
  simp only [Zab,Zad,Zaf,pok,pval,VA.ev,Env.get,Env.put,Env.keep,Zae,Heap.push,Nat.succ_ne_self,fxV,fxOk,List.map,Nat.reduceEqDiff,ite_true,ite_false,true_and,Nat.zero_add]
  unfold deedsS
  have hcl:∀ n,(Zch (Zba acts) (acts.take n)).length ≤ 1000000:=fun n=>by rw [deedsF_len]; have:=itemsS_le acts n; omega
  have hcor:=fun act item it=>sp_pandectref28_corrected acts act item it hal (fun a ha=>by have:=heach a ha; omega)
  generalize hxs:Zba acts = xs at hd hcl heach hcor ⊢
  refine Zac ?_
  refine Zac (Zaa [3,4,5] ?_)
  simp only [Zab,Zad,Zaf,pok,pval,VA.ev,Env.get,Env.put,Env.keep,Zae,Nat.succ_ne_self,Nat.reduceEqDiff,ite_true,ite_false,true_and]
  refine Zaj ?_
  refine Za4 (σ:={ s:Nat × Nat × Nat // s.1 ≤ acts.length ∧ s.2.1 < s.2.2 }) (fun s=>([(3,.sl 7 (acts.map Ac.enc)),(4,.own s.1.2.1 0 (Zch xs (acts.take s.1.1)).length),(5,pI s.1.1)],⟨[(s.1.2.1,.arr false 28 ((Zch xs (acts.take s.1.1)).map EI.enc))],s.1.2.2⟩)) (fun s=>acts.length - s.1.1) ⟨(0,0,1),⟨Nat.zero_le _,by show 0 < 1; omega⟩⟩ ?_ ?_ ?_
  · try simp only [Env.get,Nat.succ_ne_self,Env.le,List.take,Nat.reduceEqDiff,ite_true,ite_false,true_and,and_true,List.length_nil,List.take_zero,Zch,List.flatMap_nil]
    all_goals (repeat' (first | rfl | trivial | omega | (simp only []; omega) | refine And.intro ?_ ?_))
  · try simp only [Heap.get,Heap.le,HL.get,HL.le,Nat.le_refl,List.map,List.take,ite_true,and_true,List.take_zero,Zch,List.flatMap_nil]
    all_goals (repeat' (first | rfl | trivial | omega | (simp only []; omega) | refine And.intro ?_ ?_))
  rintro ⟨⟨i,id,t⟩,hi,ht⟩
  simp only [] at hi ht ⊢
  refine Zac ?_
  refine Zac (Zaa [3,4,5,13] ?_)
  simp only [Zab,Zad,Zaf,pok,pval,VA.ev,Env.get,Env.put,Env.keep,Zae,intV,binV,Zah,lenV,Za8,Heap.get,Heap.le,HL.le,Nat.succ_ne_self,Env.le,Nat.reduceEqDiff,ite_true,ite_false,true_and,and_true,List.length_map]
  refine Zai rfl (fun h1=>?_) (fun h1=>?_)
  · refine Zak ?_
    try simp only [Zae]
    simp only [decide_eq_true_eq] at h1
    have ia:i < acts.length:=by omega
    have hrow:=deedsF_take (xs:=xs) ia
    have hcn:=hcl (i + 1)
    rw [hrow,List.length_append,List.length_map] at hcn
    have hitl:=heach acts[i] (List.getElem_mem ia)
    have hdl:(deeds acts[i]).length = acts[i].items.length:=deeds_len _ _ _ _
    have hdg:=deed_get' acts[i]
    refine Zac ?_
    refine Zaj ?_
    refine Zac (Zaa [3,4,5,6] ?_)
    simp only [Zab,Zad,Zaf,pok,pval,VA.ev,Env.get,Env.put,Env.keep,Zae,Nat.succ_ne_self,Nat.reduceEqDiff,ite_true,ite_false,true_and]
    refine Zaj ?_
    generalize hds:deeds acts[i] = ds at hrow hcn hdl hdg ⊢
    refine Za4 (σ:={ s:Nat × Nat × Nat // s.1 ≤ ds.length ∧ s.2.1 < s.2.2 }) (fun s=>([(3,.sl 7 (acts.map Ac.enc)),(4,.own s.1.2.1 0 (Zch xs (acts.take i) ++ (ds.take s.1.1).map (fixE xs)).length),(5,pI i),(6,pI s.1.1)],⟨[(s.1.2.1,.arr false 28 ((Zch xs (acts.take i) ++ (ds.take s.1.1).map (fixE xs)).map EI.enc))],s.1.2.2⟩)) (fun s=>ds.length - s.1.1) ⟨(0,id,t),⟨Nat.zero_le _,ht⟩⟩ ?_ ?_ ?_
    · try simp only [Env.get,Nat.succ_ne_self,Env.le,List.take,Nat.reduceEqDiff,ite_true,ite_false,true_and,and_true,List.take_zero,List.map_nil,List.append_nil]
      all_goals (repeat' (first | rfl | trivial | omega | (simp only []; omega) | refine And.intro ?_ ?_))
    · try simp only [Heap.get,Heap.le,HL.get,HL.le,Nat.le_refl,List.take,ite_true,and_true,List.take_zero,List.map_nil,List.append_nil]
      all_goals (repeat' (first | rfl | trivial | omega | (simp only []; omega) | refine And.intro ?_ ?_))
    clear ht
    rintro ⟨⟨j,id,t⟩,hj,ht⟩
    simp only [] at hj ht ⊢
    refine Zac ?_
    refine Zac (Zaa [3,4,5,6,23] ?_)
    simp only [Zab,Zad,Zaf,pok,pval,VA.ev,Env.get,Env.put,Env.keep,Zae,aggV,intV,binV,Zah,isInt,numOf,lenV,Zao,Zan,Zag,Zap,Zax,Zas,Za8,PV.nth,PV.row,Heap.get,Heap.le,HL.le,Nat.le_refl,Nat.succ_ne_self,Env.le,List.length,List.getD_cons_zero,List.take,List.take_succ_cons,Nat.reduceEqDiff,Bool.false_eq_true,ite_true,ite_false,true_and,and_true,implies_true,Nat.zero_add,List.length_cons,Int.toNat_natCast,List.length_map,rowm ia,ac_items,Zb2,ac_l6]
    repeat (with_reducible refine And.intro ?_ ?_; first | omega | (with_reducible constructor <;> omega) | exact False.elim | exact True.intro)
    refine Zai rfl (fun h2=>?_) (fun h2=>?_)
    · refine Zak ?_
      try simp only [Zae]
      simp only [decide_eq_true_eq] at h2
      have ja:j < ds.length:=by omega
      have jb:j < acts[i].items.length:=by omega
      have hnext:Zch xs (acts.take i) ++ (ds.take (j + 1)).map (fixE xs) = (Zch xs (acts.take i) ++ (ds.take j).map (fixE xs)) ++ [fixE xs ds[j]]:=by
        rw [List.take_add_one,List.getElem?_eq_getElem ja,Option.toList_some,List.map_append,List.append_assoc]; rfl
      have hg:=hdg j jb
      rw [List.getElem?_eq_getElem ja] at hg
      rw [Option.some.inj hg] at hnext
      have hol:(Zch xs (acts.take i) ++ (ds.take j).map (fixE xs)).length ≤ 1000000:=by
        simp only [List.length_append,List.length_map,List.length_take]; omega
      generalize hM:Zch xs (acts.take i) ++ (ds.take j).map (fixE xs) = out at hnext hol ⊢
      have htk:(out.map EI.enc).take out.length = out.map EI.enc:=List.take_of_length_le (by simp)
      have qi0:(id = t) = False:=eq_false (by omega)
      have qi1:(id = (t + 1)) = False:=eq_false (by omega)
      have qi2:(id = (t + 1 + 1)) = False:=eq_false (by omega)
      have qi3:(id = (t + 1 + 1 + 1)) = False:=eq_false (by omega)
      have qi4:(t = id) = False:=eq_false (by omega)
      have qi5:(t = (t + 1)) = False:=eq_false (by omega)
      have qi6:(t = (t + 1 + 1)) = False:=eq_false (by omega)
      have qi7:(t = (t + 1 + 1 + 1)) = False:=eq_false (by omega)
      have qi8:((t + 1) = id) = False:=eq_false (by omega)
      have qi9:((t + 1) = t) = False:=eq_false (by omega)
      have qi10:((t + 1) = (t + 1 + 1)) = False:=eq_false (by omega)
      have qi11:((t + 1) = (t + 1 + 1 + 1)) = False:=eq_false (by omega)
      have qi12:((t + 1 + 1) = id) = False:=eq_false (by omega)
      have qi13:((t + 1 + 1) = t) = False:=eq_false (by omega)
      have qi14:((t + 1 + 1) = (t + 1)) = False:=eq_false (by omega)
      have qi15:((t + 1 + 1) = (t + 1 + 1 + 1)) = False:=eq_false (by omega)
      have qi16:((t + 1 + 1 + 1) = id) = False:=eq_false (by omega)
      have qi17:((t + 1 + 1 + 1) = t) = False:=eq_false (by omega)
      have qi18:((t + 1 + 1 + 1) = (t + 1)) = False:=eq_false (by omega)
      have qi19:((t + 1 + 1 + 1) = (t + 1 + 1)) = False:=eq_false (by omega)
      refine Zac ?_
      refine Zaj ?_
      refine VW_draw2E (t + 10) [3,4,5,6] (by simp) ?_
      simp only [Zaf,Zbb,Zbu,QW,dok,dval,VOp.pure,VOp.simple,VOp.det,pok,pval,VA.ev,Env.get,Env.put,Env.keep,Zae,Zal,gd,aggV,isInt,numOf,lenV,Zao,Zan,Zag,Zap,Zax,Zas,Zcu,Zcb,PV.cells,PV.fits,overlay,PV.nth,PV.row,Heap.get,Heap.del,Heap.le,HL.get,HL.del,HL.le,Heap.push,Nat.le_refl,Nat.succ_ne_self,Zbq,Zc8,Zbk,Zda,Zbc,Zcw,Zbj,Zbf,List.set,List.replicate,List.length,List.getD_cons_zero,List.take,List.drop,List.take_succ_cons,List.drop_succ_cons,List.cons_append,List.nil_append,Nat.reduceEqDiff,Nat.reduceAdd,Nat.reduceLT,Nat.reduceLeDiff,Bool.false_eq_true,Bool.true_eq_false,ite_true,ite_false,true_and,and_true,implies_true,forall_const,BEq.rfl,Nat.zero_add,List.length_cons,imp_self,Int.toNat_natCast,List.length_map,rowm ia,rowm jb,ac_items,Zb2,ac_l6,ac_num,ac_day,ac_l2,Zbt,Zcf,qi0,qi1,qi2,qi3,qi4,qi5,qi6,qi7,qi8,qi9,qi10,qi11,qi12,qi13,qi14,qi15,qi16,qi17,qi18,qi19]
      repeat (with_reducible refine And.intro ?_ ?_; first | omega | (with_reducible constructor <;> omega) | exact False.elim | exact True.intro)
      refine ⟨_,.inl (hcor ..),?_⟩
      try simp only [List.drop,List.drop_succ_cons,Nat.reduceAdd,true_and,BEq.rfl,List.length_map,Zbt,htk,List.append_nil,qi0,qi1,qi2,qi3,qi4,qi5,qi6,qi7,qi8,qi9,qi10,qi11,qi12,qi13,qi14,qi15,qi16,qi17,qi18,qi19]
      repeat (with_reducible refine And.intro ?_ ?_; first | omega | (with_reducible constructor <;> omega) | exact False.elim | exact True.intro)
      refine Zaa [3,4,5,6] ?_
      simp only [Zab,Zad,Zaf,pok,pval,VA.ev,Env.get,Env.put,Env.keep,Zae,intV,binV,Zah,HL.get,Nat.succ_ne_self,Nat.reduceEqDiff,ite_true,ite_false,true_and,ad1 (a:=j) (by omega)]
      refine ⟨⟨(j + 1,t,t + 1),⟨ja,by show t < t + 1; omega⟩⟩,?_⟩
      rw [hnext,List.map_append,List.length_append]
      try simp only [Nat.le_refl,List.map,List.length,ite_true,true_and,and_true,Option.some.injEq,Nat.zero_add,qi0,qi1,qi2,qi3,qi4,qi5,qi6,qi7,qi8,qi9,qi10,qi11,qi12,qi13,qi14,qi15,qi16,qi17,qi18,qi19]
      all_goals (repeat' (first | rfl | trivial | omega | (simp only []; omega) | refine And.intro ?_ ?_))
    · simp only [decide_eq_false_iff_not] at h2
      obtain rfl:j = ds.length:=by omega
      refine Zaz ?_
      try simp only [Zae,Zal,retQ,Nat.succ_ne_self,ite_true,ite_false,reduceCtorEq]
      refine Zaa [3,4,5] ?_
      simp only [Zab,Zad,Zaf,pok,pval,VA.ev,Env.get,Env.put,Env.keep,Zae,intV,binV,Zah,HL.get,Nat.succ_ne_self,Nat.reduceEqDiff,ite_true,ite_false,true_and,ad1 (a:=i) (by omega)]
      refine ⟨⟨(i + 1,id,t),⟨ia,ht⟩⟩,?_⟩
      rw [hrow,List.take_length]
      try simp only [Nat.le_refl,ite_true,true_and,and_true]
      all_goals (repeat' (first | rfl | trivial | omega | (simp only []; omega) | refine And.intro ?_ ?_))
  · simp only [decide_eq_false_iff_not] at h1
    obtain rfl:i = acts.length:=by omega
    refine Zaz ?_
    try simp only [Zae,Zal,retQ,ite_true]
    refine Zac (Zaa [2] ?_)
    simp only [Zab,Zad,Zaf,pok,pval,VA.ev,Env.get,Env.put,Env.keep,Zae,Nat.succ_ne_self,Nat.reduceEqDiff,ite_true,ite_false,true_and]
    refine Zar ?_
    try simp only [Env.get,retQ,resV,Zau,RS.ev,RS.ok,ite_true,true_and,and_true]
    rw [List.take_length]
    exact View.own_all (fz:=false) (by simp [Heap.get,HL.get]) (by simp)
end Go.Proofs.YtehokmhebnkfdaaGreat.w
