import Derived.Test.YtehokmhebnkfdaaGreatT0
import Derived.Test.YtehokmhebnkfdaaGreatL2
set_option linter.all false
namespace Go.Proofs.YtehokmhebnkfdaaGreat.w
open Go Go.VM
set_option maxRecDepth 20000
set_option maxHeartbeats 0
set_option pp.deepTerms false
def Zcy:VC:=(.seq (.region [ZO 6 (.mv (.c (.bool false)))] false) (.seq (.seq (.region [ZO 14 (.call 9 []),ZO 15 (.un .not (.t 14))] false) (.cond (.t 15) (.seq (.region [ZO 6 (.mv (.c (.bool false)))] false) .ret) .skip)) (.seq (.seq (.region [ZM 16 0,ZO 17 (.call 10 [(.t 16)]),ZO 18 (.un .not (.t 17)),ZM 19 18,ZG 20 (.mv (.t 2)) 19 false,ZG 21 (.len true (.t 20)) 19 false,ZG 22 (.bin .gtr (.t 21) (.c (.int .i64 100))) 19 false,ZO 23 (.pick (.t 19) (.c (.bool true)) (.t 22))] false) (.cond (.t 23) (.seq (.region [ZO 6 (.mv (.c (.bool true)))] false) .ret) .skip)) (.seq (.region [ZM 24 1,ZM 25 0,ZO 26 (.call 11 [(.t 24),(.c (.str [])),(.t 25)]),ZM 27 1,ZM 28 2,ZM 29 0,ZO 30 (.call 11 [(.t 27),(.t 28),(.t 29)]),ZM 7 26,ZM 8 30] false) (.seq (.region [ZO 31 (.fx (.mk0 28) []),ZM 9 31] false) (.seq (.seq (.region [ZO 10 (.mv (.c (.int .i64 0)))] false) (.block 0 (.loop (.seq (.seq (.region [ZM 32 10,ZM 33 8,ZO 34 (.len false (.t 33)),ZO 35 (.bin .lss (.t 32) (.t 34))] false) (.cond (.t 35) .skip (.exit 0))) (.seq (.block 1 (.seq (.region [ZM 38 8,ZM 39 10,ZO 40 (.iaddr 28 (.t 38) (.t 39)),ZO 41 (.faddr 3 (.t 40)),ZO 42 (.faddr 16 (.t 41)),ZO 43 (.load false 1 (.t 42)),ZO 44 (.bin .eql (.t 43) (.c (.str [])))] false) (.cond (.t 44) (.region [ZM 45 9,ZM 46 8,ZM 47 10,ZO 48 (.iaddr 28 (.t 46) (.t 47)),ZO 49 (.load true 28 (.t 48)),ZO 50 (.bslice 28 1 [(.int .i64 0),(.int .i64 0),(.int .i64 0),(.int .i64 0),.nilsl,.nilsl,(.int .i64 0),(.int .i64 0),(.int .i64 0),(.int .i64 0),(.int .i64 0),(.int .i64 0),(.str []),.nilsl,.nilsl,.nilsl,.nilsl,.nilsl,(.str []),(.str []),(.int .i64 0),(.int .i64 0),(.str []),(.int .i64 0),(.int .i64 0),(.int .i64 0),(.str []),.nilsl] [(0,(.t 49))]),ZO 51 (.app 28 392 [(.int .i64 0),(.int .i64 0),(.int .i64 0),(.int .i64 0),.nilsl,.nilsl,(.int .i64 0),(.int .i64 0),(.int .i64 0),(.int .i64 0),(.int .i64 0),(.int .i64 0),(.str []),.nilsl,.nilsl,.nilsl,.nilsl,.nilsl,(.str []),(.str []),(.int .i64 0),(.int .i64 0),(.str []),(.int .i64 0),(.int .i64 0),(.int .i64 0),(.str []),.nilsl] false (.t 45) (.t 50)),ZM 9 51] false) (.seq (.region [ZM 52 8,ZM 53 10,ZO 54 (.iaddr 28 (.t 52) (.t 53)),ZO 55 (.faddr 3 (.t 54)),ZO 56 (.faddr 16 (.t 55)),ZO 57 (.load false 1 (.t 56)),ZM 58 2,ZO 59 (.bin .neq (.t 57) (.t 58))] false) (.cond (.t 59) (.seq (.region [ZO 6 (.mv (.c (.bool false)))] false) .ret) .skip))))) (.region [ZM 36 10,ZO 37 (.bin .add (.t 36) (.c (.int .i64 1))),ZM 10 37] false)))))) (.seq (.seq (.region [ZM 60 7,ZM 61 9,ZO 62 (.call 13 [(.t 60),(.t 61)]),ZO 63 (.un .not (.t 62))] false) (.cond (.t 63) (.seq (.region [ZO 6 (.mv (.c (.bool false)))] false) .ret) .skip)) (.seq (.region [ZO 11 (.mv (.c (.bool false)))] false) (.seq (.region [ZM 64 0,ZO 65 (.call 23 [(.t 64)]),ZM 12 65] false) (.seq (.seq (.region [ZO 13 (.mv (.c (.int .i64 0)))] false) (.block 2 (.loop (.seq (.seq (.region [ZM 66 13,ZM 67 12,ZO 68 (.len false (.t 67)),ZO 69 (.bin .lss (.t 66) (.t 68))] false) (.cond (.t 69) .skip (.exit 2))) (.seq (.block 3 (.region [ZM 72 11,ZM 73 72,ZG 74 (.mv (.t 12)) 73 false,ZG 75 (.mv (.t 13)) 73 false,ZG 76 (.iaddr 1 (.t 74) (.t 75)) 73 false,ZG 77 (.load false 1 (.t 76)) 73 false,ZG 78 (.mv (.t 2)) 73 false,ZG 79 (.bin .eql (.t 77) (.t 78)) 73 false,ZO 80 (.pick (.t 73) (.c (.bool true)) (.t 79)),ZM 11 80] false)) (.region [ZM 70 13,ZO 71 (.bin .add (.t 70) (.c (.int .i64 1))),ZM 13 71] false)))))) (.seq (.region [ZM 81 11,ZM 82 81,ZG 83 (.mv (.t 7)) 82 false,ZG 84 (.len false (.t 83)) 82 false,ZG 85 (.mv (.t 8)) 82 false,ZG 86 (.len false (.t 85)) 82 false,ZG 87 (.bin .eql (.t 84) (.t 86)) 82 false,ZO 88 (.pick (.t 82) (.c (.bool true)) (.t 87)),ZM 6 88] false) .ret)))))))))))
def noFor (d:EI):Bool:=d.it.forr == []
theorem on_rest (l:List Gz) (day:Int) (purpose:Str):(onS l day purpose).filter noFor = onS l day []:=by
  unfold onS
  rw [List.filter_filter]
  refine List.filter_congr fun d _=>?_
  unfold onB noFor
  cases d.it.forr == [] <;> simp
theorem on_known (l:List Gz) (day:Int) (purpose:Str) (h:purpose ∉ purS l):onS l day [] = onS l day purpose:=by
  by_cases hp:purpose = []
  · rw [hp]
  · unfold onS
    refine List.filter_congr fun d hd=>?_
    unfold onB
    have hne:(d.it.forr == purpose) = false:=by
      rw [beq_eq_false_iff_ne]
      intro e
      exact h (((pur_spec l).2 _).2 ((mem_forsS _ _).2 ⟨hp,d,hd,e⟩))
    rw [hne]
    simp
theorem on_for {l:List Gz} {day:Int} {purpose:Str} {d:EI} (h:d ∈ onS l day purpose):d.it.forr = [] ∨ d.it.forr = purpose:=by
  have:=(List.mem_filter.1 h).2
  unfold onB at this
  simp only [Bool.and_eq_true,Bool.or_eq_true,beq_iff_eq] at this
  exact this.1
theorem pur_len (l:List Gz):(purS l).length ≤ (dds l).length:=by
  have h1:=Lib.compact_length_le (sortT (Zdx (chgS l)))
  have h2:(sortT (Zdx (chgS l))).length = (Zdx (chgS l)).length:=by simp [sortT]
  have h3:=forsS_len (chgS l)
  have h4:=(chg_sub l).length_le
  unfold purS
  omega
theorem any_step {p:Str → Bool} {r:List Str} {k:Nat} (h:k < r.length):(r.take (k + 1)).any p = ((r.take k).any p || p r[k]):=by
  rw [List.take_add_one,List.getElem?_eq_getElem h,List.any_append]
  simp
theorem law_InforcePurpose (l:List Gz) (day:Int) (purpose:Str) (hok:okL Gz.okZ l) (_:i64 day) (_:okS purpose) (_:l.length * 56 ≤ 140737488351232):Zbq Tryz.prog 6 [.sl 4 (l.map Gz.enc),pI day,.str purpose] (.bool true):=by
  refine Zao ?_ (cB _) (by simp only [Za1,List.mem_cons,List.not_mem_nil,or_false,forall_eq_or_imp,forall_eq,false_implies,implies_true]; repeat' (first  | exact cI _ | exact cS _ | exact cB _ | exact Zbw _ | exact Za9 (by simp only [List.mem_cons,List.not_mem_nil,or_false,forall_eq]; first | exact cI _ | exact cS _ | exact Zav _) | refine And.intro ?_ ?_))
  refine Zar (vc:=Zcy) (ts:=[.t 6]) Go.Proofs.Tryz.func6 (by kernel_rfl) rfl rfl (Nat.le_of_ble_eq_true rfl) (by kernel_rfl) ?_
  unfold Zcy
  try dsimp only [ZM,ZO,ZN,ZG]
  refine Zad (Zaa [0,1,2] ?_)
  simp only [Zab,Zac,Zaf,pok,pval,VA.ev,Env.get,Env.put,Env.keep,Za3,Zae,Heap.nil,Nat.succ_ne_self,Nat.reduceEqDiff,Nat.reduceAdd,ite_true,ite_false,true_and,reduceCtorEq,Nat.zero_add]
  refine Zad ?_
  refine Zad (Zaa [0,1,2,15] ?_)
  simp only [Zab,Zac,Zaf,pok,pval,VA.ev,Env.get,Env.put,Env.keep,Zae,unV,unOk,Nat.succ_ne_self,List.map,Nat.reduceEqDiff,ite_true,ite_false,reduceCtorEq]
  refine Zat awake ?_
  try simp only [true_and,Bool.not_true]
  refine Zai rfl (fun h=>by cases h) (fun _=>?_)
  refine Zak ?_
  try simp only [Zae]
  refine Zad ?_
  refine Zad (VW_mid (σ:={ b:Bool // b = false → Nice l ∧ FewG 30 l }) (fun z=>([(0,.sl 4 (l.map Gz.enc)),(1,pI day),(2,.str purpose),(23,.bool z.1)],⟨[],0⟩)) (Zaa [0,1,2,23] ?_) (fun z=>?_))
  · simp only [midQ,Zac,Zaf,pok,pval,VA.ev,Env.get,Env.put,Env.keep,unV,unOk,Heap.le,HL.le,Nat.succ_ne_self,Env.le,List.map,Nat.reduceEqDiff,ite_true,ite_false,true_and,and_true,reduceCtorEq]
    refine Zdg (sp_pandectlaw29_few l hok) ?_
    rintro p ⟨b,rfl,hb⟩
    cases b
    · simp only [Zab,Zac,Zbb,Zaf,pok,pval,VA.ev,Env.get,Env.put,Zaw,isBool,Nat.le_refl,Nat.succ_ne_self,Nat.reduceEqDiff,ite_true,ite_false,true_and,and_true,reduceCtorEq,Bool.not_false]
      refine ⟨⟨true,fun h=>by cases h⟩,?_⟩
      try simp only []
      all_goals (repeat' (first | rfl | trivial | omega | (simp only []; omega) | refine And.intro ?_ ?_))
    · simp only [Zab,Zac,Zaz,Zaf,pok,pval,VA.ev,Env.get,Env.put,Zaw,isBool,intV,binV,Zah,lenV,Zba,Nat.le_refl,Nat.succ_ne_self,Nat.reduceEqDiff,Bool.false_eq_true,ite_true,ite_false,true_and,and_true,reduceCtorEq,Bool.not_true]
      refine ⟨⟨decide ((100:Int) < (purpose.length:Int)),fun _=>hb rfl⟩,?_⟩
      try simp only []
      all_goals (repeat' (first | rfl | trivial | omega | (simp only []; omega) | refine And.intro ?_ ?_))
  obtain ⟨z,hb⟩:=z
  simp only []
  refine Zai rfl (fun h1=>?_) (fun h1=>?_)
  · refine Zad (Zaa [6] ?_)
    simp only [Zab,Zac,Zaf,pok,pval,VA.ev,Env.get,Env.put,Env.keep,Zae,Nat.reduceEqDiff,ite_true,ite_false,true_and,reduceCtorEq]
    refine Zaq ?_
    try simp only [Env.get,Zae,retQ,resV,Zau,RS.ev,RS.ok,ite_true,true_and,and_true]
    exact View.refl _ _
  obtain ⟨hn,hf⟩:=hb h1
  have hd:=hn.dds hf
  have hon:∀ p,(onS l day p).length ≤ 30:=fun p=>Nat.le_trans (on_sub l day p).length_le hd
  have hpl:=pur_len l
  have hb30:=hon purpose
  refine Zak ?_
  try simp only [Zae]
  refine Zad (Zaa [0,2,7,8] ?_)
  simp only [Zab,Zac,Zaf,pok,pval,VA.ev,Env.get,Env.put,Env.keep,Zae,Nat.succ_ne_self,List.map,Nat.reduceEqDiff,ite_true,ite_false,true_and,reduceCtorEq]
  refine Zat (Zdh day [] l hn.smal (by omega)) ?_
  skip
  refine Zat (Zdh day purpose l hn.smal (by omega)) ?_
  skip
  refine Zad (Zaa [0,2,7,8,9] ?_)
  simp only [Zab,Zac,Zaf,pok,pval,VA.ev,Env.get,Env.put,Env.keep,Zae,Heap.push,Nat.succ_ne_self,fxV,fxOk,List.map,Nat.reduceEqDiff,ite_true,ite_false,true_and,reduceCtorEq,Nat.zero_add]
  refine Zad ?_
  refine Zad (Zaa [0,2,7,8,9,10] ?_)
  simp only [Zab,Zac,Zaf,pok,pval,VA.ev,Env.get,Env.put,Env.keep,Zae,Nat.succ_ne_self,Nat.reduceEqDiff,ite_true,ite_false,true_and,reduceCtorEq]
  refine Zaj ?_
  refine Za6 (σ:={ s:Nat × Nat × Nat // s.1 ≤ (onS l day purpose).length ∧ s.2.1 < s.2.2 }) (fun s=>([(0,.sl 4 (l.map Gz.enc)),(2,.str purpose),(7,.sl 28 ((onS l day []).map EI.enc)),(8,.sl 28 ((onS l day purpose).map EI.enc)),(9,.own s.1.2.1 0 (((onS l day purpose).take s.1.1).filter noFor).length),(10,pI s.1.1)],⟨[(s.1.2.1,.arr false 28 ((((onS l day purpose).take s.1.1).filter noFor).map EI.enc))],s.1.2.2⟩)) (fun s=>(onS l day purpose).length - s.1.1) ⟨(0,0,1),Nat.zero_le _,by simp⟩ ?_ ?_ ?_
  · try simp only [Env.get,Nat.succ_ne_self,Env.le,List.take,Nat.reduceEqDiff,ite_true,ite_false,true_and,and_true,reduceCtorEq,List.length_nil,List.take_zero,List.filter_nil]
    all_goals (repeat' (first | rfl | trivial | omega | (simp only []; omega) | refine And.intro ?_ ?_))
  · try simp only [Heap.get,Heap.le,HL.get,HL.le,Nat.le_refl,List.map,List.take,ite_true,and_true,List.take_zero,List.filter_nil]
    all_goals (repeat' (first | rfl | trivial | omega | (simp only []; omega) | refine And.intro ?_ ?_))
  rintro ⟨⟨k,id,t⟩,hk,hid⟩
  simp only [] at hk hid ⊢
  refine Zad ?_
  refine Zad (Zaa [0,2,7,8,9,10,35] ?_)
  simp only [Zab,Zac,Zaf,pok,pval,VA.ev,Env.get,Env.put,Env.keep,Zae,intV,binV,Zah,lenV,Zba,Heap.get,Heap.le,HL.le,Nat.succ_ne_self,Env.le,Nat.reduceEqDiff,ite_true,ite_false,true_and,and_true,reduceCtorEq,List.length_map]
  refine Zai rfl (fun h1=>?_) (fun h1=>?_)
  · have ka:k < (onS l day purpose).length:=by simp only [decide_eq_true_eq] at h1; omega
    have hstep:=filter_step (p:=noFor) ka
    have hg:(onS l day purpose).getD k EI0 = (onS l day purpose)[k]:=by rw [List.getD_eq_getElem?_getD,List.getElem?_eq_getElem ka]; rfl
    rw [hg] at hstep
    have hlen:(((onS l day purpose).take k).filter noFor).length ≤ 30:=by
      have h1:=List.length_filter_le noFor ((onS l day purpose).take k)
      rw [List.length_take] at h1
      omega
    have hfor:=on_for (List.getElem_mem ka)
    refine Zak ?_
    try simp only [Zae]
    have hrow:((onS l day purpose).map EI.enc).getD k [] = (onS l day purpose)[k].enc:=rowm ka
    generalize (onS l day purpose)[k] = d at hstep hrow hfor
    generalize ((onS l day purpose).take k).filter noFor = G at hstep hlen ⊢
    have hgl:(G.map EI.enc).length = G.length:=by simp
    have hgt:(G.map EI.enc).take G.length = G.map EI.enc:=List.take_of_length_le (by simp)
    have qi0:(id = t) = False:=eq_false (by omega)
    have qi1:(id = (t + 1)) = False:=eq_false (by omega)
    have qi2:(t = id) = False:=eq_false (by omega)
    have qi3:(t = (t + 1)) = False:=eq_false (by omega)
    have qi4:((t + 1) = id) = False:=eq_false (by omega)
    have qi5:((t + 1) = t) = False:=eq_false (by omega)
    refine Zad ?_
    refine Zaj ?_
    refine Zad (Zaa [0,2,7,8,9,10,44] ?_)
    simp only [Zab,Zac,Zaf,pok,pval,VA.ev,Env.get,Env.put,Env.keep,Zae,aggV,binV,Zah,strV,isInt,numOf,lenV,Zan,Zam,Zag,Zap,Za0,Zas,PV.nth,PV.row,Nat.succ_ne_self,List.getD_cons_zero,Nat.reduceEqDiff,Nat.reduceLeDiff,Bool.false_eq_true,ite_true,ite_false,true_and,and_true,implies_true,reduceCtorEq,Int.toNat_natCast,List.length_map,hrow,ei_for,ei_l19,ei_d19,Zce,qi0,qi1,qi2,qi3,qi4,qi5]
    refine ⟨by omega,?_⟩
    refine Zai rfl (fun h2=>?_) (fun h2=>?_)
    · have h2':noFor d = true:=h2
      rw [h2',if_pos rfl] at hstep
      refine Zaa [0,2,7,8,9,10] ?_
      simp only [Zab,Zac,Zaf,pok,pval,VA.ev,Env.get,Env.put,Env.keep,Zae,Zal,aggV,isInt,numOf,lenV,Zag,Zap,Za0,Zas,PV.cells,PV.fits,PV.nth,PV.row,Heap.get,Heap.del,HL.get,HL.del,Heap.push,Nat.le_refl,Nat.succ_ne_self,Zbu,Zdo,Zbp,Zdu,Zbf,Zde,Zbm,Zbh,List.set,List.replicate,List.length,List.take,List.drop,List.take_succ_cons,Nat.reduceEqDiff,Nat.reduceLT,Nat.reduceLeDiff,Bool.true_eq_false,ite_true,ite_false,true_and,and_true,reduceCtorEq,BEq.rfl,Nat.zero_add,List.length_cons,imp_self,Int.toNat_natCast,List.length_map,hrow,ei_t28,Zce,ei_d28,hgl,hgt,List.append_nil,qi0,qi1,qi2,qi3,qi4,qi5]
      refine ⟨by omega,by omega,by omega,?_⟩
      refine Zaa [0,2,7,8,9,10] ?_
      simp only [Zab,Zac,Zaf,pok,pval,VA.ev,Env.get,Env.put,Env.keep,Zae,intV,binV,Zah,HL.get,Nat.succ_ne_self,Nat.reduceEqDiff,ite_true,ite_false,true_and,reduceCtorEq,ad1 (a:=k) (by omega)]
      refine ⟨⟨(k + 1,t + 1,t + 1 + 1),ka,by simp⟩,?_⟩
      simp only [hstep,List.map_append,List.map_cons,List.map_nil,List.length_append]
      try simp only [Nat.le_refl,List.length,ite_true,ite_false,true_and,and_true,Nat.zero_add,qi0,qi1,qi2,qi3,qi4,qi5]
      all_goals (repeat' (first | rfl | trivial | omega | (simp only []; omega) | refine And.intro ?_ ?_))
    · have h2':noFor d = false:=h2
      rw [h2'] at hstep
      simp only [Bool.false_eq_true,if_false,List.append_nil] at hstep
      have hfp:(d.it.forr != purpose) = false:=by
        rcases hfor with h | h
        · rw [h] at h2; simp at h2
        · rw [h]; simp
      refine Zad (Zaa [0,2,7,8,9,10,59] ?_)
      simp only [Zab,Zac,Zaf,pok,pval,VA.ev,Env.get,Env.put,Env.keep,Zae,aggV,binV,Zah,strV,isInt,numOf,lenV,Zan,Zam,Zag,Zap,Za0,Zas,PV.nth,PV.row,Nat.succ_ne_self,List.getD_cons_zero,Nat.reduceEqDiff,Nat.reduceLeDiff,Bool.false_eq_true,ite_true,ite_false,true_and,and_true,implies_true,reduceCtorEq,Int.toNat_natCast,List.length_map,hrow,ei_for,ei_l19,ei_d19,Zce,hfp,qi0,qi1,qi2,qi3,qi4,qi5]
      refine ⟨by omega,?_⟩
      refine Zai rfl (fun h=>by cases h) (fun _=>?_)
      refine Zak ?_
      try simp only [Zae,Zal]
      refine Zaa [0,2,7,8,9,10] ?_
      simp only [Zab,Zac,Zaf,pok,pval,VA.ev,Env.get,Env.put,Env.keep,Zae,intV,binV,Zah,HL.get,Nat.succ_ne_self,Nat.reduceEqDiff,ite_true,ite_false,true_and,reduceCtorEq,ad1 (a:=k) (by omega)]
      refine ⟨⟨(k + 1,id,t),ka,hid⟩,?_⟩
      simp only [hstep]
      try simp only [Nat.le_refl,ite_true,true_and,and_true,qi0,qi1,qi2,qi3,qi4,qi5]
      all_goals (repeat' (first | rfl | trivial | omega | (simp only []; omega) | refine And.intro ?_ ?_))
  have ka:k = (onS l day purpose).length:=by simp only [decide_eq_false_iff_not] at h1; omega
  subst ka
  rw [List.take_length,on_rest]
  refine Za4 ?_
  try simp only [Zae,Zal,retQ,ite_true]
  refine Zad ?_
  refine Zad (Zaa [0,2,7,8,63] ?_)
  simp only [Zab,Zac,Zaf,pok,pval,VA.ev,Env.get,Env.put,Env.keep,Zae,unV,unOk,Nat.succ_ne_self,List.map,Nat.reduceEqDiff,ite_true,ite_false,true_and,reduceCtorEq]
  refine ACall_v [.sl 28 ((onS l day []).map EI.enc),.sl 28 ((onS l day []).map EI.enc)] ⟨View.refl _ _,View.own_all (fz:=false) (by simp [Heap.get,HL.get]) (by simp),trivial⟩ (sp_pandectref28_Rows _ (by have:=hon []; omega) (hn.on_ok day [])) (Zcd _) ?_
  try simp only [true_and,Bool.not_true]
  refine Zai rfl (fun h=>by cases h) (fun _=>?_)
  refine Zak ?_
  try simp only [Zae]
  refine Zad (Zaa [0,2,7,8,11] ?_)
  simp only [Zab,Zac,Zaf,pok,pval,VA.ev,Env.get,Env.put,Env.keep,Zae,Nat.succ_ne_self,Nat.reduceEqDiff,ite_true,ite_false,true_and,reduceCtorEq]
  refine Zad (Zaa [2,7,8,11,12] ?_)
  simp only [Zab,Zac,Zaf,pok,pval,VA.ev,Env.get,Env.put,Env.keep,Zae,Nat.succ_ne_self,List.map,Nat.reduceEqDiff,ite_true,ite_false,true_and,reduceCtorEq]
  refine Zat (sp_inforce_Purposes l hn.smal (by omega)) ?_
  skip
  refine Zad ?_
  refine Zad (Zaa [2,7,8,11,12,13] ?_)
  simp only [Zab,Zac,Zaf,pok,pval,VA.ev,Env.get,Env.put,Env.keep,Zae,Nat.succ_ne_self,Nat.reduceEqDiff,ite_true,ite_false,true_and]
  refine VW_freeze [(2,.str purpose),(7,.sl 28 ((onS l day []).map EI.enc)),(8,.sl 28 ((onS l day purpose).map EI.enc)),(11,.bool false),(12,.sl 1 ((purS l).map Zcu)),(13,pI 0)] ⟨View.refl _ _,View.refl _ _,View.refl _ _,View.refl _ _,View.refl _ _,View.refl _ _,trivial⟩ ?_
  have hkn:=on_known l day purpose
  have hpe:(purS l).any (fun x=>x == purpose) = false → purpose ∉ purS l:=fun h hm=>by
    rw [List.any_eq_false] at h
    exact h purpose hm (by simp)
  generalize purS l = B at hpl hkn hpe ⊢
  refine Zaj ?_
  refine Za6 (σ:={ k:Nat // k ≤ B.length }) (fun s=>([(2,.str purpose),(7,.sl 28 ((onS l day []).map EI.enc)),(8,.sl 28 ((onS l day purpose).map EI.enc)),(11,.bool ((B.take s.1).any fun x=>x == purpose)),(12,.sl 1 (B.map Zcu)),(13,pI s.1)],⟨[],t⟩)) (fun s=>B.length - s.1) ⟨0,Nat.zero_le _⟩ ?_ ?_ ?_
  · simp only [Env.get,Nat.succ_ne_self,Env.le,List.take,Nat.reduceEqDiff,ite_true,ite_false,true_and,and_true,List.any_nil]
    rfl
  · simp only [Heap.le,HL.le,Nat.le_refl,and_true]
  rintro ⟨k,hk⟩
  simp only []
  refine Zad ?_
  refine Zad (Zaa [2,7,8,11,12,13,69] ?_)
  simp only [Zab,Zac,Zaf,pok,pval,VA.ev,Env.get,Env.put,Env.keep,Zae,intV,binV,Zah,lenV,Zba,Heap.le,HL.le,Nat.succ_ne_self,Env.le,Nat.reduceEqDiff,ite_true,ite_false,true_and,and_true,List.length_map]
  refine Zai rfl (fun h1=>?_) (fun h1=>?_)
  · have ka:k < B.length:=by simp only [decide_eq_true_eq] at h1; omega
    have hst:=any_step (p:=fun x=>x == purpose) ka
    refine Zak ?_
    try simp only [Zae]
    refine Zad ?_
    refine Zaj ?_
    refine Zaa [2,7,8,11,12,13] ?_
    cases e1:(B.take k).any fun x=>x == purpose
    · rw [e1,Bool.false_or] at hst
      simp only [Zab,Zac,Zaz,Zaf,pok,pval,VA.ev,Env.get,Env.put,Env.keep,Zae,Zal,Zaw,isBool,aggV,binV,Zah,strV,isInt,numOf,lenV,Zag,Zap,Za0,Zas,PV.nth,PV.row,Nat.le_refl,Nat.succ_ne_self,List.length,List.getD_cons_zero,List.take,List.take_succ_cons,Nat.reduceEqDiff,Bool.false_eq_true,ite_true,ite_false,true_and,and_true,implies_true,Nat.zero_add,List.length_cons,Int.toNat_natCast,List.length_map,rowm ka,Zcu,e1]
      repeat (with_reducible refine And.intro ?_ ?_; first | omega | (with_reducible constructor <;> omega) | exact False.elim | exact True.intro)
      rw [← hst]
      refine Zaa [2,7,8,11,12,13] ?_
      simp only [Zab,Zac,Zaf,pok,pval,VA.ev,Env.get,Env.put,Env.keep,Zae,intV,binV,Zah,Nat.le_refl,Nat.succ_ne_self,Nat.reduceEqDiff,ite_true,ite_false,true_and,ad1 (a:=k) (by omega)]
      refine ⟨⟨k + 1,ka⟩,?_⟩
      try simp only [true_and,and_true]
      all_goals (repeat' (first | rfl | trivial | omega | (simp only []; omega) | refine And.intro ?_ ?_))
    · rw [e1,Bool.true_or] at hst
      simp only [Zab,Zac,Zbb,Zaf,pok,pval,VA.ev,Env.get,Env.put,Env.keep,Zae,Zal,Zaw,isBool,Nat.succ_ne_self,Nat.reduceEqDiff,ite_true,ite_false,true_and,List.length_map,rowm ka,Zcu,e1]
      rw [← hst]
      refine Zaa [2,7,8,11,12,13] ?_
      simp only [Zab,Zac,Zaf,pok,pval,VA.ev,Env.get,Env.put,Env.keep,Zae,intV,binV,Zah,Nat.le_refl,Nat.succ_ne_self,Nat.reduceEqDiff,ite_true,ite_false,true_and,ad1 (a:=k) (by omega)]
      refine ⟨⟨k + 1,ka⟩,?_⟩
      try simp only [true_and,and_true]
      all_goals (repeat' (first | rfl | trivial | omega | (simp only []; omega) | refine And.intro ?_ ?_))
  · have ka:k = B.length:=by simp only [decide_eq_false_iff_not] at h1; omega
    subst ka
    rw [List.take_length]
    refine Za4 ?_
    try simp only [Zae,Zal,retQ,ite_true]
    refine Zad (Zaa [6] ?_)
    cases e1:B.any fun x=>x == purpose
    · have hl:(((onS l day []).length:Int) == ((onS l day purpose).length:Int)) = true:=by rw [hkn (hpe e1)]; simp
      simp only [Zab,Zac,Zaz,Zaf,pok,pval,VA.ev,Env.get,Env.put,Env.keep,Zae,Zaw,isBool,intV,binV,Zah,lenV,Zba,Nat.succ_ne_self,Nat.reduceEqDiff,Bool.false_eq_true,ite_true,ite_false,true_and,List.length_map,e1,hl]
      refine Zaq ?_
      try simp only [Env.get,retQ,resV,Zau,RS.ev,RS.ok,ite_true,true_and,and_true]
      exact View.refl _ _
    · simp only [Zab,Zac,Zbb,Zaf,pok,pval,VA.ev,Env.get,Env.put,Env.keep,Zae,Zaw,isBool,Nat.succ_ne_self,Nat.reduceEqDiff,ite_true,ite_false,true_and,List.length_map,e1]
      refine Zaq ?_
      try simp only [Env.get,retQ,resV,Zau,RS.ev,RS.ok,ite_true,true_and,and_true]
      exact View.refl _ _
end Go.Proofs.YtehokmhebnkfdaaGreat.w
