import Derived.Test.YtehokmhebnkfdaaGreatTq
import Derived.Test.YtehokmhebnkfdaaGreatJ4
import Derived.Test.YtehokmhebnkfdaaGreatRd
import Derived.Sort.Walk0
set_option linter.all false
namespace Go.Proofs.YtehokmhebnkfdaaGreat.w
open Go Go.VM
set_option maxRecDepth 20000
set_option maxHeartbeats 0
set_option pp.deepTerms false
def c_pandectref29_Purposes:VC:=(.seq (.region [ZO 2 (.mv (.c .nilsl))] false) (.seq (.region [ZO 9 (.fx (.mk0 1) []),ZM 3 9] false) (.seq (.region [ZM 10 0,ZO 11 (.call 21 [(.t 10)]),ZM 4 11] false) (.seq (.seq (.region [ZO 5 (.mv (.c (.int .i64 0)))] false) (.block 0 (.loop (.seq (.seq (.region [ZM 12 5,ZM 13 4,ZO 14 (.len false (.t 13)),ZO 15 (.bin .lss (.t 12) (.t 14))] false) (.cond (.t 15) .skip (.exit 0))) (.seq (.block 1 (.seq (.region [ZM 18 4,ZM 19 5,ZO 20 (.iaddr 28 (.t 18) (.t 19)),ZO 21 (.faddr 3 (.t 20)),ZO 22 (.faddr 16 (.t 21)),ZO 23 (.load false 1 (.t 22)),ZM 6 23] false) (.seq (.region [ZO 7 (.mv (.c (.int .i64 0)))] false) (.seq (.block 2 (.loop (.seq (.seq (.region [ZM 24 7,ZM 25 3,ZO 26 (.len false (.t 25)),ZO 27 (.bin .lss (.t 24) (.t 26)),ZM 28 27,ZG 29 (.mv (.t 3)) 28 true,ZG 30 (.mv (.t 7)) 28 true,ZG 31 (.iaddr 1 (.t 29) (.t 30)) 28 true,ZG 32 (.load false 1 (.t 31)) 28 true,ZG 33 (.mv (.t 6)) 28 true,ZG 34 (.bin .lss (.t 32) (.t 33)) 28 true,ZO 35 (.pick (.t 28) (.t 34) (.c (.bool false)))] false) (.cond (.t 35) .skip (.exit 2))) (.block 3 (.region [ZM 36 7,ZO 37 (.bin .add (.t 36) (.c (.int .i64 1))),ZM 7 37] false))))) (.seq (.seq (.region [ZM 38 6,ZO 39 (.bin .eql (.t 38) (.c (.str []))),ZM 40 39,ZG 41 (.mv (.t 7)) 40 false,ZG 42 (.mv (.t 3)) 40 false,ZG 43 (.len false (.t 42)) 40 false,ZG 44 (.bin .lss (.t 41) (.t 43)) 40 false,ZG 45 (.mv (.t 44)) 40 false,ZG 46 (.mv (.t 3)) 45 true,ZG 47 (.mv (.t 7)) 45 true,ZG 48 (.iaddr 1 (.t 46) (.t 47)) 45 true,ZG 49 (.load false 1 (.t 48)) 45 true,ZG 50 (.mv (.t 6)) 45 true,ZG 51 (.bin .eql (.t 49) (.t 50)) 45 true,ZG 52 (.pick (.t 45) (.t 51) (.c (.bool false))) 40 false,ZO 53 (.pick (.t 40) (.c (.bool true)) (.t 52))] false) (.cond (.t 53) (.exit 1) .skip)) (.seq (.region [ZO 54 (.fx (.mk0 1) []),ZM 55 3,ZM 56 7,ZO 57 (.slice false 1 (.t 55) none (some (.t 56))),ZO 58 (.app 1 16 [(.str [])] false (.t 54) (.t 57)),ZM 59 6,ZO 60 (.bslice 1 1 [(.str [])] [(0,(.t 59))]),ZO 61 (.app 1 16 [(.str [])] false (.t 58) (.t 60)),ZM 8 61] false) (.region [ZM 62 8,ZM 63 3,ZM 64 7,ZO 65 (.slice false 1 (.t 63) (some (.t 64)) none),ZO 66 (.app 1 16 [(.str [])] false (.t 62) (.t 65)),ZM 3 66] false))))))) (.region [ZM 16 5,ZO 17 (.bin .add (.t 16) (.c (.int .i64 1))),ZM 5 17] false)))))) (.seq (.region [ZM 67 3,ZM 2 67] false) .ret)))))
theorem sp_pandectref29_Places (l:List EI) (hl:l.length ≤ 1000000):Zbo Tryz.prog 32 [.sl 2 (l.map encR),.sl 2 (l.map encR)] (.bool true):=by
  have hcr:=closed_refs l
  refine Zam ?_ (cB _) (by simp only [Za0,List.mem_cons,List.not_mem_nil,or_false,forall_eq_or_imp,forall_eq]; exact ⟨hcr,hcr⟩)
  refine Zaq (vc:=c_pandectref29_Places) (ts:=[.t 4]) Go.Proofs.Tryz.func32 (by kernel_rfl) rfl rfl (Nat.le_of_ble_eq_true rfl) (by kernel_rfl) ?_
  unfold c_pandectref29_Places
  try dsimp only [ZM,ZO,ZN,ZG]
  refine Zac (Zaa [0,1] ?_)
  simp only [Zab,Zad,Zaf,pok,pval,VA.ev,Env.get,Env.put,Env.keep,Za2,Zae,Heap.nil,Nat.succ_ne_self,Nat.reduceEqDiff,ite_true,ite_false,true_and,reduceCtorEq,Nat.zero_add]
  refine Zac ?_
  refine Zac (Zaa [0,1,10] ?_)
  simp only [Zab,Zad,Zaf,pok,pval,VA.ev,Env.get,Env.put,Env.keep,Zae,intV,binV,Zah,lenV,Za8,Nat.succ_ne_self,Nat.reduceEqDiff,ite_true,ite_false,true_and,reduceCtorEq,List.length_map]
  refine Zai rfl (fun h1=>by simp at h1) (fun h1=>?_)
  refine Zak ?_
  try simp only [Zae]
  refine Zac ?_
  refine Zac (Zaa [0,1,5] ?_)
  simp only [Zab,Zad,Zaf,pok,pval,VA.ev,Env.get,Env.put,Env.keep,Zae,Nat.succ_ne_self,Nat.reduceEqDiff,ite_true,ite_false,true_and,reduceCtorEq]
  refine Zaj ?_
  refine Za4 (σ:={ i:Nat // i ≤ l.length }) (fun s=>([(0,.sl 2 (l.map encR)),(1,.sl 2 (l.map encR)),(5,pI s.1)],⟨[],0⟩)) (fun s=>l.length - s.1) ⟨0,Nat.zero_le _⟩ ?_ ?_ ?_
  · simp only [Env.get,Nat.succ_ne_self,Env.le,Nat.reduceEqDiff,ite_true,ite_false,true_and,and_true,reduceCtorEq]
    rfl
  · simp only [Heap.le,HL.le,Nat.le_refl,and_true]
  rintro ⟨i,hi⟩
  simp only []
  refine Zac ?_
  refine Zac (Zaa [0,1,5,14] ?_)
  simp only [Zab,Zad,Zaf,pok,pval,VA.ev,Env.get,Env.put,Env.keep,Zae,intV,binV,Zah,lenV,Za8,Heap.le,HL.le,Nat.succ_ne_self,Env.le,Nat.reduceEqDiff,ite_true,ite_false,true_and,and_true,reduceCtorEq,List.length_map]
  refine Zai rfl (fun h2=>?_) (fun h2=>?_)
  · refine Zak ?_
    try simp only [Zae]
    simp only [decide_eq_true_eq] at h2
    have ia:i < l.length:=by omega
    refine Zac ?_
    refine Zaj ?_
    refine Zac (Zb3 [0,1,5,25] (by simp [Heap.le,Heap.get,HL.le,HL.get]) ?_)
    simp only [Zbb,Zbu,QW,dok,dval,VOp.pure,VOp.simple,VOp.det,pok,pval,VA.ev,Env.get,Env.put,Env.keep,Zae,gd,aggV,isInt,numOf,lenV,Zag,Zap,Zbx,isAggP,Zax,Zas,PV.nth,PV.row,Nat.le_refl,Nat.succ_ne_self,eqOk,ekOk,Zbe,Zb8,List.length,List.getD_cons_zero,List.take,List.take_succ_cons,Nat.reduceEqDiff,Nat.reduceAdd,Bool.true_eq_false,ite_true,ite_false,true_and,and_true,implies_true,forall_const,reduceCtorEq,BEq.rfl,Nat.zero_add,List.length_cons,imp_self,Int.toNat_natCast,List.length_map,rowm ia,encR]
    repeat (with_reducible refine And.intro ?_ ?_; first | omega | (with_reducible constructor <;> omega) | exact False.elim | exact True.intro)
    refine Zai rfl (fun h3=>by simp at h3) (fun h3=>?_)
    refine Zak ?_
    try simp only [Zae,Zal]
    refine Zaa [0,1,5] ?_
    simp only [Zab,Zad,Zaf,pok,pval,VA.ev,Env.get,Env.put,Env.keep,Zae,intV,binV,Zah,Nat.le_refl,Nat.succ_ne_self,Nat.reduceEqDiff,ite_true,ite_false,true_and,reduceCtorEq,w64 (n:=(i:Int) + 1) (by omega) (by omega)]
    refine ⟨⟨i + 1,ia⟩,?_,?_⟩
    · rfl
    · simp only []; omega
  · refine Zaz ?_
    try simp only [Zae,Zal,retQ,ite_true]
    refine Zac (Zaa [4] ?_)
    simp only [Zab,Zad,Zaf,pok,pval,VA.ev,Env.get,Env.put,Env.keep,Zae,Nat.succ_ne_self,Nat.reduceEqDiff,ite_true,ite_false,true_and,reduceCtorEq]
    refine Zar ?_
    try simp only [Env.get,retQ,resV,Zau,RS.ev,RS.ok,ite_true,true_and,and_true]
    exact View.refl _ _
theorem sp_pandectref29_Waiting (l:List Gz) (hs:Smal l) (hd5:(dds l).length ≤ 5000):Zbo Tryz.prog 33 [.sl 4 (l.map Gz.enc)] (.sl 2 ((pendS l).map encR)):=by
  have hcl:=chg_len l
  refine Zam ?_ (closed_refs _) (by simp only [Za0,List.mem_cons,List.not_mem_nil,or_false,forall_eq_or_imp,forall_eq,false_implies,implies_true]; repeat' (first  | exact Zbp _ | exact Zav _ | refine And.intro ?_ ?_))
  refine Zaq (vc:=c_pandectref29_Waiting) (ts:=[.t 2]) Go.Proofs.Tryz.func33 (by kernel_rfl) rfl rfl (Nat.le_of_ble_eq_true rfl) (by kernel_rfl) ?_
  unfold c_pandectref29_Waiting
  try dsimp only [ZM,ZO,ZN,ZG]
  refine Zac (Zaa [0] ?_)
  simp only [Zab,Zad,Zaf,pok,pval,VA.ev,Env.get,Env.put,Env.keep,Za2,Zae,Heap.nil,ite_true,ite_false,true_and,reduceCtorEq]
  refine Zac (Zaa [0,3] ?_)
  simp only [Zab,Zad,Zaf,pok,pval,VA.ev,Env.get,Env.put,Env.keep,Zae,Heap.push,fxV,fxOk,List.map,Nat.reduceEqDiff,ite_true,ite_false,true_and,reduceCtorEq,Nat.zero_add]
  refine Zac (Zaa [0,3,4] ?_)
  simp only [Zab,Zad,Zaf,pok,pval,VA.ev,Env.get,Env.put,Env.keep,Zae,Nat.succ_ne_self,List.map,Nat.reduceEqDiff,ite_true,ite_false,true_and,reduceCtorEq]
  refine Zat (Zcg l hs hd5) ?_
  skip
  refine Zac ?_
  refine Zac (Zaa [0,3,4,5] ?_)
  simp only [Zab,Zad,Zaf,pok,pval,VA.ev,Env.get,Env.put,Env.keep,Zae,Nat.succ_ne_self,Nat.reduceEqDiff,ite_true,ite_false,true_and,reduceCtorEq]
  refine Zaj ?_
  refine Za4 (σ:={ s:Nat × Nat × Nat // s.1 ≤ (chgS l).length ∧ s.2.1 < s.2.2 }) (fun s=>([(0,.sl 4 (l.map Gz.enc)),(3,.own s.1.2.1 0 (((chgS l).take s.1.1).filter (waitB l)).length),(4,.sl 28 ((chgS l).map EI.enc)),(5,pI s.1.1)],⟨[(s.1.2.1,.arr false 2 ((((chgS l).take s.1.1).filter (waitB l)).map encR))],s.1.2.2⟩)) (fun s=>(chgS l).length - s.1.1) ⟨(0,0,1),Nat.zero_le _,by simp⟩ ?_ ?_ ?_
  · try simp only [Env.get,Nat.succ_ne_self,Env.le,List.take,Nat.reduceEqDiff,ite_true,ite_false,true_and,and_true,reduceCtorEq,List.length_nil,List.take_zero,List.filter_nil]
    all_goals (repeat' (first | rfl | trivial | omega | (simp only []; omega) | refine And.intro ?_ ?_))
  · try simp only [Heap.get,Heap.le,HL.get,HL.le,Nat.le_refl,List.map,List.take,ite_true,and_true,List.take_zero,List.filter_nil]
    all_goals (repeat' (first | rfl | trivial | omega | (simp only []; omega) | refine And.intro ?_ ?_))
  rintro ⟨⟨k,id,t⟩,hk,hid⟩
  simp only [] at hk hid ⊢
  refine Zac ?_
  refine Zac (Zaa [0,3,4,5,12] ?_)
  simp only [Zab,Zad,Zaf,pok,pval,VA.ev,Env.get,Env.put,Env.keep,Zae,intV,binV,Zah,lenV,Za8,Heap.get,Heap.le,HL.le,Nat.succ_ne_self,Env.le,Nat.reduceEqDiff,ite_true,ite_false,true_and,and_true,reduceCtorEq,List.length_map]
  refine Zai rfl (fun h1=>?_) (fun h1=>?_)
  · have ka:k < (chgS l).length:=by simp only [decide_eq_true_eq] at h1; omega
    have hstep:=filter_step (p:=waitB l) ka
    have hg:(chgS l).getD k EI0 = (chgS l)[k]:=by rw [List.getD_eq_getElem?_getD,List.getElem?_eq_getElem ka]; rfl
    rw [hg] at hstep
    have hlen:(((chgS l).take k).filter (waitB l)).length ≤ 5000:=by
      have h1:=List.length_filter_le (waitB l) ((chgS l).take k)
      rw [List.length_take] at h1
      omega
    refine Zak ?_
    try simp only [Zae]
    have hrow:((chgS l).map EI.enc).getD k [] = (chgS l)[k].enc:=rowm ka
    have hon:waitB l (chgS l)[k] = ((Zcj l (chgS l)[k]).length == 0):=rfl
    generalize (chgS l)[k] = d at hstep hrow hon
    generalize ((chgS l).take k).filter (waitB l) = G at hstep hlen ⊢
    have hgl:(G.map encR).length = G.length:=by simp
    have hgt:(G.map encR).take G.length = G.map encR:=List.take_of_length_le (by simp)
    have qi0:(id = t) = False:=eq_false (by omega)
    have qi1:(id = (t + 1)) = False:=eq_false (by omega)
    have qi2:(t = id) = False:=eq_false (by omega)
    have qi3:(t = (t + 1)) = False:=eq_false (by omega)
    have qi4:((t + 1) = id) = False:=eq_false (by omega)
    have qi5:((t + 1) = t) = False:=eq_false (by omega)
    refine Zac ?_
    refine Zaj ?_
    refine Zac (Zaa [0,3,4,5,22] ?_)
    simp only [Zab,Zad,Zaf,pok,pval,VA.ev,Env.get,Env.put,Env.keep,Zae,aggV,intV,binV,Zah,isInt,numOf,lenV,Zag,Zap,Zax,Zas,Za8,PV.nth,PV.row,Nat.le_refl,Nat.succ_ne_self,List.map,Nat.reduceEqDiff,Bool.false_eq_true,Bool.true_eq_false,ite_true,ite_false,true_and,and_true,reduceCtorEq,imp_self,Int.toNat_natCast,List.length_map,hrow,ei_t28,Zb6,qi0,qi1,qi2,qi3,qi4,qi5]
    refine ⟨by omega,?_⟩
    refine Zat (sp_pandectref29_Of d l hs hd5) ?_
    try simp only [true_and,List.length_map,qi0,qi1,qi2,qi3,qi4,qi5]
    refine Zai rfl (fun h2=>?_) (fun h2=>?_)
    · have h3:waitB l d = true:=by rw [hon]; rw [beq_iff_eq] at h2 ⊢; omega
      rw [h3,if_pos rfl] at hstep
      refine VW_draw2E (t + 10) [0,3,4,5] (by simp) ?_
      simp only [Zaf,Zbb,Zbu,QW,dok,dval,VOp.pure,VOp.simple,VOp.det,pok,pval,VA.ev,Env.get,Env.put,Env.keep,Zae,Zal,gd,aggV,isInt,numOf,lenV,Zao,Zan,Zag,Zap,Zax,Zas,Zcu,Zcb,PV.cells,PV.fits,overlay,PV.nth,PV.row,Heap.get,Heap.del,Heap.le,HL.get,HL.del,HL.le,Heap.push,Nat.le_refl,Nat.succ_ne_self,Zbq,Zc8,Zbk,Zda,Zbc,Zcw,Zbj,Zbf,List.set,List.replicate,List.length,List.take,List.drop,List.take_succ_cons,List.drop_succ_cons,List.cons_append,List.nil_append,Nat.reduceEqDiff,Nat.reduceAdd,Nat.reduceLT,Nat.reduceLeDiff,Bool.false_eq_true,ite_true,ite_false,true_and,and_true,implies_true,forall_const,reduceCtorEq,BEq.rfl,Nat.zero_add,List.length_cons,Int.toNat_natCast,List.length_map,hrow,Zb6,ei_act,ei_item,ei_l1,hgl,hgt,List.append_nil,qi0,qi1,qi2,qi3,qi4,qi5]
      repeat (with_reducible refine And.intro ?_ ?_; first | omega | (with_reducible constructor <;> omega) | exact False.elim | exact True.intro)
      refine Zaa [0,3,4,5] ?_
      simp only [Zab,Zad,Zaf,pok,pval,VA.ev,Env.get,Env.put,Env.keep,Zae,intV,binV,Zah,HL.get,Nat.succ_ne_self,Nat.reduceEqDiff,ite_true,ite_false,true_and,reduceCtorEq,ad1 (a:=k) (by omega)]
      refine ⟨⟨(k + 1,t,t + 1),ka,by simp⟩,?_⟩
      simp only [hstep,List.map_append,List.map_cons,List.map_nil,List.length_append]
      try simp only [Nat.le_refl,List.length,ite_true,true_and,and_true,Nat.zero_add,qi0,qi1,qi2,qi3,qi4,qi5,encR]
      all_goals (repeat' (first | rfl | trivial | omega | (simp only []; omega) | refine And.intro ?_ ?_))
    · have h3:waitB l d = false:=by rw [hon]; rw [beq_eq_false_iff_ne] at h2 ⊢; omega
      rw [h3] at hstep
      simp only [Bool.false_eq_true,if_false,List.append_nil] at hstep
      refine Zak ?_
      try simp only [Zae,Zal]
      refine Zaa [0,3,4,5] ?_
      simp only [Zab,Zad,Zaf,pok,pval,VA.ev,Env.get,Env.put,Env.keep,Zae,intV,binV,Zah,HL.get,Nat.succ_ne_self,Nat.reduceEqDiff,ite_true,ite_false,true_and,reduceCtorEq,ad1 (a:=k) (by omega)]
      refine ⟨⟨(k + 1,id,t),ka,hid⟩,?_⟩
      simp only [hstep]
      try simp only [Nat.le_refl,ite_true,true_and,and_true,qi0,qi1,qi2,qi3,qi4,qi5]
      all_goals (repeat' (first | rfl | trivial | omega | (simp only []; omega) | refine And.intro ?_ ?_))
  · have ka:k = (chgS l).length:=by simp only [decide_eq_false_iff_not] at h1; omega
    subst ka
    rw [List.take_length]
    refine Zaz ?_
    try simp only [Zae,Zal,retQ,ite_true]
    refine Zac (Zaa [2] ?_)
    simp only [Zab,Zad,Zaf,pok,pval,VA.ev,Env.get,Env.put,Env.keep,Zae,Nat.succ_ne_self,Nat.reduceEqDiff,ite_true,ite_false,true_and,reduceCtorEq]
    refine Zar ?_
    try simp only [Env.get,retQ,resV,Zau,RS.ev,RS.ok,ite_true,true_and,and_true]
    exact View.own_all (fz:=false) (by simp [Heap.get,HL.get,pendS]) (by simp [pendS])
noncomputable def purUp (l:List Gz) (i:Nat):List Str:=(Zdm ((chgS l).take i)).foldl putT []
theorem purUp_step (l:List Gz) {i:Nat} (h:i < (chgS l).length):purUp l (i + 1) = if (chgS l)[i].it.forr = [] then purUp l i else putT (purUp l i) (chgS l)[i].it.forr:=by
  have hg:(chgS l).getD i EI0 = (chgS l)[i]:=by rw [List.getD_eq_getElem?_getD,List.getElem?_eq_getElem h]; rfl
  unfold purUp
  rw [forsS_step h,hg,List.foldl_append]
  by_cases hf:(chgS l)[i].it.forr = []
  · simp [hf]
  · rw [if_neg hf,if_pos (by simpa using hf)]; rfl
theorem purUp_len (l:List Gz) (i:Nat):(purUp l i).length ≤ (chgS l).length:=by
  unfold purUp
  have h1:=putT_fold_len (Zdm ((chgS l).take i)) []
  have h2:=forsS_len ((chgS l).take i)
  rw [List.length_take] at h2
  simp only [List.length_nil] at h1
  omega
theorem sp_pandectref29_Purposes (l:List Gz) (hs:Smal l) (hd5:(dds l).length ≤ 5000):Zbo Tryz.prog 31 [.sl 4 (l.map Gz.enc)] (.sl 1 ((purS l).map Zb5)):=by
  have hcl:=chg_len l
  refine Zam ?_ (closed_strT _) (by simp only [Za0,List.mem_cons,List.not_mem_nil,or_false,forall_eq_or_imp,forall_eq,false_implies,implies_true]; repeat' (first  | exact Zbp _ | exact Zcm _ | refine And.intro ?_ ?_))
  refine Zaq (vc:=c_pandectref29_Purposes) (ts:=[.t 2]) Go.Proofs.Tryz.func31 (by kernel_rfl) rfl rfl (Nat.le_of_ble_eq_true rfl) (by kernel_rfl) ?_
  unfold c_pandectref29_Purposes
  try dsimp only [ZM,ZO,ZN,ZG]
  refine Zac (Zaa [0] ?_)
  simp only [Zab,Zad,Zaf,pok,pval,VA.ev,Env.get,Env.put,Env.keep,Za2,Zae,Heap.nil,ite_true,ite_false,true_and,reduceCtorEq]
  refine Zac (Zaa [0,3] ?_)
  simp only [Zab,Zad,Zaf,pok,pval,VA.ev,Env.get,Env.put,Env.keep,Zae,Heap.push,fxV,fxOk,List.map,Nat.reduceEqDiff,ite_true,ite_false,true_and,reduceCtorEq,Nat.zero_add]
  refine VW_freeze [(0,.sl 4 (l.map Gz.enc)),(3,.sl 1 ((purUp l 0).map Zb5))] ⟨View.refl _ _,View.own_all (fz:=false) (by simp [Heap.get,HL.get,purUp,Zdm]) rfl,trivial⟩ ?_
  try simp only []
  refine Zac (Zaa [3,4] ?_)
  simp only [Zab,Zad,Zaf,pok,pval,VA.ev,Env.get,Env.put,Env.keep,Zae,Nat.succ_ne_self,List.map,Nat.reduceEqDiff,ite_true,ite_false,true_and,reduceCtorEq]
  refine Zat (Zcg l hs hd5) ?_
  skip
  refine Zac ?_
  refine Zac (Zaa [3,4,5] ?_)
  simp only [Zab,Zad,Zaf,pok,pval,VA.ev,Env.get,Env.put,Env.keep,Zae,Nat.succ_ne_self,Nat.reduceEqDiff,ite_true,ite_false,true_and]
  refine Zaj ?_
  refine Za4 (σ:={ s:Nat × Nat // s.1 ≤ (chgS l).length }) (fun s=>([(3,.sl 1 ((purUp l s.1.1).map Zb5)),(4,.sl 28 ((chgS l).map EI.enc)),(5,pI s.1.1)],⟨[],s.1.2⟩)) (fun s=>(chgS l).length - s.1.1) ⟨(0,1),Nat.zero_le _⟩ ?_ ?_ ?_
  · simp only [Env.get,Nat.succ_ne_self,Env.le,Nat.reduceEqDiff,ite_true,ite_false,true_and,and_true]
    rfl
  · simp only [Heap.le,HL.le,Nat.le_refl,and_true]
  rintro ⟨⟨i,t⟩,hi⟩
  simp only [] at hi ⊢
  refine Zac ?_
  refine Zac (Zaa [3,4,5,15] ?_)
  simp only [Zab,Zad,Zaf,pok,pval,VA.ev,Env.get,Env.put,Env.keep,Zae,intV,binV,Zah,lenV,Za8,Heap.le,HL.le,Nat.succ_ne_self,Env.le,Nat.reduceEqDiff,ite_true,ite_false,true_and,and_true,List.length_map]
  refine Zai rfl (fun h1=>?_) (fun h1=>?_)
  · simp only [decide_eq_true_eq] at h1
    have ia:i < (chgS l).length:=by omega
    refine Zak ?_
    try simp only [Zae]
    have hstep:=purUp_step l ia
    have hlen:=purUp_len l i
    have hrow:((chgS l).map EI.enc).getD i [] = (chgS l)[i].enc:=rowm ia
    refine Zac ?_
    refine Zaj ?_
    refine Zac (Zaa [3,4,5,6] ?_)
    simp only [Zab,Zad,Zaf,pok,pval,VA.ev,Env.get,Env.put,Env.keep,Zae,aggV,isInt,numOf,lenV,Zao,Zan,Zag,Zap,Zax,Zas,PV.nth,PV.row,Nat.succ_ne_self,List.getD_cons_zero,Nat.reduceEqDiff,Nat.reduceLeDiff,Bool.false_eq_true,ite_true,ite_false,true_and,and_true,implies_true,Int.toNat_natCast,List.length_map,hrow,Zb6,ei_for,ei_l19,ei_d19]
    repeat (with_reducible refine And.intro ?_ ?_; first | omega | (with_reducible constructor <;> omega) | exact False.elim | exact True.intro)
    generalize (chgS l)[i].it.forr = n at hstep ⊢
    obtain ⟨G,hG⟩:∃ x,purUp l i = x:=⟨_,rfl⟩
    rw [hG] at hstep hlen ⊢
    refine Zac (Zaa [3,4,5,6,7] ?_)
    simp only [Zab,Zad,Zaf,pok,pval,VA.ev,Env.get,Env.put,Env.keep,Zae,Nat.succ_ne_self,Nat.reduceEqDiff,ite_true,ite_false,true_and]
    refine Zac ?_
    refine Zaj ?_
    refine Za4 (σ:={ k:Nat // k ≤ G.length ∧ ∀ (j:Nat) (h:j < G.length),j < k → decide (G[j] < n) = true }) (fun s=>([(3,.sl 1 (G.map Zb5)),(4,.sl 28 ((chgS l).map EI.enc)),(5,pI i),(6,.str n),(7,pI s.1)],⟨[],t⟩)) (fun s=>G.length - s.1) ⟨0,Nat.zero_le _,fun j h hj=>by cases hj⟩ ?_ ?_ ?_
    · simp only [Env.get,Nat.succ_ne_self,Env.le,Nat.reduceEqDiff,ite_true,ite_false,true_and,and_true]
      rfl
    · simp only [Heap.le,HL.le,Nat.le_refl,and_true]
    rintro ⟨k,hk,hpre⟩
    simp only []
    refine Zac ?_
    refine Zac (VW_mid (σ:={ b:Bool // b = true ↔ ∃ h:k < G.length,G[k] < n }) (fun b=>([(3,.sl 1 (G.map Zb5)),(4,.sl 28 ((chgS l).map EI.enc)),(5,pI i),(6,.str n),(7,pI k),(35,.bool b.1)],⟨[],t⟩)) (Zaa [3,4,5,6,7,35] ?_) (fun b=>?_))
    · by_cases h1:k < G.length
      · have e1:decide ((k:Int) < (G.length:Int)) = true:=by simpa using h1
        simp only [midQ,Zab,Zad,Za6,Zaf,pok,pval,VA.ev,Env.get,Env.put,Env.keep,Za1,isBool,aggV,intV,binV,Zah,strV,isInt,numOf,lenV,Zag,Zap,Zax,Zas,Za8,PV.nth,PV.row,Heap.le,HL.le,Nat.le_refl,Nat.succ_ne_self,Env.le,List.length,List.getD_cons_zero,List.take,List.take_succ_cons,Nat.reduceEqDiff,Bool.false_eq_true,ite_true,ite_false,true_and,and_true,implies_true,Nat.zero_add,List.length_cons,Int.toNat_natCast,List.length_map,e1,rowm h1,Zb5]
        repeat (with_reducible refine And.intro ?_ ?_; first | omega | (with_reducible constructor <;> omega) | exact False.elim | exact True.intro)
        refine ⟨⟨Op.bytesLess G[k] n,by rw [Go.Proofs.bytesLess_eq]; simp [h1]⟩,?_⟩
        skip
        all_goals (repeat' (first | rfl | trivial | omega | (simp only []; omega) | refine And.intro ?_ ?_))
      · have e1:decide ((k:Int) < (G.length:Int)) = false:=by simp; omega
        simp only [midQ,Zab,Zad,Zbi,Zaf,pok,pval,VA.ev,Env.get,Env.put,Env.keep,Za1,isBool,intV,binV,Zah,lenV,Za8,Heap.le,HL.le,Nat.le_refl,Nat.succ_ne_self,Env.le,Nat.reduceEqDiff,Bool.false_eq_true,ite_true,ite_false,true_and,and_true,List.length_map,e1]
        refine ⟨⟨false,by simp [h1]⟩,?_⟩
        skip
        all_goals (repeat' (first | rfl | trivial | omega | (simp only []; omega) | refine And.intro ?_ ?_))
    obtain ⟨b,hb⟩:=b
    simp only []
    refine Zai rfl (fun h1=>?_) (fun h1=>?_)
    · obtain ⟨ka,hlt⟩:=hb.1 h1
      refine Zak ?_
      try simp only [Zae,Heap.le,HL.le,Env.le,and_true]
      refine Zaj ?_
      refine Zaa [3,4,5,6,7] ?_
      simp only [Zab,Zad,Zaf,pok,pval,VA.ev,Env.get,Env.put,Env.keep,Zae,Zal,intV,binV,Zah,Nat.le_refl,Nat.succ_ne_self,Nat.reduceEqDiff,ite_true,ite_false,true_and,w64 (n:=(k:Int) + 1) (by omega) (by omega)]
      refine ⟨⟨k + 1,ka,fun j h hj=>?_⟩,?_,?_⟩
      · by_cases hjk:j = k
        · subst hjk; simpa using hlt
        · exact hpre j h (by omega)
      · rfl
      · simp only []; omega
    have hno:¬ ∃ h:k < G.length,G[k] < n:=fun h=>by rw [hb.2 h] at h1; cases h1
    obtain ⟨t1,t2⟩:=tw_eqT (fun x=>decide (x < n)) G k hk hpre (fun h=>by simpa using fun h2=>hno ⟨h,h2⟩)
    refine Zaz ?_
    try simp only [Zae,Zal,retQ,Nat.succ_ne_self,ite_true,ite_false,reduceCtorEq]
    refine Zac ?_
    refine Zac (VW_mid (σ:={ b:Bool // b = true ↔ n = [] ∨ (G.drop k).head? = some n }) (fun b=>([(3,.sl 1 (G.map Zb5)),(4,.sl 28 ((chgS l).map EI.enc)),(5,pI i),(6,.str n),(7,pI k),(53,.bool b.1)],⟨[],t⟩)) (Zaa [3,4,5,6,7,53] ?_) (fun b=>?_))
    · cases e0:(n == [])
      · have hn0:n ≠ []:=by simpa using e0
        by_cases h1:k < G.length
        · have e1:decide ((k:Int) < (G.length:Int)) = true:=by simpa using h1
          simp only [midQ,Zab,Zad,Za6,Zaf,pok,pval,VA.ev,Env.get,Env.put,Env.keep,Za1,isBool,aggV,intV,binV,Zah,strV,isInt,numOf,lenV,Zag,Zap,Zax,Zas,Za8,PV.nth,PV.row,Heap.le,HL.le,Nat.le_refl,Nat.succ_ne_self,Env.le,List.length,List.getD_cons_zero,List.take,List.take_succ_cons,Nat.reduceEqDiff,Bool.false_eq_true,ite_true,ite_false,true_and,and_true,implies_true,Nat.zero_add,List.length_cons,Int.toNat_natCast,List.length_map,e0,e1,rowm h1,Zb5]
          repeat (with_reducible refine And.intro ?_ ?_; first | omega | (with_reducible constructor <;> omega) | exact False.elim | exact True.intro)
          refine ⟨⟨G[k] == n,by rw [List.head?_drop,List.getElem?_eq_getElem h1]; simp [hn0]⟩,?_⟩
          skip
          all_goals (repeat' (first | rfl | trivial | omega | (simp only []; omega) | refine And.intro ?_ ?_))
        · have e1:decide ((k:Int) < (G.length:Int)) = false:=by simp; omega
          simp only [midQ,Zab,Zad,Za6,Zbi,Zaf,pok,pval,VA.ev,Env.get,Env.put,Env.keep,Za1,isBool,intV,binV,Zah,strV,lenV,Za8,Heap.le,HL.le,Nat.le_refl,Nat.succ_ne_self,Env.le,Nat.reduceEqDiff,Bool.false_eq_true,ite_true,ite_false,true_and,and_true,List.length_map,e0,e1]
          refine ⟨⟨false,by rw [List.head?_drop,List.getElem?_eq_none (by omega)]; simp [hn0]⟩,?_⟩
          skip
          all_goals (repeat' (first | rfl | trivial | omega | (simp only []; omega) | refine And.intro ?_ ?_))
      · have hn0:n = []:=by simpa using e0
        simp only [midQ,Zab,Zad,Zbz,OpsW_u,Zaf,pok,pval,VA.ev,Env.get,Env.put,Env.keep,Za1,isBool,binV,Zah,strV,Heap.le,HL.le,Nat.le_refl,Nat.succ_ne_self,Env.le,Nat.reduceEqDiff,ite_true,ite_false,true_and,and_true,e0]
        refine ⟨⟨true,by simp [hn0]⟩,?_⟩
        skip
        all_goals (repeat' (first | rfl | trivial | omega | (simp only []; omega) | refine And.intro ?_ ?_))
    obtain ⟨b,hb⟩:=b
    simp only []
    refine Zai rfl (fun h2=>?_) (fun h2=>?_)
    · refine Zaz ?_
      try simp only [Zae,Zal,retQ,Nat.succ_ne_self,ite_true,ite_false]
      have e:purUp l (i + 1) = G:=by
        rw [hstep]
        split
        · rfl
        · rename_i h3
          rcases hb.1 h2 with h4 | h4
          · exact absurd h4 h3
          · exact if_pos (by rw [t2]; exact h4)
      refine Zaa [3,4,5] ?_
      simp only [Zab,Zad,Zaf,pok,pval,VA.ev,Env.get,Env.put,Env.keep,Zae,intV,binV,Zah,Nat.succ_ne_self,Nat.reduceEqDiff,ite_true,ite_false,true_and,w64 (n:=(i:Int) + 1) (by omega) (by omega)]
      refine ⟨⟨(i + 1,t),ia⟩,?_⟩
      simp only [e]
      try simp only [Nat.le_refl,true_and]
      all_goals (repeat' (first | rfl | trivial | omega | (simp only []; omega) | refine And.intro ?_ ?_))
    have hn:n ≠ []:=fun h=>by rw [hb.2 (.inl h)] at h2; cases h2
    have e:purUp l (i + 1) = G.take k ++ n :: G.drop k:=by
      rw [hstep,if_neg hn]
      unfold putT
      rw [t1,t2]
      exact if_neg fun h=>by rw [hb.2 (.inr h)] at h2; cases h2
    refine Zak ?_
    try simp only [Zae]
    have hgl:(G.map Zb5).length = G.length:=by simp
    have htl:((G.map Zb5).take k).length = k:=by simp; omega
    have htt:((G.map Zb5).take k).take k = (G.map Zb5).take k:=by rw [List.take_take,Nat.min_self]
    have qi0:(t = (t + 1)) = False:=eq_false (by omega)
    have qi1:(t = (t + 1 + 1)) = False:=eq_false (by omega)
    have qi2:(t = (t + 1 + 1 + 1)) = False:=eq_false (by omega)
    have qi3:((t + 1) = t) = False:=eq_false (by omega)
    have qi4:((t + 1) = (t + 1 + 1)) = False:=eq_false (by omega)
    have qi5:((t + 1) = (t + 1 + 1 + 1)) = False:=eq_false (by omega)
    have qi6:((t + 1 + 1) = t) = False:=eq_false (by omega)
    have qi7:((t + 1 + 1) = (t + 1)) = False:=eq_false (by omega)
    have qi8:((t + 1 + 1) = (t + 1 + 1 + 1)) = False:=eq_false (by omega)
    have qi9:((t + 1 + 1 + 1) = t) = False:=eq_false (by omega)
    have qi10:((t + 1 + 1 + 1) = (t + 1)) = False:=eq_false (by omega)
    have qi11:((t + 1 + 1 + 1) = (t + 1 + 1)) = False:=eq_false (by omega)
    refine Zac (Zaa [3,4,5,7,8] ?_)
    simp only [Zab,Zad,Zaf,pok,pval,VA.ev,Env.get,Env.put,Env.keep,Zae,numOf,loV,hiV,lenV,Zc9,sliceV,sliceOk,PV.cells,PV.fits,Heap.get,Heap.del,HL.get,HL.del,Heap.push,Nat.le_refl,Nat.succ_ne_self,Zbq,Zc8,Zbk,Zda,Zbc,Zcw,Zbj,Zbf,fxV,fxOk,List.map,List.set,List.replicate,List.length,List.take,List.drop,List.drop_zero,List.take_succ_cons,List.nil_append,Option.map,Nat.reduceEqDiff,Nat.reduceLT,Nat.reduceLeDiff,ite_true,ite_false,true_and,and_true,BEq.rfl,Nat.zero_add,Nat.add_zero,List.length_cons,List.length_nil,Int.toNat_natCast,hgl,htl,htt,Int.toNat_natCast,Nat.sub_zero,List.take_length,qi0,qi1,qi2,qi3,qi4,qi5,qi6,qi7,qi8,qi9,qi10,qi11]
    refine ⟨⟨by omega,by omega,hk⟩,by omega,by omega,by omega,by omega,?_⟩
    have hdl:((G.map Zb5).drop k).length = G.length - k:=by simp
    have htk:((G.map Zb5).take k ++ [[PV.str n]]).length = k + 1:=by simp; omega
    have htk2:((G.map Zb5).take k ++ [[PV.str n]]).take (k + 1) = (G.map Zb5).take k ++ [[PV.str n]]:=List.take_of_length_le (by omega)
    have hdd:((G.map Zb5).drop k).take (G.length - k) = (G.map Zb5).drop k:=List.take_of_length_le (by omega)
    refine Zaa [3,4,5] ?_
    simp only [Zab,Zad,Zaf,pok,pval,VA.ev,Env.get,Env.put,Env.keep,Zae,Zal,numOf,loV,hiV,lenV,Zc9,sliceV,sliceOk,Heap.get,Heap.del,HL.get,HL.del,Heap.push,Nat.le_refl,Nat.succ_ne_self,Zbq,Zc8,Zbk,Zda,Zbc,Zcw,List.drop,Option.map,Nat.reduceEqDiff,ite_true,ite_false,true_and,and_true,Nat.zero_add,Int.toNat_natCast,hgl,htl,htt,Int.toNat_natCast,Nat.sub_zero,List.take_length,hdl,htk,htk2,hdd,qi0,qi1,qi2,qi3,qi4,qi5,qi6,qi7,qi8,qi9,qi10,qi11]
    refine ⟨⟨by omega,hk⟩,by omega,by omega,?_⟩
    have hh:((G.map Zb5).take k ++ [[PV.str n]]) ++ (G.map Zb5).drop k = (purUp l (i + 1)).map Zb5:=by
      rw [e,List.map_append,List.map_cons,List.map_take,List.map_drop,List.append_assoc]; rfl
    rw [hh]
    refine VW_freeze [(3,.sl 1 ((purUp l (i + 1)).map Zb5)),(4,.sl 28 ((chgS l).map EI.enc)),(5,pI i)] ⟨View.own_all (fz:=false) (by simp [Heap.get,HL.get]) (by rw [e]; simp; omega),View.refl _ _,View.refl _ _,trivial⟩ ?_
    refine Zaa [3,4,5] ?_
    simp only [Zab,Zad,Zaf,pok,pval,VA.ev,Env.get,Env.put,Env.keep,Zae,intV,binV,Zah,Nat.succ_ne_self,Nat.reduceEqDiff,ite_true,ite_false,true_and,w64 (n:=(i:Int) + 1) (by omega) (by omega)]
    refine ⟨⟨(i + 1,t + 1 + 1 + 1 + 1 + 1),ia⟩,?_⟩
    try simp only [Nat.le_refl,true_and]
    all_goals (repeat' (first | rfl | trivial | omega | (simp only []; omega) | refine And.intro ?_ ?_))
  · simp only [decide_eq_false_iff_not] at h1
    obtain rfl:i = (chgS l).length:=by omega
    refine Zaz ?_
    try simp only [Zae,Zal,retQ,ite_true]
    refine Zac (Zaa [2] ?_)
    simp only [Zab,Zad,Zaf,pok,pval,VA.ev,Env.get,Env.put,Env.keep,Zae,Nat.succ_ne_self,Nat.reduceEqDiff,ite_true,ite_false,true_and]
    refine Zar ?_
    try simp only [Env.get,retQ,resV,Zau,RS.ev,RS.ok,ite_true,true_and,and_true]
    have e:purUp l (chgS l).length = purS l:=by rw [pur_fold]; unfold purUp; rw [List.take_length]
    rw [e]
    exact View.refl _ _
end Go.Proofs.YtehokmhebnkfdaaGreat.w
