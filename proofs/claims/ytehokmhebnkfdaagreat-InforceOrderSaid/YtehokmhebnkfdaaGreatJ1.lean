import Derived.Test.YtehokmhebnkfdaaGreatI2
import Derived.Test.YtehokmhebnkfdaaGreatCP1
set_option linter.all false
namespace Go.Proofs.YtehokmhebnkfdaaGreat.w
open Go Go.VM
set_option maxRecDepth 20000
set_option maxHeartbeats 0
set_option pp.deepTerms false
def c_pandectref29_start:VC:=(.seq (.region [ZO 4 (.alloc [(.int .i64 0),(.int .i64 0),(.str [])])] false) (.seq (.region [ZM 7 1,ZO 8 (.call 20 [(.t 7)]),ZM 5 8] false) (.seq (.seq (.region [ZO 6 (.mv (.c (.int .i64 0)))] false) (.block 0 (.loop (.seq (.seq (.region [ZM 9 6,ZM 10 5,ZO 11 (.len false (.t 10)),ZO 12 (.bin .lss (.t 9) (.t 11))] false) (.cond (.t 12) .skip (.exit 0))) (.seq (.block 1 (.seq (.region [ZM 15 5,ZM 16 6,ZO 17 (.iaddr 7 (.t 15) (.t 16)),ZO 18 (.faddr 0 (.t 17)),ZO 19 (.load false 1 (.t 18)),ZM 20 0,ZO 21 (.bin .eql (.t 19) (.t 20))] false) (.cond (.t 21) (.seq (.region [ZM 22 5,ZM 23 6,ZO 24 (.iaddr 7 (.t 22) (.t 23)),ZO 25 (.faddr 3 (.t 24)),ZO 26 (.load true 3 (.t 25)),ZN (.store 3 (.t 4) (.t 26))] false) .ret) .skip))) (.region [ZM 13 6,ZO 14 (.bin .add (.t 13) (.c (.int .i64 1))),ZM 6 14] false)))))) (.seq (.region [ZO 27 (.build [(.int .i64 0),(.int .i64 0),(.str [])] []),ZN (.store 3 (.t 4) (.t 27))] false) .ret))))
def c_pandectref29_Of:VC:=(.seq (.region [ZO 2 (.box 28 (.t 0)),ZO 4 (.mv (.c .nilsl))] false) (.seq (.region [ZO 5 (.faddr 0 (.t 2)),ZO 6 (.load false 1 (.t 5)),ZM 7 1,ZO 8 (.call 65 [(.t 6),(.t 7)]),ZO 9 (.load true 28 (.t 2)),ZM 10 1,ZO 11 (.call 46 [(.t 10)]),ZO 12 (.call 64 [(.t 8),(.t 9),(.t 11)]),ZM 4 12] true) .ret))
def c_pandectref29_Changes:VC:=(.seq (.region [ZO 2 (.mv (.c .nilsl))] false) (.seq (.region [ZO 6 (.fx (.mk0 28) []),ZM 3 6] false) (.seq (.region [ZM 7 0,ZO 8 (.call 46 [(.t 7)]),ZM 4 8] false) (.seq (.seq (.region [ZO 5 (.mv (.c (.int .i64 0)))] false) (.block 0 (.loop (.seq (.seq (.region [ZM 9 5,ZM 10 4,ZO 11 (.len false (.t 10)),ZO 12 (.bin .lss (.t 9) (.t 11))] false) (.cond (.t 12) .skip (.exit 0))) (.seq (.block 1 (.seq (.region [ZM 15 4,ZM 16 5,ZO 17 (.iaddr 28 (.t 15) (.t 16)),ZO 18 (.faddr 3 (.t 17)),ZO 19 (.faddr 0 (.t 18)),ZO 20 (.load false 1 (.t 19)),ZO 21 (.call 47 [(.t 20)])] false) (.cond (.t 21) (.region [ZM 22 3,ZM 23 4,ZM 24 5,ZO 25 (.iaddr 28 (.t 23) (.t 24)),ZO 26 (.load true 28 (.t 25)),ZO 27 (.bslice 28 1 [(.int .i64 0),(.int .i64 0),(.int .i64 0),(.int .i64 0),.nilsl,.nilsl,(.int .i64 0),(.int .i64 0),(.int .i64 0),(.int .i64 0),(.int .i64 0),(.int .i64 0),(.str []),.nilsl,.nilsl,.nilsl,.nilsl,.nilsl,(.str []),(.str []),(.int .i64 0),(.int .i64 0),(.str []),(.int .i64 0),(.int .i64 0),(.int .i64 0),(.str []),.nilsl] [(0,(.t 26))]),ZO 28 (.app 28 392 [(.int .i64 0),(.int .i64 0),(.int .i64 0),(.int .i64 0),.nilsl,.nilsl,(.int .i64 0),(.int .i64 0),(.int .i64 0),(.int .i64 0),(.int .i64 0),(.int .i64 0),(.str []),.nilsl,.nilsl,.nilsl,.nilsl,.nilsl,(.str []),(.str []),(.int .i64 0),(.int .i64 0),(.str []),(.int .i64 0),(.int .i64 0),(.int .i64 0),(.str []),.nilsl] false (.t 22) (.t 27)),ZM 3 28] false) .skip))) (.region [ZM 13 5,ZO 14 (.bin .add (.t 13) (.c (.int .i64 1))),ZM 5 14] false)))))) (.seq (.region [ZM 29 3,ZM 2 29] false) .ret)))))
theorem acts_small (l:List Gz) (hs:Smal l):(Zbr (rowG l)).length ≤ 1000000:=by
  have h1:=(actsS_perm (rowG l)).length_eq
  have h2:=fst_le (rowG l) []
  have h3:=hs.row
  omega
theorem find_at (n:Int):∀ (acts:List Ac) (k:Nat),(∀ (j:Nat) (hj:j < acts.length),j < k → acts[j].number ≠ n) → ∀ (hk:k < acts.length),acts[k].number = n → startA acts n = acts[k].start
  | [],k,_,hk,_=>by simp at hk
  | a :: r,0,_,_,h=>by
    have h0:a.number = n:=h
    simp [startA,h0]
  | a :: r,k + 1,h1,hk,h=>by
    have h0:a.number ≠ n:=h1 0 (by simp) (by omega)
    have ih:=find_at n r k (fun j hj hjk=>h1 (j + 1) (by simpa using hj) (by omega)) (by simpa using hk) h
    have h0':(a.number == n) = false:=by simpa using h0
    simp only [startA,List.find?_cons,h0'] at ih ⊢
    exact ih
theorem find_none (n:Int):∀ (acts:List Ac),(∀ (j:Nat) (hj:j < acts.length),acts[j].number ≠ n) → startA acts n = ⟨0,0,[]⟩
  | [],_=>rfl
  | a :: r,h=>by
    have h0:a.number ≠ n:=h 0 (by simp)
    have ih:=find_none n r (fun j hj=>h (j + 1) (by simpa using hj))
    have h0':(a.number == n) = false:=by simpa using h0
    simp only [startA,List.find?_cons,h0'] at ih ⊢
    exact ih
theorem sp_pandectref29_start (n:Int) (l:List Gz) (hs:Smal l):Zbo Tryz.prog 65 [pI n,.sl 4 (l.map Gz.enc)] (.agg (startA (Zbr (rowG l)) n).enc):=by
  have hal:=acts_small l hs
  refine Zam ?_ (Zay (Sta.closed _)) (by simp only [Za0,List.mem_cons,List.not_mem_nil,or_false,forall_eq_or_imp,forall_eq,false_implies,implies_true]; repeat' (first  | exact cI _ | exact Zbp _ | exact Zay (Gz.closed _) | exact Za7 (by simp only [List.mem_cons,List.not_mem_nil,or_false,forall_eq]; first | exact cI _ | exact cS _ | exact Zaw _) | refine And.intro ?_ ?_))
  refine Zaq (vc:=c_pandectref29_start) (ts:=[.c 4 true 3]) Go.Proofs.Tryz.func65 (by kernel_rfl) rfl rfl (Nat.le_of_ble_eq_true rfl) (by kernel_rfl) ?_
  unfold c_pandectref29_start
  try dsimp only [ZM,ZO,ZN,ZG]
  refine Zac (Zaa [0,1,4] ?_)
  simp only [Zab,Zad,Zaf,Env.get,Env.put,Env.keep,Za2,Zae,Heap.push,Heap.nil,Nat.succ_ne_self,List.length,Nat.reduceEqDiff,Nat.reduceAdd,ite_true,ite_false,reduceCtorEq,Nat.zero_add]
  refine Zac (Zaa [0,4,5] ?_)
  simp only [Zab,Zad,Zaf,pok,pval,VA.ev,Env.get,Env.put,Env.keep,Zae,Nat.succ_ne_self,List.map,Nat.reduceEqDiff,ite_true,ite_false,true_and,reduceCtorEq]
  refine Zat (Zdr l hs.len hs.row) ?_
  skip
  generalize Zbr (rowG l) = acts at hal ⊢
  refine Zac ?_
  refine Zac (Zaa [0,4,5,6] ?_)
  simp only [Zab,Zad,Zaf,pok,pval,VA.ev,Env.get,Env.put,Env.keep,Zae,Nat.succ_ne_self,Nat.reduceEqDiff,ite_true,ite_false,true_and,reduceCtorEq]
  refine Zaj ?_
  refine Za4 (σ:={ k:Nat // k ≤ acts.length ∧ ∀ (j:Nat) (hj:j < acts.length),j < k → acts[j].number ≠ n }) (fun x=>([(0,pI n),(4,.loc 0 0 0),(5,.sl 7 (acts.map Ac.enc)),(6,pI x.1)],⟨[(0,.arr false 3 [[pI 0,pI 0,.str []]])],1⟩)) (fun x=>acts.length - x.1) ⟨0,Nat.zero_le _,fun j _ h=>by cases h⟩ ?_ ?_ ?_
  · simp only [Env.get,Nat.succ_ne_self,Env.le,Nat.reduceEqDiff,ite_true,ite_false,true_and,and_true,reduceCtorEq]
    rfl
  · simp only [Heap.get,Heap.le,HL.get,HL.le,Nat.le_refl,ite_true,and_true]
  rintro ⟨k,hk,hpre⟩
  simp only []
  refine Zac ?_
  refine Zac (Zaa [0,4,5,6,12] ?_)
  simp only [Zab,Zad,Zaf,pok,pval,VA.ev,Env.get,Env.put,Env.keep,Zae,intV,binV,Zah,lenV,Za8,Heap.get,Heap.le,HL.le,Nat.succ_ne_self,Env.le,Nat.reduceEqDiff,ite_true,ite_false,true_and,and_true,ne_eq,reduceCtorEq,List.length_map]
  refine Zai rfl (fun h1=>?_) (fun h1=>?_)
  · have ka:k < acts.length:=by simp only [decide_eq_true_eq] at h1; omega
    refine Zak ?_
    try simp only [Zae]
    refine Zac ?_
    refine Zaj ?_
    refine Zac (Zaa [0,4,5,6,21] ?_)
    simp only [Zab,Zad,Zaf,pok,pval,VA.ev,Env.get,Env.put,Env.keep,Zae,aggV,intV,binV,Zah,isInt,numOf,lenV,Zao,Zan,Zag,Zap,Zax,Zas,PV.nth,PV.row,Nat.succ_ne_self,List.drop,Nat.reduceEqDiff,Nat.reduceLeDiff,Bool.false_eq_true,ite_true,ite_false,true_and,and_true,implies_true,reduceCtorEq,Int.toNat_natCast,List.length_map,rowm ka,Zb2,ac_num]
    refine ⟨by omega,?_⟩
    refine Zai rfl (fun h2=>?_) (fun h2=>?_)
    · refine Zac (Zaa [4] ?_)
      simp only [Zab,Zad,Zaf,pok,pval,VA.ev,Env.get,Env.put,Env.keep,Zae,aggV,isInt,numOf,lenV,Zao,Zan,Zag,Zap,Zax,Zas,PV.cells,PV.fits,overlay,PV.nth,PV.row,Heap.get,Heap.set,HL.get,HL.set,HL.del,Nat.le_refl,Nat.succ_ne_self,Zbh,Za9,List.set,List.length,List.getD_cons_zero,List.take,List.nil_append,Nat.reduceEqDiff,Nat.reduceLT,Nat.reduceLeDiff,Bool.true_eq_false,ite_true,ite_false,true_and,and_true,reduceCtorEq,Nat.zero_add,imp_self,Int.toNat_natCast,List.length_map,rowm ka,Zb2,ac_l3,ac_start3]
      refine ⟨⟨by omega,by omega⟩,rfl,?_⟩
      refine Zar ?_
      try simp only [Env.get,Zae,Zal,retQ,resV,Zau,RS.ev,RS.ok,aggV,Zag,Zap,PV.nth,PV.row,Heap.get,HL.get,List.length,List.getD_cons_zero,List.drop,Nat.reduceEqDiff,Nat.reduceLT,Bool.true_eq_false,ite_true,true_and,and_true,Nat.zero_add,imp_self]
      have e:=find_at n acts k hpre ka (by simpa using h2)
      rw [e]
      exact ⟨Nat.le_refl 3,View.refl _ _⟩
    refine Zak ?_
    try simp only [Zae,Zal]
    have hne:acts[k].number ≠ n:=by simpa using h2
    refine Zaa [0,4,5,6] ?_
    simp only [Zab,Zad,Zaf,pok,pval,VA.ev,Env.get,Env.put,Env.keep,Zae,intV,binV,Zah,HL.get,Nat.le_refl,Nat.succ_ne_self,Nat.reduceEqDiff,ite_true,ite_false,true_and,and_true,reduceCtorEq,ad1 (a:=k) (by omega)]
    refine ⟨⟨k + 1,ka,fun j hj hjk=>?_⟩,?_⟩
    · by_cases e:j = k
      · subst e; exact hne
      · exact hpre j hj (by omega)
    · try simp only [true_and]
      all_goals (repeat' (first | rfl | trivial | omega | (simp only []; omega) | refine And.intro ?_ ?_))
  · have ka:k = acts.length:=by simp only [decide_eq_false_iff_not] at h1; omega
    refine Zaz ?_
    try simp only [Zae,Zal,retQ,ite_true]
    refine Zac (Zaa [4] ?_)
    simp only [Zab,Zad,Zaf,pok,pval,VA.ev,Env.get,Env.put,Env.keep,Zae,Zcu,Zcb,PV.cells,PV.fits,overlay,PV.row,Heap.get,Heap.set,HL.get,HL.set,HL.del,Nat.le_refl,Nat.succ_ne_self,Zbh,Za9,List.set,List.length,List.getD_cons_zero,List.take,List.drop,List.drop_succ_cons,List.cons_append,List.nil_append,Nat.reduceEqDiff,Nat.reduceAdd,Nat.reduceLT,ite_true,ite_false,true_and,and_true,reduceCtorEq,BEq.rfl,Nat.zero_add,List.length_cons]
    refine Zar ?_
    try simp only [Env.get,retQ,resV,Zau,RS.ev,RS.ok,aggV,Zag,Zap,PV.nth,PV.row,Heap.get,HL.get,Nat.le_refl,List.length,List.getD_cons_zero,List.take,List.drop,List.take_succ_cons,Nat.reduceEqDiff,Nat.reduceAdd,Nat.reduceLT,Bool.true_eq_false,ite_true,true_and,and_true,Nat.zero_add,List.length_cons,imp_self]
    rw [find_none n acts (fun j hj=>hpre j hj (by omega))]
    exact View.refl _ _
theorem sp_pandectref29_Of (d:EI) (l:List Gz) (hs:Smal l) (hd5:(dds l).length ≤ 5000):Zbo Tryz.prog 38 [.agg d.enc,.sl 4 (l.map Gz.enc)] (.sl 2 ((Zcj l d).map Sp.enc)):=by
  refine Zam ?_ (Zav _) (by simp only [Za0,List.mem_cons,List.not_mem_nil,or_false,forall_eq_or_imp,forall_eq,false_implies,implies_true]; repeat' (first  | exact Zay (EI.closed _) | exact Zbp _ | exact Zay (Gz.closed _) | exact Zav _ | exact Zay (Sp.closed _) | refine And.intro ?_ ?_))
  refine Zaq (vc:=c_pandectref29_Of) (ts:=[.t 4]) Go.Proofs.Tryz.func38 (by kernel_rfl) rfl rfl (Nat.le_of_ble_eq_true rfl) (by kernel_rfl) ?_
  unfold c_pandectref29_Of
  try dsimp only [ZM,ZO,ZN,ZG]
  refine Zac (Zaa [1,2] ?_)
  simp only [Zab,Zad,Zaf,pok,pval,VA.ev,Env.get,Env.put,Env.keep,Za2,Zae,PV.cells,PV.fits,Heap.push,Heap.nil,Nat.succ_ne_self,Nat.reduceEqDiff,ite_true,ite_false,true_and,reduceCtorEq,BEq.rfl,Nat.zero_add,Zb6]
  refine VW_freeze [(1,.sl 4 (l.map Gz.enc)),(2,.ro d.enc)] ⟨View.refl _ _,View.loc (z:=28) (fz:=false) (es:=[d.enc]) rfl (by simp) rfl (by simp [Zb6]),trivial⟩ ?_
  refine Zac (Zb3 [4] (by simp [Heap.le,Heap.get,HL.le,HL.get]) ?_)
  simp only [Zbb,Zbu,QW,dok,dval,VOp.pure,VOp.simple,VOp.det,pok,pval,VA.ev,Env.get,Env.put,Env.keep,Zae,gd,aggV,Zao,Zan,Zag,Zap,PV.nth,Nat.le_refl,Nat.succ_ne_self,List.drop,Nat.reduceEqDiff,Nat.reduceLeDiff,Bool.false_eq_true,Bool.true_eq_false,ite_true,ite_false,true_and,and_true,implies_true,forall_const,imp_self,Zb6,ei_t28,ei_act]
  refine ⟨_,.inl (sp_pandectref29_start d.act l hs),?_⟩
  refine ⟨_,.inl (sp_pandectref28_Deeds l hs.len hs.row hs.items),?_⟩
  refine ⟨_,.inl (c.sp_pandectref27_Spans _ d _ hd5),?_⟩
  skip
  refine Zar ?_
  try simp only [Env.get,retQ,resV,Zau,RS.ev,RS.ok,ite_true,true_and,and_true]
  exact View.refl _ _
theorem Zcg (l:List Gz) (hs:Smal l) (hd5:(dds l).length ≤ 5000):Zbo Tryz.prog 21 [.sl 4 (l.map Gz.enc)] (.sl 28 ((chgS l).map EI.enc)):=by
  refine Zam ?_ (Zaw _) (by simp only [Za0,List.mem_cons,List.not_mem_nil,or_false,forall_eq_or_imp,forall_eq,false_implies,implies_true]; repeat' (first  | exact Zaw _ | exact Zbp _ | exact Zav _ | refine And.intro ?_ ?_))
  refine Zaq (vc:=c_pandectref29_Changes) (ts:=[.t 2]) Go.Proofs.Tryz.func21 (by kernel_rfl) rfl rfl (Nat.le_of_ble_eq_true rfl) (by kernel_rfl) ?_
  unfold c_pandectref29_Changes
  try dsimp only [ZM,ZO,ZN,ZG]
  refine Zac (Zaa [0] ?_)
  simp only [Zab,Zad,Zaf,pok,pval,VA.ev,Env.get,Env.put,Env.keep,Za2,Zae,Heap.nil,ite_true,ite_false,true_and,reduceCtorEq]
  refine Zac (Zaa [0,3] ?_)
  simp only [Zab,Zad,Zaf,pok,pval,VA.ev,Env.get,Env.put,Env.keep,Zae,Heap.push,fxV,fxOk,List.map,Nat.reduceEqDiff,ite_true,ite_false,true_and,reduceCtorEq,Nat.zero_add]
  refine Zac (Zaa [3,4] ?_)
  simp only [Zab,Zad,Zaf,pok,pval,VA.ev,Env.get,Env.put,Env.keep,Zae,Nat.succ_ne_self,List.map,Nat.reduceEqDiff,ite_true,ite_false,true_and,reduceCtorEq]
  refine Zat (sp_pandectref28_Deeds l hs.len hs.row hs.items) ?_
  skip
  refine Zac ?_
  refine Zac (Zaa [3,4,5] ?_)
  simp only [Zab,Zad,Zaf,pok,pval,VA.ev,Env.get,Env.put,Env.keep,Zae,Nat.succ_ne_self,Nat.reduceEqDiff,ite_true,ite_false,true_and]
  refine Zaj ?_
  refine Za4 (σ:={ s:Nat × Nat × Nat // s.1 ≤ (dds l).length ∧ s.2.1 < s.2.2 }) (fun s=>([(3,.own s.1.2.1 0 (((dds l).take s.1.1).filter isChg).length),(4,.sl 28 ((dds l).map EI.enc)),(5,pI s.1.1)],⟨[(s.1.2.1,.arr false 28 ((((dds l).take s.1.1).filter isChg).map EI.enc))],s.1.2.2⟩)) (fun s=>(dds l).length - s.1.1) ⟨(0,0,1),Nat.zero_le _,by simp⟩ ?_ ?_ ?_
  · try simp only [Env.get,Nat.succ_ne_self,Env.le,List.take,Nat.reduceEqDiff,ite_true,ite_false,true_and,and_true,List.length_nil,List.take_zero,List.filter_nil]
    all_goals (repeat' (first | rfl | trivial | omega | (simp only []; omega) | refine And.intro ?_ ?_))
  · try simp only [Heap.get,Heap.le,HL.get,HL.le,Nat.le_refl,List.map,List.take,ite_true,and_true,List.take_zero,List.filter_nil]
    all_goals (repeat' (first | rfl | trivial | omega | (simp only []; omega) | refine And.intro ?_ ?_))
  rintro ⟨⟨k,id,t⟩,hk,hid⟩
  simp only [] at hk hid ⊢
  refine Zac ?_
  refine Zac (Zaa [3,4,5,12] ?_)
  simp only [Zab,Zad,Zaf,pok,pval,VA.ev,Env.get,Env.put,Env.keep,Zae,intV,binV,Zah,lenV,Za8,Heap.get,Heap.le,HL.le,Nat.succ_ne_self,Env.le,Nat.reduceEqDiff,ite_true,ite_false,true_and,and_true,List.length_map]
  refine Zai rfl (fun h1=>?_) (fun h1=>?_)
  · have ka:k < (dds l).length:=by simp only [decide_eq_true_eq] at h1; omega
    have hstep:=filter_step (p:=isChg) ka
    have hg:(dds l).getD k EI0 = (dds l)[k]:=by rw [List.getD_eq_getElem?_getD,List.getElem?_eq_getElem ka]; rfl
    rw [hg] at hstep
    have hlen:(((dds l).take k).filter isChg).length ≤ 5000:=by
      have h1:=List.length_filter_le isChg ((dds l).take k)
      rw [List.length_take] at h1
      omega
    refine Zak ?_
    try simp only [Zae]
    have hrow:((dds l).map EI.enc).getD k [] = (dds l)[k].enc:=rowm ka
    generalize (dds l)[k] = d at hstep hrow
    generalize ((dds l).take k).filter isChg = G at hstep hlen ⊢
    have hgl:(G.map EI.enc).length = G.length:=by simp
    have hgt:(G.map EI.enc).take G.length = G.map EI.enc:=List.take_of_length_le (by simp)
    have qi0:(id = t) = False:=eq_false (by omega)
    have qi1:(id = (t + 1)) = False:=eq_false (by omega)
    have qi2:(t = id) = False:=eq_false (by omega)
    have qi3:(t = (t + 1)) = False:=eq_false (by omega)
    have qi4:((t + 1) = id) = False:=eq_false (by omega)
    have qi5:((t + 1) = t) = False:=eq_false (by omega)
    refine Zac ?_
    refine Zaj ?_
    refine Zac (Zaa [3,4,5,21] ?_)
    simp only [Zab,Zad,Zaf,pok,pval,VA.ev,Env.get,Env.put,Env.keep,Zae,aggV,isInt,numOf,lenV,Zao,Zan,Zag,Zap,Zax,Zas,PV.nth,PV.row,Nat.succ_ne_self,List.map,List.drop,Nat.reduceEqDiff,Nat.reduceLeDiff,Bool.false_eq_true,ite_true,ite_false,true_and,and_true,implies_true,Int.toNat_natCast,List.length_map,hrow,ei_it,Zb6,Zbt,it_kind,qi0,qi1,qi2,qi3,qi4,qi5]
    refine ⟨by omega,?_⟩
    refine Zat (Zc1 d.it.kind) ?_
    try simp only [amend_chg]
    refine Zai rfl (fun h2=>?_) (fun h2=>?_)
    · rw [h2,if_pos rfl] at hstep
      refine Zaa [3,4,5] ?_
      simp only [Zab,Zad,Zaf,pok,pval,VA.ev,Env.get,Env.put,Env.keep,Zae,Zal,aggV,isInt,numOf,lenV,Zag,Zap,Zax,Zas,PV.cells,PV.fits,PV.nth,PV.row,Heap.get,Heap.del,HL.get,HL.del,Heap.push,Nat.le_refl,Nat.succ_ne_self,Zbq,Zc8,Zbk,Zda,Zbc,Zcw,Zbj,Zbf,List.set,List.replicate,List.length,List.take,List.drop,List.take_succ_cons,Nat.reduceEqDiff,Nat.reduceLT,Nat.reduceLeDiff,Bool.true_eq_false,ite_true,ite_false,true_and,and_true,BEq.rfl,Nat.zero_add,List.length_cons,imp_self,Int.toNat_natCast,List.length_map,hrow,ei_t28,Zb6,ei_d28,hgl,hgt,List.append_nil,qi0,qi1,qi2,qi3,qi4,qi5]
      refine ⟨by omega,by omega,by omega,?_⟩
      refine Zaa [3,4,5] ?_
      simp only [Zab,Zad,Zaf,pok,pval,VA.ev,Env.get,Env.put,Env.keep,Zae,intV,binV,Zah,HL.get,Nat.succ_ne_self,Nat.reduceEqDiff,ite_true,ite_false,true_and,ad1 (a:=k) (by omega)]
      refine ⟨⟨(k + 1,t + 1,t + 1 + 1),ka,by simp⟩,?_⟩
      simp only [hstep,List.map_append,List.map_cons,List.map_nil,List.length_append]
      try simp only [Nat.le_refl,List.length,ite_true,ite_false,true_and,and_true,Nat.zero_add,qi0,qi1,qi2,qi3,qi4,qi5]
      all_goals (repeat' (first | rfl | trivial | omega | (simp only []; omega) | refine And.intro ?_ ?_))
    · rw [h2] at hstep
      simp only [Bool.false_eq_true,if_false,List.append_nil] at hstep
      refine Zak ?_
      try simp only [Zae,Zal]
      refine Zaa [3,4,5] ?_
      simp only [Zab,Zad,Zaf,pok,pval,VA.ev,Env.get,Env.put,Env.keep,Zae,intV,binV,Zah,HL.get,Nat.succ_ne_self,Nat.reduceEqDiff,ite_true,ite_false,true_and,ad1 (a:=k) (by omega)]
      refine ⟨⟨(k + 1,id,t),ka,hid⟩,?_⟩
      simp only [hstep]
      try simp only [Nat.le_refl,ite_true,true_and,and_true,qi0,qi1,qi2,qi3,qi4,qi5]
      all_goals (repeat' (first | rfl | trivial | omega | (simp only []; omega) | refine And.intro ?_ ?_))
  · have ka:k = (dds l).length:=by simp only [decide_eq_false_iff_not] at h1; omega
    subst ka
    rw [List.take_length]
    refine Zaz ?_
    try simp only [Zae,Zal,retQ,ite_true]
    refine Zac (Zaa [2] ?_)
    simp only [Zab,Zad,Zaf,pok,pval,VA.ev,Env.get,Env.put,Env.keep,Zae,Nat.succ_ne_self,Nat.reduceEqDiff,ite_true,ite_false,true_and]
    refine Zar ?_
    try simp only [Env.get,retQ,resV,Zau,RS.ev,RS.ok,ite_true,true_and,and_true]
    exact View.own_all (fz:=false) (by simp [Heap.get,HL.get,chgS]) (by simp [chgS])
end Go.Proofs.YtehokmhebnkfdaaGreat.w
namespace Go.Proofs.YtehokmhebnkfdaaGreat.w
open Go Go.VM
set_option maxRecDepth 20000
set_option maxHeartbeats 0
set_option pp.deepTerms false
def c_pandectref29_Has:VC:=(.seq (.region [ZO 4 (.mv (.c (.bool false)))] false) (.seq (.seq (.region [ZO 5 (.mv (.c (.int .i64 0)))] false) (.block 0 (.loop (.seq (.seq (.region [ZM 6 5,ZM 7 0,ZO 8 (.len false (.t 7)),ZO 9 (.bin .lss (.t 6) (.t 8))] false) (.cond (.t 9) .skip (.exit 0))) (.seq (.block 1 (.seq (.region [ZM 12 0,ZM 13 5,ZO 14 (.iaddr 2 (.t 12) (.t 13)),ZO 15 (.faddr 0 (.t 14)),ZO 16 (.load false 1 (.t 15)),ZM 17 1,ZO 18 (.bin .leq (.t 16) (.t 17)),ZM 19 18,ZG 20 (.mv (.t 1)) 19 true,ZG 21 (.mv (.t 0)) 19 true,ZG 22 (.mv (.t 5)) 19 true,ZG 23 (.iaddr 2 (.t 21) (.t 22)) 19 true,ZG 24 (.faddr 1 (.t 23)) 19 true,ZG 25 (.load false 1 (.t 24)) 19 true,ZG 26 (.bin .lss (.t 20) (.t 25)) 19 true,ZO 27 (.pick (.t 19) (.t 26) (.c (.bool false)))] false) (.cond (.t 27) (.seq (.region [ZO 4 (.mv (.c (.bool true)))] false) .ret) .skip))) (.region [ZM 10 5,ZO 11 (.bin .add (.t 10) (.c (.int .i64 1))),ZM 5 11] false)))))) (.seq (.region [ZO 4 (.mv (.c (.bool false)))] false) .ret)))
def c_pandectref29_Same:VC:=(.seq (.region [ZO 4 (.mv (.c (.bool false)))] false) (.seq (.seq (.region [ZM 6 0,ZO 7 (.len false (.t 6)),ZM 8 1,ZO 9 (.len false (.t 8)),ZO 10 (.bin .neq (.t 7) (.t 9))] false) (.cond (.t 10) (.seq (.region [ZO 4 (.mv (.c (.bool false)))] false) .ret) .skip)) (.seq (.seq (.region [ZO 5 (.mv (.c (.int .i64 0)))] false) (.block 0 (.loop (.seq (.seq (.region [ZM 11 5,ZM 12 0,ZO 13 (.len false (.t 12)),ZO 14 (.bin .lss (.t 11) (.t 13))] false) (.cond (.t 14) .skip (.exit 0))) (.seq (.block 1 (.seq (.region [ZM 17 0,ZM 18 5,ZO 19 (.iaddr 2 (.t 17) (.t 18)),ZO 20 (.load true 2 (.t 19)),ZM 21 1,ZM 22 5,ZO 23 (.iaddr 2 (.t 21) (.t 22)),ZO 24 (.load true 2 (.t 23)),ZO 25 (.eqs true [.i,.i] (.t 20) (.t 24))] true) (.cond (.t 25) (.seq (.region [ZO 4 (.mv (.c (.bool false)))] false) .ret) .skip))) (.region [ZM 15 5,ZO 16 (.bin .add (.t 15) (.c (.int .i64 1))),ZM 5 16] false)))))) (.seq (.region [ZO 4 (.mv (.c (.bool true)))] false) .ret))))
def c_pandectref29_Waiting:VC:=(.seq (.region [ZO 2 (.mv (.c .nilsl))] false) (.seq (.region [ZO 6 (.fx (.mk0 2) []),ZM 3 6] false) (.seq (.region [ZM 7 0,ZO 8 (.call 21 [(.t 7)]),ZM 4 8] false) (.seq (.seq (.region [ZO 5 (.mv (.c (.int .i64 0)))] false) (.block 0 (.loop (.seq (.seq (.region [ZM 9 5,ZM 10 4,ZO 11 (.len false (.t 10)),ZO 12 (.bin .lss (.t 9) (.t 11))] false) (.cond (.t 12) .skip (.exit 0))) (.seq (.block 1 (.seq (.region [ZM 15 4,ZM 16 5,ZO 17 (.iaddr 28 (.t 15) (.t 16)),ZO 18 (.load true 28 (.t 17)),ZM 19 0,ZO 20 (.call 38 [(.t 18),(.t 19)]),ZO 21 (.len false (.t 20)),ZO 22 (.bin .eql (.t 21) (.c (.int .i64 0)))] false) (.cond (.t 22) (.draw2 [ZM 23 3,ZM 24 4,ZM 25 5,ZO 26 (.iaddr 28 (.t 24) (.t 25)),ZO 27 (.faddr 0 (.t 26)),ZO 28 (.load false 1 (.t 27)),ZM 29 4,ZM 30 5,ZO 31 (.iaddr 28 (.t 29) (.t 30)),ZO 32 (.faddr 1 (.t 31)),ZO 33 (.load false 1 (.t 32)),ZO 34 (.build [(.int .i64 0),(.int .i64 0)] [(0,(1,(.t 28))),(1,(1,(.t 33)))]),ZO 35 (.bslice 2 1 [(.int .i64 0),(.int .i64 0)] [(0,(.t 34))]),ZO 36 (.app 2 16 [(.int .i64 0),(.int .i64 0)] false (.t 23) (.t 35)),ZM 3 36] [true,true,true,true,true,true,true,true,true,true,true,true,true,false,false]) .skip))) (.region [ZM 13 5,ZO 14 (.bin .add (.t 13) (.c (.int .i64 1))),ZM 5 14] false)))))) (.seq (.region [ZM 37 3,ZM 2 37] false) .ret)))))
def c_pandectref29_Places:VC:=(.seq (.region [ZO 4 (.mv (.c (.bool false)))] false) (.seq (.seq (.region [ZM 6 0,ZO 7 (.len false (.t 6)),ZM 8 1,ZO 9 (.len false (.t 8)),ZO 10 (.bin .neq (.t 7) (.t 9))] false) (.cond (.t 10) (.seq (.region [ZO 4 (.mv (.c (.bool false)))] false) .ret) .skip)) (.seq (.seq (.region [ZO 5 (.mv (.c (.int .i64 0)))] false) (.block 0 (.loop (.seq (.seq (.region [ZM 11 5,ZM 12 0,ZO 13 (.len false (.t 12)),ZO 14 (.bin .lss (.t 11) (.t 13))] false) (.cond (.t 14) .skip (.exit 0))) (.seq (.block 1 (.seq (.region [ZM 17 0,ZM 18 5,ZO 19 (.iaddr 2 (.t 17) (.t 18)),ZO 20 (.load true 2 (.t 19)),ZM 21 1,ZM 22 5,ZO 23 (.iaddr 2 (.t 21) (.t 22)),ZO 24 (.load true 2 (.t 23)),ZO 25 (.eqs true [.i,.i] (.t 20) (.t 24))] true) (.cond (.t 25) (.seq (.region [ZO 4 (.mv (.c (.bool false)))] false) .ret) .skip))) (.region [ZM 15 5,ZO 16 (.bin .add (.t 15) (.c (.int .i64 1))),ZM 5 16] false)))))) (.seq (.region [ZO 4 (.mv (.c (.bool true)))] false) .ret))))
theorem sp_pandectref29_Same (l m:List Sp) (hl:l.length ≤ 100000) (hm:m.length ≤ 100000):Zbo Tryz.prog 15 [.sl 2 (l.map Sp.enc),.sl 2 (m.map Sp.enc)] (.bool (decide (l = m))):=by
  refine Zam ?_ (cB _) (by simp only [Za0,List.mem_cons,List.not_mem_nil,or_false,forall_eq_or_imp,forall_eq,false_implies,implies_true]; repeat' (first  | exact cB _ | exact Zav _ | refine And.intro ?_ ?_))
  refine Zaq (vc:=c_pandectref29_Same) (ts:=[.t 4]) Go.Proofs.Tryz.func15 (by kernel_rfl) rfl rfl (Nat.le_of_ble_eq_true rfl) (by kernel_rfl) ?_
  unfold c_pandectref29_Same
  try dsimp only [ZM,ZO,ZN,ZG]
  refine Zac (Zaa [0,1] ?_)
  simp only [Zab,Zad,Zaf,pok,pval,VA.ev,Env.get,Env.put,Env.keep,Za2,Zae,Heap.nil,Nat.succ_ne_self,Nat.reduceEqDiff,ite_true,ite_false,true_and,reduceCtorEq,Nat.zero_add]
  refine Zac ?_
  refine Zac (Zaa [0,1,10] ?_)
  simp only [Zab,Zad,Zaf,pok,pval,VA.ev,Env.get,Env.put,Env.keep,Zae,intV,binV,Zah,lenV,Za8,Nat.succ_ne_self,Nat.reduceEqDiff,ite_true,ite_false,true_and,reduceCtorEq,List.length_map]
  refine Zai rfl (fun h1=>?_) (fun h1=>?_)
  · refine Zac (Zaa [4] ?_)
    simp only [Zab,Zad,Zaf,pok,pval,VA.ev,Env.get,Env.put,Env.keep,Zae,Nat.reduceEqDiff,ite_true,ite_false,true_and,reduceCtorEq]
    refine Zar ?_
    try simp only [Env.get,Zae,retQ,resV,Zau,RS.ev,RS.ok,ite_true,true_and,and_true]
    have e:decide (l = m) = false:=by
      rw [decide_eq_false_iff_not]
      rintro rfl
      simp at h1
    rw [e]; exact View.refl _ _
  have hlm:l.length = m.length:=by simp at h1; omega
  refine Zak ?_
  try simp only [Zae]
  refine Zac ?_
  refine Zac (Zaa [0,1,5] ?_)
  simp only [Zab,Zad,Zaf,pok,pval,VA.ev,Env.get,Env.put,Env.keep,Zae,Nat.succ_ne_self,Nat.reduceEqDiff,ite_true,ite_false,true_and,reduceCtorEq]
  refine Zaj ?_
  refine Za4 (σ:={ i:Nat // i ≤ l.length ∧ l.take i = m.take i }) (fun s=>([(0,.sl 2 (l.map Sp.enc)),(1,.sl 2 (m.map Sp.enc)),(5,pI s.1)],⟨[],0⟩)) (fun s=>l.length - s.1) ⟨0,by simp⟩ ?_ ?_ ?_
  · simp only [Env.get,Nat.succ_ne_self,Env.le,Nat.reduceEqDiff,ite_true,ite_false,true_and,and_true,reduceCtorEq]
    rfl
  · simp only [Heap.le,HL.le,Nat.le_refl,and_true]
  rintro ⟨i,hi,hpre⟩
  simp only []
  refine Zac ?_
  refine Zac (Zaa [0,1,5,14] ?_)
  simp only [Zab,Zad,Zaf,pok,pval,VA.ev,Env.get,Env.put,Env.keep,Zae,intV,binV,Zah,lenV,Za8,Heap.le,HL.le,Nat.succ_ne_self,Env.le,Nat.reduceEqDiff,ite_true,ite_false,true_and,and_true,reduceCtorEq,List.length_map]
  refine Zai rfl (fun h2=>?_) (fun h2=>?_)
  · refine Zak ?_
    try simp only [Zae]
    simp only [decide_eq_true_eq] at h2
    have ia:i < l.length:=by omega
    have ib:i < m.length:=by omega
    refine Zac ?_
    refine Zaj ?_
    refine Zac (Zb3 [0,1,5,25] (by simp [Heap.le,Heap.get,HL.le,HL.get]) ?_)
    simp only [Zbb,Zbu,QW,dok,dval,VOp.pure,VOp.simple,VOp.det,pok,pval,VA.ev,Env.get,Env.put,Env.keep,Zae,gd,aggV,isInt,numOf,lenV,Zag,Zap,Zbx,isAggP,Zax,Zas,PV.nth,PV.row,Nat.le_refl,Nat.succ_ne_self,eqOk,ekOk,Zbe,Zb8,List.length,List.getD_cons_zero,List.take,List.take_succ_cons,Nat.reduceEqDiff,Nat.reduceAdd,Bool.true_eq_false,ite_true,ite_false,true_and,and_true,implies_true,forall_const,reduceCtorEq,Nat.zero_add,List.length_cons,imp_self,Int.toNat_natCast,List.length_map,rowm ia,rowm ib,Sp.enc]
    repeat (with_reducible refine And.intro ?_ ?_; first | omega | (with_reducible constructor <;> omega) | exact False.elim | exact True.intro)
    refine Zai rfl (fun h3=>?_) (fun h3=>?_)
    · refine Zac (Zaa [4] ?_)
      simp only [Zab,Zad,Zaf,pok,pval,VA.ev,Env.get,Env.put,Env.keep,Zae,Nat.succ_ne_self,Nat.reduceEqDiff,ite_true,ite_false,true_and,reduceCtorEq]
      refine Zar ?_
      try simp only [Env.get,Zae,Zal,retQ,resV,Zau,RS.ev,RS.ok,ite_true,true_and,and_true]
      have e:decide (l = m) = false:=by
        rw [decide_eq_false_iff_not]
        rintro rfl
        simp at h3
      rw [e]; exact View.refl _ _
    have hs:l[i] = m[i]:=by
      have:l[i].frm = m[i].frm ∧ l[i].to = m[i].to:=by simpa using h3
      generalize l[i] = a at this
      generalize m[i] = b at this
      cases a; cases b; simp_all
    refine Zak ?_
    try simp only [Zae,Zal]
    refine Zaa [0,1,5] ?_
    simp only [Zab,Zad,Zaf,pok,pval,VA.ev,Env.get,Env.put,Env.keep,Zae,intV,binV,Zah,Nat.le_refl,Nat.succ_ne_self,Nat.reduceEqDiff,ite_true,ite_false,true_and,reduceCtorEq,w64 (n:=(i:Int) + 1) (by omega) (by omega)]
    refine ⟨⟨i + 1,by omega,by rw [List.take_add_one,List.take_add_one,List.getElem?_eq_getElem ia,List.getElem?_eq_getElem ib,hpre,hs]⟩,?_,?_⟩
    · rfl
    · simp only []; omega
  · refine Zaz ?_
    try simp only [Zae,Zal,retQ,ite_true]
    refine Zac (Zaa [4] ?_)
    simp only [Zab,Zad,Zaf,pok,pval,VA.ev,Env.get,Env.put,Env.keep,Zae,Nat.succ_ne_self,Nat.reduceEqDiff,ite_true,ite_false,true_and,reduceCtorEq]
    refine Zar ?_
    try simp only [Env.get,retQ,resV,Zau,RS.ev,RS.ok,ite_true,true_and,and_true]
    simp only [decide_eq_false_iff_not] at h2
    have e:decide (l = m) = true:=by
      have:i = l.length:=by omega
      subst this
      rw [List.take_length,hlm,List.take_length] at hpre
      simpa using hpre
    rw [e]; exact View.refl _ _
theorem memB_at (l:List Sp) (d:Int) {k:Nat} (hk:k < l.length) (h1:l[k].frm ≤ d) (h2:d < l[k].to):c.memB l d = true:=by
  unfold c.memB
  rw [List.any_eq_true]
  exact ⟨l[k],List.getElem_mem hk,by simp [h1,h2]⟩
theorem memB_no (l:List Sp) (d:Int) (h:∀ (j:Nat) (hj:j < l.length),¬ (l[j].frm ≤ d ∧ d < l[j].to)):c.memB l d = false:=by
  unfold c.memB
  rw [List.any_eq_false]
  intro x hx
  obtain ⟨j,hj,rfl⟩:=List.mem_iff_getElem.1 hx
  have:=h j hj
  simpa using this
theorem sp_pandectref29_Has (l:List Sp) (d:Int) (hl:l.length ≤ 1000000):Zbo Tryz.prog 22 [.sl 2 (l.map Sp.enc),pI d] (.bool (c.memB l d)):=by
  refine Zam ?_ (cB _) (by simp only [Za0,List.mem_cons,List.not_mem_nil,or_false,forall_eq_or_imp,forall_eq,false_implies,implies_true]; repeat' (first  | exact cI _ | exact cB _ | exact Zav _ | exact Za7 (by simp only [List.mem_cons,List.not_mem_nil,or_false,forall_eq]; first | exact cI _ | exact cS _ | exact Zaw _) | refine And.intro ?_ ?_))
  refine Zaq (vc:=c_pandectref29_Has) (ts:=[.t 4]) Go.Proofs.Tryz.func22 (by kernel_rfl) rfl rfl (Nat.le_of_ble_eq_true rfl) (by kernel_rfl) ?_
  unfold c_pandectref29_Has
  try dsimp only [ZM,ZO,ZN,ZG]
  refine Zac (Zaa [0,1] ?_)
  simp only [Zab,Zad,Zaf,pok,pval,VA.ev,Env.get,Env.put,Env.keep,Za2,Zae,Heap.nil,Nat.succ_ne_self,Nat.reduceEqDiff,ite_true,ite_false,true_and,reduceCtorEq,Nat.zero_add]
  refine Zac ?_
  refine Zac (Zaa [0,1,5] ?_)
  simp only [Zab,Zad,Zaf,pok,pval,VA.ev,Env.get,Env.put,Env.keep,Zae,Nat.succ_ne_self,Nat.reduceEqDiff,ite_true,ite_false,true_and,reduceCtorEq]
  refine Zaj ?_
  refine Za4 (σ:={ k:Nat // k ≤ l.length ∧ ∀ (j:Nat) (hj:j < l.length),j < k → ¬ (l[j].frm ≤ d ∧ d < l[j].to) }) (fun x=>([(0,.sl 2 (l.map Sp.enc)),(1,pI d),(5,pI x.1)],⟨[],0⟩)) (fun x=>l.length - x.1) ⟨0,Nat.zero_le _,fun j _ h=>by cases h⟩ ?_ ?_ ?_
  · simp only [Env.get,Nat.succ_ne_self,Env.le,Nat.reduceEqDiff,ite_true,ite_false,true_and,and_true,reduceCtorEq]
    rfl
  · simp only [Heap.le,HL.le,Nat.le_refl,and_true]
  rintro ⟨k,hk,hpre⟩
  simp only []
  refine Zac ?_
  refine Zac (Zaa [0,1,5,9] ?_)
  simp only [Zab,Zad,Zaf,pok,pval,VA.ev,Env.get,Env.put,Env.keep,Zae,intV,binV,Zah,lenV,Za8,Heap.le,HL.le,Nat.succ_ne_self,Env.le,Nat.reduceEqDiff,ite_true,ite_false,true_and,and_true,reduceCtorEq,List.length_map]
  refine Zai rfl (fun h1=>?_) (fun h1=>?_)
  · have ka:k < l.length:=by simp only [decide_eq_true_eq] at h1; omega
    refine Zak ?_
    try simp only [Zae]
    refine Zac ?_
    refine Zaj ?_
    have hat:=memB_at l d ka
    have hrow:(l.map Sp.enc).getD k [] = [pI l[k].frm,pI l[k].to]:=rowm ka
    have hnext:¬ (l[k].frm ≤ d ∧ d < l[k].to) → ∀ (j:Nat) (hj:j < l.length),j < k + 1 → ¬ (l[j].frm ≤ d ∧ d < l[j].to):=fun hn j hj hjk=>by
      by_cases e:j = k
      · subst e; exact hn
      · exact hpre j hj (by omega)
    generalize l[k] = s at hat hrow hnext
    refine VW_seqE (σ:={ b:Bool // b = true ↔ (s.frm ≤ d ∧ d < s.to) }) [0,1,5,27] (fun b=>[(0,.sl 2 (l.map Sp.enc)),(1,pI d),(5,pI k),(27,.bool b.1)]) ?_ ?_
    · by_cases c1:s.frm ≤ d
      · have e1:decide (s.frm ≤ d) = true:=decide_eq_true c1
        simp only [Zab,Zad,Za6,Zaf,pok,pval,VA.ev,Env.get,Env.put,Env.keep,Za1,isBool,aggV,intV,binV,Zah,isInt,numOf,lenV,Zao,Zan,Zag,Zap,Zax,Zas,PV.nth,PV.row,Nat.le_refl,Nat.succ_ne_self,Env.le,List.length,List.getD_cons_zero,List.take,List.drop,List.take_succ_cons,Nat.reduceEqDiff,Nat.reduceAdd,Nat.reduceLeDiff,Bool.false_eq_true,ite_true,ite_false,true_and,and_true,implies_true,reduceCtorEq,Nat.zero_add,List.length_cons,Int.toNat_natCast,List.length_map,hrow,e1]
        refine ⟨by omega,by omega,?_⟩
        exact ⟨⟨decide (d < s.to),by simp [c1]⟩,rfl⟩
      · have e1:decide (s.frm ≤ d) = false:=decide_eq_false c1
        simp only [Zab,Zad,Zbi,Zaf,pok,pval,VA.ev,Env.get,Env.put,Env.keep,Za1,isBool,aggV,intV,binV,Zah,isInt,numOf,lenV,Zao,Zan,Zag,Zap,Zax,Zas,PV.nth,PV.row,Nat.succ_ne_self,Env.le,List.length,List.getD_cons_zero,List.take,List.drop,List.take_succ_cons,Nat.reduceEqDiff,Nat.reduceAdd,Nat.reduceLeDiff,Bool.false_eq_true,ite_true,ite_false,true_and,and_true,implies_true,reduceCtorEq,Nat.zero_add,List.length_cons,Int.toNat_natCast,List.length_map,hrow,e1]
        refine ⟨by omega,?_⟩
        exact ⟨⟨false,by simp [c1]⟩,rfl⟩
    rintro ⟨b,hb⟩
    simp only []
    refine Zai rfl (fun h2=>?_) (fun h2=>?_)
    · refine Zac (Zaa [4] ?_)
      simp only [Zab,Zad,Zaf,pok,pval,VA.ev,Env.get,Env.put,Env.keep,Zae,Nat.succ_ne_self,Nat.reduceEqDiff,ite_true,ite_false,true_and,reduceCtorEq]
      refine Zar ?_
      try simp only [Env.get,Zae,Zal,retQ,resV,Zau,RS.ev,RS.ok,ite_true,true_and,and_true]
      rw [hat (hb.1 h2).1 (hb.1 h2).2]
      exact View.refl _ _
    refine Zak ?_
    try simp only [Zae,Zal]
    refine Zaa [0,1,5] ?_
    simp only [Zab,Zad,Zaf,pok,pval,VA.ev,Env.get,Env.put,Env.keep,Zae,intV,binV,Zah,Nat.le_refl,Nat.succ_ne_self,Nat.reduceEqDiff,ite_true,ite_false,true_and,reduceCtorEq,w64 (n:=(k:Int) + 1) (by omega) (by omega)]
    refine ⟨⟨k + 1,ka,hnext (fun h=>by rw [hb.2 h] at h2; cases h2)⟩,?_,?_⟩
    · rfl
    · simp only []; omega
  · have ka:k = l.length:=by simp only [decide_eq_false_iff_not] at h1; omega
    refine Zaz ?_
    try simp only [Zae,Zal,retQ,ite_true]
    refine Zac (Zaa [4] ?_)
    simp only [Zab,Zad,Zaf,pok,pval,VA.ev,Env.get,Env.put,Env.keep,Zae,Nat.succ_ne_self,Nat.reduceEqDiff,ite_true,ite_false,true_and,reduceCtorEq]
    refine Zar ?_
    try simp only [Env.get,retQ,resV,Zau,RS.ev,RS.ok,ite_true,true_and,and_true]
    rw [memB_no l d (fun j hj=>hpre j hj (by omega))]
    exact View.refl _ _
theorem chg_len (l:List Gz):(chgS l).length ≤ (dds l).length:=(chg_sub l).length_le
end Go.Proofs.YtehokmhebnkfdaaGreat.w
