import Derived.Test.YtehokmhebnkfdaaGreatI1
import Derived.Test.YtehokmhebnkfdaaGreatCR5
import Derived.Test.YtehokmhebnkfdaaGreatVmN
set_option linter.all false
namespace Go.Proofs.YtehokmhebnkfdaaGreat.w
open Go Go.VM
set_option maxRecDepth 20000
set_option maxHeartbeats 0
set_option pp.deepTerms false
def c_inforce_Days_1:VC:=(.seq (.region [ZO 5 (.box 28 (.t 0))] false) (.seq (.region [ZO 7 (.faddr 0 (.t 5)),ZO 8 (.load false 1 (.t 7)),ZO 9 (.load false 1 (.t 2)),ZO 10 (.bin .eql (.t 8) (.t 9)),ZM 11 10,ZG 12 (.faddr 1 (.t 5)) 11 true,ZG 13 (.load false 1 (.t 12)) 11 true,ZG 14 (.load false 1 (.t 3)) 11 true,ZG 15 (.bin .eql (.t 13) (.t 14)) 11 true,ZO 16 (.pick (.t 11) (.t 15) (.c (.bool false)))] false) (.cond (.t 16) (.region [ZM 17 1,ZN (.store 1 (.t 4) (.t 17))] false) .skip)))
def c_inforce_Days:VC:=(.seq (.region [ZO 3 (.box 1 (.t 0)),ZO 4 (.box 1 (.t 1)),ZO 6 (.mv (.c .nilsl))] false) (.seq (.region [ZO 7 (.alloc [.nilsl])] false) (.seq (.region [ZM 8 2,ZO 9 (.mkfn (.func 39) [] [(.t 3),(.t 4),(.t 7)]),ZO 10 (.call 34 [(.t 8),(.t 9)])] false) (.seq (.region [ZO 11 (.load false 1 (.t 7)),ZM 6 11] false) .ret))))
def c_inforce_On_1:VC:=(.seq (.region [ZO 5 (.box 28 (.t 0))] false) (.seq (.region [ZO 7 (.faddr 3 (.t 5)),ZO 8 (.faddr 16 (.t 7)),ZO 9 (.load false 1 (.t 8)),ZO 10 (.bin .eql (.t 9) (.c (.str []))),ZM 11 10,ZG 12 (.faddr 3 (.t 5)) 11 false,ZG 13 (.faddr 16 (.t 12)) 11 false,ZG 14 (.load false 1 (.t 13)) 11 false,ZG 15 (.load false 1 (.t 2)) 11 false,ZG 16 (.bin .eql (.t 14) (.t 15)) 11 false,ZO 17 (.pick (.t 11) (.c (.bool true)) (.t 16)),ZM 18 17,ZG 19 (.mv (.t 1)) 18 true,ZG 20 (.load false 1 (.t 3)) 18 true,ZG 21 (.call 36 [(.t 19),(.t 20)]) 18 true,ZO 22 (.pick (.t 18) (.t 21) (.c (.bool false)))] false) (.cond (.t 22) (.region [ZO 23 (.load false 1 (.t 4)),ZO 24 (.load true 28 (.t 5)),ZO 25 (.bslice 28 1 [(.int .i64 0),(.int .i64 0),(.int .i64 0),(.int .i64 0),.nilsl,.nilsl,(.int .i64 0),(.int .i64 0),(.int .i64 0),(.int .i64 0),(.int .i64 0),(.int .i64 0),(.str []),.nilsl,.nilsl,.nilsl,.nilsl,.nilsl,(.str []),(.str []),(.int .i64 0),(.int .i64 0),(.str []),(.int .i64 0),(.int .i64 0),(.int .i64 0),(.str []),.nilsl] [(0,(.t 24))]),ZO 26 (.app 28 392 [(.int .i64 0),(.int .i64 0),(.int .i64 0),(.int .i64 0),.nilsl,.nilsl,(.int .i64 0),(.int .i64 0),(.int .i64 0),(.int .i64 0),(.int .i64 0),(.int .i64 0),(.str []),.nilsl,.nilsl,.nilsl,.nilsl,.nilsl,(.str []),(.str []),(.int .i64 0),(.int .i64 0),(.str []),(.int .i64 0),(.int .i64 0),(.int .i64 0),(.str []),.nilsl] false (.t 23) (.t 25)),ZN (.store 1 (.t 4) (.t 26))] false) .skip)))
def c_inforce_On:VC:=(.seq (.region [ZO 3 (.box 1 (.t 0)),ZO 4 (.box 1 (.t 1)),ZO 6 (.mv (.c .nilsl))] false) (.seq (.region [ZO 7 (.alloc [.nilsl])] false) (.seq (.region [ZM 8 2,ZO 9 (.mkfn (.func 35) [] [(.t 4),(.t 3),(.t 7)]),ZO 10 (.call 34 [(.t 8),(.t 9)])] false) (.seq (.region [ZO 11 (.load false 1 (.t 7)),ZM 6 11] false) .ret))))
def c_inforce_Pending_1:VC:=(.seq (.region [ZO 3 (.box 28 (.t 0))] false) (.seq (.region [ZM 5 1,ZO 6 (.len false (.t 5)),ZO 7 (.bin .eql (.t 6) (.c (.int .i64 0)))] false) (.cond (.t 7) (.region [ZO 8 (.load false 1 (.t 2)),ZO 9 (.faddr 0 (.t 3)),ZO 10 (.load false 1 (.t 9)),ZO 11 (.faddr 1 (.t 3)),ZO 12 (.load false 1 (.t 11)),ZO 13 (.build [(.int .i64 0),(.int .i64 0)] [(0,(1,(.t 10))),(1,(1,(.t 12)))]),ZO 14 (.bslice 2 1 [(.int .i64 0),(.int .i64 0)] [(0,(.t 13))]),ZO 15 (.app 2 16 [(.int .i64 0),(.int .i64 0)] false (.t 8) (.t 14)),ZN (.store 1 (.t 2) (.t 15))] false) .skip)))
def c_inforce_Pending:VC:=(.seq (.region [ZO 2 (.mv (.c .nilsl))] false) (.seq (.region [ZO 3 (.alloc [.nilsl])] false) (.seq (.region [ZM 4 0,ZO 5 (.mkfn (.func 56) [] [(.t 3)]),ZO 6 (.call 34 [(.t 4),(.t 5)])] false) (.seq (.region [ZO 7 (.load false 1 (.t 3)),ZM 2 7] false) .ret))))
noncomputable def lastD (l:List Gz) (act item:Int) (r:List EI):Option (List Sp):=r.foldl (fun o d=>if d.act = act ∧ d.item = item then some (Zcj l d) else o) none
def outV:Option (List Sp) → PV
  | none=>.nilsl
  | some D=>.sl 2 (D.map Sp.enc)
theorem take_one {α:Type} {l:List α} {k:Nat} (h:k < l.length) (z:α):l.take (k + 1) = l.take k ++ [l.getD k z]:=by
  rw [List.take_add_one,List.getElem?_eq_getElem h,List.getD_eq_getElem?_getD,List.getElem?_eq_getElem h]; rfl
theorem lastD_step (l:List Gz) (act item:Int) {r:List EI} {k:Nat} (h:k < r.length):lastD l act item (r.take (k + 1)) = if (r.getD k EI0).act = act ∧ (r.getD k EI0).item = item then some (Zcj l (r.getD k EI0)) else lastD l act item (r.take k):=by
  unfold lastD
  rw [take_one h EI0,List.foldl_append]; rfl
theorem nod3 {a b c:Nat × AB} (h1:a.1 ≠ b.1) (h2:a.1 ≠ c.1) (h3:b.1 ≠ c.1):Nod [a,b,c]:=by simp [Nod,h1,h2,h3]
theorem nod4 {a b c d:Nat × AB} (h1:a.1 ≠ b.1) (h2:a.1 ≠ c.1) (h3:b.1 ≠ c.1) (h4:a.1 ≠ d.1) (h5:b.1 ≠ d.1) (h6:c.1 ≠ d.1):Nod [a,b,c,d]:=by simp [Nod,h1,h2,h3,h4,h5,h6]
theorem nod2 {a b:Nat × AB} (h1:a.1 ≠ b.1):Nod [a,b]:=by simp [Nod,h1]
theorem outV_view (h:Heap) (o:Option (List Sp)):View h (outV o) (.sl 2 ((o.getD []).map Sp.enc)):=by
  cases o with
  | none=>exact View.nil _ _
  | some D=>exact View.refl _ _
theorem back_Days (l : List Gz) (act item : Int) : Back 39 [.loc 0 0 0, .loc 1 0 0, .loc 2 0 0] (chgS l).length (fun k => (chgS l).getD k EI0) (fun k => Zcj l ((chgS l).getD k EI0))
    (fun k L=>L = [(2,.arr false 1 [[outV (lastD l act item ((chgS l).take k))]]),(1,.arr false 1 [[pI item]]),(0,.arr false 1 [[pI act]])]):=by
  intro k hk L t hL hlt hnod
  subst hL
  have h2:2 < t:=hlt _ List.mem_cons_self
  have hstep:=lastD_step l act item hk
  simp only [] 
  generalize (chgS l).getD k EI0 = d at hstep ⊢
  generalize Zcj l d = D at hstep ⊢
  generalize lastD l act item ((chgS l).take k) = o at hstep ⊢
  refine Zbg.drop ?_
  refine Zaq (vc:=c_inforce_Days_1) (ts:=[]) Go.Proofs.Tryz.func39 (by kernel_rfl) rfl rfl (Nat.le_of_ble_eq_true rfl) (by kernel_rfl) ?_
  unfold c_inforce_Days_1
  try dsimp only [ZM,ZO,ZN,ZG]
  have qi0:(0 = 1) = False:=eq_false (by omega)
  have qi1:(0 = 2) = False:=eq_false (by omega)
  have qi2:(0 = t) = False:=eq_false (by omega)
  have qi3:(0 = (t + 1)) = False:=eq_false (by omega)
  have qi4:(1 = 0) = False:=eq_false (by omega)
  have qi5:(1 = 2) = False:=eq_false (by omega)
  have qi6:(1 = t) = False:=eq_false (by omega)
  have qi7:(1 = (t + 1)) = False:=eq_false (by omega)
  have qi8:(2 = 0) = False:=eq_false (by omega)
  have qi9:(2 = 1) = False:=eq_false (by omega)
  have qi10:(2 = t) = False:=eq_false (by omega)
  have qi11:(2 = (t + 1)) = False:=eq_false (by omega)
  have qi12:(t = 0) = False:=eq_false (by omega)
  have qi13:(t = 1) = False:=eq_false (by omega)
  have qi14:(t = 2) = False:=eq_false (by omega)
  have qi15:(t = (t + 1)) = False:=eq_false (by omega)
  have qi16:((t + 1) = 0) = False:=eq_false (by omega)
  have qi17:((t + 1) = 1) = False:=eq_false (by omega)
  have qi18:((t + 1) = 2) = False:=eq_false (by omega)
  have qi19:((t + 1) = t) = False:=eq_false (by omega)
  refine Zac (Zaa [1,2,3,4,5] ?_)
  simp only [Zab,Zad,Zaf,VA.ev,Env.get,Env.put,Env.keep,Za2,Zae,PV.cells,PV.fits,Heap.le,Heap.push,Nat.succ_ne_self,AB.live,Nat.reduceEqDiff,Nat.reduceAdd,ite_true,ite_false,true_and,reduceCtorEq,BEq.rfl,Nat.zero_add,Zb6]
  have fin:∀ (v:PV),v = outV (lastD l act item ((chgS l).take (k + 1))) → ∃ L' t',t ≤ t' ∧ t' ≤ t + 10 ∧ (⟨[(2,.arr false 1 [[v]]),(1,.arr false 1 [[pI item]]),(0,.arr false 1 [[pI act]])],t + 1⟩:Heap) = ⟨L',t'⟩ ∧ L' = [(2,.arr false 1 [[outV (lastD l act item ((chgS l).take (k + 1)))]]),(1,.arr false 1 [[pI item]]),(0,.arr false 1 [[pI act]])] ∧ Nod L' ∧ (∀ q ∈ L',q.1 < t') ∧ (∀ q ∈ L',(∃ r ∈ [(2,AB.arr false 1 [[outV o]]),(1,.arr false 1 [[pI item]]),(0,.arr false 1 [[pI act]])],r.1 = q.1) ∨ t ≤ q.1) ∧ ∀ q ∈ L',q.2.live = true:=fun v hv =>
    ⟨_,_,Nat.le_succ _,by omega,rfl,by rw [hv],nod3 (by simp) (by simp) (by simp),by simp <;> omega,by simp,by simp [AB.live]⟩
  by_cases c:d.act = act ∧ d.item = item
  · obtain ⟨c1,c2⟩:=c
    rw [if_pos ⟨c1,c2⟩] at hstep
    have e1:(d.act == act) = true:=by simpa using c1
    have e2:(d.item == item) = true:=by simpa using c2
    refine Zac (Zaa [1,4,16] ?_)
    simp only [Zab,Zad,Za6,Zaf,pok,pval,VA.ev,Env.get,Env.put,Env.keep,Zae,Za1,isBool,aggV,intV,binV,Zah,Zao,Zan,Zag,Zap,PV.nth,PV.row,Heap.get,HL.get,Nat.le_refl,Nat.succ_ne_self,List.length,List.getD_cons_zero,List.take,List.drop,List.take_succ_cons,Nat.reduceEqDiff,Nat.reduceLT,Nat.reduceLeDiff,Bool.false_eq_true,ite_true,ite_false,true_and,and_true,implies_true,Nat.zero_add,Nat.add_zero,List.length_cons,Zb6,ei_act,ei_item,ei_l1,e1,e2,qi0,qi1,qi2,qi3,qi4,qi5,qi6,qi7,qi8,qi9,qi10,qi11,qi12,qi13,qi14,qi15,qi16,qi17,qi18,qi19]
    refine Zai rfl (fun _=>?_) (fun h=>by cases h)
    refine Zaa [] ?_
    simp only [Zab,Zad,Zaf,pok,pval,VA.ev,Env.get,Env.put,retQ,Zau,PV.cells,PV.fits,overlay,PV.row,Heap.get,Heap.set,HL.get,HL.set,HL.del,Nat.le_refl,Zbh,Za9,List.set,List.length,List.getD_cons_zero,List.take,List.drop,List.drop_succ_cons,List.cons_append,List.nil_append,Nat.reduceEqDiff,Nat.reduceLT,ite_true,ite_false,true_and,and_true,BEq.rfl,Nat.zero_add,List.length_cons,qi0,qi1,qi2,qi3,qi4,qi5,qi6,qi7,qi8,qi9,qi10,qi11,qi12,qi13,qi14,qi15,qi16,qi17,qi18,qi19]
    refine ⟨⟨[(2,.arr false 1 [[.sl 2 (D.map Sp.enc)]]),(1,.arr false 1 [[pI item]]),(0,.arr false 1 [[pI act]])],t + 1⟩,?_,fin _ (by rw [hstep]; rfl)⟩
    try simp only [Heap.get,HL.get,HL.le,Nat.le_refl,ite_true,ite_false,and_true,qi0,qi1,qi2,qi3,qi4,qi5,qi6,qi7,qi8,qi9,qi10,qi11,qi12,qi13,qi14,qi15,qi16,qi17,qi18,qi19]
    all_goals (repeat' (first | rfl | trivial | omega | (simp only []; omega) | refine And.intro ?_ ?_))
  · rw [if_neg c] at hstep
    have key:∃ b1 b2,(d.act == act) = b1 ∧ (d.item == item) = b2 ∧ (b1 = false ∨ b1 = true ∧ b2 = false):=by
      refine ⟨_,_,rfl,rfl,?_⟩
      by_cases c1:d.act = act
      · refine .inr ⟨by simpa using c1,?_⟩
        have:d.item ≠ item:=fun h=>c ⟨c1,h⟩
        simpa using this
      · exact .inl (by simpa using c1)
    obtain ⟨b1,b2,e1,e2,hb⟩:=key
    rcases hb with rfl | ⟨rfl,rfl⟩
    · refine Zac (Zaa [1,4,16] ?_)
      simp only [Zab,Zad,Zbi,Zaf,pok,pval,VA.ev,Env.get,Env.put,Env.keep,Zae,Za1,isBool,aggV,intV,binV,Zah,Zao,Zan,Zag,Zap,PV.nth,PV.row,Heap.get,HL.get,Nat.le_refl,Nat.succ_ne_self,List.length,List.getD_cons_zero,List.take,List.drop,List.take_succ_cons,Nat.reduceEqDiff,Nat.reduceLT,Nat.reduceLeDiff,Bool.false_eq_true,ite_true,ite_false,true_and,and_true,implies_true,Nat.zero_add,Nat.add_zero,List.length_cons,Zb6,ei_act,ei_item,ei_l1,e1,e2,qi0,qi1,qi2,qi3,qi4,qi5,qi6,qi7,qi8,qi9,qi10,qi11,qi12,qi13,qi14,qi15,qi16,qi17,qi18,qi19]
      refine Zai rfl (fun h=>by cases h) (fun _=>?_)
      refine Zak ?_
      try simp only [retQ,Zau,true_and]
      refine ⟨⟨[(2,.arr false 1 [[outV o]]),(1,.arr false 1 [[pI item]]),(0,.arr false 1 [[pI act]])],t + 1⟩,?_,fin _ (by rw [hstep])⟩
      try simp only [Heap.get,HL.get,HL.le,Nat.le_refl,ite_true,ite_false,and_true,qi0,qi1,qi2,qi3,qi4,qi5,qi6,qi7,qi8,qi9,qi10,qi11,qi12,qi13,qi14,qi15,qi16,qi17,qi18,qi19]
      all_goals (repeat' (first | rfl | trivial | omega | (simp only []; omega) | refine And.intro ?_ ?_))
    · refine Zac (Zaa [1,4,16] ?_)
      simp only [Zab,Zad,Za6,Zaf,pok,pval,VA.ev,Env.get,Env.put,Env.keep,Zae,Za1,isBool,aggV,intV,binV,Zah,Zao,Zan,Zag,Zap,PV.nth,PV.row,Heap.get,HL.get,Nat.le_refl,Nat.succ_ne_self,List.length,List.getD_cons_zero,List.take,List.drop,List.take_succ_cons,Nat.reduceEqDiff,Nat.reduceLT,Nat.reduceLeDiff,Bool.false_eq_true,ite_true,ite_false,true_and,and_true,implies_true,Nat.zero_add,Nat.add_zero,List.length_cons,Zb6,ei_act,ei_item,ei_l1,e1,e2,qi0,qi1,qi2,qi3,qi4,qi5,qi6,qi7,qi8,qi9,qi10,qi11,qi12,qi13,qi14,qi15,qi16,qi17,qi18,qi19]
      refine Zai rfl (fun h=>by cases h) (fun _=>?_)
      refine Zak ?_
      try simp only [retQ,Zau,true_and]
      refine ⟨⟨[(2,.arr false 1 [[outV o]]),(1,.arr false 1 [[pI item]]),(0,.arr false 1 [[pI act]])],t + 1⟩,?_,fin _ (by rw [hstep])⟩
      try simp only [Heap.get,HL.get,HL.le,Nat.le_refl,ite_true,ite_false,and_true,qi0,qi1,qi2,qi3,qi4,qi5,qi6,qi7,qi8,qi9,qi10,qi11,qi12,qi13,qi14,qi15,qi16,qi17,qi18,qi19]
      all_goals (repeat' (first | rfl | trivial | omega | (simp only []; omega) | refine And.intro ?_ ?_))
theorem sp_inforce_Days (act item:Int) (l:List Gz) (hs:Smal l) (hd5:(dds l).length ≤ 5000):Zbo Tryz.prog 16 [pI act,pI item,.sl 4 (l.map Gz.enc)] (.sl 2 (((lastD l act item (chgS l)).getD []).map Sp.enc)):=by
  refine Zam ?_ (Zav _) (by simp only [Za0,List.mem_cons,List.not_mem_nil,or_false,forall_eq_or_imp,forall_eq,false_implies,implies_true]; repeat' (first  | exact cI _ | exact Zbp _ | exact Zav _ | exact Za7 (by simp only [List.mem_cons,List.not_mem_nil,or_false,forall_eq]; first | exact cI _ | exact cS _ | exact Zaw _) | refine And.intro ?_ ?_))
  refine Zaq (vc:=c_inforce_Days) (ts:=[.t 6]) Go.Proofs.Tryz.func16 (by kernel_rfl) rfl rfl (Nat.le_of_ble_eq_true rfl) (by kernel_rfl) ?_
  unfold c_inforce_Days
  try dsimp only [ZM,ZO,ZN,ZG]
  refine Zac (Zaa [2,3,4] ?_)
  simp only [Zab,Zad,Zaf,pok,pval,VA.ev,Env.get,Env.put,Env.keep,Za2,Zae,PV.cells,PV.fits,Heap.push,Heap.nil,Nat.succ_ne_self,Nat.reduceEqDiff,Nat.reduceAdd,ite_true,ite_false,true_and,reduceCtorEq,BEq.rfl,Nat.zero_add]
  refine Zac (Zaa [2,3,4,7] ?_)
  simp only [Zab,Zad,Zaf,Env.get,Env.put,Env.keep,Zae,Heap.push,Nat.succ_ne_self,List.length,Nat.reduceEqDiff,Nat.reduceAdd,ite_true,ite_false,Nat.zero_add]
  refine Zac (Zaa [7] ?_)
  simp only [Zab,Zad,Zaf,pok,pval,VA.ev,Env.get,Env.put,Env.keep,Zae,Nat.succ_ne_self,List.map,Nat.reduceEqDiff,ite_true,ite_false,true_and]
  refine Zbg.mono (sp_changes l hs hd5 39 [.loc 0 0 0,.loc 1 0 0,.loc 2 0 0] _ (back_Days l act item) _ 3 ?_ ?_ ?_ ?_) ?_
  · rfl
  · simp
  · exact nod3 (by simp) (by simp) (by simp)
  · simp [AB.live]
  rintro p h' ⟨L',t',ht,rfl,rfl,_⟩
  rw [List.take_length]
  skip
  refine Zac (Zaa [6] ?_)
  simp only [Zab,Zad,Zaf,pok,pval,VA.ev,Env.get,Env.put,Env.keep,Zae,aggV,Zag,Zap,PV.nth,PV.row,Heap.get,HL.get,Nat.le_refl,Nat.succ_ne_self,List.length,List.getD_cons_zero,List.take,List.drop,List.take_succ_cons,Nat.reduceEqDiff,Nat.reduceLT,Bool.false_eq_true,ite_true,ite_false,true_and,and_true,implies_true,reduceCtorEq,Nat.zero_add,List.length_cons]
  refine Zar ?_
  try simp only [Env.get,retQ,resV,Zau,RS.ev,RS.ok,ite_true,true_and,and_true]
  exact outV_view _ _
noncomputable def onB (l:List Gz) (day:Int) (purpose:Str) (d:EI):Bool:=(d.it.forr == [] || d.it.forr == purpose) && c.memB (Zcj l d) day
noncomputable def onS (l:List Gz) (day:Int) (purpose:Str):List EI:=(chgS l).filter (onB l day purpose)
theorem filter_step {p:EI → Bool} {r:List EI} {k:Nat} (h:k < r.length):(r.take (k + 1)).filter p = (r.take k).filter p ++ (if p (r.getD k EI0) = true then [r.getD k EI0] else []):=by
  rw [take_one h EI0,List.filter_append]
  simp only [List.filter_cons,List.filter_nil]
theorem ei_for (e:EI):((e.enc.drop 3).drop 16).take 1 = [.str e.it.forr]:=by rw [ei_it,It.Zcl]; rfl
theorem ei_l19 (e:EI):((e.enc.drop 3).drop 16).length = 9:=by rw [ei_it,List.length_drop,It.Zby]
theorem ei_d19 (e:EI):List.drop 19 e.enc = (e.enc.drop 3).drop 16:=by rw [List.drop_drop]
theorem back_On (l : List Gz) (day : Int) (purpose : Str) (hd : (dds l).length ≤ 5000) : Back 35 [.loc 1 0 0, .loc 0 0 0, .loc 2 0 0] (chgS l).length (fun k => (chgS l).getD k EI0) (fun k => Zcj l ((chgS l).getD k EI0))
    (fun k L=>∃ id,id ≠ 0 ∧ id ≠ 1 ∧ id ≠ 2 ∧ L = [(id,.arr false 28 ((((chgS l).take k).filter (onB l day purpose)).map EI.enc)),(2,.arr false 1 [[.own id 0 (((chgS l).take k).filter (onB l day purpose)).length]]),(1,.arr false 1 [[.str purpose]]),(0,.arr false 1 [[pI day]])]):=by
  intro k hk L t hL hlt hnod
  obtain ⟨id,i0,i1,i2,rfl⟩:=hL
  have h2:id < t:=hlt _ List.mem_cons_self
  have h3:2 < t:=hlt _ (List.mem_cons_of_mem _ List.mem_cons_self)
  have hstep:=filter_step (p:=onB l day purpose) hk
  have hlen:(((chgS l).take k).filter (onB l day purpose)).length ≤ 5000:=by
    have h1:=List.length_filter_le (onB l day purpose) ((chgS l).take k)
    have h4:=(chg_sub l).length_le
    rw [List.length_take] at h1
    omega
  have hcan:=days_canon l ((chgS l).getD k EI0)
  have hdl:=days_len l ((chgS l).getD k EI0)
  have hon:onB l day purpose ((chgS l).getD k EI0) = ((((chgS l).getD k EI0).it.forr == [] || ((chgS l).getD k EI0).it.forr == purpose) && c.memB (Zcj l ((chgS l).getD k EI0)) day):=rfl
  simp only []
  generalize (chgS l).getD k EI0 = d at hstep hcan hdl hon ⊢
  generalize Zcj l d = D at hcan hdl hon ⊢
  generalize ((chgS l).take k).filter (onB l day purpose) = G at hstep hlen ⊢
  have C:=c.sp_dateset_Contains D day (by omega)
  rw [c.norm_self hcan] at C
  have hgl:(G.map EI.enc).length = G.length:=by simp
  have hgt:(G.map EI.enc).take G.length = G.map EI.enc:=List.take_of_length_le (by simp)
  refine Zbg.drop ?_
  refine Zaq (vc:=c_inforce_On_1) (ts:=[]) Go.Proofs.Tryz.func35 (by kernel_rfl) rfl rfl (Nat.le_of_ble_eq_true rfl) (by kernel_rfl) ?_
  unfold c_inforce_On_1
  try dsimp only [ZM,ZO,ZN,ZG]
  have qi0:(0 = 1) = False:=eq_false (by omega)
  have qi1:(0 = 2) = False:=eq_false (by omega)
  have qi2:(0 = id) = False:=eq_false (by omega)
  have qi3:(0 = t) = False:=eq_false (by omega)
  have qi4:(0 = (t + 1)) = False:=eq_false (by omega)
  have qi5:(0 = (t + 1 + 1)) = False:=eq_false (by omega)
  have qi6:(1 = 0) = False:=eq_false (by omega)
  have qi7:(1 = 2) = False:=eq_false (by omega)
  have qi8:(1 = id) = False:=eq_false (by omega)
  have qi9:(1 = t) = False:=eq_false (by omega)
  have qi10:(1 = (t + 1)) = False:=eq_false (by omega)
  have qi11:(1 = (t + 1 + 1)) = False:=eq_false (by omega)
  have qi12:(2 = 0) = False:=eq_false (by omega)
  have qi13:(2 = 1) = False:=eq_false (by omega)
  have qi14:(2 = id) = False:=eq_false (by omega)
  have qi15:(2 = t) = False:=eq_false (by omega)
  have qi16:(2 = (t + 1)) = False:=eq_false (by omega)
  have qi17:(2 = (t + 1 + 1)) = False:=eq_false (by omega)
  have qi18:(id = 0) = False:=eq_false (by omega)
  have qi19:(id = 1) = False:=eq_false (by omega)
  have qi20:(id = 2) = False:=eq_false (by omega)
  have qi21:(id = t) = False:=eq_false (by omega)
  have qi22:(id = (t + 1)) = False:=eq_false (by omega)
  have qi23:(id = (t + 1 + 1)) = False:=eq_false (by omega)
  have qi24:(t = 0) = False:=eq_false (by omega)
  have qi25:(t = 1) = False:=eq_false (by omega)
  have qi26:(t = 2) = False:=eq_false (by omega)
  have qi27:(t = id) = False:=eq_false (by omega)
  have qi28:(t = (t + 1)) = False:=eq_false (by omega)
  have qi29:(t = (t + 1 + 1)) = False:=eq_false (by omega)
  have qi30:((t + 1) = 0) = False:=eq_false (by omega)
  have qi31:((t + 1) = 1) = False:=eq_false (by omega)
  have qi32:((t + 1) = 2) = False:=eq_false (by omega)
  have qi33:((t + 1) = id) = False:=eq_false (by omega)
  have qi34:((t + 1) = t) = False:=eq_false (by omega)
  have qi35:((t + 1) = (t + 1 + 1)) = False:=eq_false (by omega)
  have qi36:((t + 1 + 1) = 0) = False:=eq_false (by omega)
  have qi37:((t + 1 + 1) = 1) = False:=eq_false (by omega)
  have qi38:((t + 1 + 1) = 2) = False:=eq_false (by omega)
  have qi39:((t + 1 + 1) = id) = False:=eq_false (by omega)
  have qi40:((t + 1 + 1) = t) = False:=eq_false (by omega)
  have qi41:((t + 1 + 1) = (t + 1)) = False:=eq_false (by omega)
  refine Zac (Zaa [1,2,3,4,5] ?_)
  simp only [Zab,Zad,Zaf,VA.ev,Env.get,Env.put,Env.keep,Za2,Zae,PV.cells,PV.fits,Heap.le,Heap.push,Nat.succ_ne_self,AB.live,Nat.reduceEqDiff,Nat.reduceAdd,ite_true,ite_false,true_and,ne_eq,reduceCtorEq,BEq.rfl,Nat.zero_add,Zb6]
  refine Zac (VW_mid (σ:={ b:Bool // b = onB l day purpose d }) (fun b=>([(4,.loc 2 0 0),(5,.loc t 0 0),(22,.bool b.1)],⟨[(t,.arr false 28 [d.enc]),(id,.arr false 28 (G.map EI.enc)),(2,.arr false 1 [[.own id 0 G.length]]),(1,.arr false 1 [[.str purpose]]),(0,.arr false 1 [[pI day]])],t + 1⟩)) (Zaa [4,5,22] ?_) (fun b=>?_))
  · cases e1:(d.it.forr == [])
    · cases e2:(d.it.forr == purpose)
      · simp only [midQ,Zab,Zad,Za6,Zbi,Zaf,pok,pval,VA.ev,Env.get,Env.put,Env.keep,Za1,isBool,aggV,binV,Zah,strV,Zao,Zan,Zag,Zap,PV.nth,PV.row,Heap.get,Heap.le,HL.get,HL.le,Nat.le_refl,Nat.succ_ne_self,Env.le,List.length,List.getD_cons_zero,List.take,List.drop,List.take_succ_cons,Nat.reduceEqDiff,Nat.reduceAdd,Nat.reduceLT,Nat.reduceLeDiff,Bool.false_eq_true,ite_true,ite_false,true_and,and_true,implies_true,Nat.zero_add,List.length_cons,Zb6,ei_for,ei_l19,ei_d19,e1,e2,qi0,qi1,qi2,qi3,qi4,qi5,qi6,qi7,qi8,qi9,qi10,qi11,qi12,qi13,qi14,qi15,qi16,qi17,qi18,qi19,qi20,qi21,qi22,qi23,qi24,qi25,qi26,qi27,qi28,qi29,qi30,qi31,qi32,qi33,qi34,qi35,qi36,qi37,qi38,qi39,qi40,qi41]
        refine ⟨⟨false,by rw [hon,e1,e2]; rfl⟩,?_⟩
        try simp only [qi0,qi1,qi2,qi3,qi4,qi5,qi6,qi7,qi8,qi9,qi10,qi11,qi12,qi13,qi14,qi15,qi16,qi17,qi18,qi19,qi20,qi21,qi22,qi23,qi24,qi25,qi26,qi27,qi28,qi29,qi30,qi31,qi32,qi33,qi34,qi35,qi36,qi37,qi38,qi39,qi40,qi41]
        all_goals (repeat' (first | rfl | trivial | omega | (simp only []; omega) | refine And.intro ?_ ?_))
      · simp only [midQ,Zab,Zad,Za6,Zaf,pok,pval,VA.ev,Env.get,Env.put,Env.keep,Za1,isBool,aggV,binV,Zah,strV,Zao,Zan,Zag,Zap,PV.nth,PV.row,Heap.get,Heap.le,HL.get,HL.le,Nat.le_refl,Nat.succ_ne_self,Env.le,List.map,List.length,List.getD_cons_zero,List.take,List.drop,List.take_succ_cons,Nat.reduceEqDiff,Nat.reduceAdd,Nat.reduceLT,Nat.reduceLeDiff,Bool.false_eq_true,ite_true,ite_false,true_and,and_true,implies_true,Nat.zero_add,List.length_cons,Zb6,ei_for,ei_l19,ei_d19,e1,e2,qi0,qi1,qi2,qi3,qi4,qi5,qi6,qi7,qi8,qi9,qi10,qi11,qi12,qi13,qi14,qi15,qi16,qi17,qi18,qi19,qi20,qi21,qi22,qi23,qi24,qi25,qi26,qi27,qi28,qi29,qi30,qi31,qi32,qi33,qi34,qi35,qi36,qi37,qi38,qi39,qi40,qi41]
        refine Zat C ?_
        try simp only [HL.get,Nat.le_refl,ite_true,ite_false,and_true,qi0,qi1,qi2,qi3,qi4,qi5,qi6,qi7,qi8,qi9,qi10,qi11,qi12,qi13,qi14,qi15,qi16,qi17,qi18,qi19,qi20,qi21,qi22,qi23,qi24,qi25,qi26,qi27,qi28,qi29,qi30,qi31,qi32,qi33,qi34,qi35,qi36,qi37,qi38,qi39,qi40,qi41]
        refine ⟨⟨c.memB D day,by rw [hon,e1,e2]; rfl⟩,?_⟩
        try simp only [qi0,qi1,qi2,qi3,qi4,qi5,qi6,qi7,qi8,qi9,qi10,qi11,qi12,qi13,qi14,qi15,qi16,qi17,qi18,qi19,qi20,qi21,qi22,qi23,qi24,qi25,qi26,qi27,qi28,qi29,qi30,qi31,qi32,qi33,qi34,qi35,qi36,qi37,qi38,qi39,qi40,qi41]
        all_goals (repeat' (first | rfl | trivial | omega | (simp only []; omega) | refine And.intro ?_ ?_))
    · simp only [midQ,Zab,Zad,Za6,Zbz,Zaf,pok,pval,VA.ev,Env.get,Env.put,Env.keep,Za1,isBool,aggV,binV,Zah,strV,Zao,Zan,Zag,Zap,PV.nth,PV.row,Heap.get,Heap.le,HL.get,HL.le,Nat.le_refl,Nat.succ_ne_self,Env.le,List.map,List.length,List.getD_cons_zero,List.take,List.drop,List.take_succ_cons,Nat.reduceEqDiff,Nat.reduceAdd,Nat.reduceLT,Nat.reduceLeDiff,Bool.false_eq_true,ite_true,ite_false,true_and,and_true,implies_true,Nat.zero_add,List.length_cons,Zb6,ei_for,ei_l19,ei_d19,e1,qi0,qi1,qi2,qi3,qi4,qi5,qi6,qi7,qi8,qi9,qi10,qi11,qi12,qi13,qi14,qi15,qi16,qi17,qi18,qi19,qi20,qi21,qi22,qi23,qi24,qi25,qi26,qi27,qi28,qi29,qi30,qi31,qi32,qi33,qi34,qi35,qi36,qi37,qi38,qi39,qi40,qi41]
      refine Zat C ?_
      try simp only [HL.get,Nat.le_refl,ite_true,ite_false,and_true,qi0,qi1,qi2,qi3,qi4,qi5,qi6,qi7,qi8,qi9,qi10,qi11,qi12,qi13,qi14,qi15,qi16,qi17,qi18,qi19,qi20,qi21,qi22,qi23,qi24,qi25,qi26,qi27,qi28,qi29,qi30,qi31,qi32,qi33,qi34,qi35,qi36,qi37,qi38,qi39,qi40,qi41]
      refine ⟨⟨c.memB D day,by rw [hon,e1]; rfl⟩,?_⟩
      try simp only [qi0,qi1,qi2,qi3,qi4,qi5,qi6,qi7,qi8,qi9,qi10,qi11,qi12,qi13,qi14,qi15,qi16,qi17,qi18,qi19,qi20,qi21,qi22,qi23,qi24,qi25,qi26,qi27,qi28,qi29,qi30,qi31,qi32,qi33,qi34,qi35,qi36,qi37,qi38,qi39,qi40,qi41]
      all_goals (repeat' (first | rfl | trivial | omega | (simp only []; omega) | refine And.intro ?_ ?_))
  obtain ⟨b,hb⟩:=b
  simp only []
  refine Zai rfl (fun h1=>?_) (fun h1=>?_)
  · rw [← hb,h1,if_pos rfl] at hstep
    refine Zaa [] ?_
    simp only [Zab,Zad,Zaf,pok,pval,VA.ev,Env.get,Env.put,retQ,Zau,aggV,Zag,Zap,PV.cells,PV.fits,overlay,PV.nth,PV.row,Heap.get,Heap.set,Heap.del,HL.get,HL.set,HL.del,Heap.push,Nat.le_refl,Nat.succ_ne_self,Zbq,Zc8,Zbk,Zda,Zbc,Zcw,Zbj,Zbf,Zbh,Za9,List.set,List.replicate,List.length,List.getD_cons_zero,List.take,List.drop,List.take_succ_cons,List.drop_succ_cons,List.nil_append,Nat.reduceEqDiff,Nat.reduceLT,Nat.reduceLeDiff,Bool.false_eq_true,Bool.true_eq_false,ite_true,ite_false,true_and,and_true,implies_true,BEq.rfl,Nat.zero_add,List.length_cons,imp_self,ei_t28,Zb6,ei_d28,hgl,hgt,List.append_nil,qi0,qi1,qi2,qi3,qi4,qi5,qi6,qi7,qi8,qi9,qi10,qi11,qi12,qi13,qi14,qi15,qi16,qi17,qi18,qi19,qi20,qi21,qi22,qi23,qi24,qi25,qi26,qi27,qi28,qi29,qi30,qi31,qi32,qi33,qi34,qi35,qi36,qi37,qi38,qi39,qi40,qi41]
    refine ⟨by omega,by omega,?_⟩
    refine ⟨⟨[(t + 1 + 1,.arr false 28 ((G ++ [d]).map EI.enc)),(2,.arr false 1 [[.own (t + 1 + 1) 0 (G ++ [d]).length]]),(1,.arr false 1 [[.str purpose]]),(0,.arr false 1 [[pI day]])],t + 1 + 1 + 1⟩,?_,_,_,by omega,by omega,rfl,⟨t + 1 + 1,by omega,by omega,by omega,by rw [hstep]⟩,nod4 (by simp only []; omega) (by simp only []; omega) (by simp) (by simp only []; omega) (by simp) (by simp),by simp <;> omega,by simp <;> omega,by simp [AB.live]⟩
    simp only [List.map_append,List.map_cons,List.map_nil,List.length_append]
    try simp only [Heap.get,HL.get,HL.le,Nat.le_refl,List.length,ite_true,ite_false,and_true,Nat.zero_add,qi0,qi1,qi2,qi3,qi4,qi5,qi6,qi7,qi8,qi9,qi10,qi11,qi12,qi13,qi14,qi15,qi16,qi17,qi18,qi19,qi20,qi21,qi22,qi23,qi24,qi25,qi26,qi27,qi28,qi29,qi30,qi31,qi32,qi33,qi34,qi35,qi36,qi37,qi38,qi39,qi40,qi41]
    all_goals (repeat' (first | rfl | trivial | omega | (simp only []; omega) | refine And.intro ?_ ?_))
  · rw [← hb,h1] at hstep
    simp only [Bool.false_eq_true,if_false,List.append_nil] at hstep
    refine Zak ?_
    try simp only [retQ,Zau,true_and]
    refine ⟨⟨[(id,.arr false 28 (G.map EI.enc)),(2,.arr false 1 [[.own id 0 G.length]]),(1,.arr false 1 [[.str purpose]]),(0,.arr false 1 [[pI day]])],t + 1⟩,?_,_,_,Nat.le_succ _,by omega,rfl,⟨id,i0,i1,i2,by rw [hstep]⟩,nod4 i2 i1 (by simp) i0 (by simp) (by simp),by simp <;> omega,by simp,by simp [AB.live]⟩
    try simp only [Heap.get,HL.get,HL.le,Nat.le_refl,ite_true,ite_false,and_true,qi0,qi1,qi2,qi3,qi4,qi5,qi6,qi7,qi8,qi9,qi10,qi11,qi12,qi13,qi14,qi15,qi16,qi17,qi18,qi19,qi20,qi21,qi22,qi23,qi24,qi25,qi26,qi27,qi28,qi29,qi30,qi31,qi32,qi33,qi34,qi35,qi36,qi37,qi38,qi39,qi40,qi41]
    all_goals (repeat' (first | rfl | trivial | omega | (simp only []; omega) | refine And.intro ?_ ?_))
theorem sp_inforce_On (day:Int) (purpose:Str) (l:List Gz) (hs:Smal l) (hd5:(dds l).length ≤ 5000):Zbo Tryz.prog 11 [pI day,.str purpose,.sl 4 (l.map Gz.enc)] (.sl 28 ((onS l day purpose).map EI.enc)):=by
  refine Zam ?_ (Zaw _) (by simp only [Za0,List.mem_cons,List.not_mem_nil,or_false,forall_eq_or_imp,forall_eq,false_implies,implies_true]; repeat' (first  | exact cI _ | exact cS _ | exact Zaw _ | exact Zbp _ | exact Zav _ | exact Za7 (by simp only [List.mem_cons,List.not_mem_nil,or_false,forall_eq]; first | exact cI _ | exact cS _ | exact Zaw _) | refine And.intro ?_ ?_))
  refine Zaq (vc:=c_inforce_On) (ts:=[.t 6]) Go.Proofs.Tryz.func11 (by kernel_rfl) rfl rfl (Nat.le_of_ble_eq_true rfl) (by kernel_rfl) ?_
  unfold c_inforce_On
  try dsimp only [ZM,ZO,ZN,ZG]
  refine Zac (Zaa [2,3,4] ?_)
  simp only [Zab,Zad,Zaf,pok,pval,VA.ev,Env.get,Env.put,Env.keep,Za2,Zae,PV.cells,PV.fits,Heap.push,Heap.nil,Nat.succ_ne_self,Nat.reduceEqDiff,Nat.reduceAdd,ite_true,ite_false,true_and,reduceCtorEq,BEq.rfl,Nat.zero_add]
  refine Zac (Zaa [2,3,4,7] ?_)
  simp only [Zab,Zad,Zaf,Env.get,Env.put,Env.keep,Zae,Heap.push,Nat.succ_ne_self,List.length,Nat.reduceEqDiff,Nat.reduceAdd,ite_true,ite_false,Nat.zero_add]
  refine VW_own0c 2 28 rfl ?_
  try simp only [Heap.set,HL.set,HL.del,Heap.push,Nat.reduceEqDiff,Nat.reduceAdd,ite_true,ite_false,reduceCtorEq]
  refine Zac (Zaa [7] ?_)
  simp only [Zab,Zad,Zaf,pok,pval,VA.ev,Env.get,Env.put,Env.keep,Zae,Nat.succ_ne_self,List.map,Nat.reduceEqDiff,ite_true,ite_false,true_and]
  refine Zbg.mono (sp_changes l hs hd5 35 [.loc 1 0 0,.loc 0 0 0,.loc 2 0 0] _ (back_On l day purpose hd5) _ 4 ?_ ?_ ?_ ?_) ?_
  · exact ⟨3,by simp,by simp,by simp,rfl⟩
  · simp
  · exact nod4 (by simp) (by simp) (by simp) (by simp) (by simp) (by simp)
  · simp [AB.live]
  rintro p h' ⟨L',t',ht,rfl,⟨id,i0,i1,i2,rfl⟩,_⟩
  rw [List.take_length]
  have qi0:(0 = 1) = False:=eq_false (by omega)
  have qi1:(0 = 2) = False:=eq_false (by omega)
  have qi2:(0 = id) = False:=eq_false (by omega)
  have qi3:(1 = 0) = False:=eq_false (by omega)
  have qi4:(1 = 2) = False:=eq_false (by omega)
  have qi5:(1 = id) = False:=eq_false (by omega)
  have qi6:(2 = 0) = False:=eq_false (by omega)
  have qi7:(2 = 1) = False:=eq_false (by omega)
  have qi8:(2 = id) = False:=eq_false (by omega)
  have qi9:(id = 0) = False:=eq_false (by omega)
  have qi10:(id = 1) = False:=eq_false (by omega)
  have qi11:(id = 2) = False:=eq_false (by omega)
  skip
  refine Zac (Zaa [6] ?_)
  simp only [Zab,Zad,Zaf,pok,pval,VA.ev,Env.get,Env.put,Env.keep,Zae,aggV,Zag,Zap,PV.nth,PV.row,Heap.get,HL.get,Nat.le_refl,Nat.succ_ne_self,List.length,List.getD_cons_zero,List.take,List.drop,List.take_succ_cons,Nat.reduceEqDiff,Nat.reduceLT,Bool.false_eq_true,ite_true,ite_false,true_and,and_true,implies_true,Nat.zero_add,List.length_cons,qi0,qi1,qi2,qi3,qi4,qi5,qi6,qi7,qi8,qi9,qi10,qi11]
  refine Zar ?_
  try simp only [Env.get,retQ,resV,Zau,RS.ev,RS.ok,ite_true,true_and,and_true]
  exact View.own_all (fz:=false) (by simp [Heap.get,HL.get,onS]) (by simp [onS])
noncomputable def waitB (l:List Gz) (d:EI):Bool:=(Zcj l d).length == 0
def encR (d:EI):List PV:=[pI d.act,pI d.item]
noncomputable def pendS (l:List Gz):List EI:=(chgS l).filter (waitB l)
theorem back_Pending (l : List Gz) (hd : (dds l).length ≤ 5000) : Back 56 [.loc 0 0 0] (chgS l).length (fun k => (chgS l).getD k EI0) (fun k => Zcj l ((chgS l).getD k EI0))
    (fun k L=>∃ id,id ≠ 0 ∧ L = [(id,.arr false 2 ((((chgS l).take k).filter (waitB l)).map encR)),(0,.arr false 1 [[.own id 0 (((chgS l).take k).filter (waitB l)).length]])]):=by
  intro k hk L t hL hlt hnod
  obtain ⟨id,i0,rfl⟩:=hL
  have h2:id < t:=hlt _ List.mem_cons_self
  have hstep:=filter_step (p:=waitB l) hk
  have hlen:(((chgS l).take k).filter (waitB l)).length ≤ 5000:=by
    have h1:=List.length_filter_le (waitB l) ((chgS l).take k)
    have h4:=(chg_sub l).length_le
    rw [List.length_take] at h1
    omega
  have hon:waitB l ((chgS l).getD k EI0) = ((Zcj l ((chgS l).getD k EI0)).length == 0):=rfl
  simp only []
  generalize (chgS l).getD k EI0 = d at hstep hon ⊢
  generalize Zcj l d = D at hon ⊢
  generalize ((chgS l).take k).filter (waitB l) = G at hstep hlen ⊢
  have hgl:(G.map encR).length = G.length:=by simp
  have hgt:(G.map encR).take G.length = G.map encR:=List.take_of_length_le (by simp)
  refine Zbg.drop ?_
  refine Zaq (vc:=c_inforce_Pending_1) (ts:=[]) Go.Proofs.Tryz.func56 (by kernel_rfl) rfl rfl (Nat.le_of_ble_eq_true rfl) (by kernel_rfl) ?_
  unfold c_inforce_Pending_1
  try dsimp only [ZM,ZO,ZN,ZG]
  have qi0:(0 = id) = False:=eq_false (by omega)
  have qi1:(0 = t) = False:=eq_false (by omega)
  have qi2:(0 = (t + 1)) = False:=eq_false (by omega)
  have qi3:(0 = (t + 1 + 1)) = False:=eq_false (by omega)
  have qi4:(id = 0) = False:=eq_false (by omega)
  have qi5:(id = t) = False:=eq_false (by omega)
  have qi6:(id = (t + 1)) = False:=eq_false (by omega)
  have qi7:(id = (t + 1 + 1)) = False:=eq_false (by omega)
  have qi8:(t = 0) = False:=eq_false (by omega)
  have qi9:(t = id) = False:=eq_false (by omega)
  have qi10:(t = (t + 1)) = False:=eq_false (by omega)
  have qi11:(t = (t + 1 + 1)) = False:=eq_false (by omega)
  have qi12:((t + 1) = 0) = False:=eq_false (by omega)
  have qi13:((t + 1) = id) = False:=eq_false (by omega)
  have qi14:((t + 1) = t) = False:=eq_false (by omega)
  have qi15:((t + 1) = (t + 1 + 1)) = False:=eq_false (by omega)
  have qi16:((t + 1 + 1) = 0) = False:=eq_false (by omega)
  have qi17:((t + 1 + 1) = id) = False:=eq_false (by omega)
  have qi18:((t + 1 + 1) = t) = False:=eq_false (by omega)
  have qi19:((t + 1 + 1) = (t + 1)) = False:=eq_false (by omega)
  refine Zac (Zaa [1,2,3] ?_)
  simp only [Zab,Zad,Zaf,VA.ev,Env.get,Env.put,Env.keep,Za2,Zae,PV.cells,PV.fits,Heap.le,Heap.push,Nat.succ_ne_self,AB.live,Nat.reduceEqDiff,Nat.reduceAdd,ite_true,ite_false,true_and,ne_eq,reduceCtorEq,BEq.rfl,Nat.zero_add,Zb6]
  cases hb:((D.length:Int) == 0)
  · have h1:waitB l d = false:=by rw [hon]; rw [beq_eq_false_iff_ne] at hb ⊢; omega
    rw [h1] at hstep
    simp only [Bool.false_eq_true,if_false,List.append_nil] at hstep
    refine Zac (Zaa [2,3,7] ?_)
    simp only [Zab,Zad,Zaf,pok,pval,VA.ev,Env.get,Env.put,Env.keep,Zae,intV,binV,Zah,lenV,Za8,Nat.succ_ne_self,Nat.reduceEqDiff,ite_true,ite_false,true_and,List.length_map,hb]
    refine Zai rfl (fun h=>by cases h) (fun _=>?_)
    refine Zak ?_
    try simp only [retQ,Zau,true_and]
    refine ⟨⟨[(id,.arr false 2 (G.map encR)),(0,.arr false 1 [[.own id 0 G.length]])],t + 1⟩,?_,_,_,Nat.le_succ _,by omega,rfl,⟨id,i0,by rw [hstep]⟩,nod2 i0,by simp <;> omega,by simp,by simp [AB.live]⟩
    try simp only [Heap.get,HL.get,HL.le,Nat.le_refl,ite_true,ite_false,and_true,qi0,qi1,qi2,qi3,qi4,qi5,qi6,qi7,qi8,qi9,qi10,qi11,qi12,qi13,qi14,qi15,qi16,qi17,qi18,qi19]
    all_goals (repeat' (first | rfl | trivial | omega | (simp only []; omega) | refine And.intro ?_ ?_))
  · have h1:waitB l d = true:=by rw [hon]; rw [beq_iff_eq] at hb ⊢; omega
    rw [h1,if_pos rfl] at hstep
    refine Zac (Zaa [2,3,7] ?_)
    simp only [Zab,Zad,Zaf,pok,pval,VA.ev,Env.get,Env.put,Env.keep,Zae,intV,binV,Zah,lenV,Za8,Nat.succ_ne_self,Nat.reduceEqDiff,ite_true,ite_false,true_and,List.length_map,hb]
    refine Zai rfl (fun _=>?_) (fun h=>by cases h)
    refine Zaa [] ?_
    simp only [Zab,Zad,Zaf,pok,pval,VA.ev,Env.get,Env.put,retQ,Zau,aggV,Zao,Zan,Zag,Zap,Zcu,Zcb,PV.cells,PV.fits,overlay,PV.nth,PV.row,Heap.get,Heap.set,Heap.del,HL.get,HL.set,HL.del,Heap.push,Nat.le_refl,Nat.succ_ne_self,Zbq,Zc8,Zbk,Zda,Zbc,Zcw,Zbj,Zbf,Zbh,Za9,List.set,List.replicate,List.length,List.getD_cons_zero,List.take,List.drop,List.take_succ_cons,List.drop_succ_cons,List.cons_append,List.nil_append,Nat.reduceEqDiff,Nat.reduceAdd,Nat.reduceLT,Nat.reduceLeDiff,Bool.false_eq_true,ite_true,ite_false,true_and,and_true,implies_true,BEq.rfl,Nat.zero_add,Nat.add_zero,List.length_cons,Zb6,ei_act,ei_item,ei_l1,hgl,hgt,List.append_nil,qi0,qi1,qi2,qi3,qi4,qi5,qi6,qi7,qi8,qi9,qi10,qi11,qi12,qi13,qi14,qi15,qi16,qi17,qi18,qi19]
    refine ⟨by omega,by omega,?_⟩
    refine ⟨⟨[(t + 1 + 1,.arr false 2 ((G ++ [d]).map encR)),(0,.arr false 1 [[.own (t + 1 + 1) 0 (G ++ [d]).length]])],t + 1 + 1 + 1⟩,?_,_,_,by omega,by omega,rfl,⟨t + 1 + 1,by omega,by rw [hstep]⟩,nod2 (by simp only []; omega),by simp <;> omega,by simp <;> omega,by simp [AB.live]⟩
    simp only [List.map_append,List.map_cons,List.map_nil,List.length_append]
    try simp only [Heap.get,HL.get,HL.le,Nat.le_refl,List.length,ite_true,ite_false,and_true,Nat.zero_add,qi0,qi1,qi2,qi3,qi4,qi5,qi6,qi7,qi8,qi9,qi10,qi11,qi12,qi13,qi14,qi15,qi16,qi17,qi18,qi19,encR]
    all_goals (repeat' (first | rfl | trivial | omega | (simp only []; omega) | refine And.intro ?_ ?_))
theorem closed_refs (l:List EI):Closed (.sl 2 (l.map encR)):=Zbm (fun a _ x hx=>by simp only [encR,List.mem_cons,List.not_mem_nil,or_false] at hx; rcases hx with rfl | rfl <;> exact cI _)
theorem sp_inforce_Pending (l:List Gz) (hs:Smal l) (hd5:(dds l).length ≤ 5000):Zbo Tryz.prog 29 [.sl 4 (l.map Gz.enc)] (.sl 2 ((pendS l).map encR)):=by
  refine Zam ?_ (closed_refs _) (by simp only [Za0,List.mem_cons,List.not_mem_nil,or_false,forall_eq_or_imp,forall_eq,false_implies,implies_true]; repeat' (first  | exact Zbp _ | exact Zav _ | refine And.intro ?_ ?_))
  refine Zaq (vc:=c_inforce_Pending) (ts:=[.t 2]) Go.Proofs.Tryz.func29 (by kernel_rfl) rfl rfl (Nat.le_of_ble_eq_true rfl) (by kernel_rfl) ?_
  unfold c_inforce_Pending
  try dsimp only [ZM,ZO,ZN,ZG]
  refine Zac (Zaa [0] ?_)
  simp only [Zab,Zad,Zaf,pok,pval,VA.ev,Env.get,Env.put,Env.keep,Za2,Zae,Heap.nil,ite_true,ite_false,true_and,reduceCtorEq]
  refine Zac (Zaa [0,3] ?_)
  simp only [Zab,Zad,Zaf,Env.get,Env.put,Env.keep,Zae,Heap.push,List.length,ite_true,ite_false,reduceCtorEq,Nat.zero_add]
  refine VW_own0c 0 2 rfl ?_
  try simp only [Heap.set,HL.set,HL.del,Heap.push,Nat.reduceAdd,ite_true]
  refine Zac (Zaa [3] ?_)
  simp only [Zab,Zad,Zaf,pok,pval,VA.ev,Env.get,Env.put,Env.keep,Zae,Nat.succ_ne_self,List.map,Nat.reduceEqDiff,ite_true,ite_false,true_and,reduceCtorEq]
  refine Zbg.mono (sp_changes l hs hd5 56 [.loc 0 0 0] _ (back_Pending l hd5) _ 2 ?_ ?_ ?_ ?_) ?_
  · exact ⟨1,by simp,rfl⟩
  · simp
  · exact nod2 (by simp)
  · simp [AB.live]
  rintro p h' ⟨L',t',ht,rfl,⟨id,i0,rfl⟩,_⟩
  rw [List.take_length]
  have qi0:(0 = id) = False:=eq_false (by omega)
  have qi1:(id = 0) = False:=eq_false (by omega)
  skip
  refine Zac (Zaa [2] ?_)
  simp only [Zab,Zad,Zaf,pok,pval,VA.ev,Env.get,Env.put,Env.keep,Zae,aggV,Zag,Zap,PV.nth,PV.row,Heap.get,HL.get,Nat.le_refl,Nat.succ_ne_self,List.length,List.getD_cons_zero,List.take,List.drop,List.take_succ_cons,Nat.reduceEqDiff,Nat.reduceLT,Bool.false_eq_true,ite_true,ite_false,true_and,and_true,implies_true,Nat.zero_add,List.length_cons,qi0,qi1]
  refine Zar ?_
  try simp only [Env.get,retQ,resV,Zau,RS.ev,RS.ok,ite_true,true_and,and_true]
  exact View.own_all (fz:=false) (by simp [Heap.get,HL.get,pendS]) (by simp [pendS])
end Go.Proofs.YtehokmhebnkfdaaGreat.w
