import Derived.Test.YtehokmhebnkfdaaGreatI1
import Derived.Test.YtehokmhebnkfdaaGreatCR5
import Derived.Test.YtehokmhebnkfdaaGreatVmN
set_option linter.all false
namespace Go.Proofs.YtehokmhebnkfdaaGreat.w
open Go Go.VM
set_option maxRecDepth 20000
set_option maxHeartbeats 0
set_option pp.deepTerms false
def c_inforce_On_1:VC:=(.seq (.region [ZO 5 (.box 28 (.t 0))] false) (.seq (.region [ZO 7 (.faddr 3 (.t 5)),ZO 8 (.faddr 16 (.t 7)),ZO 9 (.load false 1 (.t 8)),ZO 10 (.bin .eql (.t 9) (.c (.str []))),ZM 11 10,ZG 12 (.faddr 3 (.t 5)) 11 false,ZG 13 (.faddr 16 (.t 12)) 11 false,ZG 14 (.load false 1 (.t 13)) 11 false,ZG 15 (.load false 1 (.t 2)) 11 false,ZG 16 (.bin .eql (.t 14) (.t 15)) 11 false,ZO 17 (.pick (.t 11) (.c (.bool true)) (.t 16)),ZM 18 17,ZG 19 (.mv (.t 1)) 18 true,ZG 20 (.load false 1 (.t 3)) 18 true,ZG 21 (.call 36 [(.t 19),(.t 20)]) 18 true,ZO 22 (.pick (.t 18) (.t 21) (.c (.bool false)))] false) (.cond (.t 22) (.region [ZO 23 (.load false 1 (.t 4)),ZO 24 (.load true 28 (.t 5)),ZO 25 (.bslice 28 1 [(.int .i64 0),(.int .i64 0),(.int .i64 0),(.int .i64 0),.nilsl,.nilsl,(.int .i64 0),(.int .i64 0),(.int .i64 0),(.int .i64 0),(.int .i64 0),(.int .i64 0),(.str []),.nilsl,.nilsl,.nilsl,.nilsl,.nilsl,(.str []),(.str []),(.int .i64 0),(.int .i64 0),(.str []),(.int .i64 0),(.int .i64 0),(.int .i64 0),(.str []),.nilsl] [(0,(.t 24))]),ZO 26 (.app 28 392 [(.int .i64 0),(.int .i64 0),(.int .i64 0),(.int .i64 0),.nilsl,.nilsl,(.int .i64 0),(.int .i64 0),(.int .i64 0),(.int .i64 0),(.int .i64 0),(.int .i64 0),(.str []),.nilsl,.nilsl,.nilsl,.nilsl,.nilsl,(.str []),(.str []),(.int .i64 0),(.int .i64 0),(.str []),(.int .i64 0),(.int .i64 0),(.int .i64 0),(.str []),.nilsl] false (.t 23) (.t 25)),ZN (.store 1 (.t 4) (.t 26))] false) .skip)))
def c_inforce_On:VC:=(.seq (.region [ZO 3 (.box 1 (.t 0)),ZO 4 (.box 1 (.t 1)),ZO 6 (.mv (.c .nilsl))] false) (.seq (.region [ZO 7 (.alloc [.nilsl])] false) (.seq (.region [ZM 8 2,ZO 9 (.mkfn (.func 35) [] [(.t 4),(.t 3),(.t 7)]),ZO 10 (.call 34 [(.t 8),(.t 9)])] false) (.seq (.region [ZO 11 (.load false 1 (.t 7)),ZM 6 11] false) .ret))))
theorem take_one {α:Type} {l:List α} {k:Nat} (h:k < l.length) (z:α):l.take (k + 1) = l.take k ++ [l.getD k z]:=by
  rw [List.take_add_one,List.getElem?_eq_getElem h,List.getD_eq_getElem?_getD,List.getElem?_eq_getElem h]; rfl
theorem nod4 {a b c d:Nat × AB} (h1:a.1 ≠ b.1) (h2:a.1 ≠ c.1) (h3:b.1 ≠ c.1) (h4:a.1 ≠ d.1) (h5:b.1 ≠ d.1) (h6:c.1 ≠ d.1):Nod [a,b,c,d]:=by simp [Nod,h1,h2,h3,h4,h5,h6]
theorem nod2 {a b:Nat × AB} (h1:a.1 ≠ b.1):Nod [a,b]:=by simp [Nod,h1]
noncomputable def onB (l:List Gz) (day:Int) (purpose:Str) (d:EI):Bool:=(d.it.forr == [] || d.it.forr == purpose) && c.memB (Zdc l d) day
noncomputable def onS (l:List Gz) (day:Int) (purpose:Str):List EI:=(chgS l).filter (onB l day purpose)
theorem filter_step {p:EI → Bool} {r:List EI} {k:Nat} (h:k < r.length):(r.take (k + 1)).filter p = (r.take k).filter p ++ (if p (r.getD k EI0) = true then [r.getD k EI0] else []):=by
  rw [take_one h EI0,List.filter_append]
  simp only [List.filter_cons,List.filter_nil]
theorem ei_for (e:EI):((e.enc.drop 3).drop 16).take 1 = [.str e.it.forr]:=by rw [ei_it,It.Zb8]; rfl
theorem ei_l19 (e:EI):((e.enc.drop 3).drop 16).length = 9:=by rw [ei_it,List.length_drop,It.Zbv]
theorem ei_d19 (e:EI):List.drop 19 e.enc = (e.enc.drop 3).drop 16:=by rw [List.drop_drop]
theorem back_On (l : List Gz) (day : Int) (purpose : Str) (hd : (dds l).length ≤ 5000) : Back 35 [.loc 1 0 0, .loc 0 0 0, .loc 2 0 0] (chgS l).length (fun k => (chgS l).getD k EI0) (fun k => Zdc l ((chgS l).getD k EI0))
    (fun k L=>∃ id,id ≠ 0 ∧ id ≠ 1 ∧ id ≠ 2 ∧ L = [(id,.arr false 28 ((((chgS l).take k).filter (onB l day purpose)).map EI.enc)),(2,.arr false 1 [[.own id 0 (((chgS l).take k).filter (onB l day purpose)).length]]),(1,.arr false 1 [[.str purpose]]),(0,.arr false 1 [[pI day]])]):=by
  intro k hk L t hL hlt hnod
  obtain ⟨id,i0,i1,i2,rfl⟩:=hL
  have h2:id < t:=hlt _ List.mem_cons_self
  have h3:2 < t:=hlt _ (List.mem_cons_of_mem _ List.mem_cons_self)
  have hstep:=filter_step (p:=onB l day purpose) hk
  have hlen:(((chgS l).take k).filter (onB l day purpose)).length ≤ 5000:=by
    have h1:=List.length_filter_le (onB l day purpose) ((chgS l).take k)
    have h4:=(chg_sub l).length_le
    rw [List.length_take] at h1
    omega
  have hcan:=days_canon l ((chgS l).getD k EI0)
  have hdl:=days_len l ((chgS l).getD k EI0)
  have hon:onB l day purpose ((chgS l).getD k EI0) = ((((chgS l).getD k EI0).it.forr == [] || ((chgS l).getD k EI0).it.forr == purpose) && c.memB (Zdc l ((chgS l).getD k EI0)) day):=rfl
  simp only []
  generalize (chgS l).getD k EI0 = d at hstep hcan hdl hon ⊢
  generalize Zdc l d = D at hcan hdl hon ⊢
  generalize ((chgS l).take k).filter (onB l day purpose) = G at hstep hlen ⊢
  have C:=c.sp_dateset_Contains D day (by omega)
  rw [c.norm_self hcan] at C
  have hgl:(G.map EI.enc).length = G.length:=by simp
  have hgt:(G.map EI.enc).take G.length = G.map EI.enc:=List.take_of_length_le (by simp)
  refine Zbg.drop ?_
  refine Zar (vc:=c_inforce_On_1) (ts:=[]) Go.Proofs.Tryz.func35 (by kernel_rfl) rfl rfl (Nat.le_of_ble_eq_true rfl) (by kernel_rfl) ?_
  unfold c_inforce_On_1
  try dsimp only [ZM,ZO,ZN,ZG]
  have qi0:(0 = 1) = False:=eq_false (by omega)
  have qi1:(0 = 2) = False:=eq_false (by omega)
  have qi2:(0 = id) = False:=eq_false (by omega)
  have qi3:(0 = t) = False:=eq_false (by omega)
  have qi4:(0 = (t + 1)) = False:=eq_false (by omega)
  have qi5:(0 = (t + 1 + 1)) = False:=eq_false (by omega)
  have qi6:(1 = 0) = False:=eq_false (by omega)
  have qi7:(1 = 2) = False:=eq_false (by omega)
  have qi8:(1 = id) = False:=eq_false (by omega)
  have qi9:(1 = t) = False:=eq_false (by omega)
  have qi10:(1 = (t + 1)) = False:=eq_false (by omega)
  have qi11:(1 = (t + 1 + 1)) = False:=eq_false (by omega)
  have qi12:(2 = 0) = False:=eq_false (by omega)
  have qi13:(2 = 1) = False:=eq_false (by omega)
  have qi14:(2 = id) = False:=eq_false (by omega)
  have qi15:(2 = t) = False:=eq_false (by omega)
  have qi16:(2 = (t + 1)) = False:=eq_false (by omega)
  have qi17:(2 = (t + 1 + 1)) = False:=eq_false (by omega)
  have qi18:(id = 0) = False:=eq_false (by omega)
  have qi19:(id = 1) = False:=eq_false (by omega)
  have qi20:(id = 2) = False:=eq_false (by omega)
  have qi21:(id = t) = False:=eq_false (by omega)
  have qi22:(id = (t + 1)) = False:=eq_false (by omega)
  have qi23:(id = (t + 1 + 1)) = False:=eq_false (by omega)
  have qi24:(t = 0) = False:=eq_false (by omega)
  have qi25:(t = 1) = False:=eq_false (by omega)
  have qi26:(t = 2) = False:=eq_false (by omega)
  have qi27:(t = id) = False:=eq_false (by omega)
  have qi28:(t = (t + 1)) = False:=eq_false (by omega)
  have qi29:(t = (t + 1 + 1)) = False:=eq_false (by omega)
  have qi30:((t + 1) = 0) = False:=eq_false (by omega)
  have qi31:((t + 1) = 1) = False:=eq_false (by omega)
  have qi32:((t + 1) = 2) = False:=eq_false (by omega)
  have qi33:((t + 1) = id) = False:=eq_false (by omega)
  have qi34:((t + 1) = t) = False:=eq_false (by omega)
  have qi35:((t + 1) = (t + 1 + 1)) = False:=eq_false (by omega)
  have qi36:((t + 1 + 1) = 0) = False:=eq_false (by omega)
  have qi37:((t + 1 + 1) = 1) = False:=eq_false (by omega)
  have qi38:((t + 1 + 1) = 2) = False:=eq_false (by omega)
  have qi39:((t + 1 + 1) = id) = False:=eq_false (by omega)
  have qi40:((t + 1 + 1) = t) = False:=eq_false (by omega)
  have qi41:((t + 1 + 1) = (t + 1)) = False:=eq_false (by omega)
  refine Zad (Zaa [1,2,3,4,5] ?_)
  simp only [Zab,Zac,Zaf,VA.ev,Env.get,Env.put,Env.keep,Za3,Zae,PV.cells,PV.fits,Heap.le,Heap.push,Nat.succ_ne_self,AB.live,Nat.reduceEqDiff,Nat.reduceAdd,ite_true,ite_false,true_and,ne_eq,reduceCtorEq,BEq.rfl,Nat.zero_add,Zce]
  refine Zad (VW_mid (σ:={ b:Bool // b = onB l day purpose d }) (fun b=>([(4,.loc 2 0 0),(5,.loc t 0 0),(22,.bool b.1)],⟨[(t,.arr false 28 [d.enc]),(id,.arr false 28 (G.map EI.enc)),(2,.arr false 1 [[.own id 0 G.length]]),(1,.arr false 1 [[.str purpose]]),(0,.arr false 1 [[pI day]])],t + 1⟩)) (Zaa [4,5,22] ?_) (fun b=>?_))
  · cases e1:(d.it.forr == [])
    · cases e2:(d.it.forr == purpose)
      · simp only [midQ,Zab,Zac,Zaz,Zbi,Zaf,pok,pval,VA.ev,Env.get,Env.put,Env.keep,Zaw,isBool,aggV,binV,Zah,strV,Zan,Zam,Zag,Zap,PV.nth,PV.row,Heap.get,Heap.le,HL.get,HL.le,Nat.le_refl,Nat.succ_ne_self,Env.le,List.length,List.getD_cons_zero,List.take,List.drop,List.take_succ_cons,Nat.reduceEqDiff,Nat.reduceAdd,Nat.reduceLT,Nat.reduceLeDiff,Bool.false_eq_true,ite_true,ite_false,true_and,and_true,implies_true,Nat.zero_add,List.length_cons,Zce,ei_for,ei_l19,ei_d19,e1,e2,qi0,qi1,qi2,qi3,qi4,qi5,qi6,qi7,qi8,qi9,qi10,qi11,qi12,qi13,qi14,qi15,qi16,qi17,qi18,qi19,qi20,qi21,qi22,qi23,qi24,qi25,qi26,qi27,qi28,qi29,qi30,qi31,qi32,qi33,qi34,qi35,qi36,qi37,qi38,qi39,qi40,qi41]
        refine ⟨⟨false,by rw [hon,e1,e2]; rfl⟩,?_⟩
        try simp only [qi0,qi1,qi2,qi3,qi4,qi5,qi6,qi7,qi8,qi9,qi10,qi11,qi12,qi13,qi14,qi15,qi16,qi17,qi18,qi19,qi20,qi21,qi22,qi23,qi24,qi25,qi26,qi27,qi28,qi29,qi30,qi31,qi32,qi33,qi34,qi35,qi36,qi37,qi38,qi39,qi40,qi41]
        all_goals (repeat' (first | rfl | trivial | omega | (simp only []; omega) | refine And.intro ?_ ?_))
      · simp only [midQ,Zab,Zac,Zaz,Zaf,pok,pval,VA.ev,Env.get,Env.put,Env.keep,Zaw,isBool,aggV,binV,Zah,strV,Zan,Zam,Zag,Zap,PV.nth,PV.row,Heap.get,Heap.le,HL.get,HL.le,Nat.le_refl,Nat.succ_ne_self,Env.le,List.map,List.length,List.getD_cons_zero,List.take,List.drop,List.take_succ_cons,Nat.reduceEqDiff,Nat.reduceAdd,Nat.reduceLT,Nat.reduceLeDiff,Bool.false_eq_true,ite_true,ite_false,true_and,and_true,implies_true,Nat.zero_add,List.length_cons,Zce,ei_for,ei_l19,ei_d19,e1,e2,qi0,qi1,qi2,qi3,qi4,qi5,qi6,qi7,qi8,qi9,qi10,qi11,qi12,qi13,qi14,qi15,qi16,qi17,qi18,qi19,qi20,qi21,qi22,qi23,qi24,qi25,qi26,qi27,qi28,qi29,qi30,qi31,qi32,qi33,qi34,qi35,qi36,qi37,qi38,qi39,qi40,qi41]
        refine Zat C ?_
        try simp only [HL.get,Nat.le_refl,ite_true,ite_false,and_true,qi0,qi1,qi2,qi3,qi4,qi5,qi6,qi7,qi8,qi9,qi10,qi11,qi12,qi13,qi14,qi15,qi16,qi17,qi18,qi19,qi20,qi21,qi22,qi23,qi24,qi25,qi26,qi27,qi28,qi29,qi30,qi31,qi32,qi33,qi34,qi35,qi36,qi37,qi38,qi39,qi40,qi41]
        refine ⟨⟨c.memB D day,by rw [hon,e1,e2]; rfl⟩,?_⟩
        try simp only [qi0,qi1,qi2,qi3,qi4,qi5,qi6,qi7,qi8,qi9,qi10,qi11,qi12,qi13,qi14,qi15,qi16,qi17,qi18,qi19,qi20,qi21,qi22,qi23,qi24,qi25,qi26,qi27,qi28,qi29,qi30,qi31,qi32,qi33,qi34,qi35,qi36,qi37,qi38,qi39,qi40,qi41]
        all_goals (repeat' (first | rfl | trivial | omega | (simp only []; omega) | refine And.intro ?_ ?_))
    · simp only [midQ,Zab,Zac,Zaz,Zbb,Zaf,pok,pval,VA.ev,Env.get,Env.put,Env.keep,Zaw,isBool,aggV,binV,Zah,strV,Zan,Zam,Zag,Zap,PV.nth,PV.row,Heap.get,Heap.le,HL.get,HL.le,Nat.le_refl,Nat.succ_ne_self,Env.le,List.map,List.length,List.getD_cons_zero,List.take,List.drop,List.take_succ_cons,Nat.reduceEqDiff,Nat.reduceAdd,Nat.reduceLT,Nat.reduceLeDiff,Bool.false_eq_true,ite_true,ite_false,true_and,and_true,implies_true,Nat.zero_add,List.length_cons,Zce,ei_for,ei_l19,ei_d19,e1,qi0,qi1,qi2,qi3,qi4,qi5,qi6,qi7,qi8,qi9,qi10,qi11,qi12,qi13,qi14,qi15,qi16,qi17,qi18,qi19,qi20,qi21,qi22,qi23,qi24,qi25,qi26,qi27,qi28,qi29,qi30,qi31,qi32,qi33,qi34,qi35,qi36,qi37,qi38,qi39,qi40,qi41]
      refine Zat C ?_
      try simp only [HL.get,Nat.le_refl,ite_true,ite_false,and_true,qi0,qi1,qi2,qi3,qi4,qi5,qi6,qi7,qi8,qi9,qi10,qi11,qi12,qi13,qi14,qi15,qi16,qi17,qi18,qi19,qi20,qi21,qi22,qi23,qi24,qi25,qi26,qi27,qi28,qi29,qi30,qi31,qi32,qi33,qi34,qi35,qi36,qi37,qi38,qi39,qi40,qi41]
      refine ⟨⟨c.memB D day,by rw [hon,e1]; rfl⟩,?_⟩
      try simp only [qi0,qi1,qi2,qi3,qi4,qi5,qi6,qi7,qi8,qi9,qi10,qi11,qi12,qi13,qi14,qi15,qi16,qi17,qi18,qi19,qi20,qi21,qi22,qi23,qi24,qi25,qi26,qi27,qi28,qi29,qi30,qi31,qi32,qi33,qi34,qi35,qi36,qi37,qi38,qi39,qi40,qi41]
      all_goals (repeat' (first | rfl | trivial | omega | (simp only []; omega) | refine And.intro ?_ ?_))
  obtain ⟨b,hb⟩:=b
  simp only []
  refine Zai rfl (fun h1=>?_) (fun h1=>?_)
  · rw [← hb,h1,if_pos rfl] at hstep
    refine Zaa [] ?_
    simp only [Zab,Zac,Zaf,pok,pval,VA.ev,Env.get,Env.put,retQ,Zau,aggV,Zag,Zap,PV.cells,PV.fits,overlay,PV.nth,PV.row,Heap.get,Heap.set,Heap.del,HL.get,HL.set,HL.del,Heap.push,Nat.le_refl,Nat.succ_ne_self,Zbu,Zdo,Zbp,Zdu,Zbf,Zde,Zbm,Zbh,Zbj,Zbe,List.set,List.replicate,List.length,List.getD_cons_zero,List.take,List.drop,List.take_succ_cons,List.drop_succ_cons,List.nil_append,Nat.reduceEqDiff,Nat.reduceLT,Nat.reduceLeDiff,Bool.false_eq_true,Bool.true_eq_false,ite_true,ite_false,true_and,and_true,implies_true,BEq.rfl,Nat.zero_add,List.length_cons,imp_self,ei_t28,Zce,ei_d28,hgl,hgt,List.append_nil,qi0,qi1,qi2,qi3,qi4,qi5,qi6,qi7,qi8,qi9,qi10,qi11,qi12,qi13,qi14,qi15,qi16,qi17,qi18,qi19,qi20,qi21,qi22,qi23,qi24,qi25,qi26,qi27,qi28,qi29,qi30,qi31,qi32,qi33,qi34,qi35,qi36,qi37,qi38,qi39,qi40,qi41]
    refine ⟨by omega,by omega,?_⟩
    refine ⟨⟨[(t + 1 + 1,.arr false 28 ((G ++ [d]).map EI.enc)),(2,.arr false 1 [[.own (t + 1 + 1) 0 (G ++ [d]).length]]),(1,.arr false 1 [[.str purpose]]),(0,.arr false 1 [[pI day]])],t + 1 + 1 + 1⟩,?_,_,_,by omega,by omega,rfl,⟨t + 1 + 1,by omega,by omega,by omega,by rw [hstep]⟩,nod4 (by simp only []; omega) (by simp only []; omega) (by simp) (by simp only []; omega) (by simp) (by simp),by simp <;> omega,by simp <;> omega,by simp [AB.live]⟩
    simp only [List.map_append,List.map_cons,List.map_nil,List.length_append]
    try simp only [Heap.get,HL.get,HL.le,Nat.le_refl,List.length,ite_true,ite_false,and_true,Nat.zero_add,qi0,qi1,qi2,qi3,qi4,qi5,qi6,qi7,qi8,qi9,qi10,qi11,qi12,qi13,qi14,qi15,qi16,qi17,qi18,qi19,qi20,qi21,qi22,qi23,qi24,qi25,qi26,qi27,qi28,qi29,qi30,qi31,qi32,qi33,qi34,qi35,qi36,qi37,qi38,qi39,qi40,qi41]
    all_goals (repeat' (first | rfl | trivial | omega | (simp only []; omega) | refine And.intro ?_ ?_))
  · rw [← hb,h1] at hstep
    simp only [Bool.false_eq_true,if_false,List.append_nil] at hstep
    refine Zak ?_
    try simp only [retQ,Zau,true_and]
    refine ⟨⟨[(id,.arr false 28 (G.map EI.enc)),(2,.arr false 1 [[.own id 0 G.length]]),(1,.arr false 1 [[.str purpose]]),(0,.arr false 1 [[pI day]])],t + 1⟩,?_,_,_,Nat.le_succ _,by omega,rfl,⟨id,i0,i1,i2,by rw [hstep]⟩,nod4 i2 i1 (by simp) i0 (by simp) (by simp),by simp <;> omega,by simp,by simp [AB.live]⟩
    try simp only [Heap.get,HL.get,HL.le,Nat.le_refl,ite_true,ite_false,and_true,qi0,qi1,qi2,qi3,qi4,qi5,qi6,qi7,qi8,qi9,qi10,qi11,qi12,qi13,qi14,qi15,qi16,qi17,qi18,qi19,qi20,qi21,qi22,qi23,qi24,qi25,qi26,qi27,qi28,qi29,qi30,qi31,qi32,qi33,qi34,qi35,qi36,qi37,qi38,qi39,qi40,qi41]
    all_goals (repeat' (first | rfl | trivial | omega | (simp only []; omega) | refine And.intro ?_ ?_))
theorem Zdh (day:Int) (purpose:Str) (l:List Gz) (hs:Smal l) (hd5:(dds l).length ≤ 5000):Zbq Tryz.prog 11 [pI day,.str purpose,.sl 4 (l.map Gz.enc)] (.sl 28 ((onS l day purpose).map EI.enc)):=by
  refine Zao ?_ (Zav _) (by simp only [Za1,List.mem_cons,List.not_mem_nil,or_false,forall_eq_or_imp,forall_eq,false_implies,implies_true]; repeat' (first  | exact cI _ | exact cS _ | exact Zav _ | exact Zbw _ | exact Zay _ | exact Za9 (by simp only [List.mem_cons,List.not_mem_nil,or_false,forall_eq]; first | exact cI _ | exact cS _ | exact Zav _) | refine And.intro ?_ ?_))
  refine Zar (vc:=c_inforce_On) (ts:=[.t 6]) Go.Proofs.Tryz.func11 (by kernel_rfl) rfl rfl (Nat.le_of_ble_eq_true rfl) (by kernel_rfl) ?_
  unfold c_inforce_On
  try dsimp only [ZM,ZO,ZN,ZG]
  refine Zad (Zaa [2,3,4] ?_)
  simp only [Zab,Zac,Zaf,pok,pval,VA.ev,Env.get,Env.put,Env.keep,Za3,Zae,PV.cells,PV.fits,Heap.push,Heap.nil,Nat.succ_ne_self,Nat.reduceEqDiff,Nat.reduceAdd,ite_true,ite_false,true_and,reduceCtorEq,BEq.rfl,Nat.zero_add]
  refine Zad (Zaa [2,3,4,7] ?_)
  simp only [Zab,Zac,Zaf,Env.get,Env.put,Env.keep,Zae,Heap.push,Nat.succ_ne_self,List.length,Nat.reduceEqDiff,Nat.reduceAdd,ite_true,ite_false,Nat.zero_add]
  refine VW_own0c 2 28 rfl ?_
  try simp only [Heap.set,HL.set,HL.del,Heap.push,Nat.reduceEqDiff,Nat.reduceAdd,ite_true,ite_false,reduceCtorEq]
  refine Zad (Zaa [7] ?_)
  simp only [Zab,Zac,Zaf,pok,pval,VA.ev,Env.get,Env.put,Env.keep,Zae,Nat.succ_ne_self,List.map,Nat.reduceEqDiff,ite_true,ite_false,true_and]
  refine Zbg.mono (sp_changes l hs hd5 35 [.loc 1 0 0,.loc 0 0 0,.loc 2 0 0] _ (back_On l day purpose hd5) _ 4 ?_ ?_ ?_ ?_) ?_
  · exact ⟨3,by simp,by simp,by simp,rfl⟩
  · simp
  · exact nod4 (by simp) (by simp) (by simp) (by simp) (by simp) (by simp)
  · simp [AB.live]
  rintro p h' ⟨L',t',ht,rfl,⟨id,i0,i1,i2,rfl⟩,_⟩
  rw [List.take_length]
  have qi0:(0 = 1) = False:=eq_false (by omega)
  have qi1:(0 = 2) = False:=eq_false (by omega)
  have qi2:(0 = id) = False:=eq_false (by omega)
  have qi3:(1 = 0) = False:=eq_false (by omega)
  have qi4:(1 = 2) = False:=eq_false (by omega)
  have qi5:(1 = id) = False:=eq_false (by omega)
  have qi6:(2 = 0) = False:=eq_false (by omega)
  have qi7:(2 = 1) = False:=eq_false (by omega)
  have qi8:(2 = id) = False:=eq_false (by omega)
  have qi9:(id = 0) = False:=eq_false (by omega)
  have qi10:(id = 1) = False:=eq_false (by omega)
  have qi11:(id = 2) = False:=eq_false (by omega)
  skip
  refine Zad (Zaa [6] ?_)
  simp only [Zab,Zac,Zaf,pok,pval,VA.ev,Env.get,Env.put,Env.keep,Zae,aggV,Zag,Zap,PV.nth,PV.row,Heap.get,HL.get,Nat.le_refl,Nat.succ_ne_self,List.length,List.getD_cons_zero,List.take,List.drop,List.take_succ_cons,Nat.reduceEqDiff,Nat.reduceLT,Bool.false_eq_true,ite_true,ite_false,true_and,and_true,implies_true,Nat.zero_add,List.length_cons,qi0,qi1,qi2,qi3,qi4,qi5,qi6,qi7,qi8,qi9,qi10,qi11]
  refine Zaq ?_
  try simp only [Env.get,retQ,resV,Zau,RS.ev,RS.ok,ite_true,true_and,and_true]
  exact View.own_all (fz:=false) (by simp [Heap.get,HL.get,onS]) (by simp [onS])
end Go.Proofs.YtehokmhebnkfdaaGreat.w
