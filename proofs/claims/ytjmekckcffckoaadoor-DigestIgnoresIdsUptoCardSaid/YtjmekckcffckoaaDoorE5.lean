import Derived.Test.YtjmekckcffckoaaDoorE1
import Derived.Test.YtjmekckcffckoaaDoorW1
set_option linter.all false
namespace Go.Proofs.YtjmekckcffckoaaDoor.w
open Go Go.VM
set_option maxRecDepth 20000
set_option maxHeartbeats 0
set_option pp.deepTerms false
def c_pandectlaw12_plain:VC:=(.seq (.region [ZO 2 (.mv (.c .nilsl))] false) (.seq (.region [ZO 6 (.fx (.mk0 4) []),ZM 3 6] false) (.seq (.seq (.region [ZM 7 0,ZO 8 (.len false (.t 7)),ZO 9 (.mv (.c (.int .i64 0)))] false) (.block 0 (.loop (.seq (.region [ZO 10 (.bin .lss (.t 9) (.t 8))] false) (.seq (.cond (.t 10) .skip (.exit 0)) (.seq (.block 1 (.seq (.region [ZO 11 (.iaddr 4 (.t 7) (.t 9)),ZO 12 (.load true 4 (.t 11)),ZO 5 (.alloc [(.str []),(.int .i64 0),(.int .i64 0),(.int .i64 0)]),ZN (.store 4 (.t 5) (.t 12))] false) (.region [ZM 13 3,ZO 14 (.faddr 0 (.t 5)),ZO 15 (.load false 1 (.t 14)),ZO 16 (.build [(.str []),(.int .i64 0),(.int .i64 0),(.int .i64 0)] [(0,(1,(.t 15)))]),ZO 17 (.bslice 4 1 [(.str []),(.int .i64 0),(.int .i64 0),(.int .i64 0)] [(0,(.t 16))]),ZO 18 (.app 4 40 [(.str []),(.int .i64 0),(.int .i64 0),(.int .i64 0)] false (.t 13) (.t 17)),ZM 3 18] false))) (.region [ZO 19 (.bin .add (.t 9) (.c (.int .i64 1))),ZM 9 19] false))))))) (.seq (.region [ZM 20 3,ZM 2 20] false) .ret))))
def c_pandectlaw12_bare:VC:=(.seq (.region [ZO 1 (.box 8 (.t 0)),ZO 2 (.alloc [(.int .i64 0),(.int .i64 0),(.int .i64 0),(.int .i64 0),(.str []),.nilsl,.nilsl,.nilsl])] false) (.seq (.region [ZO 6 (.build [(.int .i64 0),(.int .i64 0),(.int .i64 0)] []),ZO 7 (.faddr 0 (.t 1)),ZN (.store 3 (.t 7) (.t 6))] false) (.seq (.draw2 [ZO 8 (.faddr 5 (.t 1)),ZO 9 (.load false 1 (.t 8)),ZO 10 (.call 35 [(.t 9)]),ZO 11 (.faddr 6 (.t 1)),ZO 12 (.load false 1 (.t 11)),ZO 13 (.call 35 [(.t 12)]),ZO 14 (.faddr 5 (.t 1)),ZN (.store 1 (.t 14) (.t 10)),ZO 15 (.faddr 6 (.t 1)),ZN (.store 1 (.t 15) (.t 13))] [true,true,true,true,true,true,true,false,false,false]) (.seq (.region [ZO 16 (.fx (.mk0 8) []),ZM 3 16] false) (.seq (.seq (.region [ZO 17 (.faddr 7 (.t 1)),ZO 18 (.load false 1 (.t 17)),ZO 19 (.len false (.t 18)),ZO 20 (.mv (.c (.int .i64 0)))] false) (.block 0 (.loop (.seq (.region [ZO 21 (.bin .lss (.t 20) (.t 19))] false) (.seq (.cond (.t 21) .skip (.exit 0)) (.seq (.block 1 (.seq (.region [ZO 22 (.iaddr 8 (.t 18) (.t 20)),ZO 23 (.load true 8 (.t 22)),ZO 5 (.alloc [(.int .i64 0),(.int .i64 0),(.int .i64 0),(.int .i64 0),(.str []),.nilsl,.nilsl,.nilsl]),ZN (.store 8 (.t 5) (.t 23))] false) (.region [ZM 24 3,ZO 25 (.load true 8 (.t 5)),ZO 26 (.call 18 [(.t 25)]),ZO 27 (.bslice 8 1 [(.int .i64 0),(.int .i64 0),(.int .i64 0),(.int .i64 0),(.str []),.nilsl,.nilsl,.nilsl] [(0,(.t 26))]),ZO 28 (.app 8 120 [(.int .i64 0),(.int .i64 0),(.int .i64 0),(.int .i64 0),(.str []),.nilsl,.nilsl,.nilsl] false (.t 24) (.t 27)),ZM 3 28] false))) (.region [ZO 29 (.bin .add (.t 20) (.c (.int .i64 1))),ZM 20 29] false))))))) (.seq (.region [ZM 30 3,ZO 31 (.faddr 7 (.t 1)),ZN (.store 1 (.t 31) (.t 30))] false) (.seq (.region [ZO 32 (.load true 8 (.t 1)),ZN (.store 8 (.t 2) (.t 32))] false) .ret)))))))
def Zb2:VC:=(.seq (.region [ZO 1 (.box 8 (.t 0)),ZO 2 (.mv (.c (.bool false)))] false) (.seq (.seq (.region [ZO 4 (.load true 8 (.t 1)),ZO 5 (.call 11 [(.t 4)])] false) (.cond (.t 5) (.seq (.region [ZO 6 (.call 8 []),ZM 2 6] false) .ret) .skip)) (.seq (.region [ZO 7 (.load true 8 (.t 1)),ZO 3 (.alloc [(.int .i64 0),(.int .i64 0),(.int .i64 0),(.int .i64 0),(.str []),.nilsl,.nilsl,.nilsl]),ZN (.store 8 (.t 3) (.t 7))] false) (.seq (.region [ZO 8 (.faddr 7 (.t 3)),ZN (.store 1 (.t 8) (.c .nilsl))] false) (.seq (.region [ZO 9 (.load true 8 (.t 1)),ZO 10 (.call 12 [(.t 9)]),ZO 11 (.load true 8 (.t 1)),ZO 12 (.call 18 [(.t 11)]),ZO 13 (.call 12 [(.t 12)]),ZO 14 (.bin .eql (.t 10) (.t 13)),ZM 15 14,ZG 16 (.load true 8 (.t 1)) 15 true,ZG 17 (.call 16 [(.t 16)]) 15 true,ZG 18 (.load true 8 (.t 3)) 15 true,ZG 19 (.call 16 [(.t 18)]) 15 true,ZG 20 (.bin .eql (.t 17) (.t 19)) 15 true,ZO 21 (.pick (.t 15) (.t 20) (.c (.bool false))),ZM 22 21,ZG 23 (.load true 8 (.t 3)) 22 true,ZG 24 (.call 14 [(.t 23)]) 22 true,ZG 25 (.load true 8 (.t 1)) 22 true,ZG 26 (.call 16 [(.t 25)]) 22 true,ZG 27 (.bin .eql (.t 24) (.t 26)) 22 true,ZO 28 (.pick (.t 22) (.t 27) (.c (.bool false))),ZM 29 28,ZG 30 (.call 8 []) 29 true,ZO 31 (.pick (.t 29) (.t 30) (.c (.bool false))),ZM 2 31] true) .ret)))))
def Zcs (w:Wd):Wd:=⟨w.text,0,0,0⟩
mutual
def bareU : Un → Un
  | .mk _ _ _ k l h w ks => .mk 0 0 0 k l (h.map Zcs) (w.map Zcs) (bareL ks)
def bareL : List Un → List Un
  | [] => []
  | k :: r => bareU k :: bareL r
end
theorem bareL_map:∀ l:List Un,bareL l = l.map bareU
  | []=>rfl
  | k :: r=>by rw [bareL,bareL_map r]; rfl
theorem bareU_eq (u:Un):bareU u = .mk 0 0 0 u.kind u.label (u.head.map Zcs) (u.words.map Zcs) (u.kids.map bareU):=by cases u; rw [bareU,bareL_map]; rfl
theorem sp_plain (l:List Wd) (hl:l.length ≤ 1000000):Za2 Tryd.prog 35 [.sl 4 (l.map Wd.enc)] (.sl 4 ((l.map Zcs).map Wd.enc)):=by
  refine Zah ?_ (Zax fun w _ y hy=>Wd.closed w y hy) (by simp only [Zau,List.mem_cons,List.not_mem_nil,or_false,forall_eq_or_imp,forall_eq,false_implies,implies_true]; repeat' (first  | exact closed_gzs _ | exact Zax (fun w _=>Wd.closed w) | refine And.intro ?_ ?_))
  refine Zal (vc:=c_pandectlaw12_plain) (ts:=[.t 2]) Go.Proofs.Tryd.func35 (by kernel_rfl) rfl rfl (Nat.le_of_ble_eq_true rfl) (by kernel_rfl) ?_
  unfold c_pandectlaw12_plain
  try dsimp only [ZM,ZO,ZN,ZG]
  refine Zac (Zaa [0] ?_)
  simp only [Zab,Zad,Zaf,pok,pval,VA.ev,Env.get,Env.put,Env.keep,Zav,Zae,Heap.nil,ite_true,ite_false,true_and,reduceCtorEq]
  refine Zac (Zaa [0,3] ?_)
  simp only [Zab,Zad,Zaf,pok,pval,VA.ev,Env.get,Env.put,Env.keep,Zae,Heap.push,fxV,fxOk,List.map,Nat.reduceEqDiff,ite_true,ite_false,true_and,reduceCtorEq,Nat.zero_add]
  refine Zac ?_
  refine Zac (Zaa [3,7,8,9] ?_)
  simp only [Zab,Zad,Zaf,pok,pval,VA.ev,Env.get,Env.put,Env.keep,Zae,lenV,Zb5,Nat.succ_ne_self,Nat.reduceEqDiff,ite_true,ite_false,true_and,reduceCtorEq,List.length_map]
  refine Zao ?_
  refine Zbs (σ:={ s:Nat × Nat × Nat // s.1 ≤ l.length ∧ s.2.1 < s.2.2 }) (fun s=>([(3,.own s.1.2.1 0 s.1.1),(7,.sl 4 (l.map Wd.enc)),(8,pI l.length),(9,pI s.1.1)],⟨[(s.1.2.1,.arr false 4 (((l.take s.1.1).map Zcs).map Wd.enc))],s.1.2.2⟩)) (fun s=>l.length - s.1.1) ⟨(0,0,1),by simp⟩ ?_ ?_ ?_
  · simp only [Env.get,Nat.succ_ne_self,Env.le,Nat.reduceEqDiff,ite_true,ite_false,true_and,and_true]
    rfl
  · simp only [Heap.get,Heap.le,HL.get,HL.le,Nat.le_refl,List.map,List.take,ite_true,and_true]
    try rfl
  rintro ⟨⟨k,id,n⟩,hk,hid⟩
  simp only [] at hk hid ⊢
  have qi0:(id = n) = False:=by simp; omega
  have qi1:(n = id) = False:=by simp; omega
  have qi2:∀ j,(n + j = id) = False:=fun j=>by simp; try omega
  have qi3:∀ j,(id = n + j) = False:=fun j=>by simp; try omega
  have qi4:∀ j,(n + (j + 1) = n) = False:=fun j=>by simp; try omega
  have qi5:∀ j,(n = n + (j + 1)) = False:=fun j=>by simp; try omega
  have qi6:(n + 1 + 1 = n) = False:=by simp; try omega
  have qi7:(n = n + 1 + 1) = False:=by simp; try omega
  have qi8:(n + 1 + 1 + 1 = n) = False:=by simp; try omega
  have qi9:(n = n + 1 + 1 + 1) = False:=by simp; try omega
  refine Zac (Zaa [3,7,8,9,10] ?_)
  simp only [Zab,Zad,Zaf,pok,pval,VA.ev,Env.get,Env.put,Env.keep,Zae,intV,binV,Zak,Heap.get,Heap.le,HL.le,Nat.succ_ne_self,Env.le,Nat.reduceEqDiff,ite_true,ite_false,true_and,and_true]
  refine Zac ?_
  refine Zaj rfl (fun h1=>?_) (fun h1=>?_)
  · refine Zam ?_
    try simp only [Zae]
    simp only [decide_eq_true_eq] at h1
    have ka:k < l.length:=by omega
    have hst:((l.take (k + 1)).map Zcs).map Wd.enc = ((l.take k).map Zcs).map Wd.enc ++ [(Zcs l[k]).enc]:=by
      rw [List.take_add_one,List.getElem?_eq_getElem ka,List.map_append,List.map_append]; rfl
    have hB:(((l.take k).map Zcs).map Wd.enc).length = k:=by simp; omega
    have hrow:(l.map Wd.enc).getD k [] = l[k].enc:=rowm ka
    generalize ((l.take k).map Zcs).map Wd.enc = B at hst hB ⊢
    generalize l[k] = y at hst hrow
    have hye:(Zcs y).enc = [.str y.text,pI 0,pI 0,pI 0]:=rfl
    rw [hye] at hst
    have tk:List.take k B = B:=List.take_of_length_le (by omega)
    refine Zac ?_
    refine Zao ?_
    refine Zac (Zaa [3,5,7,8,9] ?_)
    simp only [Zab,Zad,Zaf,pok,pval,VA.ev,Env.get,Env.put,Env.keep,Zae,aggV,isInt,numOf,lenV,Zag,Zap,Zbx,Zbi,PV.cells,PV.fits,overlay,PV.nth,PV.row,Heap.get,Heap.set,HL.get,HL.set,HL.del,Heap.push,Nat.le_refl,Nat.succ_ne_self,Zbt,Zbr,List.set,List.length,List.getD_cons_zero,List.take,List.drop,List.take_succ_cons,List.drop_succ_cons,List.cons_append,List.nil_append,Nat.reduceEqDiff,Nat.reduceAdd,Nat.reduceLT,Bool.true_eq_false,ite_true,ite_false,true_and,and_true,BEq.rfl,Nat.zero_add,List.length_cons,imp_self,Int.toNat_natCast,List.length_map,hrow,Wd.enc,qi0,qi1,qi2,qi3,qi4,qi5,qi6,qi7,qi8,qi9]
    refine ⟨by omega,?_⟩
    refine Zaa [3,7,8,9] ?_
    simp only [Zab,Zad,Zaf,pok,pval,VA.ev,Env.get,Env.put,Env.keep,Zae,Zat,aggV,Za8,Za5,Zag,Zap,fillV,fillOk,PV.cells,PV.fits,overlay,PV.nth,PV.row,Heap.get,Heap.del,HL.get,HL.del,Heap.push,Nat.le_refl,Nat.succ_ne_self,Zbh,oldId,Zbk,oldOk,Za3,srcOk,Zbd,Zbg,List.set,List.replicate,List.length,List.getD_cons_zero,List.take,List.drop,List.take_succ_cons,List.drop_succ_cons,List.cons_append,List.nil_append,Nat.reduceEqDiff,Nat.reduceAdd,Nat.reduceLT,Nat.reduceLeDiff,Bool.false_eq_true,ite_true,ite_false,true_and,and_true,implies_true,BEq.rfl,Nat.zero_add,Nat.add_zero,List.length_cons,tk,hB,qi0,qi1,qi2,qi3,qi4,qi5,qi6,qi7,qi8,qi9]
    refine ⟨by omega,by omega,?_⟩
    refine Zaa [3,7,8,9] ?_
    simp only [Zab,Zad,Zaf,pok,pval,VA.ev,Env.get,Env.put,Env.keep,Zae,intV,binV,Zak,HL.get,Nat.succ_ne_self,Nat.reduceEqDiff,ite_true,ite_false,true_and,qi0,qi1,qi2,qi3,qi4,qi5,qi6,qi7,qi8,qi9,w64 (n:=(k:Int) + 1) (by omega) (by omega)]
    refine ⟨⟨(k + 1,n + 2,n + 3),by simp only []; omega,by simp only []; omega⟩,?_,?_,?_⟩
    · simp
    · rw [hst]; simp
    · simp only []; omega
  · simp only [decide_eq_false_iff_not] at h1
    obtain rfl:k = l.length:=by omega
    rw [List.take_length]
    refine Zbo ?_
    try simp only [Zae,Zat,retQ,ite_true]
    refine Zac (Zaa [2] ?_)
    simp only [Zab,Zad,Zaf,pok,pval,VA.ev,Env.get,Env.put,Env.keep,Zae,Nat.succ_ne_self,Nat.reduceEqDiff,ite_true,ite_false,true_and,qi0,qi1,qi2,qi3,qi4,qi5,qi6,qi7,qi8,qi9]
    refine Zaq ?_
    try simp only [Env.get,retQ,resV,Za4,RS.ev,RS.ok,ite_true,true_and,and_true]
    exact View.own_all (fz:=false) (by simp [Heap.get,HL.get]) (by simp)
theorem sp_bare {u:Un} (hu:SmalT u):Za2 Tryd.prog 18 [.agg u.enc] (.agg (bareU u).enc):=by
  induction hu with
  | mk u h hk hs ih =>
    have P1:=sp_plain u.head (by have:=h.head.1; omega)
    have P2:=sp_plain u.words (by have:=h.words.1; omega)
    rw [bareU_eq,Un.Zay (.mk 0 0 0 u.kind u.label (u.head.map Zcs) (u.words.map Zcs) (u.kids.map bareU))]
    refine Zah ?_ ((by rw [← Un.Zay (.mk 0 0 0 u.kind u.label (u.head.map Zcs) (u.words.map Zcs) (u.kids.map bareU))]; exact Zas fun x hx=>Un.closed _ x hx)) (by simp only [Zau,List.mem_cons,List.not_mem_nil,or_false,forall_eq_or_imp,forall_eq,false_implies,implies_true]; repeat' (first  | exact Zas (Un.closed _) | refine And.intro ?_ ?_))
    refine Zal (vc:=c_pandectlaw12_bare) (ts:=[.c 2 true 8]) Go.Proofs.Tryd.func18 (by kernel_rfl) rfl rfl (Nat.le_of_ble_eq_true rfl) (by kernel_rfl) ?_
    unfold c_pandectlaw12_bare
    try dsimp only [ZM,ZO,ZN,ZG]
    rw [Un.Zay]
    show VW _ _ _ (retQ _ fun r h'=>View h' r (.agg [pI 0,pI 0,pI 0,pI u.kind,.str u.label,.sl 4 ((u.head.map Zcs).map Wd.enc),.sl 4 ((u.words.map Zcs).map Wd.enc),.sl 8 ((u.kids.map bareU).map Un.enc)])) _ _
    generalize (u.head.map Zcs).map Wd.enc = BH at *
    generalize (u.words.map Zcs).map Wd.enc = BW at *
    generalize u.head.map Wd.enc = EH at *
    generalize u.words.map Wd.enc = EW at *
    generalize u.kids = L at hk hs ih ⊢
    refine Zac (Zaa [1,2] ?_)
    simp only [Zab,Zad,Zaf,VA.ev,Env.get,Env.put,Env.keep,Zav,Zae,PV.cells,PV.fits,Heap.push,Heap.nil,Nat.succ_ne_self,List.length,Nat.reduceEqDiff,Nat.reduceAdd,ite_true,ite_false,true_and,reduceCtorEq,BEq.rfl,Nat.zero_add]
    refine Zac (Zaa [1,2] ?_)
    simp only [Zab,Zad,Zaf,pok,pval,VA.ev,Env.get,Env.put,Env.keep,Zae,Za8,Za5,fillV,fillOk,PV.cells,PV.fits,overlay,PV.row,Heap.get,Heap.set,HL.get,HL.set,HL.del,Nat.succ_ne_self,Zbt,Zbr,List.set,List.length,List.getD_cons_zero,List.take,List.drop,List.drop_succ_cons,List.cons_append,List.nil_append,Nat.reduceEqDiff,Nat.reduceAdd,Nat.reduceLT,Nat.reduceLeDiff,ite_true,ite_false,true_and,and_true,BEq.rfl,Nat.zero_add,Nat.add_zero,List.length_cons]
    refine Zac (VW_draw2H [1,2] (by simp [Heap.le,Heap.get,HL.le,HL.get]) ?_)
    simp only [Zaf,DrawH,VOp.isIaddr,QW,dok,dval,VOp.pure,VOp.simple,VOp.det,pok,pval,VA.ev,Env.get,Env.put,Env.keep,Zae,gd,aggV,Za8,Za5,Zag,Zap,PV.cells,PV.fits,overlay,PV.nth,PV.row,Heap.get,Heap.set,HL.get,HL.set,HL.del,Nat.succ_ne_self,Zbt,Zbr,List.set,List.length,List.getD_cons_zero,List.getD_cons_succ,List.take,List.drop,List.take_succ_cons,List.drop_succ_cons,List.cons_append,List.nil_append,Nat.reduceEqDiff,Nat.reduceAdd,Nat.reduceLT,Nat.reduceLeDiff,Bool.false_eq_true,ite_true,ite_false,true_and,and_true,implies_true,forall_const,BEq.rfl,Nat.zero_add,List.length_cons]
    refine ⟨_,.inl P1,_,.inl P2,?_⟩
    try simp only [List.length,List.take,List.drop,List.take_succ_cons,List.drop_succ_cons,List.cons_append,List.nil_append,Nat.reduceAdd,true_and,Nat.zero_add]
    refine Zac (Zaa [1,2,3] ?_)
    simp only [Zab,Zad,Zaf,pok,pval,VA.ev,Env.get,Env.put,Env.keep,Zae,Heap.push,Nat.succ_ne_self,fxV,fxOk,List.map,Nat.reduceEqDiff,Nat.reduceAdd,ite_true,ite_false,true_and]
    refine Zac ?_
    refine Zac (Zaa [1,2,3,18,19,20] ?_)
    simp only [Zab,Zad,Zaf,pok,pval,VA.ev,Env.get,Env.put,Env.keep,Zae,aggV,lenV,Za8,Za5,Zag,Zap,Zb5,PV.nth,PV.row,Heap.get,HL.get,Nat.le_refl,Nat.succ_ne_self,List.length,List.getD_cons_zero,List.take,List.drop,List.take_succ_cons,List.drop_succ_cons,Nat.reduceEqDiff,Nat.reduceLT,Bool.false_eq_true,ite_true,ite_false,true_and,and_true,implies_true,reduceCtorEq,Nat.zero_add,List.length_cons,List.length_map]
    refine Zao ?_
    refine Zbs (σ:={ s:Nat × Nat × Nat // s.1 ≤ L.length ∧ 1 < s.2.1 ∧ s.2.1 < s.2.2 }) (fun s=>([(1,.loc 0 0 0),(2,.loc 1 0 0),(3,.own s.1.2.1 0 s.1.1),(18,.sl 8 (L.map Un.enc)),(19,pI L.length),(20,pI s.1.1)],⟨[(s.1.2.1,.arr false 8 (((L.take s.1.1).map bareU).map Un.enc)),(0,.arr false 8 [[pI 0,pI 0,pI 0,pI u.kind,.str u.label,.sl 4 BH,.sl 4 BW,.sl 8 (L.map Un.enc)]]),(1,.arr false 8 [[pI 0,pI 0,pI 0,pI 0,.str [],.nilsl,.nilsl,.nilsl]])],s.1.2.2⟩)) (fun s=>L.length - s.1.1) ⟨(0,2,3),by simp⟩ ?_ ?_ ?_
    · simp only [Env.get,Nat.succ_ne_self,Env.le,Nat.reduceEqDiff,ite_true,ite_false,true_and,and_true]
      rfl
    · simp only [Heap.get,Heap.le,HL.get,HL.le,Nat.le_refl,Nat.succ_ne_self,List.map,List.take,Nat.reduceEqDiff,ite_true,ite_false,and_true,reduceCtorEq]
      try rfl
    rintro ⟨⟨k,id,n⟩,hkl,h1id,hid⟩
    simp only [] at hkl h1id hid ⊢
    have qi0:(0 = 1) = False:=eq_false (by omega)
    have qi1:(0 = id) = False:=eq_false (by omega)
    have qi2:(0 = n) = False:=eq_false (by omega)
    have qi3:(0 = (n + 1)) = False:=eq_false (by omega)
    have qi4:(0 = (n + 1 + 1)) = False:=eq_false (by omega)
    have qi5:(1 = 0) = False:=eq_false (by omega)
    have qi6:(1 = id) = False:=eq_false (by omega)
    have qi7:(1 = n) = False:=eq_false (by omega)
    have qi8:(1 = (n + 1)) = False:=eq_false (by omega)
    have qi9:(1 = (n + 1 + 1)) = False:=eq_false (by omega)
    have qi10:(id = 0) = False:=eq_false (by omega)
    have qi11:(id = 1) = False:=eq_false (by omega)
    have qi12:(id = n) = False:=eq_false (by omega)
    have qi13:(id = (n + 1)) = False:=eq_false (by omega)
    have qi14:(id = (n + 1 + 1)) = False:=eq_false (by omega)
    have qi15:(n = 0) = False:=eq_false (by omega)
    have qi16:(n = 1) = False:=eq_false (by omega)
    have qi17:(n = id) = False:=eq_false (by omega)
    have qi18:(n = (n + 1)) = False:=eq_false (by omega)
    have qi19:(n = (n + 1 + 1)) = False:=eq_false (by omega)
    have qi20:((n + 1) = 0) = False:=eq_false (by omega)
    have qi21:((n + 1) = 1) = False:=eq_false (by omega)
    have qi22:((n + 1) = id) = False:=eq_false (by omega)
    have qi23:((n + 1) = n) = False:=eq_false (by omega)
    have qi24:((n + 1) = (n + 1 + 1)) = False:=eq_false (by omega)
    have qi25:((n + 1 + 1) = 0) = False:=eq_false (by omega)
    have qi26:((n + 1 + 1) = 1) = False:=eq_false (by omega)
    have qi27:((n + 1 + 1) = id) = False:=eq_false (by omega)
    have qi28:((n + 1 + 1) = n) = False:=eq_false (by omega)
    have qi29:((n + 1 + 1) = (n + 1)) = False:=eq_false (by omega)
    refine Zac (Zaa [1,2,3,18,19,20,21] ?_)
    simp only [Zab,Zad,Zaf,pok,pval,VA.ev,Env.get,Env.put,Env.keep,Zae,intV,binV,Zak,Heap.get,Heap.le,HL.le,Nat.succ_ne_self,Env.le,Nat.reduceEqDiff,ite_true,ite_false,true_and,and_true,qi0,qi1,qi2,qi3,qi4,qi5,qi6,qi7,qi8,qi9,qi10,qi11,qi12,qi13,qi14,qi15,qi16,qi17,qi18,qi19,qi20,qi21,qi22,qi23,qi24,qi25,qi26,qi27,qi28,qi29]
    refine Zac ?_
    refine Zaj rfl (fun h1=>?_) (fun h1=>?_)
    · refine Zam ?_
      try simp only [Zae,qi0,qi1,qi2,qi3,qi4,qi5,qi6,qi7,qi8,qi9,qi10,qi11,qi12,qi13,qi14,qi15,qi16,qi17,qi18,qi19,qi20,qi21,qi22,qi23,qi24,qi25,qi26,qi27,qi28,qi29]
      simp only [decide_eq_true_eq] at h1
      have ka:k < L.length:=by omega
      have hst:((L.take (k + 1)).map bareU).map Un.enc = ((L.take k).map bareU).map Un.enc ++ [(bareU L[k]).enc]:=by
        rw [List.take_add_one,List.getElem?_eq_getElem ka,List.map_append,List.map_append]; rfl
      have hB:(((L.take k).map bareU).map Un.enc).length = k:=by simp; omega
      have hrow:(L.map Un.enc).getD k [] = L[k].enc:=rowm ka
      have R:=ih _ (List.getElem_mem ka)
      generalize ((L.take k).map bareU).map Un.enc = B at hst hB ⊢
      generalize L[k] = v at hst hrow R
      have hbe:=Un.Zay (bareU v)
      rw [hbe] at hst R
      rw [Un.Zay] at hrow R
      generalize bareU v = bv at hst R
      have tk:List.take k B = B:=List.take_of_length_le (by omega)
      refine Zac ?_
      refine Zao ?_
      refine Zac (Zaa [1,2,3,5,18,19,20] ?_)
      simp only [Zab,Zad,Zaf,pok,pval,VA.ev,Env.get,Env.put,Env.keep,Zae,aggV,isInt,numOf,lenV,Zag,Zap,Zbx,Zbi,PV.cells,PV.fits,overlay,PV.nth,PV.row,Heap.get,Heap.set,HL.get,HL.set,HL.del,Heap.push,Nat.le_refl,Nat.succ_ne_self,Zbt,Zbr,List.set,List.length,List.getD_cons_zero,List.take,List.drop,List.take_succ_cons,List.drop_succ_cons,List.cons_append,List.nil_append,Nat.reduceEqDiff,Nat.reduceAdd,Nat.reduceLT,Bool.true_eq_false,ite_true,ite_false,true_and,and_true,BEq.rfl,Nat.zero_add,List.length_cons,imp_self,Int.toNat_natCast,List.length_map,hrow,qi0,qi1,qi2,qi3,qi4,qi5,qi6,qi7,qi8,qi9,qi10,qi11,qi12,qi13,qi14,qi15,qi16,qi17,qi18,qi19,qi20,qi21,qi22,qi23,qi24,qi25,qi26,qi27,qi28,qi29]
      refine ⟨by omega,?_⟩
      refine Zaa [1,2,3,18,19,20] ?_
      simp only [Zab,Zad,Zaf,pok,pval,VA.ev,Env.get,Env.put,Env.keep,Zae,Zat,aggV,Zag,Zap,PV.cells,PV.fits,PV.nth,PV.row,Heap.get,Heap.del,HL.get,HL.del,Heap.push,Nat.le_refl,Nat.succ_ne_self,Zbh,oldId,Zbk,oldOk,Za3,srcOk,Zbd,Zbg,List.map,List.set,List.replicate,List.length,List.getD_cons_zero,List.take,List.drop,List.take_succ_cons,Nat.reduceEqDiff,Nat.reduceAdd,Nat.reduceLT,Nat.reduceLeDiff,Bool.true_eq_false,ite_true,ite_false,true_and,and_true,Nat.zero_add,List.length_cons,imp_self,tk,hB,qi0,qi1,qi2,qi3,qi4,qi5,qi6,qi7,qi8,qi9,qi10,qi11,qi12,qi13,qi14,qi15,qi16,qi17,qi18,qi19,qi20,qi21,qi22,qi23,qi24,qi25,qi26,qi27,qi28,qi29]
      refine Zan R ?_
      try simp only [HL.get,HL.del,Nat.le_refl,List.length,Nat.reduceAdd,ite_true,ite_false,true_and,and_true,BEq.rfl,Nat.zero_add,tk,hB,qi0,qi1,qi2,qi3,qi4,qi5,qi6,qi7,qi8,qi9,qi10,qi11,qi12,qi13,qi14,qi15,qi16,qi17,qi18,qi19,qi20,qi21,qi22,qi23,qi24,qi25,qi26,qi27,qi28,qi29]
      refine ⟨by omega,by omega,?_⟩
      refine Zaa [1,2,3,18,19,20] ?_
      simp only [Zab,Zad,Zaf,pok,pval,VA.ev,Env.get,Env.put,Env.keep,Zae,intV,binV,Zak,HL.get,Nat.succ_ne_self,Nat.reduceEqDiff,ite_true,ite_false,true_and,and_true,qi0,qi1,qi2,qi3,qi4,qi5,qi6,qi7,qi8,qi9,qi10,qi11,qi12,qi13,qi14,qi15,qi16,qi17,qi18,qi19,qi20,qi21,qi22,qi23,qi24,qi25,qi26,qi27,qi28,qi29,w64 (n:=(k:Int) + 1) (by omega) (by omega)]
      refine ⟨⟨(k + 1,n + 2,n + 3),by simp only []; omega,by simp only []; omega,by simp only []; omega⟩,?_,?_,?_⟩
      · simp
      · rw [hst]; simp
      · simp only []; omega
    simp only [decide_eq_false_iff_not] at h1
    obtain rfl:k = L.length:=by omega
    rw [List.take_length]
    refine Zbo ?_
    try simp only [Zae,Zat,retQ,ite_true,qi0,qi1,qi2,qi3,qi4,qi5,qi6,qi7,qi8,qi9,qi10,qi11,qi12,qi13,qi14,qi15,qi16,qi17,qi18,qi19,qi20,qi21,qi22,qi23,qi24,qi25,qi26,qi27,qi28,qi29]
    refine Zac (Zaa [1,2] ?_)
    simp only [Zab,Zad,Zaf,pok,pval,VA.ev,Env.get,Env.put,Env.keep,Zae,Za8,Za5,PV.cells,PV.fits,overlay,PV.row,Heap.get,Heap.set,HL.get,HL.set,HL.del,Nat.le_refl,Nat.succ_ne_self,Zbt,Zbr,List.set,List.length,List.getD_cons_zero,List.take,List.drop,List.take_succ_cons,List.drop_succ_cons,List.cons_append,List.nil_append,Nat.reduceEqDiff,Nat.reduceAdd,Nat.reduceLT,ite_true,ite_false,true_and,and_true,BEq.rfl,Nat.zero_add,List.length_cons,qi0,qi1,qi2,qi3,qi4,qi5,qi6,qi7,qi8,qi9,qi10,qi11,qi12,qi13,qi14,qi15,qi16,qi17,qi18,qi19,qi20,qi21,qi22,qi23,qi24,qi25,qi26,qi27,qi28,qi29]
    refine Zac (Zaa [2] ?_)
    simp only [Zab,Zad,Zaf,pok,pval,VA.ev,Env.get,Env.put,Env.keep,Zae,aggV,Zag,Zap,PV.cells,PV.fits,overlay,PV.nth,PV.row,Heap.get,Heap.set,HL.get,HL.set,HL.del,Nat.le_refl,Nat.succ_ne_self,Zbt,Zbr,List.set,List.length,List.getD_cons_zero,List.take,List.drop,List.take_succ_cons,List.drop_succ_cons,List.cons_append,List.nil_append,Nat.reduceEqDiff,Nat.reduceAdd,Nat.reduceLT,Bool.true_eq_false,ite_true,ite_false,true_and,and_true,BEq.rfl,Nat.zero_add,List.length_cons,imp_self,qi0,qi1,qi2,qi3,qi4,qi5,qi6,qi7,qi8,qi9,qi10,qi11,qi12,qi13,qi14,qi15,qi16,qi17,qi18,qi19,qi20,qi21,qi22,qi23,qi24,qi25,qi26,qi27,qi28,qi29]
    refine Zaq ?_
    try simp only [Env.get,retQ,resV,Za4,RS.ev,RS.ok,aggV,Zag,Zap,PV.nth,PV.row,Heap.get,HL.get,Nat.le_refl,List.length,List.getD_cons_zero,List.take,List.drop,List.take_succ_cons,Nat.reduceEqDiff,Nat.reduceAdd,Nat.reduceLT,Bool.true_eq_false,ite_true,ite_false,true_and,and_true,Nat.zero_add,List.length_cons,imp_self,qi0,qi1,qi2,qi3,qi4,qi5,qi6,qi7,qi8,qi9,qi10,qi11,qi12,qi13,qi14,qi15,qi16,qi17,qi18,qi19,qi20,qi21,qi22,qi23,qi24,qi25,qi26,qi27,qi28,qi29]
    refine View.agg rfl fun j hj=>?_
    have hj':j = 0 ∨ j = 1 ∨ j = 2 ∨ j = 3 ∨ j = 4 ∨ j = 5 ∨ j = 6 ∨ j = 7:=by simp only [List.length_cons,List.length_nil] at hj; omega
    rcases hj' with rfl | rfl | rfl | rfl | rfl | rfl | rfl | rfl
    · exact View.refl _ _
    · exact View.refl _ _
    · exact View.refl _ _
    · exact View.refl _ _
    · exact View.refl _ _
    · exact View.refl _ _
    · exact View.refl _ _
    · show View _ (.own id 0 L.length) (.sl 8 ((L.map bareU).map Un.enc))
      exact View.own_all (fz:=false) (by simp [Heap.get,HL.get]) (by simp)
theorem flat_same {α β:Type} {f g:α → List β}:∀ {l:List α},(∀ k ∈ l,f k = g k) → l.flatMap f = l.flatMap g
  | [],_=>rfl
  | a :: r,h=>by rw [List.flatMap_cons,List.flatMap_cons,h a List.mem_cons_self,flat_same fun k hk=>h k (List.mem_cons_of_mem _ hk)]
theorem bareW_row (l:List Wd):rowT false (l.map Zcs) = rowT false l:=by
  unfold rowT
  rw [List.length_map,List.flatMap_map]
  rfl
theorem bareU_alone (u:Un):Zbb false (bareU u) = Zbb false u:=by
  rw [bareU_eq]
  unfold Zbb
  show _ ++ rowT false (u.head.map Zcs) ++ [10] ++ rowT false (u.words.map Zcs) ++ [10] = _
  rw [bareW_row,bareW_row]; rfl
theorem bareU_says {u:Un} (hu:SmalT u):saysT false (bareU u) = saysT false u:=by
  induction hu with
  | mk u h hk hs ih =>
    rw [saysT_eq,saysT_eq false u,bareU_alone,bareU_eq]
    show sumT (_ ++ saysL false (u.kids.map bareU)) = _
    rw [saysL_flat,saysL_flat,List.flatMap_map]
    congr 2
    exact flat_same ih
theorem bareU_smal {u:Un} (hu:SmalT u):SmalT (bareU u):=by
  induction hu with
  | mk u h hk hs ih =>
    rw [bareU_eq]
    have z:i64 0:=i64_iff.2 (by omega)
    refine .mk _ ⟨⟨z,z,z,h.ok.2.2.2⟩,h.label,⟨by rw [show (Un.mk 0 0 0 u.kind u.label (u.head.map Zcs) (u.words.map Zcs) (u.kids.map bareU)).head = u.head.map Zcs from rfl,List.length_map]; exact h.head.1,fun w hw=>?_⟩,⟨by rw [show (Un.mk 0 0 0 u.kind u.label (u.head.map Zcs) (u.words.map Zcs) (u.kids.map bareU)).words = u.words.map Zcs from rfl,List.length_map]; exact h.words.1,fun w hw=>?_⟩⟩ (by rw [show (Un.mk 0 0 0 u.kind u.label (u.head.map Zcs) (u.words.map Zcs) (u.kids.map bareU)).kids = u.kids.map bareU from rfl,List.length_map]; exact hk) fun k hk=>?_
    · obtain ⟨x,hx,rfl⟩:=List.mem_map.1 hw
      exact ⟨(h.head.2 x hx).1,z,z,z⟩
    · obtain ⟨x,hx,rfl⟩:=List.mem_map.1 hw
      exact ⟨(h.words.2 x hx).1,z,z,z⟩
    · obtain ⟨x,hx,rfl⟩:=List.mem_map.1 hk
      exact ih x hx
def lone (u:Un):Un:=.mk u.act u.item u.n u.kind u.label u.head u.words []
theorem lone_smal {u:Un} (hu:SmalU u):SmalT (lone u):=.mk _ ⟨hu.ok,hu.label,hu.head,hu.words⟩ (by simp [lone,Un.kids]) fun k hk=>by simp [lone,Un.kids] at hk
theorem lone_alone (m:Bool) (u:Un):Zbb m (lone u) = Zbb m u:=rfl
theorem law_DigestIgnoresIds (u:Un) (hu:UnB u):Za2 Tryd.prog 5 [.agg u.enc] (.bool true):=by
  have A:=sp_awake
  have H:=sp_heavy hu
  have L:=light hu
  generalize heavyT u = hv at H L
  refine Zah ?_ (cB _) (by simp only [Zau,List.mem_cons,List.not_mem_nil,or_false,forall_eq_or_imp,forall_eq,false_implies,implies_true]; repeat' (first  | exact cB _ | exact Zas (Un.closed _) | refine And.intro ?_ ?_))
  refine Zal (vc:=Zb2) (ts:=[.t 2]) Go.Proofs.Tryd.func5 (by kernel_rfl) rfl rfl (Nat.le_of_ble_eq_true rfl) (by kernel_rfl) ?_
  unfold Zb2
  try dsimp only [ZM,ZO,ZN,ZG]
  have hE:=Un.Zay u
  rw [hE] at H ⊢
  refine Zac (Zaa [1] ?_)
  simp only [Zab,Zad,Zaf,pok,pval,VA.ev,Env.get,Env.put,Env.keep,Zav,Zae,PV.cells,PV.fits,Heap.push,Heap.nil,Nat.succ_ne_self,List.length,Nat.reduceAdd,ite_true,ite_false,true_and,reduceCtorEq,BEq.rfl,Nat.zero_add]
  refine Za9 [(1,.ro [pI u.act,pI u.item,pI u.n,pI u.kind,.str u.label,.sl 4 (u.head.map Wd.enc),.sl 4 (u.words.map Wd.enc),.sl 8 (u.kids.map Un.enc)])] ⟨View.loc (z:=8) (fz:=false) (es:=[[pI u.act,pI u.item,pI u.n,pI u.kind,.str u.label,.sl 4 (u.head.map Wd.enc),.sl 4 (u.words.map Wd.enc),.sl 8 (u.kids.map Un.enc)]]) rfl (by simp) rfl (by simp),trivial⟩ ?_
  refine Zac ?_
  refine Zac (Zaa [1,5] ?_)
  simp only [Zab,Zad,Zaf,pok,pval,VA.ev,Env.get,Env.put,Env.keep,Zae,aggV,Zag,Zap,PV.nth,Nat.le_refl,List.map,List.length,List.getD_cons_zero,List.take,List.take_succ_cons,Nat.reduceEqDiff,Nat.reduceAdd,Bool.true_eq_false,ite_true,ite_false,true_and,and_true,Nat.zero_add,List.length_cons,imp_self]
  refine Zan H ?_
  skip
  cases hv with
  | true =>
    refine Zaj rfl (fun _=>?_) (fun h=>by cases h)
    refine Zac (Zaa [2] ?_)
    simp only [Zab,Zad,Zaf,pok,pval,VA.ev,Env.get,Env.put,Env.keep,Zae,List.map,Nat.reduceEqDiff,ite_true,ite_false,true_and]
    refine Zan A ?_
    skip
    refine Zaq ?_
    try simp only [Env.get,Zae,retQ,resV,Za4,RS.ev,RS.ok,ite_true,true_and,and_true]
    exact View.refl _ _
  | false =>
    obtain ⟨hS,hn⟩:=L rfl
    have hU:SmalU u:=by cases hS; assumption
    have C1:=Zch hS
    have B1:=sp_bare hS
    have C2:=Zch (bareU_smal hS)
    rw [bareU_says hS] at C2
    have S1:=sp_digest_Self u hU
    have S2:=sp_digest_Self (lone u) (by have:=lone_smal hU; cases this; assumption)
    have F2:=sp_digest_Full (lone_smal hU)
    rw [lone_alone] at S2
    rw [saysT_eq,lone_alone,show saysL true (lone u).kids = [] from rfl,List.append_nil] at F2
    have hE2:=Un.Zay (lone u)
    have hE3:=Un.Zay (bareU u)
    rw [hE] at C1 S1 B1
    rw [hE2] at S2 F2
    rw [hE3] at B1 C2
    generalize saysT false u = X1 at C1 C2
    generalize sumT (Zbb true u) = X3 at S1 S2 F2
    generalize bareU u = bu at B1 C2
    replace S2:Za2 Tryd.prog 16 [.agg [pI u.act,pI u.item,pI u.n,pI u.kind,.str u.label,.sl 4 (u.head.map Wd.enc),.sl 4 (u.words.map Wd.enc),.sl 8 []]] (.str X3):=S2
    replace F2:Za2 Tryd.prog 14 [.agg [pI u.act,pI u.item,pI u.n,pI u.kind,.str u.label,.sl 4 (u.head.map Wd.enc),.sl 4 (u.words.map Wd.enc),.sl 8 []]] (.str X3):=F2
    generalize u.head.map Wd.enc = EH at *
    generalize u.words.map Wd.enc = EW at *
    generalize u.kids.map Un.enc = EK at *
    refine Zaj rfl (fun h=>by cases h) (fun _=>?_)
    refine Zam ?_
    try simp only [Zae]
    refine Zac (Zaa [1,3] ?_)
    simp only [Zab,Zad,Zaf,pok,pval,VA.ev,Env.get,Env.put,Env.keep,Zae,aggV,Zag,Zap,PV.cells,PV.fits,overlay,PV.nth,PV.row,Heap.get,Heap.set,HL.get,HL.set,HL.del,Heap.push,Nat.le_refl,Zbt,Zbr,List.set,List.length,List.getD_cons_zero,List.take,List.drop,List.take_succ_cons,List.drop_succ_cons,List.cons_append,List.nil_append,Nat.reduceEqDiff,Nat.reduceAdd,Nat.reduceLT,Bool.true_eq_false,ite_true,ite_false,true_and,and_true,BEq.rfl,Nat.zero_add,List.length_cons,imp_self]
    refine Zac (Zaa [1,3] ?_)
    simp only [Zab,Zad,Zaf,pok,pval,VA.ev,Env.get,Env.put,Env.keep,Zae,Za8,Za5,PV.cells,PV.fits,overlay,PV.row,Heap.get,Heap.set,HL.get,HL.set,HL.del,Nat.le_refl,Zbt,Zbr,List.set,List.length,List.getD_cons_zero,List.take,List.drop,List.take_succ_cons,List.drop_succ_cons,List.cons_append,List.nil_append,Nat.reduceEqDiff,Nat.reduceAdd,Nat.reduceLT,ite_true,ite_false,true_and,and_true,BEq.rfl,Nat.zero_add,List.length_cons]
    refine Za9 [(1,.ro [pI u.act,pI u.item,pI u.n,pI u.kind,.str u.label,.sl 4 EH,.sl 4 EW,.sl 8 EK]),(3,.ro [pI u.act,pI u.item,pI u.n,pI u.kind,.str u.label,.sl 4 EH,.sl 4 EW,.sl 8 []])] ⟨View.refl _ _,View.locV (es:=[[pI u.act,pI u.item,pI u.n,pI u.kind,.str u.label,.sl 4 EH,.sl 4 EW,.nilsl]]) (z:=8) (fz:=false) (by simp [Heap.get,HL.get,pI]) (by simp) (by simp) (fun j hj=>?_),trivial⟩ ?_
    · have hj':j = 0 ∨ j = 1 ∨ j = 2 ∨ j = 3 ∨ j = 4 ∨ j = 5 ∨ j = 6 ∨ j = 7:=by simp only [List.length_cons,List.length_nil] at hj; omega
      rcases hj' with rfl | rfl | rfl | rfl | rfl | rfl | rfl | rfl
      iterate 7 (first | exact View.refl _ _ | skip)
      exact View.nil _ _
    refine Zac (Zbz [2] (by simp [Heap.le,Heap.get,HL.le,HL.get]) ?_)
    simp only [Zbe,QW,dok,dval,VOp.pure,VOp.simple,VOp.det,pok,pval,VA.ev,Env.get,Env.put,Env.keep,Zae,gd,aggV,intV,binV,Zak,strV,Zag,Zap,PV.nth,Nat.le_refl,Nat.succ_ne_self,List.length,List.getD_cons_zero,List.take,List.take_succ_cons,Nat.reduceEqDiff,Nat.reduceAdd,Bool.true_eq_false,ite_true,ite_false,true_and,and_true,implies_true,forall_const,Nat.zero_add,List.length_cons,imp_self]
    refine ⟨_,.inl C1,_,.inl B1,_,.inl C2,?_⟩
    try simp only [Zbe,DrawW_y,QW,dok,dval,VOp.pure,VOp.simple,VOp.det,pok,pval,VA.ev,Env.get,Env.put,gd,pickV,isBool,aggV,intV,binV,Zak,strV,Zag,Zap,PV.nth,Nat.le_refl,Nat.succ_ne_self,List.length,List.getD_cons_zero,List.take,List.take_succ_cons,Nat.reduceEqDiff,Nat.reduceAdd,Bool.true_eq_false,ite_true,ite_false,true_and,and_true,implies_true,forall_const,BEq.rfl,Nat.zero_add,List.length_cons,imp_self]
    refine ⟨_,.inl S1,_,.inl S2,?_⟩
    try simp only [Zbe,DrawW_y,QW,dok,dval,VOp.pure,VOp.simple,VOp.det,pok,pval,VA.ev,Env.get,Env.put,gd,pickV,isBool,aggV,intV,binV,Zak,strV,Zag,Zap,PV.nth,Nat.le_refl,Nat.succ_ne_self,List.length,List.getD_cons_zero,List.take,List.take_succ_cons,Nat.reduceEqDiff,Nat.reduceAdd,Bool.true_eq_false,ite_true,ite_false,true_and,and_true,implies_true,forall_const,BEq.rfl,Nat.zero_add,List.length_cons,imp_self]
    refine ⟨_,.inl F2,_,.inl S1,?_⟩
    try simp only [Zba,Zbe,DrawW_y,QW,dok,dval,VOp.pure,VOp.simple,VOp.det,pok,pval,VA.ev,Env.get,Env.put,gd,pickV,isBool,Nat.succ_ne_self,Nat.reduceEqDiff,ite_true,ite_false,true_and,implies_true,forall_const,BEq.rfl]
    refine ⟨_,.inl A,?_⟩
    skip
    refine Zaq ?_
    try simp only [Env.get,retQ,resV,Za4,RS.ev,RS.ok,ite_true,true_and,and_true]
    exact View.refl _ _
end Go.Proofs.YtjmekckcffckoaaDoor.w
