import Derived.Test.YtjmekckcffckoabGreatDoorK6
import Derived.Test.YtjmekckcffckoabGreatDoorK3
set_option linter.all false
namespace Go.Proofs.YtjmekckcffckoabGreatDoor.w
open Go Go.VM
set_option maxRecDepth 20000
set_option maxHeartbeats 0
set_option pp.deepTerms false
def c_pandectref55_split:VC:=(.seq (.region [ZO 2 (.mv (.c .nilsl))] false) (.seq (.region [ZO 7 (.fx (.mk0 1) []),ZM 3 7] false) (.seq (.seq (.region [ZO 4 (.mv (.c (.int .i64 0)))] false) (.block 0 (.loop (.seq (.seq (.region [ZM 8 4,ZM 9 0,ZO 10 (.len false (.t 9)),ZO 11 (.bin .lss (.t 8) (.t 10))] false) (.cond (.t 11) .skip (.exit 0))) (.seq (.block 1 (.seq (.region [ZM 14 0,ZM 15 4,ZO 16 (.iaddr 1 (.t 14) (.t 15)),ZO 17 (.load false 1 (.t 16)),ZO 18 (.call 142 [(.t 17)]),ZM 5 18] false) (.seq (.region [ZO 6 (.mv (.c (.int .i64 0)))] false) (.block 2 (.loop (.seq (.seq (.region [ZM 19 6,ZM 20 5,ZO 21 (.len false (.t 20)),ZO 22 (.bin .lss (.t 19) (.t 21))] false) (.cond (.t 22) .skip (.exit 2))) (.seq (.block 3 (.seq (.region [ZM 25 5,ZM 26 6,ZO 27 (.iaddr 1 (.t 25) (.t 26)),ZO 28 (.load false 1 (.t 27)),ZO 29 (.bin .neq (.t 28) (.c (.str [])))] false) (.cond (.t 29) (.region [ZM 30 3,ZM 31 5,ZM 32 6,ZO 33 (.iaddr 1 (.t 31) (.t 32)),ZO 34 (.load false 1 (.t 33)),ZO 35 (.bslice 1 1 [(.str [])] [(0,(.t 34))]),ZO 36 (.app 1 16 [(.str [])] false (.t 30) (.t 35)),ZM 3 36] false) .skip))) (.region [ZM 23 6,ZO 24 (.bin .add (.t 23) (.c (.int .i64 1))),ZM 6 24] false)))))))) (.region [ZM 12 4,ZO 13 (.bin .add (.t 12) (.c (.int .i64 1))),ZM 4 13] false)))))) (.seq (.region [ZM 37 3,ZM 2 37] false) .ret))))
def c_pandectref55_Split:VC:=(.seq (.region [ZO 2 (.mv (.c .nilsl))] false) (.seq (.region [ZM 3 0,ZO 4 (.call 94 [(.t 3)]),ZM 2 4] false) .ret))
theorem fldF_count:∀ (s cur:Str),(cutF cur s).length ≤ s.length + 1
  | [],cur=>by unfold cutF; simp
  | b :: r,cur=>by
    unfold cutF
    split
    · have:=fldF_count r []
      simp only [List.length_cons]; omega
    · have:=fldF_count r (cur ++ [b])
      simp only [List.length_cons]; omega
theorem sp_split (l:List Str) (hl:l.length ≤ 1000) (hs:∀ s ∈ l,s.length ≤ 100000) (hw:(l.flatMap Zb7).length ≤ 100000):Zcq Tryz.prog 94 [.sl 1 (strR l)] (.sl 1 (strR (l.flatMap Zb7))):=by
  refine Zb9 ?_ (Zce _) (by simp only [ClosedL,List.mem_cons,List.not_mem_nil,or_false,forall_eq_or_imp,forall_eq,false_implies,implies_true]; repeat' (first  | exact closed_strs _ | exact closed_sc _ | refine And.intro ?_ ?_))
  refine Zcf (vc:=c_pandectref55_split) (ts:=[.t 2]) Go.Proofs.Tryz.func94 (by kernel_rfl) rfl rfl (Nat.le_of_ble_eq_true rfl) (by kernel_rfl) ?_
  unfold c_pandectref55_split
  try dsimp only [ZM,ZO,ZN,ZG]
  have hll:=Zcc l
  refine Zbj (Zah [0] ?_)
  simp only [Zab,Zax,Zbf,Zau,Zav,Zbg,Zbh,guardOf,Zac,Zar,Zat,Zae,Zaf,Zaw,Zbp,VOp.isIaddr,QW,dok,dval,VOp.pure,VOp.simple,VOp.det,pok,pval,VA.ev,Env.get,Env.put,Env.keep,Za3,Zbi,Zaz,retQ,resV,Zbq,RS.ev,RS.ok,gd,Zbx,isBool,aggV,intV,binV,Zbk,strV,Zby,Zb1,Zbc,unV,unOk,Zb2,isInt,isStr,numOf,loV,hiV,lenV,Zap,Zbd,Zas,Za7,Za5,Zad,Zbl,Zaa,Zba,Za2,Zan,idxV,Zb3,Zbn,extV,Zbz,Zbr,Za8,mmV,PV.cells,PV.fits,overlay,PV.nth,PV.row,Zbw,Zam,Zbv,Za9,Zbo,Zbm,Zal,Za4,Zbb,Zao,Heap.get,Heap.set,Heap.del,Heap.le,HL.get,HL.set,HL.del,HL.le,Heap.push,Heap.nil,Nat.le_refl,Nat.add_eq_left,Nat.left_eq_add,Nat.succ_ne_self,Nat.one_ne_zero,Env.le,Za0,Zbt,Zak,Zbu,Zai,Zbs,Zay,Zaj,eqOk,ekOk,Zag,Za1,Za6,Zaq,AB.live,pxV,pxOk,fxV,fxOk,Zb0,Zbe,isNil,notNil,List.map,List.set,List.replicate,List.length,List.getD_cons_zero,List.getD_cons_succ,List.getD_nil,List.take,List.drop,List.take_zero,List.drop_zero,List.take_succ_cons,List.drop_succ_cons,List.append,List.cons_append,List.nil_append,Option.map,Nat.reduceEqDiff,Nat.reduceAdd,Nat.reduceLT,Nat.reduceLeDiff,Nat.reduceSub,Nat.reduceMul,reduceIte,Bool.false_eq_true,Bool.true_eq_false,ite_true,ite_false,if_true,if_false,true_and,and_true,implies_true,forall_const,ne_eq,not_false_eq_true,reduceCtorEq,BEq.rfl,beq_self_eq_true,Option.some.injEq,Nat.zero_add,Nat.add_zero,List.length_cons,List.length_nil,true_implies,imp_self,Int.reduceToNat,Int.toNat_natCast,Bool.not_false,Bool.not_true]
  refine Zbj (Zah [0,3] ?_)
  simp only [Zab,Zax,Zbf,Zau,Zav,Zbg,Zbh,guardOf,Zac,Zar,Zat,Zae,Zaf,Zaw,Zbp,VOp.isIaddr,QW,dok,dval,VOp.pure,VOp.simple,VOp.det,pok,pval,VA.ev,Env.get,Env.put,Env.keep,Za3,Zbi,Zaz,retQ,resV,Zbq,RS.ev,RS.ok,gd,Zbx,isBool,aggV,intV,binV,Zbk,strV,Zby,Zb1,Zbc,unV,unOk,Zb2,isInt,isStr,numOf,loV,hiV,lenV,Zap,Zbd,Zas,Za7,Za5,Zad,Zbl,Zaa,Zba,Za2,Zan,idxV,Zb3,Zbn,extV,Zbz,Zbr,Za8,mmV,PV.cells,PV.fits,overlay,PV.nth,PV.row,Zbw,Zam,Zbv,Za9,Zbo,Zbm,Zal,Za4,Zbb,Zao,Heap.get,Heap.set,Heap.del,Heap.le,HL.get,HL.set,HL.del,HL.le,Heap.push,Heap.nil,Nat.le_refl,Nat.add_eq_left,Nat.left_eq_add,Nat.succ_ne_self,Nat.one_ne_zero,Env.le,Za0,Zbt,Zak,Zbu,Zai,Zbs,Zay,Zaj,eqOk,ekOk,Zag,Za1,Za6,Zaq,AB.live,pxV,pxOk,fxV,fxOk,Zb0,Zbe,isNil,notNil,List.map,List.set,List.replicate,List.length,List.getD_cons_zero,List.getD_cons_succ,List.getD_nil,List.take,List.drop,List.take_zero,List.drop_zero,List.take_succ_cons,List.drop_succ_cons,List.append,List.cons_append,List.nil_append,Option.map,Nat.reduceEqDiff,Nat.reduceAdd,Nat.reduceLT,Nat.reduceLeDiff,Nat.reduceSub,Nat.reduceMul,reduceIte,Bool.false_eq_true,Bool.true_eq_false,ite_true,ite_false,if_true,if_false,true_and,and_true,implies_true,forall_const,ne_eq,not_false_eq_true,reduceCtorEq,BEq.rfl,beq_self_eq_true,Option.some.injEq,Nat.zero_add,Nat.add_zero,List.length_cons,List.length_nil,true_implies,imp_self,Int.reduceToNat,Int.toNat_natCast,Bool.not_false,Bool.not_true]
  refine Zbj ?_
  refine Zbj (Zah [0,3,4] ?_)
  simp only [Zab,Zax,Zbf,Zau,Zav,Zbg,Zbh,guardOf,Zac,Zar,Zat,Zae,Zaf,Zaw,Zbp,VOp.isIaddr,QW,dok,dval,VOp.pure,VOp.simple,VOp.det,pok,pval,VA.ev,Env.get,Env.put,Env.keep,Za3,Zbi,Zaz,retQ,resV,Zbq,RS.ev,RS.ok,gd,Zbx,isBool,aggV,intV,binV,Zbk,strV,Zby,Zb1,Zbc,unV,unOk,Zb2,isInt,isStr,numOf,loV,hiV,lenV,Zap,Zbd,Zas,Za7,Za5,Zad,Zbl,Zaa,Zba,Za2,Zan,idxV,Zb3,Zbn,extV,Zbz,Zbr,Za8,mmV,PV.cells,PV.fits,overlay,PV.nth,PV.row,Zbw,Zam,Zbv,Za9,Zbo,Zbm,Zal,Za4,Zbb,Zao,Heap.get,Heap.set,Heap.del,Heap.le,HL.get,HL.set,HL.del,HL.le,Heap.push,Heap.nil,Nat.le_refl,Nat.add_eq_left,Nat.left_eq_add,Nat.succ_ne_self,Nat.one_ne_zero,Env.le,Za0,Zbt,Zak,Zbu,Zai,Zbs,Zay,Zaj,eqOk,ekOk,Zag,Za1,Za6,Zaq,AB.live,pxV,pxOk,fxV,fxOk,Zb0,Zbe,isNil,notNil,List.map,List.set,List.replicate,List.length,List.getD_cons_zero,List.getD_cons_succ,List.getD_nil,List.take,List.drop,List.take_zero,List.drop_zero,List.take_succ_cons,List.drop_succ_cons,List.append,List.cons_append,List.nil_append,Option.map,Nat.reduceEqDiff,Nat.reduceAdd,Nat.reduceLT,Nat.reduceLeDiff,Nat.reduceSub,Nat.reduceMul,reduceIte,Bool.false_eq_true,Bool.true_eq_false,ite_true,ite_false,if_true,if_false,true_and,and_true,implies_true,forall_const,ne_eq,not_false_eq_true,reduceCtorEq,BEq.rfl,beq_self_eq_true,Option.some.injEq,Nat.zero_add,Nat.add_zero,List.length_cons,List.length_nil,true_implies,imp_self,Int.reduceToNat,Int.toNat_natCast,Bool.not_false,Bool.not_true]
  refine Zb5 ?_
  refine Zcj (σ:={ x:Nat × Nat × Nat // x.1 ≤ l.length ∧ x.2.1 < x.2.2 }) (fun x=>([(0,.sl 1 (strR l)),(3,.own x.1.2.1 0 ((l.take x.1.1).flatMap Zb7).length),(4,pI x.1.1)],⟨[(x.1.2.1,.arr false 1 (strR ((l.take x.1.1).flatMap Zb7)))],x.1.2.2⟩)) (fun x=>l.length - x.1.1) ⟨(0,0,1),by simp,by simp⟩ ?_ ?_ ?_
  · try simp only [Zab,Zax,Zbf,Zau,Zav,Zbg,Zbh,guardOf,Zac,Zar,Zat,Zae,Zaf,Zaw,Zbp,VOp.isIaddr,QW,dok,dval,VOp.pure,VOp.simple,VOp.det,pok,pval,VA.ev,Env.get,Env.put,Env.keep,Za3,Zbi,Zaz,retQ,resV,Zbq,RS.ev,RS.ok,gd,Zbx,isBool,aggV,intV,binV,Zbk,strV,Zby,Zb1,Zbc,unV,unOk,Zb2,isInt,isStr,numOf,loV,hiV,lenV,Zap,Zbd,Zas,Za7,Za5,Zad,Zbl,Zaa,Zba,Za2,Zan,idxV,Zb3,Zbn,extV,Zbz,Zbr,Za8,mmV,PV.cells,PV.fits,overlay,PV.nth,PV.row,Zbw,Zam,Zbv,Za9,Zbo,Zbm,Zal,Za4,Zbb,Zao,Heap.get,Heap.set,Heap.del,Heap.le,HL.get,HL.set,HL.del,HL.le,Heap.push,Heap.nil,Nat.le_refl,Nat.add_eq_left,Nat.left_eq_add,Nat.succ_ne_self,Nat.one_ne_zero,Env.le,Za0,Zbt,Zak,Zbu,Zai,Zbs,Zay,Zaj,eqOk,ekOk,Zag,Za1,Za6,Zaq,AB.live,pxV,pxOk,fxV,fxOk,Zb0,Zbe,isNil,notNil,List.map,List.set,List.replicate,List.length,List.getD_cons_zero,List.getD_cons_succ,List.getD_nil,List.take,List.drop,List.take_zero,List.drop_zero,List.take_succ_cons,List.drop_succ_cons,List.append,List.cons_append,List.nil_append,Option.map,Nat.reduceEqDiff,Nat.reduceAdd,Nat.reduceLT,Nat.reduceLeDiff,Nat.reduceSub,Nat.reduceMul,reduceIte,Bool.false_eq_true,Bool.true_eq_false,ite_true,ite_false,if_true,if_false,true_and,and_true,implies_true,forall_const,ne_eq,not_false_eq_true,reduceCtorEq,BEq.rfl,beq_self_eq_true,Option.some.injEq,Nat.zero_add,Nat.add_zero,List.length_cons,List.length_nil,true_implies,imp_self,Int.reduceToNat,Int.toNat_natCast,Bool.not_false,Bool.not_true,true_and]
    all_goals (repeat' (first | rfl | trivial | omega | (simp only []; omega) | refine And.intro ?_ ?_))
  · simp only [Zab,Zax,Zbf,Zau,Zav,Zbg,Zbh,guardOf,Zac,Zar,Zat,Zae,Zaf,Zaw,Zbp,VOp.isIaddr,QW,dok,dval,VOp.pure,VOp.simple,VOp.det,pok,pval,VA.ev,Env.get,Env.put,Env.keep,Za3,Zbi,Zaz,retQ,resV,Zbq,RS.ev,RS.ok,gd,Zbx,isBool,aggV,intV,binV,Zbk,strV,Zby,Zb1,Zbc,unV,unOk,Zb2,isInt,isStr,numOf,loV,hiV,lenV,Zap,Zbd,Zas,Za7,Za5,Zad,Zbl,Zaa,Zba,Za2,Zan,idxV,Zb3,Zbn,extV,Zbz,Zbr,Za8,mmV,PV.cells,PV.fits,overlay,PV.nth,PV.row,Zbw,Zam,Zbv,Za9,Zbo,Zbm,Zal,Za4,Zbb,Zao,Heap.get,Heap.set,Heap.del,Heap.le,HL.get,HL.set,HL.del,HL.le,Heap.push,Heap.nil,Nat.le_refl,Nat.add_eq_left,Nat.left_eq_add,Nat.succ_ne_self,Nat.one_ne_zero,Env.le,Za0,Zbt,Zak,Zbu,Zai,Zbs,Zay,Zaj,eqOk,ekOk,Zag,Za1,Za6,Zaq,AB.live,pxV,pxOk,fxV,fxOk,Zb0,Zbe,isNil,notNil,List.map,List.set,List.replicate,List.length,List.getD_cons_zero,List.getD_cons_succ,List.getD_nil,List.take,List.drop,List.take_zero,List.drop_zero,List.take_succ_cons,List.drop_succ_cons,List.append,List.cons_append,List.nil_append,Option.map,Nat.reduceEqDiff,Nat.reduceAdd,Nat.reduceLT,Nat.reduceLeDiff,Nat.reduceSub,Nat.reduceMul,reduceIte,Bool.false_eq_true,Bool.true_eq_false,ite_true,ite_false,if_true,if_false,true_and,and_true,implies_true,forall_const,ne_eq,not_false_eq_true,reduceCtorEq,BEq.rfl,beq_self_eq_true,Option.some.injEq,Nat.zero_add,Nat.add_zero,List.length_cons,List.length_nil,true_implies,imp_self,Int.reduceToNat,Int.toNat_natCast,Bool.not_false,Bool.not_true]
    try rfl
  rintro ⟨⟨k,id,n⟩,hk,hid⟩
  simp only [] at hk hid ⊢
  have qi0:(id = n) = False:=eq_false (by omega)
  have qi1:(id = (n + 1)) = False:=eq_false (by omega)
  have qi2:(n = id) = False:=eq_false (by omega)
  have qi3:(n = (n + 1)) = False:=eq_false (by omega)
  have qi4:((n + 1) = id) = False:=eq_false (by omega)
  have qi5:((n + 1) = n) = False:=eq_false (by omega)
  refine Zbj ?_
  refine Zbj (Zah [0,3,4,11] ?_)
  simp only [Zab,Zax,Zbf,Zau,Zav,Zbg,Zbh,guardOf,Zac,Zar,Zat,Zae,Zaf,Zaw,Zbp,VOp.isIaddr,QW,dok,dval,VOp.pure,VOp.simple,VOp.det,pok,pval,VA.ev,Env.get,Env.put,Env.keep,Za3,Zbi,Zaz,retQ,resV,Zbq,RS.ev,RS.ok,gd,Zbx,isBool,aggV,intV,binV,Zbk,strV,Zby,Zb1,Zbc,unV,unOk,Zb2,isInt,isStr,numOf,loV,hiV,lenV,Zap,Zbd,Zas,Za7,Za5,Zad,Zbl,Zaa,Zba,Za2,Zan,idxV,Zb3,Zbn,extV,Zbz,Zbr,Za8,mmV,PV.cells,PV.fits,overlay,PV.nth,PV.row,Zbw,Zam,Zbv,Za9,Zbo,Zbm,Zal,Za4,Zbb,Zao,Heap.get,Heap.set,Heap.del,Heap.le,HL.get,HL.set,HL.del,HL.le,Heap.push,Heap.nil,Nat.le_refl,Nat.add_eq_left,Nat.left_eq_add,Nat.succ_ne_self,Nat.one_ne_zero,Env.le,Za0,Zbt,Zak,Zbu,Zai,Zbs,Zay,Zaj,eqOk,ekOk,Zag,Za1,Za6,Zaq,AB.live,pxV,pxOk,fxV,fxOk,Zb0,Zbe,isNil,notNil,List.map,List.set,List.replicate,List.length,List.getD_cons_zero,List.getD_cons_succ,List.getD_nil,List.take,List.drop,List.take_zero,List.drop_zero,List.take_succ_cons,List.drop_succ_cons,List.append,List.cons_append,List.nil_append,Option.map,Nat.reduceEqDiff,Nat.reduceAdd,Nat.reduceLT,Nat.reduceLeDiff,Nat.reduceSub,Nat.reduceMul,reduceIte,Bool.false_eq_true,Bool.true_eq_false,ite_true,ite_false,if_true,if_false,true_and,and_true,implies_true,forall_const,ne_eq,not_false_eq_true,reduceCtorEq,BEq.rfl,beq_self_eq_true,Option.some.injEq,Nat.zero_add,Nat.add_zero,List.length_cons,List.length_nil,true_implies,imp_self,Int.reduceToNat,Int.toNat_natCast,Bool.not_false,Bool.not_true,hll,qi0,qi1,qi2,qi3,qi4,qi5]
  refine Zb6 rfl (fun h1=>?_) (fun h1=>?_)
  · simp only [decide_eq_true_eq] at h1
    have ka:k < l.length:=by omega
    have hrow:(strR l).getD k [] = [PV.str l[k]]:=rowm ka
    have hst:=fl_step ka
    have hft:=fl_take l (k + 1)
    have hsk:=hs _ (List.getElem_mem ka)
    refine Zb8 ?_
    try simp only [Zab,Zax,Zbf,Zau,Zav,Zbg,Zbh,guardOf,Zac,Zar,Zat,Zae,Zaf,Zaw,Zbp,VOp.isIaddr,QW,dok,dval,VOp.pure,VOp.simple,VOp.det,pok,pval,VA.ev,Env.get,Env.put,Env.keep,Za3,Zbi,Zaz,retQ,resV,Zbq,RS.ev,RS.ok,gd,Zbx,isBool,aggV,intV,binV,Zbk,strV,Zby,Zb1,Zbc,unV,unOk,Zb2,isInt,isStr,numOf,loV,hiV,lenV,Zap,Zbd,Zas,Za7,Za5,Zad,Zbl,Zaa,Zba,Za2,Zan,idxV,Zb3,Zbn,extV,Zbz,Zbr,Za8,mmV,PV.cells,PV.fits,overlay,PV.nth,PV.row,Zbw,Zam,Zbv,Za9,Zbo,Zbm,Zal,Za4,Zbb,Zao,Heap.get,Heap.set,Heap.del,Heap.le,HL.get,HL.set,HL.del,HL.le,Heap.push,Heap.nil,Nat.le_refl,Nat.add_eq_left,Nat.left_eq_add,Nat.succ_ne_self,Nat.one_ne_zero,Env.le,Za0,Zbt,Zak,Zbu,Zai,Zbs,Zay,Zaj,eqOk,ekOk,Zag,Za1,Za6,Zaq,AB.live,pxV,pxOk,fxV,fxOk,Zb0,Zbe,isNil,notNil,List.map,List.set,List.replicate,List.length,List.getD_cons_zero,List.getD_cons_succ,List.getD_nil,List.take,List.drop,List.take_zero,List.drop_zero,List.take_succ_cons,List.drop_succ_cons,List.append,List.cons_append,List.nil_append,Option.map,Nat.reduceEqDiff,Nat.reduceAdd,Nat.reduceLT,Nat.reduceLeDiff,Nat.reduceSub,Nat.reduceMul,reduceIte,Bool.false_eq_true,Bool.true_eq_false,ite_true,ite_false,if_true,if_false,true_and,and_true,implies_true,forall_const,ne_eq,not_false_eq_true,reduceCtorEq,BEq.rfl,beq_self_eq_true,Option.some.injEq,Nat.zero_add,Nat.add_zero,List.length_cons,List.length_nil,true_implies,imp_self,Int.reduceToNat,Int.toNat_natCast,Bool.not_false,Bool.not_true]
    refine Zbj ?_
    refine Zb5 ?_
    refine Zbj (Zah [0,3,4,5] ?_)
    simp only [Zab,Zax,Zbf,Zau,Zav,Zbg,Zbh,guardOf,Zac,Zar,Zat,Zae,Zaf,Zaw,Zbp,VOp.isIaddr,QW,dok,dval,VOp.pure,VOp.simple,VOp.det,pok,pval,VA.ev,Env.get,Env.put,Env.keep,Za3,Zbi,Zaz,retQ,resV,Zbq,RS.ev,RS.ok,gd,Zbx,isBool,aggV,intV,binV,Zbk,strV,Zby,Zb1,Zbc,unV,unOk,Zb2,isInt,isStr,numOf,loV,hiV,lenV,Zap,Zbd,Zas,Za7,Za5,Zad,Zbl,Zaa,Zba,Za2,Zan,idxV,Zb3,Zbn,extV,Zbz,Zbr,Za8,mmV,PV.cells,PV.fits,overlay,PV.nth,PV.row,Zbw,Zam,Zbv,Za9,Zbo,Zbm,Zal,Za4,Zbb,Zao,Heap.get,Heap.set,Heap.del,Heap.le,HL.get,HL.set,HL.del,HL.le,Heap.push,Heap.nil,Nat.le_refl,Nat.add_eq_left,Nat.left_eq_add,Nat.succ_ne_self,Nat.one_ne_zero,Env.le,Za0,Zbt,Zak,Zbu,Zai,Zbs,Zay,Zaj,eqOk,ekOk,Zag,Za1,Za6,Zaq,AB.live,pxV,pxOk,fxV,fxOk,Zb0,Zbe,isNil,notNil,List.map,List.set,List.replicate,List.length,List.getD_cons_zero,List.getD_cons_succ,List.getD_nil,List.take,List.drop,List.take_zero,List.drop_zero,List.take_succ_cons,List.drop_succ_cons,List.append,List.cons_append,List.nil_append,Option.map,Nat.reduceEqDiff,Nat.reduceAdd,Nat.reduceLT,Nat.reduceLeDiff,Nat.reduceSub,Nat.reduceMul,reduceIte,Bool.false_eq_true,Bool.true_eq_false,ite_true,ite_false,if_true,if_false,true_and,and_true,implies_true,forall_const,ne_eq,not_false_eq_true,reduceCtorEq,BEq.rfl,beq_self_eq_true,Option.some.injEq,Nat.zero_add,Nat.add_zero,List.length_cons,List.length_nil,true_implies,imp_self,Int.reduceToNat,Int.toNat_natCast,Bool.not_false,Bool.not_true,hll,hrow,qi0,qi1,qi2,qi3,qi4,qi5]
    refine ⟨by omega,?_⟩
    have C:=sp_Cut l[k] hsk
    have hcc:=fldF_count l[k] []
    have hcf:(cutF [] l[k]).filter (fun x=>x != []) = Zb7 l[k]:=cut_fields l[k] []
    generalize l[k] = s at hst hsk hcf hcc C ⊢
    refine Zcg C ?_
    generalize cutF [] s = K at hcf hcc ⊢
    generalize (l.take k).flatMap Zb7 = O at hst ⊢
    rw [hst,List.length_append] at hft
    have hkl:=Zcc K
    try simp only [Zab,Zax,Zbf,Zau,Zav,Zbg,Zbh,guardOf,Zac,Zar,Zat,Zae,Zaf,Zaw,Zbp,VOp.isIaddr,QW,dok,dval,VOp.pure,VOp.simple,VOp.det,pok,pval,VA.ev,Env.get,Env.put,Env.keep,Za3,Zbi,Zaz,retQ,resV,Zbq,RS.ev,RS.ok,gd,Zbx,isBool,aggV,intV,binV,Zbk,strV,Zby,Zb1,Zbc,unV,unOk,Zb2,isInt,isStr,numOf,loV,hiV,lenV,Zap,Zbd,Zas,Za7,Za5,Zad,Zbl,Zaa,Zba,Za2,Zan,idxV,Zb3,Zbn,extV,Zbz,Zbr,Za8,mmV,PV.cells,PV.fits,overlay,PV.nth,PV.row,Zbw,Zam,Zbv,Za9,Zbo,Zbm,Zal,Za4,Zbb,Zao,Heap.get,Heap.set,Heap.del,Heap.le,HL.get,HL.set,HL.del,HL.le,Heap.push,Heap.nil,Nat.le_refl,Nat.add_eq_left,Nat.left_eq_add,Nat.succ_ne_self,Nat.one_ne_zero,Env.le,Za0,Zbt,Zak,Zbu,Zai,Zbs,Zay,Zaj,eqOk,ekOk,Zag,Za1,Za6,Zaq,AB.live,pxV,pxOk,fxV,fxOk,Zb0,Zbe,isNil,notNil,List.map,List.set,List.replicate,List.length,List.getD_cons_zero,List.getD_cons_succ,List.getD_nil,List.take,List.drop,List.take_zero,List.drop_zero,List.take_succ_cons,List.drop_succ_cons,List.append,List.cons_append,List.nil_append,Option.map,Nat.reduceEqDiff,Nat.reduceAdd,Nat.reduceLT,Nat.reduceLeDiff,Nat.reduceSub,Nat.reduceMul,reduceIte,Bool.false_eq_true,Bool.true_eq_false,ite_true,ite_false,if_true,if_false,true_and,and_true,implies_true,forall_const,ne_eq,not_false_eq_true,reduceCtorEq,BEq.rfl,beq_self_eq_true,Option.some.injEq,Nat.zero_add,Nat.add_zero,List.length_cons,List.length_nil,true_implies,imp_self,Int.reduceToNat,Int.toNat_natCast,Bool.not_false,Bool.not_true,qi0,qi1,qi2,qi3,qi4,qi5]
    refine Zbj (Zah [0,3,4,5,6] ?_)
    simp only [Zab,Zax,Zbf,Zau,Zav,Zbg,Zbh,guardOf,Zac,Zar,Zat,Zae,Zaf,Zaw,Zbp,VOp.isIaddr,QW,dok,dval,VOp.pure,VOp.simple,VOp.det,pok,pval,VA.ev,Env.get,Env.put,Env.keep,Za3,Zbi,Zaz,retQ,resV,Zbq,RS.ev,RS.ok,gd,Zbx,isBool,aggV,intV,binV,Zbk,strV,Zby,Zb1,Zbc,unV,unOk,Zb2,isInt,isStr,numOf,loV,hiV,lenV,Zap,Zbd,Zas,Za7,Za5,Zad,Zbl,Zaa,Zba,Za2,Zan,idxV,Zb3,Zbn,extV,Zbz,Zbr,Za8,mmV,PV.cells,PV.fits,overlay,PV.nth,PV.row,Zbw,Zam,Zbv,Za9,Zbo,Zbm,Zal,Za4,Zbb,Zao,Heap.get,Heap.set,Heap.del,Heap.le,HL.get,HL.set,HL.del,HL.le,Heap.push,Heap.nil,Nat.le_refl,Nat.add_eq_left,Nat.left_eq_add,Nat.succ_ne_self,Nat.one_ne_zero,Env.le,Za0,Zbt,Zak,Zbu,Zai,Zbs,Zay,Zaj,eqOk,ekOk,Zag,Za1,Za6,Zaq,AB.live,pxV,pxOk,fxV,fxOk,Zb0,Zbe,isNil,notNil,List.map,List.set,List.replicate,List.length,List.getD_cons_zero,List.getD_cons_succ,List.getD_nil,List.take,List.drop,List.take_zero,List.drop_zero,List.take_succ_cons,List.drop_succ_cons,List.append,List.cons_append,List.nil_append,Option.map,Nat.reduceEqDiff,Nat.reduceAdd,Nat.reduceLT,Nat.reduceLeDiff,Nat.reduceSub,Nat.reduceMul,reduceIte,Bool.false_eq_true,Bool.true_eq_false,ite_true,ite_false,if_true,if_false,true_and,and_true,implies_true,forall_const,ne_eq,not_false_eq_true,reduceCtorEq,BEq.rfl,beq_self_eq_true,Option.some.injEq,Nat.zero_add,Nat.add_zero,List.length_cons,List.length_nil,true_implies,imp_self,Int.reduceToNat,Int.toNat_natCast,Bool.not_false,Bool.not_true,qi0,qi1,qi2,qi3,qi4,qi5]
    refine Zb5 ?_
    refine Zcj (σ:={ x:Nat × Nat × Nat // x.1 ≤ K.length ∧ x.2.1 < x.2.2 }) (fun x=>([(0,.sl 1 (strR l)),(3,.own x.1.2.1 0 (O ++ (K.take x.1.1).filter (fun x=>x != [])).length),(4,pI k),(5,.sl 1 (strR K)),(6,pI x.1.1)],⟨[(x.1.2.1,.arr false 1 (strR (O ++ (K.take x.1.1).filter (fun x=>x != []))))],x.1.2.2⟩)) (fun x=>K.length - x.1.1) ⟨(0,id,n),by simp,hid⟩ ?_ ?_ ?_
    · try simp only [Zab,Zax,Zbf,Zau,Zav,Zbg,Zbh,guardOf,Zac,Zar,Zat,Zae,Zaf,Zaw,Zbp,VOp.isIaddr,QW,dok,dval,VOp.pure,VOp.simple,VOp.det,pok,pval,VA.ev,Env.get,Env.put,Env.keep,Za3,Zbi,Zaz,retQ,resV,Zbq,RS.ev,RS.ok,gd,Zbx,isBool,aggV,intV,binV,Zbk,strV,Zby,Zb1,Zbc,unV,unOk,Zb2,isInt,isStr,numOf,loV,hiV,lenV,Zap,Zbd,Zas,Za7,Za5,Zad,Zbl,Zaa,Zba,Za2,Zan,idxV,Zb3,Zbn,extV,Zbz,Zbr,Za8,mmV,PV.cells,PV.fits,overlay,PV.nth,PV.row,Zbw,Zam,Zbv,Za9,Zbo,Zbm,Zal,Za4,Zbb,Zao,Heap.get,Heap.set,Heap.del,Heap.le,HL.get,HL.set,HL.del,HL.le,Heap.push,Heap.nil,Nat.le_refl,Nat.add_eq_left,Nat.left_eq_add,Nat.succ_ne_self,Nat.one_ne_zero,Env.le,Za0,Zbt,Zak,Zbu,Zai,Zbs,Zay,Zaj,eqOk,ekOk,Zag,Za1,Za6,Zaq,AB.live,pxV,pxOk,fxV,fxOk,Zb0,Zbe,isNil,notNil,List.map,List.set,List.replicate,List.length,List.getD_cons_zero,List.getD_cons_succ,List.getD_nil,List.take,List.drop,List.take_zero,List.drop_zero,List.take_succ_cons,List.drop_succ_cons,List.append,List.cons_append,List.nil_append,Option.map,Nat.reduceEqDiff,Nat.reduceAdd,Nat.reduceLT,Nat.reduceLeDiff,Nat.reduceSub,Nat.reduceMul,reduceIte,Bool.false_eq_true,Bool.true_eq_false,ite_true,ite_false,if_true,if_false,true_and,and_true,implies_true,forall_const,ne_eq,not_false_eq_true,reduceCtorEq,BEq.rfl,beq_self_eq_true,Option.some.injEq,Nat.zero_add,Nat.add_zero,List.length_cons,List.length_nil,true_implies,imp_self,Int.reduceToNat,Int.toNat_natCast,Bool.not_false,Bool.not_true,qi0,qi1,qi2,qi3,qi4,qi5]
      all_goals (repeat' (first | rfl | trivial | omega | (simp only []; omega) | refine And.intro ?_ ?_))
      simp
    · simp only [Zab,Zax,Zbf,Zau,Zav,Zbg,Zbh,guardOf,Zac,Zar,Zat,Zae,Zaf,Zaw,Zbp,VOp.isIaddr,QW,dok,dval,VOp.pure,VOp.simple,VOp.det,pok,pval,VA.ev,Env.get,Env.put,Env.keep,Za3,Zbi,Zaz,retQ,resV,Zbq,RS.ev,RS.ok,gd,Zbx,isBool,aggV,intV,binV,Zbk,strV,Zby,Zb1,Zbc,unV,unOk,Zb2,isInt,isStr,numOf,loV,hiV,lenV,Zap,Zbd,Zas,Za7,Za5,Zad,Zbl,Zaa,Zba,Za2,Zan,idxV,Zb3,Zbn,extV,Zbz,Zbr,Za8,mmV,PV.cells,PV.fits,overlay,PV.nth,PV.row,Zbw,Zam,Zbv,Za9,Zbo,Zbm,Zal,Za4,Zbb,Zao,Heap.get,Heap.set,Heap.del,Heap.le,HL.get,HL.set,HL.del,HL.le,Heap.push,Heap.nil,Nat.le_refl,Nat.add_eq_left,Nat.left_eq_add,Nat.succ_ne_self,Nat.one_ne_zero,Env.le,Za0,Zbt,Zak,Zbu,Zai,Zbs,Zay,Zaj,eqOk,ekOk,Zag,Za1,Za6,Zaq,AB.live,pxV,pxOk,fxV,fxOk,Zb0,Zbe,isNil,notNil,List.map,List.set,List.replicate,List.length,List.getD_cons_zero,List.getD_cons_succ,List.getD_nil,List.take,List.drop,List.take_zero,List.drop_zero,List.take_succ_cons,List.drop_succ_cons,List.append,List.cons_append,List.nil_append,Option.map,Nat.reduceEqDiff,Nat.reduceAdd,Nat.reduceLT,Nat.reduceLeDiff,Nat.reduceSub,Nat.reduceMul,reduceIte,Bool.false_eq_true,Bool.true_eq_false,ite_true,ite_false,if_true,if_false,true_and,and_true,implies_true,forall_const,ne_eq,not_false_eq_true,reduceCtorEq,BEq.rfl,beq_self_eq_true,Option.some.injEq,Nat.zero_add,Nat.add_zero,List.length_cons,List.length_nil,true_implies,imp_self,Int.reduceToNat,Int.toNat_natCast,Bool.not_false,Bool.not_true,qi0,qi1,qi2,qi3,qi4,qi5]
      simp
    rintro ⟨⟨j,i2,t⟩,hj,hid2⟩
    simp only [] at hj hid2 ⊢
    have qi0:(i2 = t) = False:=eq_false (by omega)
    have qi1:(i2 = (t + 1)) = False:=eq_false (by omega)
    have qi2:(t = i2) = False:=eq_false (by omega)
    have qi3:(t = (t + 1)) = False:=eq_false (by omega)
    have qi4:((t + 1) = i2) = False:=eq_false (by omega)
    have qi5:((t + 1) = t) = False:=eq_false (by omega)
    refine Zbj ?_
    refine Zbj (Zah [0,3,4,5,6,22] ?_)
    simp only [Zab,Zax,Zbf,Zau,Zav,Zbg,Zbh,guardOf,Zac,Zar,Zat,Zae,Zaf,Zaw,Zbp,VOp.isIaddr,QW,dok,dval,VOp.pure,VOp.simple,VOp.det,pok,pval,VA.ev,Env.get,Env.put,Env.keep,Za3,Zbi,Zaz,retQ,resV,Zbq,RS.ev,RS.ok,gd,Zbx,isBool,aggV,intV,binV,Zbk,strV,Zby,Zb1,Zbc,unV,unOk,Zb2,isInt,isStr,numOf,loV,hiV,lenV,Zap,Zbd,Zas,Za7,Za5,Zad,Zbl,Zaa,Zba,Za2,Zan,idxV,Zb3,Zbn,extV,Zbz,Zbr,Za8,mmV,PV.cells,PV.fits,overlay,PV.nth,PV.row,Zbw,Zam,Zbv,Za9,Zbo,Zbm,Zal,Za4,Zbb,Zao,Heap.get,Heap.set,Heap.del,Heap.le,HL.get,HL.set,HL.del,HL.le,Heap.push,Heap.nil,Nat.le_refl,Nat.add_eq_left,Nat.left_eq_add,Nat.succ_ne_self,Nat.one_ne_zero,Env.le,Za0,Zbt,Zak,Zbu,Zai,Zbs,Zay,Zaj,eqOk,ekOk,Zag,Za1,Za6,Zaq,AB.live,pxV,pxOk,fxV,fxOk,Zb0,Zbe,isNil,notNil,List.map,List.set,List.replicate,List.length,List.getD_cons_zero,List.getD_cons_succ,List.getD_nil,List.take,List.drop,List.take_zero,List.drop_zero,List.take_succ_cons,List.drop_succ_cons,List.append,List.cons_append,List.nil_append,Option.map,Nat.reduceEqDiff,Nat.reduceAdd,Nat.reduceLT,Nat.reduceLeDiff,Nat.reduceSub,Nat.reduceMul,reduceIte,Bool.false_eq_true,Bool.true_eq_false,ite_true,ite_false,if_true,if_false,true_and,and_true,implies_true,forall_const,ne_eq,not_false_eq_true,reduceCtorEq,BEq.rfl,beq_self_eq_true,Option.some.injEq,Nat.zero_add,Nat.add_zero,List.length_cons,List.length_nil,true_implies,imp_self,Int.reduceToNat,Int.toNat_natCast,Bool.not_false,Bool.not_true,hkl,qi0,qi1,qi2,qi3,qi4,qi5]
    refine Zb6 rfl (fun h2=>?_) (fun h2=>?_)
    · simp only [decide_eq_true_eq] at h2
      have ja:j < K.length:=by omega
      have hrow2:(strR K).getD j [] = [PV.str K[j]]:=rowm ja
      have hstep:(K.take (j + 1)).filter (fun x=>x != []) = (K.take j).filter (fun x=>x != []) ++ (if K[j] = [] then [] else [K[j]]):=by
        rw [List.take_add_one,List.getElem?_eq_getElem ja,List.filter_append]
        congr 1
        by_cases h:K[j] = [] <;> simp [h]
      have hcnt:((K.take j).filter (fun x=>x != [])).length + (if K[j] = [] then [] else [K[j]]).length ≤ (Zb7 s).length:=by
        rw [← hcf,← List.length_append,← hstep]
        exact ((List.take_sublist _ _).filter _).length_le
      generalize hG:O ++ (K.take j).filter (fun x=>x != []) = G
      have hGl:G.length = O.length + ((K.take j).filter (fun x=>x != [])).length:=by rw [← hG,List.length_append]
      have hgt:=Zcz G
      have hgl:=Zcc G
      generalize hw0:K[j] = w0 at hrow2 hstep hcnt
      refine Zb8 ?_
      try simp only [Zab,Zax,Zbf,Zau,Zav,Zbg,Zbh,guardOf,Zac,Zar,Zat,Zae,Zaf,Zaw,Zbp,VOp.isIaddr,QW,dok,dval,VOp.pure,VOp.simple,VOp.det,pok,pval,VA.ev,Env.get,Env.put,Env.keep,Za3,Zbi,Zaz,retQ,resV,Zbq,RS.ev,RS.ok,gd,Zbx,isBool,aggV,intV,binV,Zbk,strV,Zby,Zb1,Zbc,unV,unOk,Zb2,isInt,isStr,numOf,loV,hiV,lenV,Zap,Zbd,Zas,Za7,Za5,Zad,Zbl,Zaa,Zba,Za2,Zan,idxV,Zb3,Zbn,extV,Zbz,Zbr,Za8,mmV,PV.cells,PV.fits,overlay,PV.nth,PV.row,Zbw,Zam,Zbv,Za9,Zbo,Zbm,Zal,Za4,Zbb,Zao,Heap.get,Heap.set,Heap.del,Heap.le,HL.get,HL.set,HL.del,HL.le,Heap.push,Heap.nil,Nat.le_refl,Nat.add_eq_left,Nat.left_eq_add,Nat.succ_ne_self,Nat.one_ne_zero,Env.le,Za0,Zbt,Zak,Zbu,Zai,Zbs,Zay,Zaj,eqOk,ekOk,Zag,Za1,Za6,Zaq,AB.live,pxV,pxOk,fxV,fxOk,Zb0,Zbe,isNil,notNil,List.map,List.set,List.replicate,List.length,List.getD_cons_zero,List.getD_cons_succ,List.getD_nil,List.take,List.drop,List.take_zero,List.drop_zero,List.take_succ_cons,List.drop_succ_cons,List.append,List.cons_append,List.nil_append,Option.map,Nat.reduceEqDiff,Nat.reduceAdd,Nat.reduceLT,Nat.reduceLeDiff,Nat.reduceSub,Nat.reduceMul,reduceIte,Bool.false_eq_true,Bool.true_eq_false,ite_true,ite_false,if_true,if_false,true_and,and_true,implies_true,forall_const,ne_eq,not_false_eq_true,reduceCtorEq,BEq.rfl,beq_self_eq_true,Option.some.injEq,Nat.zero_add,Nat.add_zero,List.length_cons,List.length_nil,true_implies,imp_self,Int.reduceToNat,Int.toNat_natCast,Bool.not_false,Bool.not_true]
      refine Zbj ?_
      refine Zb5 ?_
      refine Zbj (Zah [0,3,4,5,6,29] ?_)
      simp only [Zab,Zax,Zbf,Zau,Zav,Zbg,Zbh,guardOf,Zac,Zar,Zat,Zae,Zaf,Zaw,Zbp,VOp.isIaddr,QW,dok,dval,VOp.pure,VOp.simple,VOp.det,pok,pval,VA.ev,Env.get,Env.put,Env.keep,Za3,Zbi,Zaz,retQ,resV,Zbq,RS.ev,RS.ok,gd,Zbx,isBool,aggV,intV,binV,Zbk,strV,Zby,Zb1,Zbc,unV,unOk,Zb2,isInt,isStr,numOf,loV,hiV,lenV,Zap,Zbd,Zas,Za7,Za5,Zad,Zbl,Zaa,Zba,Za2,Zan,idxV,Zb3,Zbn,extV,Zbz,Zbr,Za8,mmV,PV.cells,PV.fits,overlay,PV.nth,PV.row,Zbw,Zam,Zbv,Za9,Zbo,Zbm,Zal,Za4,Zbb,Zao,Heap.get,Heap.set,Heap.del,Heap.le,HL.get,HL.set,HL.del,HL.le,Heap.push,Heap.nil,Nat.le_refl,Nat.add_eq_left,Nat.left_eq_add,Nat.succ_ne_self,Nat.one_ne_zero,Env.le,Za0,Zbt,Zak,Zbu,Zai,Zbs,Zay,Zaj,eqOk,ekOk,Zag,Za1,Za6,Zaq,AB.live,pxV,pxOk,fxV,fxOk,Zb0,Zbe,isNil,notNil,List.map,List.set,List.replicate,List.length,List.getD_cons_zero,List.getD_cons_succ,List.getD_nil,List.take,List.drop,List.take_zero,List.drop_zero,List.take_succ_cons,List.drop_succ_cons,List.append,List.cons_append,List.nil_append,Option.map,Nat.reduceEqDiff,Nat.reduceAdd,Nat.reduceLT,Nat.reduceLeDiff,Nat.reduceSub,Nat.reduceMul,reduceIte,Bool.false_eq_true,Bool.true_eq_false,ite_true,ite_false,if_true,if_false,true_and,and_true,implies_true,forall_const,ne_eq,not_false_eq_true,reduceCtorEq,BEq.rfl,beq_self_eq_true,Option.some.injEq,Nat.zero_add,Nat.add_zero,List.length_cons,List.length_nil,true_implies,imp_self,Int.reduceToNat,Int.toNat_natCast,Bool.not_false,Bool.not_true,hkl,hrow2,qi0,qi1,qi2,qi3,qi4,qi5]
      refine ⟨by omega,?_⟩
      refine Zb6 rfl (fun h3=>?_) (fun h3=>?_)
      · have hne:w0 ≠ []:=by simpa using h3
        rw [if_neg hne] at hstep hcnt
        simp only [List.length_cons,List.length_nil] at hcnt
        have e1:strR G ++ [[PV.str w0]] = strR (O ++ (K.take (j + 1)).filter (fun x=>x != [])):=by rw [hstep,← List.append_assoc,hG,← strR_app]; rfl
        have e2:G.length + 1 = (O ++ (K.take (j + 1)).filter (fun x=>x != [])).length:=by rw [hstep,← List.append_assoc,hG]; simp
        refine Zah [0,3,4,5,6] ?_
        simp only [Zab,Zax,Zbf,Zau,Zav,Zbg,Zbh,guardOf,Zac,Zar,Zat,Zae,Zaf,Zaw,Zbp,VOp.isIaddr,QW,dok,dval,VOp.pure,VOp.simple,VOp.det,pok,pval,VA.ev,Env.get,Env.put,Env.keep,Za3,Zbi,Zaz,retQ,resV,Zbq,RS.ev,RS.ok,gd,Zbx,isBool,aggV,intV,binV,Zbk,strV,Zby,Zb1,Zbc,unV,unOk,Zb2,isInt,isStr,numOf,loV,hiV,lenV,Zap,Zbd,Zas,Za7,Za5,Zad,Zbl,Zaa,Zba,Za2,Zan,idxV,Zb3,Zbn,extV,Zbz,Zbr,Za8,mmV,PV.cells,PV.fits,overlay,PV.nth,PV.row,Zbw,Zam,Zbv,Za9,Zbo,Zbm,Zal,Za4,Zbb,Zao,Heap.get,Heap.set,Heap.del,Heap.le,HL.get,HL.set,HL.del,HL.le,Heap.push,Heap.nil,Nat.le_refl,Nat.add_eq_left,Nat.left_eq_add,Nat.succ_ne_self,Nat.one_ne_zero,Env.le,Za0,Zbt,Zak,Zbu,Zai,Zbs,Zay,Zaj,eqOk,ekOk,Zag,Za1,Za6,Zaq,AB.live,pxV,pxOk,fxV,fxOk,Zb0,Zbe,isNil,notNil,List.map,List.set,List.replicate,List.length,List.getD_cons_zero,List.getD_cons_succ,List.getD_nil,List.take,List.drop,List.take_zero,List.drop_zero,List.take_succ_cons,List.drop_succ_cons,List.append,List.cons_append,List.nil_append,Option.map,Nat.reduceEqDiff,Nat.reduceAdd,Nat.reduceLT,Nat.reduceLeDiff,Nat.reduceSub,Nat.reduceMul,reduceIte,Bool.false_eq_true,Bool.true_eq_false,ite_true,ite_false,if_true,if_false,true_and,and_true,implies_true,forall_const,ne_eq,not_false_eq_true,reduceCtorEq,BEq.rfl,beq_self_eq_true,Option.some.injEq,Nat.zero_add,Nat.add_zero,List.length_cons,List.length_nil,true_implies,imp_self,Int.reduceToNat,Int.toNat_natCast,Bool.not_false,Bool.not_true,hkl,hrow2,hgt,hgl,e1,qi0,qi1,qi2,qi3,qi4,qi5]
        refine ⟨by omega,by omega,by omega,?_⟩
        refine Zah [0,3,4,5,6] ?_
        simp only [Zab,Zax,Zbf,Zau,Zav,Zbg,Zbh,guardOf,Zac,Zar,Zat,Zae,Zaf,Zaw,Zbp,VOp.isIaddr,QW,dok,dval,VOp.pure,VOp.simple,VOp.det,pok,pval,VA.ev,Env.get,Env.put,Env.keep,Za3,Zbi,Zaz,retQ,resV,Zbq,RS.ev,RS.ok,gd,Zbx,isBool,aggV,intV,binV,Zbk,strV,Zby,Zb1,Zbc,unV,unOk,Zb2,isInt,isStr,numOf,loV,hiV,lenV,Zap,Zbd,Zas,Za7,Za5,Zad,Zbl,Zaa,Zba,Za2,Zan,idxV,Zb3,Zbn,extV,Zbz,Zbr,Za8,mmV,PV.cells,PV.fits,overlay,PV.nth,PV.row,Zbw,Zam,Zbv,Za9,Zbo,Zbm,Zal,Za4,Zbb,Zao,Heap.get,Heap.set,Heap.del,Heap.le,HL.get,HL.set,HL.del,HL.le,Heap.push,Heap.nil,Nat.le_refl,Nat.add_eq_left,Nat.left_eq_add,Nat.succ_ne_self,Nat.one_ne_zero,Env.le,Za0,Zbt,Zak,Zbu,Zai,Zbs,Zay,Zaj,eqOk,ekOk,Zag,Za1,Za6,Zaq,AB.live,pxV,pxOk,fxV,fxOk,Zb0,Zbe,isNil,notNil,List.map,List.set,List.replicate,List.length,List.getD_cons_zero,List.getD_cons_succ,List.getD_nil,List.take,List.drop,List.take_zero,List.drop_zero,List.take_succ_cons,List.drop_succ_cons,List.append,List.cons_append,List.nil_append,Option.map,Nat.reduceEqDiff,Nat.reduceAdd,Nat.reduceLT,Nat.reduceLeDiff,Nat.reduceSub,Nat.reduceMul,reduceIte,Bool.false_eq_true,Bool.true_eq_false,ite_true,ite_false,if_true,if_false,true_and,and_true,implies_true,forall_const,ne_eq,not_false_eq_true,reduceCtorEq,BEq.rfl,beq_self_eq_true,Option.some.injEq,Nat.zero_add,Nat.add_zero,List.length_cons,List.length_nil,true_implies,imp_self,Int.reduceToNat,Int.toNat_natCast,Bool.not_false,Bool.not_true,ad1 (a:=j) (by omega),qi0,qi1,qi2,qi3,qi4,qi5]
        refine ⟨⟨(j + 1,t + 1,t + 1 + 1),ja,by show t + 1 < t + 1 + 1; omega⟩,?_⟩
        simp only [← e2]
        try simp only [Zab,Zax,Zbf,Zau,Zav,Zbg,Zbh,guardOf,Zac,Zar,Zat,Zae,Zaf,Zaw,Zbp,VOp.isIaddr,QW,dok,dval,VOp.pure,VOp.simple,VOp.det,pok,pval,VA.ev,Env.get,Env.put,Env.keep,Za3,Zbi,Zaz,retQ,resV,Zbq,RS.ev,RS.ok,gd,Zbx,isBool,aggV,intV,binV,Zbk,strV,Zby,Zb1,Zbc,unV,unOk,Zb2,isInt,isStr,numOf,loV,hiV,lenV,Zap,Zbd,Zas,Za7,Za5,Zad,Zbl,Zaa,Zba,Za2,Zan,idxV,Zb3,Zbn,extV,Zbz,Zbr,Za8,mmV,PV.cells,PV.fits,overlay,PV.nth,PV.row,Zbw,Zam,Zbv,Za9,Zbo,Zbm,Zal,Za4,Zbb,Zao,Heap.get,Heap.set,Heap.del,Heap.le,HL.get,HL.set,HL.del,HL.le,Heap.push,Heap.nil,Nat.le_refl,Nat.add_eq_left,Nat.left_eq_add,Nat.succ_ne_self,Nat.one_ne_zero,Env.le,Za0,Zbt,Zak,Zbu,Zai,Zbs,Zay,Zaj,eqOk,ekOk,Zag,Za1,Za6,Zaq,AB.live,pxV,pxOk,fxV,fxOk,Zb0,Zbe,isNil,notNil,List.map,List.set,List.replicate,List.length,List.getD_cons_zero,List.getD_cons_succ,List.getD_nil,List.take,List.drop,List.take_zero,List.drop_zero,List.take_succ_cons,List.drop_succ_cons,List.append,List.cons_append,List.nil_append,Option.map,Nat.reduceEqDiff,Nat.reduceAdd,Nat.reduceLT,Nat.reduceLeDiff,Nat.reduceSub,Nat.reduceMul,reduceIte,Bool.false_eq_true,Bool.true_eq_false,ite_true,ite_false,if_true,if_false,true_and,and_true,implies_true,forall_const,ne_eq,not_false_eq_true,reduceCtorEq,BEq.rfl,beq_self_eq_true,Option.some.injEq,Nat.zero_add,Nat.add_zero,List.length_cons,List.length_nil,true_implies,imp_self,Int.reduceToNat,Int.toNat_natCast,Bool.not_false,Bool.not_true,qi0,qi1,qi2,qi3,qi4,qi5]
        all_goals (repeat' (first | rfl | trivial | omega | (simp only []; omega) | refine And.intro ?_ ?_))
      · have he:w0 = []:=by simpa using h3
        rw [if_pos he,List.append_nil] at hstep
        refine Zb8 ?_
        try simp only [Zab,Zax,Zbf,Zau,Zav,Zbg,Zbh,guardOf,Zac,Zar,Zat,Zae,Zaf,Zaw,Zbp,VOp.isIaddr,QW,dok,dval,VOp.pure,VOp.simple,VOp.det,pok,pval,VA.ev,Env.get,Env.put,Env.keep,Za3,Zbi,Zaz,retQ,resV,Zbq,RS.ev,RS.ok,gd,Zbx,isBool,aggV,intV,binV,Zbk,strV,Zby,Zb1,Zbc,unV,unOk,Zb2,isInt,isStr,numOf,loV,hiV,lenV,Zap,Zbd,Zas,Za7,Za5,Zad,Zbl,Zaa,Zba,Za2,Zan,idxV,Zb3,Zbn,extV,Zbz,Zbr,Za8,mmV,PV.cells,PV.fits,overlay,PV.nth,PV.row,Zbw,Zam,Zbv,Za9,Zbo,Zbm,Zal,Za4,Zbb,Zao,Heap.get,Heap.set,Heap.del,Heap.le,HL.get,HL.set,HL.del,HL.le,Heap.push,Heap.nil,Nat.le_refl,Nat.add_eq_left,Nat.left_eq_add,Nat.succ_ne_self,Nat.one_ne_zero,Env.le,Za0,Zbt,Zak,Zbu,Zai,Zbs,Zay,Zaj,eqOk,ekOk,Zag,Za1,Za6,Zaq,AB.live,pxV,pxOk,fxV,fxOk,Zb0,Zbe,isNil,notNil,List.map,List.set,List.replicate,List.length,List.getD_cons_zero,List.getD_cons_succ,List.getD_nil,List.take,List.drop,List.take_zero,List.drop_zero,List.take_succ_cons,List.drop_succ_cons,List.append,List.cons_append,List.nil_append,Option.map,Nat.reduceEqDiff,Nat.reduceAdd,Nat.reduceLT,Nat.reduceLeDiff,Nat.reduceSub,Nat.reduceMul,reduceIte,Bool.false_eq_true,Bool.true_eq_false,ite_true,ite_false,if_true,if_false,true_and,and_true,implies_true,forall_const,ne_eq,not_false_eq_true,reduceCtorEq,BEq.rfl,beq_self_eq_true,Option.some.injEq,Nat.zero_add,Nat.add_zero,List.length_cons,List.length_nil,true_implies,imp_self,Int.reduceToNat,Int.toNat_natCast,Bool.not_false,Bool.not_true]
        refine Zah [0,3,4,5,6] ?_
        simp only [Zab,Zax,Zbf,Zau,Zav,Zbg,Zbh,guardOf,Zac,Zar,Zat,Zae,Zaf,Zaw,Zbp,VOp.isIaddr,QW,dok,dval,VOp.pure,VOp.simple,VOp.det,pok,pval,VA.ev,Env.get,Env.put,Env.keep,Za3,Zbi,Zaz,retQ,resV,Zbq,RS.ev,RS.ok,gd,Zbx,isBool,aggV,intV,binV,Zbk,strV,Zby,Zb1,Zbc,unV,unOk,Zb2,isInt,isStr,numOf,loV,hiV,lenV,Zap,Zbd,Zas,Za7,Za5,Zad,Zbl,Zaa,Zba,Za2,Zan,idxV,Zb3,Zbn,extV,Zbz,Zbr,Za8,mmV,PV.cells,PV.fits,overlay,PV.nth,PV.row,Zbw,Zam,Zbv,Za9,Zbo,Zbm,Zal,Za4,Zbb,Zao,Heap.get,Heap.set,Heap.del,Heap.le,HL.get,HL.set,HL.del,HL.le,Heap.push,Heap.nil,Nat.le_refl,Nat.add_eq_left,Nat.left_eq_add,Nat.succ_ne_self,Nat.one_ne_zero,Env.le,Za0,Zbt,Zak,Zbu,Zai,Zbs,Zay,Zaj,eqOk,ekOk,Zag,Za1,Za6,Zaq,AB.live,pxV,pxOk,fxV,fxOk,Zb0,Zbe,isNil,notNil,List.map,List.set,List.replicate,List.length,List.getD_cons_zero,List.getD_cons_succ,List.getD_nil,List.take,List.drop,List.take_zero,List.drop_zero,List.take_succ_cons,List.drop_succ_cons,List.append,List.cons_append,List.nil_append,Option.map,Nat.reduceEqDiff,Nat.reduceAdd,Nat.reduceLT,Nat.reduceLeDiff,Nat.reduceSub,Nat.reduceMul,reduceIte,Bool.false_eq_true,Bool.true_eq_false,ite_true,ite_false,if_true,if_false,true_and,and_true,implies_true,forall_const,ne_eq,not_false_eq_true,reduceCtorEq,BEq.rfl,beq_self_eq_true,Option.some.injEq,Nat.zero_add,Nat.add_zero,List.length_cons,List.length_nil,true_implies,imp_self,Int.reduceToNat,Int.toNat_natCast,Bool.not_false,Bool.not_true,ad1 (a:=j) (by omega),qi0,qi1,qi2,qi3,qi4,qi5]
        refine ⟨⟨(j + 1,i2,t),ja,hid2⟩,?_⟩
        simp only [hstep,hG]
        try simp only [Zab,Zax,Zbf,Zau,Zav,Zbg,Zbh,guardOf,Zac,Zar,Zat,Zae,Zaf,Zaw,Zbp,VOp.isIaddr,QW,dok,dval,VOp.pure,VOp.simple,VOp.det,pok,pval,VA.ev,Env.get,Env.put,Env.keep,Za3,Zbi,Zaz,retQ,resV,Zbq,RS.ev,RS.ok,gd,Zbx,isBool,aggV,intV,binV,Zbk,strV,Zby,Zb1,Zbc,unV,unOk,Zb2,isInt,isStr,numOf,loV,hiV,lenV,Zap,Zbd,Zas,Za7,Za5,Zad,Zbl,Zaa,Zba,Za2,Zan,idxV,Zb3,Zbn,extV,Zbz,Zbr,Za8,mmV,PV.cells,PV.fits,overlay,PV.nth,PV.row,Zbw,Zam,Zbv,Za9,Zbo,Zbm,Zal,Za4,Zbb,Zao,Heap.get,Heap.set,Heap.del,Heap.le,HL.get,HL.set,HL.del,HL.le,Heap.push,Heap.nil,Nat.le_refl,Nat.add_eq_left,Nat.left_eq_add,Nat.succ_ne_self,Nat.one_ne_zero,Env.le,Za0,Zbt,Zak,Zbu,Zai,Zbs,Zay,Zaj,eqOk,ekOk,Zag,Za1,Za6,Zaq,AB.live,pxV,pxOk,fxV,fxOk,Zb0,Zbe,isNil,notNil,List.map,List.set,List.replicate,List.length,List.getD_cons_zero,List.getD_cons_succ,List.getD_nil,List.take,List.drop,List.take_zero,List.drop_zero,List.take_succ_cons,List.drop_succ_cons,List.append,List.cons_append,List.nil_append,Option.map,Nat.reduceEqDiff,Nat.reduceAdd,Nat.reduceLT,Nat.reduceLeDiff,Nat.reduceSub,Nat.reduceMul,reduceIte,Bool.false_eq_true,Bool.true_eq_false,ite_true,ite_false,if_true,if_false,true_and,and_true,implies_true,forall_const,ne_eq,not_false_eq_true,reduceCtorEq,BEq.rfl,beq_self_eq_true,Option.some.injEq,Nat.zero_add,Nat.add_zero,List.length_cons,List.length_nil,true_implies,imp_self,Int.reduceToNat,Int.toNat_natCast,Bool.not_false,Bool.not_true,qi0,qi1,qi2,qi3,qi4,qi5]
        all_goals (repeat' (first | rfl | trivial | omega | (simp only []; omega) | refine And.intro ?_ ?_))
    simp only [decide_eq_false_iff_not] at h2
    obtain rfl:j = K.length:=by omega
    rw [List.take_length,hcf]
    rw [← hst]
    refine Zci ?_
    try simp only [Zab,Zax,Zbf,Zau,Zav,Zbg,Zbh,guardOf,Zac,Zar,Zat,Zae,Zaf,Zaw,Zbp,VOp.isIaddr,QW,dok,dval,VOp.pure,VOp.simple,VOp.det,pok,pval,VA.ev,Env.get,Env.put,Env.keep,Za3,Zbi,Zaz,retQ,resV,Zbq,RS.ev,RS.ok,gd,Zbx,isBool,aggV,intV,binV,Zbk,strV,Zby,Zb1,Zbc,unV,unOk,Zb2,isInt,isStr,numOf,loV,hiV,lenV,Zap,Zbd,Zas,Za7,Za5,Zad,Zbl,Zaa,Zba,Za2,Zan,idxV,Zb3,Zbn,extV,Zbz,Zbr,Za8,mmV,PV.cells,PV.fits,overlay,PV.nth,PV.row,Zbw,Zam,Zbv,Za9,Zbo,Zbm,Zal,Za4,Zbb,Zao,Heap.get,Heap.set,Heap.del,Heap.le,HL.get,HL.set,HL.del,HL.le,Heap.push,Heap.nil,Nat.le_refl,Nat.add_eq_left,Nat.left_eq_add,Nat.succ_ne_self,Nat.one_ne_zero,Env.le,Za0,Zbt,Zak,Zbu,Zai,Zbs,Zay,Zaj,eqOk,ekOk,Zag,Za1,Za6,Zaq,AB.live,pxV,pxOk,fxV,fxOk,Zb0,Zbe,isNil,notNil,List.map,List.set,List.replicate,List.length,List.getD_cons_zero,List.getD_cons_succ,List.getD_nil,List.take,List.drop,List.take_zero,List.drop_zero,List.take_succ_cons,List.drop_succ_cons,List.append,List.cons_append,List.nil_append,Option.map,Nat.reduceEqDiff,Nat.reduceAdd,Nat.reduceLT,Nat.reduceLeDiff,Nat.reduceSub,Nat.reduceMul,reduceIte,Bool.false_eq_true,Bool.true_eq_false,ite_true,ite_false,if_true,if_false,true_and,and_true,implies_true,forall_const,ne_eq,not_false_eq_true,reduceCtorEq,BEq.rfl,beq_self_eq_true,Option.some.injEq,Nat.zero_add,Nat.add_zero,List.length_cons,List.length_nil,true_implies,imp_self,Int.reduceToNat,Int.toNat_natCast,Bool.not_false,Bool.not_true]
    refine Zah [0,3,4] ?_
    simp only [Zab,Zax,Zbf,Zau,Zav,Zbg,Zbh,guardOf,Zac,Zar,Zat,Zae,Zaf,Zaw,Zbp,VOp.isIaddr,QW,dok,dval,VOp.pure,VOp.simple,VOp.det,pok,pval,VA.ev,Env.get,Env.put,Env.keep,Za3,Zbi,Zaz,retQ,resV,Zbq,RS.ev,RS.ok,gd,Zbx,isBool,aggV,intV,binV,Zbk,strV,Zby,Zb1,Zbc,unV,unOk,Zb2,isInt,isStr,numOf,loV,hiV,lenV,Zap,Zbd,Zas,Za7,Za5,Zad,Zbl,Zaa,Zba,Za2,Zan,idxV,Zb3,Zbn,extV,Zbz,Zbr,Za8,mmV,PV.cells,PV.fits,overlay,PV.nth,PV.row,Zbw,Zam,Zbv,Za9,Zbo,Zbm,Zal,Za4,Zbb,Zao,Heap.get,Heap.set,Heap.del,Heap.le,HL.get,HL.set,HL.del,HL.le,Heap.push,Heap.nil,Nat.le_refl,Nat.add_eq_left,Nat.left_eq_add,Nat.succ_ne_self,Nat.one_ne_zero,Env.le,Za0,Zbt,Zak,Zbu,Zai,Zbs,Zay,Zaj,eqOk,ekOk,Zag,Za1,Za6,Zaq,AB.live,pxV,pxOk,fxV,fxOk,Zb0,Zbe,isNil,notNil,List.map,List.set,List.replicate,List.length,List.getD_cons_zero,List.getD_cons_succ,List.getD_nil,List.take,List.drop,List.take_zero,List.drop_zero,List.take_succ_cons,List.drop_succ_cons,List.append,List.cons_append,List.nil_append,Option.map,Nat.reduceEqDiff,Nat.reduceAdd,Nat.reduceLT,Nat.reduceLeDiff,Nat.reduceSub,Nat.reduceMul,reduceIte,Bool.false_eq_true,Bool.true_eq_false,ite_true,ite_false,if_true,if_false,true_and,and_true,implies_true,forall_const,ne_eq,not_false_eq_true,reduceCtorEq,BEq.rfl,beq_self_eq_true,Option.some.injEq,Nat.zero_add,Nat.add_zero,List.length_cons,List.length_nil,true_implies,imp_self,Int.reduceToNat,Int.toNat_natCast,Bool.not_false,Bool.not_true,ad1 (a:=k) (by omega),qi0,qi1,qi2,qi3,qi4,qi5]
    refine ⟨⟨(k + 1,i2,t),ka,hid2⟩,?_⟩
    try simp only [Zab,Zax,Zbf,Zau,Zav,Zbg,Zbh,guardOf,Zac,Zar,Zat,Zae,Zaf,Zaw,Zbp,VOp.isIaddr,QW,dok,dval,VOp.pure,VOp.simple,VOp.det,pok,pval,VA.ev,Env.get,Env.put,Env.keep,Za3,Zbi,Zaz,retQ,resV,Zbq,RS.ev,RS.ok,gd,Zbx,isBool,aggV,intV,binV,Zbk,strV,Zby,Zb1,Zbc,unV,unOk,Zb2,isInt,isStr,numOf,loV,hiV,lenV,Zap,Zbd,Zas,Za7,Za5,Zad,Zbl,Zaa,Zba,Za2,Zan,idxV,Zb3,Zbn,extV,Zbz,Zbr,Za8,mmV,PV.cells,PV.fits,overlay,PV.nth,PV.row,Zbw,Zam,Zbv,Za9,Zbo,Zbm,Zal,Za4,Zbb,Zao,Heap.get,Heap.set,Heap.del,Heap.le,HL.get,HL.set,HL.del,HL.le,Heap.push,Heap.nil,Nat.le_refl,Nat.add_eq_left,Nat.left_eq_add,Nat.succ_ne_self,Nat.one_ne_zero,Env.le,Za0,Zbt,Zak,Zbu,Zai,Zbs,Zay,Zaj,eqOk,ekOk,Zag,Za1,Za6,Zaq,AB.live,pxV,pxOk,fxV,fxOk,Zb0,Zbe,isNil,notNil,List.map,List.set,List.replicate,List.length,List.getD_cons_zero,List.getD_cons_succ,List.getD_nil,List.take,List.drop,List.take_zero,List.drop_zero,List.take_succ_cons,List.drop_succ_cons,List.append,List.cons_append,List.nil_append,Option.map,Nat.reduceEqDiff,Nat.reduceAdd,Nat.reduceLT,Nat.reduceLeDiff,Nat.reduceSub,Nat.reduceMul,reduceIte,Bool.false_eq_true,Bool.true_eq_false,ite_true,ite_false,if_true,if_false,true_and,and_true,implies_true,forall_const,ne_eq,not_false_eq_true,reduceCtorEq,BEq.rfl,beq_self_eq_true,Option.some.injEq,Nat.zero_add,Nat.add_zero,List.length_cons,List.length_nil,true_implies,imp_self,Int.reduceToNat,Int.toNat_natCast,Bool.not_false,Bool.not_true,qi0,qi1,qi2,qi3,qi4,qi5]
    all_goals (repeat' (first | rfl | trivial | omega | (simp only []; omega) | refine And.intro ?_ ?_))
  simp only [decide_eq_false_iff_not] at h1
  obtain rfl:k = l.length:=by omega
  rw [List.take_length]
  refine Zci ?_
  try simp only [Zab,Zax,Zbf,Zau,Zav,Zbg,Zbh,guardOf,Zac,Zar,Zat,Zae,Zaf,Zaw,Zbp,VOp.isIaddr,QW,dok,dval,VOp.pure,VOp.simple,VOp.det,pok,pval,VA.ev,Env.get,Env.put,Env.keep,Za3,Zbi,Zaz,retQ,resV,Zbq,RS.ev,RS.ok,gd,Zbx,isBool,aggV,intV,binV,Zbk,strV,Zby,Zb1,Zbc,unV,unOk,Zb2,isInt,isStr,numOf,loV,hiV,lenV,Zap,Zbd,Zas,Za7,Za5,Zad,Zbl,Zaa,Zba,Za2,Zan,idxV,Zb3,Zbn,extV,Zbz,Zbr,Za8,mmV,PV.cells,PV.fits,overlay,PV.nth,PV.row,Zbw,Zam,Zbv,Za9,Zbo,Zbm,Zal,Za4,Zbb,Zao,Heap.get,Heap.set,Heap.del,Heap.le,HL.get,HL.set,HL.del,HL.le,Heap.push,Heap.nil,Nat.le_refl,Nat.add_eq_left,Nat.left_eq_add,Nat.succ_ne_self,Nat.one_ne_zero,Env.le,Za0,Zbt,Zak,Zbu,Zai,Zbs,Zay,Zaj,eqOk,ekOk,Zag,Za1,Za6,Zaq,AB.live,pxV,pxOk,fxV,fxOk,Zb0,Zbe,isNil,notNil,List.map,List.set,List.replicate,List.length,List.getD_cons_zero,List.getD_cons_succ,List.getD_nil,List.take,List.drop,List.take_zero,List.drop_zero,List.take_succ_cons,List.drop_succ_cons,List.append,List.cons_append,List.nil_append,Option.map,Nat.reduceEqDiff,Nat.reduceAdd,Nat.reduceLT,Nat.reduceLeDiff,Nat.reduceSub,Nat.reduceMul,reduceIte,Bool.false_eq_true,Bool.true_eq_false,ite_true,ite_false,if_true,if_false,true_and,and_true,implies_true,forall_const,ne_eq,not_false_eq_true,reduceCtorEq,BEq.rfl,beq_self_eq_true,Option.some.injEq,Nat.zero_add,Nat.add_zero,List.length_cons,List.length_nil,true_implies,imp_self,Int.reduceToNat,Int.toNat_natCast,Bool.not_false,Bool.not_true]
  refine Zbj (Zah [2] ?_)
  simp only [Zab,Zax,Zbf,Zau,Zav,Zbg,Zbh,guardOf,Zac,Zar,Zat,Zae,Zaf,Zaw,Zbp,VOp.isIaddr,QW,dok,dval,VOp.pure,VOp.simple,VOp.det,pok,pval,VA.ev,Env.get,Env.put,Env.keep,Za3,Zbi,Zaz,retQ,resV,Zbq,RS.ev,RS.ok,gd,Zbx,isBool,aggV,intV,binV,Zbk,strV,Zby,Zb1,Zbc,unV,unOk,Zb2,isInt,isStr,numOf,loV,hiV,lenV,Zap,Zbd,Zas,Za7,Za5,Zad,Zbl,Zaa,Zba,Za2,Zan,idxV,Zb3,Zbn,extV,Zbz,Zbr,Za8,mmV,PV.cells,PV.fits,overlay,PV.nth,PV.row,Zbw,Zam,Zbv,Za9,Zbo,Zbm,Zal,Za4,Zbb,Zao,Heap.get,Heap.set,Heap.del,Heap.le,HL.get,HL.set,HL.del,HL.le,Heap.push,Heap.nil,Nat.le_refl,Nat.add_eq_left,Nat.left_eq_add,Nat.succ_ne_self,Nat.one_ne_zero,Env.le,Za0,Zbt,Zak,Zbu,Zai,Zbs,Zay,Zaj,eqOk,ekOk,Zag,Za1,Za6,Zaq,AB.live,pxV,pxOk,fxV,fxOk,Zb0,Zbe,isNil,notNil,List.map,List.set,List.replicate,List.length,List.getD_cons_zero,List.getD_cons_succ,List.getD_nil,List.take,List.drop,List.take_zero,List.drop_zero,List.take_succ_cons,List.drop_succ_cons,List.append,List.cons_append,List.nil_append,Option.map,Nat.reduceEqDiff,Nat.reduceAdd,Nat.reduceLT,Nat.reduceLeDiff,Nat.reduceSub,Nat.reduceMul,reduceIte,Bool.false_eq_true,Bool.true_eq_false,ite_true,ite_false,if_true,if_false,true_and,and_true,implies_true,forall_const,ne_eq,not_false_eq_true,reduceCtorEq,BEq.rfl,beq_self_eq_true,Option.some.injEq,Nat.zero_add,Nat.add_zero,List.length_cons,List.length_nil,true_implies,imp_self,Int.reduceToNat,Int.toNat_natCast,Bool.not_false,Bool.not_true]
  refine Zcl ?_
  try simp only [Zab,Zax,Zbf,Zau,Zav,Zbg,Zbh,guardOf,Zac,Zar,Zat,Zae,Zaf,Zaw,Zbp,VOp.isIaddr,QW,dok,dval,VOp.pure,VOp.simple,VOp.det,pok,pval,VA.ev,Env.get,Env.put,Env.keep,Za3,Zbi,Zaz,retQ,resV,Zbq,RS.ev,RS.ok,gd,Zbx,isBool,aggV,intV,binV,Zbk,strV,Zby,Zb1,Zbc,unV,unOk,Zb2,isInt,isStr,numOf,loV,hiV,lenV,Zap,Zbd,Zas,Za7,Za5,Zad,Zbl,Zaa,Zba,Za2,Zan,idxV,Zb3,Zbn,extV,Zbz,Zbr,Za8,mmV,PV.cells,PV.fits,overlay,PV.nth,PV.row,Zbw,Zam,Zbv,Za9,Zbo,Zbm,Zal,Za4,Zbb,Zao,Heap.get,Heap.set,Heap.del,Heap.le,HL.get,HL.set,HL.del,HL.le,Heap.push,Heap.nil,Nat.le_refl,Nat.add_eq_left,Nat.left_eq_add,Nat.succ_ne_self,Nat.one_ne_zero,Env.le,Za0,Zbt,Zak,Zbu,Zai,Zbs,Zay,Zaj,eqOk,ekOk,Zag,Za1,Za6,Zaq,AB.live,pxV,pxOk,fxV,fxOk,Zb0,Zbe,isNil,notNil,List.map,List.set,List.replicate,List.length,List.getD_cons_zero,List.getD_cons_succ,List.getD_nil,List.take,List.drop,List.take_zero,List.drop_zero,List.take_succ_cons,List.drop_succ_cons,List.append,List.cons_append,List.nil_append,Option.map,Nat.reduceEqDiff,Nat.reduceAdd,Nat.reduceLT,Nat.reduceLeDiff,Nat.reduceSub,Nat.reduceMul,reduceIte,Bool.false_eq_true,Bool.true_eq_false,ite_true,ite_false,if_true,if_false,true_and,and_true,implies_true,forall_const,ne_eq,not_false_eq_true,reduceCtorEq,BEq.rfl,beq_self_eq_true,Option.some.injEq,Nat.zero_add,Nat.add_zero,List.length_cons,List.length_nil,true_implies,imp_self,Int.reduceToNat,Int.toNat_natCast,Bool.not_false,Bool.not_true]
  exact View.own_all (fz:=false) (by simp [Heap.get,HL.get]) (by rw [Zcc])
theorem sp_Split (l:List Str) (hl:l.length ≤ 1000) (hs:∀ s ∈ l,s.length ≤ 100000) (hw:(l.flatMap Zb7).length ≤ 100000):Zcq Tryz.prog 61 [.sl 1 (strR l)] (.sl 1 (strR (l.flatMap Zb7))):=by
  have A:=sp_split l hl hs hw
  refine Zb9 ?_ (Zce _) (by simp only [ClosedL,List.mem_cons,List.not_mem_nil,or_false,forall_eq_or_imp,forall_eq,false_implies,implies_true]; repeat' (first  | exact closed_strs _ | exact closed_sc _ | refine And.intro ?_ ?_))
  refine Zcf (vc:=c_pandectref55_Split) (ts:=[.t 2]) Go.Proofs.Tryz.func61 (by kernel_rfl) rfl rfl (Nat.le_of_ble_eq_true rfl) (by kernel_rfl) ?_
  unfold c_pandectref55_Split
  try dsimp only [ZM,ZO,ZN,ZG]
  refine Zbj (Zah [0] ?_)
  simp only [Zab,Zax,Zbf,Zau,Zav,Zbg,Zbh,guardOf,Zac,Zar,Zat,Zae,Zaf,Zaw,Zbp,VOp.isIaddr,QW,dok,dval,VOp.pure,VOp.simple,VOp.det,pok,pval,VA.ev,Env.get,Env.put,Env.keep,Za3,Zbi,Zaz,retQ,resV,Zbq,RS.ev,RS.ok,gd,Zbx,isBool,aggV,intV,binV,Zbk,strV,Zby,Zb1,Zbc,unV,unOk,Zb2,isInt,isStr,numOf,loV,hiV,lenV,Zap,Zbd,Zas,Za7,Za5,Zad,Zbl,Zaa,Zba,Za2,Zan,idxV,Zb3,Zbn,extV,Zbz,Zbr,Za8,mmV,PV.cells,PV.fits,overlay,PV.nth,PV.row,Zbw,Zam,Zbv,Za9,Zbo,Zbm,Zal,Za4,Zbb,Zao,Heap.get,Heap.set,Heap.del,Heap.le,HL.get,HL.set,HL.del,HL.le,Heap.push,Heap.nil,Nat.le_refl,Nat.add_eq_left,Nat.left_eq_add,Nat.succ_ne_self,Nat.one_ne_zero,Env.le,Za0,Zbt,Zak,Zbu,Zai,Zbs,Zay,Zaj,eqOk,ekOk,Zag,Za1,Za6,Zaq,AB.live,pxV,pxOk,fxV,fxOk,Zb0,Zbe,isNil,notNil,List.map,List.set,List.replicate,List.length,List.getD_cons_zero,List.getD_cons_succ,List.getD_nil,List.take,List.drop,List.take_zero,List.drop_zero,List.take_succ_cons,List.drop_succ_cons,List.append,List.cons_append,List.nil_append,Option.map,Nat.reduceEqDiff,Nat.reduceAdd,Nat.reduceLT,Nat.reduceLeDiff,Nat.reduceSub,Nat.reduceMul,reduceIte,Bool.false_eq_true,Bool.true_eq_false,ite_true,ite_false,if_true,if_false,true_and,and_true,implies_true,forall_const,ne_eq,not_false_eq_true,reduceCtorEq,BEq.rfl,beq_self_eq_true,Option.some.injEq,Nat.zero_add,Nat.add_zero,List.length_cons,List.length_nil,true_implies,imp_self,Int.reduceToNat,Int.toNat_natCast,Bool.not_false,Bool.not_true]
  refine Zbj (Zah [2] ?_)
  simp only [Zab,Zax,Zbf,Zau,Zav,Zbg,Zbh,guardOf,Zac,Zar,Zat,Zae,Zaf,Zaw,Zbp,VOp.isIaddr,QW,dok,dval,VOp.pure,VOp.simple,VOp.det,pok,pval,VA.ev,Env.get,Env.put,Env.keep,Za3,Zbi,Zaz,retQ,resV,Zbq,RS.ev,RS.ok,gd,Zbx,isBool,aggV,intV,binV,Zbk,strV,Zby,Zb1,Zbc,unV,unOk,Zb2,isInt,isStr,numOf,loV,hiV,lenV,Zap,Zbd,Zas,Za7,Za5,Zad,Zbl,Zaa,Zba,Za2,Zan,idxV,Zb3,Zbn,extV,Zbz,Zbr,Za8,mmV,PV.cells,PV.fits,overlay,PV.nth,PV.row,Zbw,Zam,Zbv,Za9,Zbo,Zbm,Zal,Za4,Zbb,Zao,Heap.get,Heap.set,Heap.del,Heap.le,HL.get,HL.set,HL.del,HL.le,Heap.push,Heap.nil,Nat.le_refl,Nat.add_eq_left,Nat.left_eq_add,Nat.succ_ne_self,Nat.one_ne_zero,Env.le,Za0,Zbt,Zak,Zbu,Zai,Zbs,Zay,Zaj,eqOk,ekOk,Zag,Za1,Za6,Zaq,AB.live,pxV,pxOk,fxV,fxOk,Zb0,Zbe,isNil,notNil,List.map,List.set,List.replicate,List.length,List.getD_cons_zero,List.getD_cons_succ,List.getD_nil,List.take,List.drop,List.take_zero,List.drop_zero,List.take_succ_cons,List.drop_succ_cons,List.append,List.cons_append,List.nil_append,Option.map,Nat.reduceEqDiff,Nat.reduceAdd,Nat.reduceLT,Nat.reduceLeDiff,Nat.reduceSub,Nat.reduceMul,reduceIte,Bool.false_eq_true,Bool.true_eq_false,ite_true,ite_false,if_true,if_false,true_and,and_true,implies_true,forall_const,ne_eq,not_false_eq_true,reduceCtorEq,BEq.rfl,beq_self_eq_true,Option.some.injEq,Nat.zero_add,Nat.add_zero,List.length_cons,List.length_nil,true_implies,imp_self,Int.reduceToNat,Int.toNat_natCast,Bool.not_false,Bool.not_true]
  refine Zcg A ?_
  try simp only [Zab,Zax,Zbf,Zau,Zav,Zbg,Zbh,guardOf,Zac,Zar,Zat,Zae,Zaf,Zaw,Zbp,VOp.isIaddr,QW,dok,dval,VOp.pure,VOp.simple,VOp.det,pok,pval,VA.ev,Env.get,Env.put,Env.keep,Za3,Zbi,Zaz,retQ,resV,Zbq,RS.ev,RS.ok,gd,Zbx,isBool,aggV,intV,binV,Zbk,strV,Zby,Zb1,Zbc,unV,unOk,Zb2,isInt,isStr,numOf,loV,hiV,lenV,Zap,Zbd,Zas,Za7,Za5,Zad,Zbl,Zaa,Zba,Za2,Zan,idxV,Zb3,Zbn,extV,Zbz,Zbr,Za8,mmV,PV.cells,PV.fits,overlay,PV.nth,PV.row,Zbw,Zam,Zbv,Za9,Zbo,Zbm,Zal,Za4,Zbb,Zao,Heap.get,Heap.set,Heap.del,Heap.le,HL.get,HL.set,HL.del,HL.le,Heap.push,Heap.nil,Nat.le_refl,Nat.add_eq_left,Nat.left_eq_add,Nat.succ_ne_self,Nat.one_ne_zero,Env.le,Za0,Zbt,Zak,Zbu,Zai,Zbs,Zay,Zaj,eqOk,ekOk,Zag,Za1,Za6,Zaq,AB.live,pxV,pxOk,fxV,fxOk,Zb0,Zbe,isNil,notNil,List.map,List.set,List.replicate,List.length,List.getD_cons_zero,List.getD_cons_succ,List.getD_nil,List.take,List.drop,List.take_zero,List.drop_zero,List.take_succ_cons,List.drop_succ_cons,List.append,List.cons_append,List.nil_append,Option.map,Nat.reduceEqDiff,Nat.reduceAdd,Nat.reduceLT,Nat.reduceLeDiff,Nat.reduceSub,Nat.reduceMul,reduceIte,Bool.false_eq_true,Bool.true_eq_false,ite_true,ite_false,if_true,if_false,true_and,and_true,implies_true,forall_const,ne_eq,not_false_eq_true,reduceCtorEq,BEq.rfl,beq_self_eq_true,Option.some.injEq,Nat.zero_add,Nat.add_zero,List.length_cons,List.length_nil,true_implies,imp_self,Int.reduceToNat,Int.toNat_natCast,Bool.not_false,Bool.not_true]
  refine Zcl ?_
  try simp only [Zab,Zax,Zbf,Zau,Zav,Zbg,Zbh,guardOf,Zac,Zar,Zat,Zae,Zaf,Zaw,Zbp,VOp.isIaddr,QW,dok,dval,VOp.pure,VOp.simple,VOp.det,pok,pval,VA.ev,Env.get,Env.put,Env.keep,Za3,Zbi,Zaz,retQ,resV,Zbq,RS.ev,RS.ok,gd,Zbx,isBool,aggV,intV,binV,Zbk,strV,Zby,Zb1,Zbc,unV,unOk,Zb2,isInt,isStr,numOf,loV,hiV,lenV,Zap,Zbd,Zas,Za7,Za5,Zad,Zbl,Zaa,Zba,Za2,Zan,idxV,Zb3,Zbn,extV,Zbz,Zbr,Za8,mmV,PV.cells,PV.fits,overlay,PV.nth,PV.row,Zbw,Zam,Zbv,Za9,Zbo,Zbm,Zal,Za4,Zbb,Zao,Heap.get,Heap.set,Heap.del,Heap.le,HL.get,HL.set,HL.del,HL.le,Heap.push,Heap.nil,Nat.le_refl,Nat.add_eq_left,Nat.left_eq_add,Nat.succ_ne_self,Nat.one_ne_zero,Env.le,Za0,Zbt,Zak,Zbu,Zai,Zbs,Zay,Zaj,eqOk,ekOk,Zag,Za1,Za6,Zaq,AB.live,pxV,pxOk,fxV,fxOk,Zb0,Zbe,isNil,notNil,List.map,List.set,List.replicate,List.length,List.getD_cons_zero,List.getD_cons_succ,List.getD_nil,List.take,List.drop,List.take_zero,List.drop_zero,List.take_succ_cons,List.drop_succ_cons,List.append,List.cons_append,List.nil_append,Option.map,Nat.reduceEqDiff,Nat.reduceAdd,Nat.reduceLT,Nat.reduceLeDiff,Nat.reduceSub,Nat.reduceMul,reduceIte,Bool.false_eq_true,Bool.true_eq_false,ite_true,ite_false,if_true,if_false,true_and,and_true,implies_true,forall_const,ne_eq,not_false_eq_true,reduceCtorEq,BEq.rfl,beq_self_eq_true,Option.some.injEq,Nat.zero_add,Nat.add_zero,List.length_cons,List.length_nil,true_implies,imp_self,Int.reduceToNat,Int.toNat_natCast,Bool.not_false,Bool.not_true]
  exact View.refl _ _
end Go.Proofs.YtjmekckcffckoabGreatDoor.w
namespace Go.Proofs.YtjmekckcffckoabGreatDoor.w
open Go Go.VM
section
variable {α : Type} [DecidableEq α]
def putR (lt:α → α → Bool) (n:α):List α → List α
  | []=>[n]
  | a :: r=>if lt a n then a :: putR lt n r else n :: (a :: r).filter (fun x=>x != n)
def putA (lt:α → α → Bool) (n:α) (s:Bool × List α) (x:α):Bool × List α:=if s.1 = false ∧ lt x n = false then (true,s.2 ++ [n]) else s
def putB (n:α) (s:Bool × List α) (x:α):Bool × List α:=(s.1,if x = n then s.2 else s.2 ++ [x])
def putF (lt:α → α → Bool) (n:α) (l:List α):Bool × List α:=l.foldl (fun s x=>putB n (putA lt n s x) x) (false,[])
def putL (lt:α → α → Bool) (n:α) (l:List α):List α:=if (putF lt n l).1 then (putF lt n l).2 else (putF lt n l).2 ++ [n]
theorem putF_step (lt:α → α → Bool) (n:α) {l:List α} {k:Nat} (h:k < l.length):putF lt n (l.take (k + 1)) = putB n (putA lt n (putF lt n (l.take k)) l[k]) l[k]:=by
  unfold putF
  rw [List.take_add_one,List.getElem?_eq_getElem h,List.foldl_append]; rfl
theorem putF_len (lt:α → α → Bool) (n:α) (l:List α):(putF lt n l).2.length ≤ 2 * l.length:=by
  have:∀ (l:List α) (s:Bool × List α),(l.foldl (fun s x=>putB n (putA lt n s x) x) s).2.length ≤ s.2.length + 2 * l.length:=by
    intro l
    induction l with
    | nil=>intro s; simp
    | cons a r ih =>
      intro s
      rw [List.foldl_cons]
      have h1:=ih (putB n (putA lt n s a) a)
      have h2:(putB n (putA lt n s a) a).2.length ≤ s.2.length + 2:=by
        unfold putB putA
        split <;> split <;> simp
      simp only [List.length_cons]
      omega
  have:=this l (false,[])
  simpa [putF] using this
theorem putF_true (lt:α → α → Bool) (n:α):∀ (l O:List α),l.foldl (fun s x=>putB n (putA lt n s x) x) (true,O) = (true,O ++ l.filter (fun x=>x != n))
  | [],O=>by simp
  | a :: r,O=>by
    rw [List.foldl_cons]
    have e:putB n (putA lt n (true,O) a) a = (true,O ++ [a].filter (fun x=>x != n)):=by
      unfold putA; rw [if_neg (by simp)]
      unfold putB
      by_cases h:a = n <;> simp [h]
    rw [e,putF_true lt n r,List.append_assoc,← List.filter_append]; rfl
theorem putF_false (lt:α → α → Bool) (hir:∀ a,lt a a = false) (n:α):∀ (l O:List α),(if (l.foldl (fun s x=>putB n (putA lt n s x) x) (false,O)).1 then (l.foldl (fun s x=>putB n (putA lt n s x) x) (false,O)).2 else (l.foldl (fun s x=>putB n (putA lt n s x) x) (false,O)).2 ++ [n]) = O ++ putR lt n l
  | [],O=>by simp [putR]
  | a :: r,O=>by
    rw [List.foldl_cons]
    unfold putR
    by_cases h:lt a n = true
    · have hne:a ≠ n:=by rintro rfl; rw [hir] at h; cases h
      have e:putB n (putA lt n (false,O) a) a = (false,O ++ [a]):=by
        unfold putA; rw [if_neg (by simp [h])]
        unfold putB; rw [if_neg hne]
      rw [e,putF_false lt hir n r,if_pos h,List.append_assoc]; rfl
    · have e : putB n (putA lt n (false, O) a) a = (true, O ++ [n] ++ [a].filter (fun x => x != n)) := by
        unfold putA; rw [if_pos ⟨rfl,by simpa using h⟩]
        unfold putB
        by_cases h:a = n <;> simp [h]
      rw [e,putF_true,if_neg h]
      simp only [if_true]
      rw [List.append_assoc,← List.filter_append,List.append_assoc]; rfl
theorem putL_eq (lt:α → α → Bool) (hir:∀ a,lt a a = false) (n:α) (l:List α):putL lt n l = putR lt n l:=by
  have:=putF_false lt hir n l []
  rw [List.nil_append] at this
  exact this
theorem mem_putR (lt:α → α → Bool) (n x:α):∀ l:List α,x ∈ putR lt n l ↔ x = n ∨ x ∈ l
  | []=>by simp [putR]
  | a :: r=>by
    unfold putR
    split
    · rw [List.mem_cons,mem_putR lt n x r,List.mem_cons]
      constructor
      · rintro (h | h | h)
        · exact .inr (.inl h)
        · exact .inl h
        · exact .inr (.inr h)
      · rintro (h | h | h)
        · exact .inr (.inl h)
        · exact .inl h
        · exact .inr (.inr h)
    · rw [List.mem_cons,List.mem_filter]
      constructor
      · rintro (h | ⟨h,_⟩)
        · exact .inl h
        · exact .inr h
      · rintro (h | h)
        · exact .inl h
        · by_cases e:x = n
          · exact .inl e
          · exact .inr ⟨h,by simpa using e⟩
theorem putR_lt {lt:α → α → Bool} (htr:∀ a b c,lt a b = true → lt b c = true → lt a c = true) (htri:∀ a b,lt a b = false → a ≠ b → lt b a = true) (n:α):∀ {l:List α},l.Pairwise (fun a b=>lt a b = true) → (putR lt n l).Pairwise (fun a b=>lt a b = true)
  | [],_=>by simp [putR]
  | a :: r,h=>by
    have h':=List.pairwise_cons.1 h
    unfold putR
    split
    · rename_i ha
      refine List.pairwise_cons.2 ⟨fun y hy=>?_,putR_lt htr htri n h'.2⟩
      rcases (mem_putR lt n y r).1 hy with rfl | hy
      · exact ha
      · exact h'.1 y hy
    · rename_i ha
      refine List.pairwise_cons.2 ⟨fun y hy=>?_,h.filter _⟩
      obtain ⟨h1,h2⟩:=List.mem_filter.1 hy
      have h2':y ≠ n:=by simpa using h2
      have ha':lt a n = false:=by simpa using ha
      rcases List.mem_cons.1 h1 with rfl | h1
      · exact htri _ _ ha' h2'
      · by_cases e:a = n
        · rw [← e]; exact h'.1 y h1
        · exact htr _ _ _ (htri _ _ ha' e) (h'.1 y h1)
theorem fold_putR {lt:α → α → Bool} (htr:∀ a b c,lt a b = true → lt b c = true → lt a c = true) (htri:∀ a b,lt a b = false → a ≠ b → lt b a = true) (E:List α):∀ (o:List α),o.Pairwise (fun a b=>lt a b = true) → (E.foldl (fun o n=>putR lt n o) o).Pairwise (fun a b=>lt a b = true) ∧ ∀ x,x ∈ E.foldl (fun o n=>putR lt n o) o ↔ x ∈ o ∨ x ∈ E:=by
  induction E with
  | nil=>exact fun o h=>⟨h,fun x=>by simp⟩
  | cons e E ih =>
    intro o h
    obtain ⟨i1,i2⟩:=ih (putR lt e o) (putR_lt htr htri e h)
    refine ⟨i1,fun x=>(i2 x).trans ?_⟩
    rw [mem_putR,List.mem_cons]
    constructor
    · rintro ((h | h) | h)
      · exact .inr (.inl h)
      · exact .inl h
      · exact .inr (.inr h)
    · rintro (h | h | h)
      · exact .inl (.inr h)
      · exact .inl (.inl h)
      · exact .inr h
omit [DecidableEq α] in
theorem ext_lt {lt:α → α → Bool} (hir:∀ a,lt a a = false) (htr:∀ a b c,lt a b = true → lt b c = true → lt a c = true):∀ {l m:List α},l.Pairwise (fun a b=>lt a b = true) → m.Pairwise (fun a b=>lt a b = true) → (∀ x,x ∈ l ↔ x ∈ m) → l = m
  | [],[],_,_,_=>rfl
  | [],b :: m,_,_,h=>absurd ((h b).2 List.mem_cons_self) (by simp)
  | a :: l,[],_,_,h=>absurd ((h a).1 List.mem_cons_self) (by simp)
  | a :: l,b :: m,h1,h2,h=>by
    rw [List.pairwise_cons] at h1 h2
    have irr:∀ {x:α},lt x x = true → False:=fun hx=>by rw [hir] at hx; cases hx
    have hab:a = b:=by
      rcases List.mem_cons.1 ((h a).1 List.mem_cons_self) with e | e
      · exact e
      · rcases List.mem_cons.1 ((h b).2 List.mem_cons_self) with e2 | e2
        · exact e2.symm
        · exact absurd (htr _ _ _ (h1.1 b e2) (h2.1 a e)) fun h=>irr h
    subst hab
    rw [ext_lt hir htr h1.2 h2.2 fun x=>?_]
    constructor
    · intro hx
      rcases List.mem_cons.1 ((h x).1 (List.mem_cons_of_mem _ hx)) with rfl | e
      · exact absurd (h1.1 _ hx) fun h=>irr h
      · exact e
    · intro hx
      rcases List.mem_cons.1 ((h x).2 (List.mem_cons_of_mem _ hx)) with rfl | e
      · exact absurd (h2.1 _ hx) fun h=>irr h
      · exact e
end
def ltI (a b:Int):Bool:=decide (a < b)
theorem ltI_ir (a:Int):ltI a a = false:=by simp [ltI]
theorem ltI_tr (a b c:Int) (h:ltI a b = true) (k:ltI b c = true):ltI a c = true:=by simp [ltI] at *; omega
theorem ltI_tri (a b:Int) (h:ltI a b = false) (k:a ≠ b):ltI b a = true:=by simp [ltI] at *; omega
def ltT (a b:Str):Bool:=decide (a < b)
theorem ltT_ir (a:Str):ltT a a = false:=by unfold ltT; exact decide_eq_false (List.lt_irrefl a)
theorem ltT_tr (a b c:Str) (h:ltT a b = true) (k:ltT b c = true):ltT a c = true:=by
  unfold ltT at *; simp only [decide_eq_true_eq] at *; exact List.lt_trans h k
theorem ltT_tri (a b:Str) (h:ltT a b = false) (k:a ≠ b):ltT b a = true:=by
  unfold ltT at *
  simp only [decide_eq_true_eq,decide_eq_false_iff_not] at *
  by_cases h1:b < a
  · exact h1
  · exact absurd (List.le_antisymm (List.not_lt.1 h1) (List.not_lt.1 h)) k
def putI (n:Int) (l:List Int):List Int:=putL ltI n l
def putT (n:Str) (l:List Str):List Str:=putL ltT n l
theorem fold_putI (E:List Int):E.foldl (fun o n=>putI n o) [] = Zck E:=by
  have e:(fun (o:List Int) n=>putI n o) = fun o n=>putR ltI n o:=funext fun o=>funext fun n=>putL_eq ltI ltI_ir n o
  rw [e]
  obtain ⟨h1,h2⟩:=fold_putR ltI_tr ltI_tri E [] .nil
  refine ext_lt ltI_ir ltI_tr h1 ((onceI_lt E).imp (by simp [ltI])) fun x=>?_
  rw [h2,mem_onceI]; simp
theorem fold_putT (E:List Str):(E.foldl (fun o n=>putT n o) []).Pairwise (fun a b=>ltT a b = true) ∧ ∀ x,x ∈ E.foldl (fun o n=>putT n o) [] ↔ x ∈ E:=by
  have e:(fun (o:List Str) n=>putT n o) = fun o n=>putR ltT n o:=funext fun o=>funext fun n=>putL_eq ltT ltT_ir n o
  rw [e]
  obtain ⟨h1,h2⟩:=fold_putR ltT_tr ltT_tri E [] .nil
  exact ⟨h1,fun x=>by rw [h2]; simp⟩
end Go.Proofs.YtjmekckcffckoabGreatDoor.w
namespace Go.Proofs.YtjmekckcffckoabGreatDoor.w
open Go Go.VM
set_option maxRecDepth 20000
def hasB (p:Pg) (s:Str):Bool:=(Zct p).any fun w=>bareS w == s
def findN (s:Str) (l:List Pg):List Int:=(l.filter fun p=>s != [] && hasB p s).map Pg.number
def findR (s:Str) (l:List Pg):List Int:=(findN s l).foldl (fun o n=>putI n o) []
def keysR (l:List Pg):List Str:=((occL l).map (·.1)).foldl (fun o n=>putT n o) []
def indexR (l:List Pg):List (Str × List Int):=(keysR l).map fun s=>(s,findR s l)
theorem findN_mem (s:Str) (l:List Pg) (n:Int):n ∈ findN s l ↔ n ∈ Zcr l s:=by
  unfold findN Zcr
  rw [List.mem_map,List.mem_map]
  constructor
  · rintro ⟨p,hp,rfl⟩
    rw [List.mem_filter,Bool.and_eq_true] at hp
    obtain ⟨hp,h1,h2⟩:=hp
    unfold hasB at h2
    rw [List.any_eq_true] at h2
    obtain ⟨w,hw,e⟩:=h2
    rw [beq_iff_eq] at e
    refine ⟨(s,p.number),List.mem_filter.2 ⟨occL_mem.2 ⟨p,hp,w,hw,?_,?_⟩,by simp⟩,rfl⟩
    · rw [e]; simpa using h1
    · rw [e]
  · rintro ⟨y,hy,rfl⟩
    rw [List.mem_filter] at hy
    obtain ⟨hy,e⟩:=hy
    obtain ⟨p,hp,w,hw,hb,rfl⟩:=occL_mem.1 hy
    have e':bareS w = s:=by simpa using e
    refine ⟨p,List.mem_filter.2 ⟨hp,?_⟩,rfl⟩
    rw [Bool.and_eq_true]
    refine ⟨by rw [← e']; simpa using hb,?_⟩
    unfold hasB
    rw [List.any_eq_true]
    exact ⟨w,hw,by simpa using e'⟩
theorem findR_eq (s:Str) (l:List Pg):findR s l = Zck (Zcr l s):=by
  unfold findR
  rw [fold_putI]
  exact onceI_ext fun x=>findN_mem s l x
theorem leB_sorted (zs:List Str):(zs.mergeSort leB).Pairwise (· ≤ ·):=by
  have := List.pairwise_mergeSort (le := leB) (fun a b c h1 h2 => by
      unfold leB at *
      simp only [decide_eq_true_eq] at *
      exact List.le_trans h1 h2) (fun a b=>by
      unfold leB
      simp only [Bool.or_eq_true,decide_eq_true_eq]
      exact List.le_total a b) zs
  exact this.imp (by simp [leB])
theorem keysS_lt (l:List Pg):(keysS l).Pairwise (fun a b=>ltT a b = true):=by
  have h1:(keysS l).Pairwise (· ≤ ·):=leB_sorted _
  have h2:(keysS l).Pairwise (· ≠ ·):=keysS_nod l
  refine (h1.and h2).imp fun {a b} h=>?_
  unfold ltT
  simp only [decide_eq_true_eq]
  by_cases h3:a < b
  · exact h3
  · exact absurd (List.le_antisymm h.1 (List.not_lt.1 h3)) h.2
theorem keysR_eq (l:List Pg):keysR l = keysS l:=by
  obtain ⟨h1,h2⟩:=fold_putT ((occL l).map (·.1))
  refine ext_lt ltT_ir ltT_tr h1 (keysS_lt l) fun x=>?_
  unfold keysR
  rw [h2,keysS_mem,List.mem_map]
theorem indexR_eq (l:List Pg):indexR l = indexS l:=by
  unfold indexR indexS
  rw [keysR_eq]
  exact List.map_congr_left fun s _=>by rw [findR_eq]
theorem findP_eq (s:Str) (l:List Pg):(findP s (indexS l)).getD [] = Zck (Zcr l s):=by
  have key:∀ K:List Str,(findP s (K.map fun s=>(s,Zck (Zcr l s)))) = if s ∈ K then some (Zck (Zcr l s)) else none:=by
    intro K
    induction K with
    | nil=>simp [findP]
    | cons a K ih =>
      unfold findP at *
      rw [List.map_cons,List.find?_cons]
      by_cases h:a = s
      · subst h; simp
      · have e1:((a,Zck (Zcr l a)).1 == s) = false:=by simpa using h
        have e2:s ∈ a :: K ↔ s ∈ K:=by rw [List.mem_cons]; exact ⟨fun h1=>h1.resolve_left fun h2=>h h2.symm,.inr⟩
        rw [e1,ih]
        by_cases h3:s ∈ K
        · rw [if_pos h3,if_pos (e2.2 h3)]
        · rw [if_neg h3,if_neg fun h4=>h3 (e2.1 h4)]
  unfold indexS
  rw [key]
  split
  · rfl
  · rename_i h
    have:Zcr l s = []:=by
      unfold Zcr
      rw [List.map_eq_nil_iff,List.filter_eq_nil_iff]
      intro y hy e
      exact h ((keysS_mem l s).2 ⟨y,hy,by simpa using e⟩)
    rw [this]
    exact (List.eq_nil_of_length_eq_zero (by have:=onceI_len ([]:List Int); simpa using this)).symm
end Go.Proofs.YtjmekckcffckoabGreatDoor.w
