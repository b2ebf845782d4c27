import Derived.Test.YtehokmhebnkfdaaGreatRd
import Derived.Test.YtehokmhebnkfdaaGreatVmS
import Derived.Test.YtehokmhebnkfdaaGreatTb
import Derived.Test.YtehokmhebnkfdaaGreatCV1
import Derived.Test.YtehokmhebnkfdaaGreatCSo
set_option linter.all false
namespace Go.Proofs.YtehokmhebnkfdaaGreat.c
open Go Go.VM
set_option maxRecDepth 20000
set_option maxHeartbeats 0
set_option pp.deepTerms false
def c_commencement_turns:VC:=(.seq (.region [ZO 0 (.mv (.c .nilmp))] false) (.seq (.region [ZO 1 .mkmap,ZN (.mapset (.one .i) (.t 1) (.c (.int .i64 7)) (.c (.fn (.func 118) [] []))),ZN (.mapset (.one .i) (.t 1) (.c (.int .i64 9)) (.c (.fn (.func 118) [] []))),ZN (.mapset (.one .i) (.t 1) (.c (.int .i64 8)) (.c (.fn (.func 120) [] []))),ZM 2 1,ZM 0 2] false) .ret))
def turnsM:List (PV × PV):=[(pI 7,.fn (.func 118) [] []),(pI 9,.fn (.func 118) [] []),(pI 8,.fn (.func 120) [] [])]
theorem closed_turns:Closed (.rmp turnsM):=by
  refine closed_rmp fun e he=>?_
  simp only [turnsM,List.mem_cons,List.not_mem_nil,or_false] at he
  rcases he with rfl | rfl | rfl <;> exact ⟨cI _,closed_fn0 _⟩
theorem sp_commencement_turns:Zbo Tryz.prog 81 [] (.rmp turnsM):=by
  refine Zam ?_ (closed_turns) (by simp only [Za0,List.mem_cons,List.not_mem_nil,or_false,forall_eq_or_imp,forall_eq,false_implies,implies_true]; repeat' (first  | exact cI _ | exact cS _ | exact cB _ | exact closed_fn0 _ | exact closed_nilsl | exact Zay (Un.closed _) | exact Zay (It.closed _) | exact Zay (EI.closed _) | exact Zay (Ac.closed _) | exact Zay (Wd.closed _) | exact Zay (St.closed _) | exact Zay (Sta.closed _) | exact Zaw _ | exact Zcq _ | exact Zbp _ | exact Closed.of_scalar (Zd2 _ _) | exact Za7 (Ac.closed _) | exact Za7 (Gz.closed _) | exact Zay (Gz.closed _) | exact closed_strs _ | exact Zbm (fun w _=>Wd.closed w) | exact Zbm (fun w _=>St.closed w) | exact Zbm (fun w _=>Un.closed w) | exact Zbm (fun w _=>It.closed w) | exact Zcm _ | exact Zav _ | exact Zay (Sp.closed _) | exact Za7 (EI.closed _) | exact Za7 (Sta.closed _) | exact Za7 (It.closed _) | exact Za7 (by simp only [List.mem_cons,List.not_mem_nil,or_false,forall_eq]; first | exact cI _ | exact cS _ | exact Zaw _) | refine And.intro ?_ ?_))
  refine Zaq (vc:=c_commencement_turns) (ts:=[.t 0]) Go.Proofs.Tryz.func81 (by kernel_rfl) rfl rfl (Nat.le_of_ble_eq_true rfl) (by kernel_rfl) ?_
  unfold c_commencement_turns
  try dsimp only [ZM,ZO,ZN,ZG]
  refine Zac (Zaa [] ?_)
  simp only [Zab,Zad,Za6,Zbi,Zbz,OpsW_u,Zaf,guardOf,Zbb,Zbu,DrawW_y,DrawW_xt,DrawW_xf,DrawW_u,DrawH,VOp.isIaddr,QW,dok,dval,VOp.pure,VOp.simple,VOp.det,pok,pval,VA.ev,Env.get,Env.put,Env.keep,Za2,Zae,Zal,retQ,resV,Zau,RS.ev,RS.ok,gd,Za1,isBool,aggV,intV,binV,Zah,strV,binbV,boolV,binbOk,unV,unOk,convV,isInt,isStr,numOf,loV,hiV,lenV,Zc9,sliceV,sliceOk,Zao,Zan,Zag,Zap,Zbx,isAggP,Zax,Zas,idxV,idxOk,Za8,extV,extOk,Zcu,Zcb,mmV,PV.cells,PV.fits,overlay,PV.nth,PV.row,lookV,Zca,mapOk,keysOk,keyOk,Zdj,Zb9,mapPut,mapHas,mapsetV,Heap.get,Heap.set,Heap.del,Heap.le,HL.get,HL.set,HL.del,HL.le,Heap.push,Heap.nil,Nat.le_refl,Nat.add_eq_left,Nat.left_eq_add,Nat.succ_ne_self,Nat.one_ne_zero,Env.le,Zbq,Zc8,Zbk,Zda,Zbc,Zcw,Zbj,Zbf,eqOk,ekOk,Zbe,Zb8,Zbh,Za9,AB.live,pxV,pxOk,fxV,fxOk,isPtr,slLike,isNil,notNil,List.map,List.set,List.replicate,List.length,List.getD_cons_zero,List.getD_cons_succ,List.getD_nil,List.take,List.drop,List.take_zero,List.drop_zero,List.take_succ_cons,List.drop_succ_cons,List.append,List.cons_append,List.nil_append,Option.map,Nat.reduceEqDiff,Nat.reduceAdd,Nat.reduceLT,Nat.reduceLeDiff,Nat.reduceSub,Nat.reduceMul,reduceIte,Bool.false_eq_true,Bool.true_eq_false,ite_true,ite_false,if_true,if_false,true_and,and_true,implies_true,forall_const,ne_eq,not_false_eq_true,reduceCtorEq,BEq.rfl,beq_self_eq_true,Option.some.injEq,Nat.zero_add,Nat.add_zero,List.length_cons,List.length_nil,true_implies,imp_self,Int.reduceToNat,Int.toNat_natCast,Bool.not_false,Bool.not_true]
  refine Zac (Zaa [0] ?_)
  simp only [Zab,Zad,Za6,Zbi,Zbz,OpsW_u,Zaf,guardOf,Zbb,Zbu,DrawW_y,DrawW_xt,DrawW_xf,DrawW_u,DrawH,VOp.isIaddr,QW,dok,dval,VOp.pure,VOp.simple,VOp.det,pok,pval,VA.ev,Env.get,Env.put,Env.keep,Za2,Zae,Zal,retQ,resV,Zau,RS.ev,RS.ok,gd,Za1,isBool,aggV,intV,binV,Zah,strV,binbV,boolV,binbOk,unV,unOk,convV,isInt,isStr,numOf,loV,hiV,lenV,Zc9,sliceV,sliceOk,Zao,Zan,Zag,Zap,Zbx,isAggP,Zax,Zas,idxV,idxOk,Za8,extV,extOk,Zcu,Zcb,mmV,PV.cells,PV.fits,overlay,PV.nth,PV.row,lookV,Zca,mapOk,keysOk,keyOk,Zdj,Zb9,mapPut,mapHas,mapsetV,Heap.get,Heap.set,Heap.del,Heap.le,HL.get,HL.set,HL.del,HL.le,Heap.push,Heap.nil,Nat.le_refl,Nat.add_eq_left,Nat.left_eq_add,Nat.succ_ne_self,Nat.one_ne_zero,Env.le,Zbq,Zc8,Zbk,Zda,Zbc,Zcw,Zbj,Zbf,eqOk,ekOk,Zbe,Zb8,Zbh,Za9,AB.live,pxV,pxOk,fxV,fxOk,isPtr,slLike,isNil,notNil,List.map,List.set,List.replicate,List.length,List.getD_cons_zero,List.getD_cons_succ,List.getD_nil,List.take,List.drop,List.take_zero,List.drop_zero,List.take_succ_cons,List.drop_succ_cons,List.append,List.cons_append,List.nil_append,Option.map,Nat.reduceEqDiff,Nat.reduceAdd,Nat.reduceLT,Nat.reduceLeDiff,Nat.reduceSub,Nat.reduceMul,reduceIte,Bool.false_eq_true,Bool.true_eq_false,ite_true,ite_false,if_true,if_false,true_and,and_true,implies_true,forall_const,ne_eq,not_false_eq_true,reduceCtorEq,BEq.rfl,beq_self_eq_true,Option.some.injEq,Nat.zero_add,Nat.add_zero,List.length_cons,List.length_nil,true_implies,imp_self,Int.reduceToNat,Int.toNat_natCast,Bool.not_false,Bool.not_true]
  refine ⟨by simp,by simp,by simp,?_⟩
  refine Zar ?_
  try simp only [Zab,Zad,Za6,Zbi,Zbz,OpsW_u,Zaf,guardOf,Zbb,Zbu,DrawW_y,DrawW_xt,DrawW_xf,DrawW_u,DrawH,VOp.isIaddr,QW,dok,dval,VOp.pure,VOp.simple,VOp.det,pok,pval,VA.ev,Env.get,Env.put,Env.keep,Za2,Zae,Zal,retQ,resV,Zau,RS.ev,RS.ok,gd,Za1,isBool,aggV,intV,binV,Zah,strV,binbV,boolV,binbOk,unV,unOk,convV,isInt,isStr,numOf,loV,hiV,lenV,Zc9,sliceV,sliceOk,Zao,Zan,Zag,Zap,Zbx,isAggP,Zax,Zas,idxV,idxOk,Za8,extV,extOk,Zcu,Zcb,mmV,PV.cells,PV.fits,overlay,PV.nth,PV.row,lookV,Zca,mapOk,keysOk,keyOk,Zdj,Zb9,mapPut,mapHas,mapsetV,Heap.get,Heap.set,Heap.del,Heap.le,HL.get,HL.set,HL.del,HL.le,Heap.push,Heap.nil,Nat.le_refl,Nat.add_eq_left,Nat.left_eq_add,Nat.succ_ne_self,Nat.one_ne_zero,Env.le,Zbq,Zc8,Zbk,Zda,Zbc,Zcw,Zbj,Zbf,eqOk,ekOk,Zbe,Zb8,Zbh,Za9,AB.live,pxV,pxOk,fxV,fxOk,isPtr,slLike,isNil,notNil,List.map,List.set,List.replicate,List.length,List.getD_cons_zero,List.getD_cons_succ,List.getD_nil,List.take,List.drop,List.take_zero,List.drop_zero,List.take_succ_cons,List.drop_succ_cons,List.append,List.cons_append,List.nil_append,Option.map,Nat.reduceEqDiff,Nat.reduceAdd,Nat.reduceLT,Nat.reduceLeDiff,Nat.reduceSub,Nat.reduceMul,reduceIte,Bool.false_eq_true,Bool.true_eq_false,ite_true,ite_false,if_true,if_false,true_and,and_true,implies_true,forall_const,ne_eq,not_false_eq_true,reduceCtorEq,BEq.rfl,beq_self_eq_true,Option.some.injEq,Nat.zero_add,Nat.add_zero,List.length_cons,List.length_nil,true_implies,imp_self,Int.reduceToNat,Int.toNat_natCast,Bool.not_false,Bool.not_true]
  exact View.map (es:=turnsM) rfl rfl (fun i a b h1 h2=>by rw [h1] at h2; cases h2; exact ⟨View.refl _ _,View.refl _ _⟩)
end Go.Proofs.YtehokmhebnkfdaaGreat.c
namespace Go.Proofs.YtehokmhebnkfdaaGreat.c
open Go Go.VM
set_option maxRecDepth 20000
set_option maxHeartbeats 0
def c_commencement_Refers:VC:=(.seq (.region [ZO 3 (.box 25 (.t 0)),ZO 6 (.mv (.c (.bool false)))] false) (.seq (.seq (.region [ZO 9 (.faddr 20 (.t 3)),ZO 10 (.load false 1 (.t 9)),ZM 11 1,ZO 12 (.bin .neq (.t 10) (.t 11))] false) (.cond (.t 12) (.seq (.region [ZO 6 (.mv (.c (.bool false)))] false) .ret) .skip)) (.seq (.seq (.region [ZO 13 (.faddr 0 (.t 3)),ZO 14 (.load false 1 (.t 13)),ZO 15 (.bin .eql (.t 14) (.c (.int .i64 11)))] false) (.cond (.t 15) (.seq (.region [ZO 16 (.faddr 21 (.t 3)),ZO 17 (.load false 1 (.t 16)),ZM 18 2,ZO 19 (.bin .eql (.t 17) (.t 18)),ZM 6 19] false) .ret) .skip)) (.seq (.region [ZO 21 (.call 81 []),ZO 22 (.faddr 0 (.t 3)),ZO 23 (.load false 1 (.t 22)),ZO 24 (.lookup (.one .i) .nilfn true (.t 21) (.t 23)),ZM 20 24,ZO 25 (.ext (.t 20) 0),ZO 26 (.ext (.t 20) 1),ZM 7 25,ZM 8 26] true) (.seq (.region [ZM 27 8,ZM 28 27,ZG 29 (.faddr 21 (.t 3)) 28 true,ZG 30 (.load false 1 (.t 29)) 28 true,ZG 31 (.mv (.t 2)) 28 true,ZG 32 (.bin .eql (.t 30) (.t 31)) 28 true,ZG 33 (.mv (.t 32)) 28 true,ZG 34 (.faddr 21 (.t 3)) 33 false,ZG 35 (.load false 1 (.t 34)) 33 false,ZG 36 (.bin .eql (.t 35) (.c (.int .i64 (-1)))) 33 false,ZG 37 (.pick (.t 33) (.c (.bool true)) (.t 36)) 28 true,ZO 38 (.pick (.t 28) (.t 37) (.c (.bool false))),ZM 6 38] false) .ret)))))
def c_pandectref27_Names:VC:=(.seq (.region [ZO 3 (.box 25 (.t 0)),ZO 6 (.mv (.c (.bool false)))] false) (.seq (.seq (.region [ZO 7 (.faddr 0 (.t 3)),ZO 8 (.load false 1 (.t 7))] false) (.block 0 (.seq (.seq (.region [ZO 10 (.bin .eql (.t 8) (.c (.int .i64 7))),ZM 9 10] false) (.cond (.t 9) .skip (.seq (.region [ZO 11 (.bin .eql (.t 8) (.c (.int .i64 8))),ZM 9 11] false) (.cond (.t 9) .skip (.region [ZO 12 (.bin .eql (.t 8) (.c (.int .i64 9))),ZM 9 12] false))))) (.cond (.t 9) (.seq (.region [ZO 13 (.faddr 20 (.t 3)),ZO 14 (.load false 1 (.t 13)),ZM 15 1,ZO 16 (.bin .eql (.t 14) (.t 15)),ZM 17 16,ZG 18 (.faddr 21 (.t 3)) 17 true,ZG 19 (.load false 1 (.t 18)) 17 true,ZG 20 (.mv (.t 2)) 17 true,ZG 21 (.bin .eql (.t 19) (.t 20)) 17 true,ZG 22 (.mv (.t 21)) 17 true,ZG 23 (.faddr 21 (.t 3)) 22 false,ZG 24 (.load false 1 (.t 23)) 22 false,ZG 25 (.bin .eql (.t 24) (.c (.int .i64 (-1)))) 22 false,ZG 26 (.pick (.t 22) (.c (.bool true)) (.t 25)) 17 true,ZO 27 (.pick (.t 17) (.t 26) (.c (.bool false))),ZM 6 27] false) .ret) (.seq (.region [ZO 29 (.bin .eql (.t 8) (.c (.int .i64 11))),ZM 28 29] false) (.cond (.t 28) (.seq (.region [ZO 30 (.faddr 20 (.t 3)),ZO 31 (.load false 1 (.t 30)),ZM 32 1,ZO 33 (.bin .eql (.t 31) (.t 32)),ZM 34 33,ZG 35 (.faddr 21 (.t 3)) 34 true,ZG 36 (.load false 1 (.t 35)) 34 true,ZG 37 (.mv (.t 2)) 34 true,ZG 38 (.bin .eql (.t 36) (.t 37)) 34 true,ZO 39 (.pick (.t 34) (.t 38) (.c (.bool false))),ZM 6 39] false) .ret) .skip)))))) (.seq (.region [ZO 6 (.mv (.c (.bool false)))] false) .ret)))
theorem it_take (u:It):u.enc.take 25 = u.enc:=List.take_of_length_le (by rw [It.Zby]; exact Nat.le_refl _)
def Zb0 (it:It) (act item:Int):Bool:=(it.act == act) && ((it.kind == 11) && (it.item == item) || (!(it.kind == 11)) && ((it.kind == 7) || (it.kind == 9) || (it.kind == 8)) && ((it.item == item) || (it.item == -1)))
theorem sp_commencement_Refers (it:It) (act item:Int):Zbo Tryz.prog 82 [.agg it.enc,pI act,pI item] (.bool (Zb0 it act item)):=by
  have ea:=It.Zcl it
  refine Zam ?_ (cB _) (by simp only [Za0,List.mem_cons,List.not_mem_nil,or_false,forall_eq_or_imp,forall_eq,false_implies,implies_true]; repeat' (first  | exact cI _ | exact cB _ | exact Zay (It.closed _) | exact Za7 (by simp only [List.mem_cons,List.not_mem_nil,or_false,forall_eq]; first | exact cI _ | exact cS _ | exact Zaw _) | refine And.intro ?_ ?_))
  refine Zaq (vc:=c_commencement_Refers) (ts:=[.t 6]) Go.Proofs.Tryz.func82 (by kernel_rfl) rfl rfl (Nat.le_of_ble_eq_true rfl) (by kernel_rfl) ?_
  unfold c_commencement_Refers
  try dsimp only [ZM,ZO,ZN,ZG]
  refine Zac (Zaa [1,2,3] ?_)
  simp only [Zab,Zad,Zaf,pok,pval,VA.ev,Env.get,Env.put,Env.keep,Za2,Zae,PV.cells,PV.fits,Heap.push,Heap.nil,Nat.succ_ne_self,List.length,Nat.reduceEqDiff,Nat.reduceAdd,ite_true,ite_false,true_and,reduceCtorEq,BEq.rfl,Nat.zero_add,ea]
  refine Zac ?_
  refine Zac (Zaa [2,3,12] ?_)
  simp only [Zab,Zad,Zaf,pok,pval,VA.ev,Env.get,Env.put,Env.keep,Zae,aggV,intV,binV,Zah,Zao,Zan,Zag,Zap,PV.nth,PV.row,Heap.get,HL.get,Nat.succ_ne_self,List.length,List.getD_cons_zero,List.take,List.drop,List.take_succ_cons,List.drop_succ_cons,Nat.reduceEqDiff,Nat.reduceAdd,Nat.reduceLT,Nat.reduceLeDiff,Bool.false_eq_true,ite_true,ite_false,true_and,and_true,implies_true,Nat.zero_add,List.length_cons]
  refine Zai rfl (fun h1=>?_) (fun h1=>?_)
  · refine Zac (Zaa [6] ?_)
    simp only [Zab,Zad,Zaf,pok,pval,VA.ev,Env.get,Env.put,Env.keep,Zae,Nat.reduceEqDiff,ite_true,ite_false,true_and]
    refine Zar ?_
    try simp only [Env.get,Zae,retQ,resV,Zau,RS.ev,RS.ok,ite_true,true_and,and_true]
    have e1:Zb0 it act item = false:=by
      have:(it.act == act) = false:=by simpa [bne] using h1
      simp [Zb0,this]
    rw [e1]
    exact View.refl _ _
  have hA:(it.act == act) = true:=by simpa [bne] using h1
  refine Zak ?_
  try simp only [Zae]
  refine Zac ?_
  refine Zac (Zaa [2,3,15] ?_)
  simp only [Zab,Zad,Zaf,pok,pval,VA.ev,Env.get,Env.put,Env.keep,Zae,aggV,intV,binV,Zah,Zao,Zan,Zag,Zap,PV.nth,PV.row,Heap.get,HL.get,Nat.succ_ne_self,List.length,List.getD_cons_zero,List.take,List.drop,List.take_succ_cons,Nat.reduceEqDiff,Nat.reduceAdd,Nat.reduceLT,Nat.reduceLeDiff,Bool.false_eq_true,ite_true,ite_false,true_and,and_true,implies_true,Nat.zero_add,Nat.add_zero,List.length_cons]
  refine Zai rfl (fun h2=>?_) (fun h2=>?_)
  · refine Zac (Zaa [6] ?_)
    simp only [Zab,Zad,Zaf,pok,pval,VA.ev,Env.get,Env.put,Env.keep,Zae,aggV,intV,binV,Zah,Zao,Zan,Zag,Zap,PV.nth,PV.row,Heap.get,HL.get,Nat.succ_ne_self,List.length,List.getD_cons_zero,List.take,List.drop,List.take_succ_cons,List.drop_succ_cons,Nat.reduceEqDiff,Nat.reduceAdd,Nat.reduceLT,Nat.reduceLeDiff,Bool.false_eq_true,ite_true,ite_false,true_and,and_true,implies_true,Nat.zero_add,List.length_cons]
    refine Zar ?_
    try simp only [Env.get,Zae,retQ,resV,Zau,RS.ev,RS.ok,ite_true,true_and,and_true]
    have e1:Zb0 it act item = (it.item == item):=by simp [Zb0,hA,h2]
    rw [e1]
    exact View.refl _ _
  refine Zak ?_
  try simp only [Zae]
  refine Zac (Zb3 [2,3,8] (by simp [Heap.le,Heap.get,HL.le,HL.get]) ?_)
  simp only [Zbb,Zbu,QW,dok,dval,VOp.pure,VOp.simple,VOp.det,pok,pval,VA.ev,Env.get,Env.put,Env.keep,Zae,gd,aggV,Zao,Zan,Zag,Zap,extV,extOk,PV.nth,PV.row,lookV,Zca,mapOk,keysOk,keyOk,Heap.get,HL.get,Nat.succ_ne_self,ekOk,List.length,List.getD_cons_zero,List.take,List.drop,List.take_succ_cons,Nat.reduceEqDiff,Nat.reduceAdd,Nat.reduceLT,Nat.reduceLeDiff,Bool.false_eq_true,ite_true,ite_false,true_and,and_true,implies_true,forall_const,Nat.zero_add,Nat.add_zero,List.length_cons]
  refine ⟨_,.inl sp_commencement_turns,?_⟩
  cases h7:(it.kind == 7) <;> cases h9:(it.kind == 9) <;> cases h8:(it.kind == 8)
  case' false.false.false =>
    simp only [PV.cells,Zdj,Zb9,Zbe,Zb8,List.length,List.getD_cons_zero,List.getD_cons_succ,Nat.reduceAdd,Nat.reduceLT,Bool.false_eq_true,ite_false,true_and,and_true,implies_true,Nat.zero_add,turnsM,h7,h8,h9,Bool.false_and,Bool.true_and,List.forall_mem_cons,List.not_mem_nil,false_implies]
    repeat (with_reducible refine And.intro ?_ ?_; first | omega | (with_reducible constructor <;> omega) | exact False.elim | exact True.intro)
    refine Zac (Zaa [6] ?_)
    simp only [Zab,Zad,Zbi,OpsW_u,Zaf,pok,pval,VA.ev,Env.get,Env.put,Env.keep,Zae,Za1,isBool,Nat.succ_ne_self,Nat.reduceEqDiff,Bool.false_eq_true,ite_true,ite_false,true_and]
    refine Zar ?_
    try simp only [Env.get,retQ,resV,Zau,RS.ev,RS.ok,ite_true,true_and,and_true]
    have e1:Zb0 it act item = false:=by simp [Zb0,hA,h2,h7,h8,h9]
    rw [e1]
    exact View.refl _ _
  all_goals
    simp only [PV.cells,Zdj,Zb9,Zbe,Zb8,List.length,List.getD_cons_zero,List.getD_cons_succ,Nat.reduceAdd,Nat.reduceLT,Bool.false_eq_true,ite_true,ite_false,true_and,and_true,implies_true,Nat.zero_add,turnsM,h7,h8,h9,Bool.false_and,Bool.true_and,List.forall_mem_cons,List.not_mem_nil,false_implies]
    repeat (with_reducible refine And.intro ?_ ?_; first | omega | (with_reducible constructor <;> omega) | exact False.elim | exact True.intro)
    refine Zac (Zaa [6] ?_)
    simp only [Zad,Za6,Zaf,pok,pval,VA.ev,Env.get,Env.put,Env.keep,Zae,aggV,intV,binV,Zah,Zao,Zan,Zag,Zap,PV.nth,PV.row,Heap.get,HL.get,Nat.succ_ne_self,List.length,List.getD_cons_zero,List.take,List.drop,List.take_succ_cons,List.drop_succ_cons,Nat.reduceEqDiff,Nat.reduceAdd,Nat.reduceLT,Nat.reduceLeDiff,Bool.false_eq_true,ite_true,ite_false,true_and,and_true,implies_true,Nat.zero_add,List.length_cons]
    refine Zbw rfl (fun g1=>?_) (fun g1=>?_)
    · simp only [Zab,Zad,Za6,Zaf,pok,pval,VA.ev,Env.get,Env.put,Za1,isBool,aggV,intV,binV,Zah,Zao,Zan,Zag,Zap,PV.nth,PV.row,Heap.get,HL.get,Nat.succ_ne_self,List.length,List.getD_cons_zero,List.take,List.drop,List.take_succ_cons,List.drop_succ_cons,Nat.reduceEqDiff,Nat.reduceAdd,Nat.reduceLT,Nat.reduceLeDiff,Bool.false_eq_true,ite_true,ite_false,true_and,and_true,implies_true,Nat.zero_add,List.length_cons,g1]
      refine Zar ?_
      try simp only [Env.get,retQ,resV,Zau,RS.ev,RS.ok,ite_true,true_and,and_true]
      have e1:Zb0 it act item = (it.item == -1):=by simp [Zb0,hA,h2,h7,h8,h9,g1]
      rw [e1]
      exact View.refl _ _
    · simp only [Zab,Zad,Za6,Zbz,Zaf,pok,pval,VA.ev,Env.get,Env.put,Za1,isBool,Nat.succ_ne_self,Nat.reduceEqDiff,ite_true,ite_false,true_and,Bool.not_false,g1]
      refine Zar ?_
      try simp only [Env.get,retQ,resV,Zau,RS.ev,RS.ok,ite_true,true_and,and_true]
      have e1:Zb0 it act item = true:=by simp [Zb0,hA,h2,h7,h8,h9,show (it.item == item) = true by simpa using g1]
      rw [e1]
      exact View.refl _ _
theorem sp_pandectref27_Names (it:It) (act item:Int):Zbo Tryz.prog 91 [.agg it.enc,pI act,pI item] (.bool (Zb0 it act item)):=by
  have ea:=It.Zcl it
  refine Zam ?_ (cB _) (by simp only [Za0,List.mem_cons,List.not_mem_nil,or_false,forall_eq_or_imp,forall_eq,false_implies,implies_true]; repeat' (first  | exact cI _ | exact cB _ | exact Zay (It.closed _) | exact Za7 (by simp only [List.mem_cons,List.not_mem_nil,or_false,forall_eq]; first | exact cI _ | exact cS _ | exact Zaw _) | refine And.intro ?_ ?_))
  refine Zaq (vc:=c_pandectref27_Names) (ts:=[.t 6]) Go.Proofs.Tryz.func91 (by kernel_rfl) rfl rfl (Nat.le_of_ble_eq_true rfl) (by kernel_rfl) ?_
  unfold c_pandectref27_Names
  try dsimp only [ZM,ZO,ZN,ZG]
  refine Zac (Zaa [1,2,3] ?_)
  simp only [Zab,Zad,Zaf,pok,pval,VA.ev,Env.get,Env.put,Env.keep,Za2,Zae,PV.cells,PV.fits,Heap.push,Heap.nil,Nat.succ_ne_self,List.length,Nat.reduceEqDiff,Nat.reduceAdd,ite_true,ite_false,true_and,reduceCtorEq,BEq.rfl,Nat.zero_add,ea]
  refine Zac ?_
  refine Zac (Zaa [1,2,3,8] ?_)
  simp only [Zab,Zad,Zaf,pok,pval,VA.ev,Env.get,Env.put,Env.keep,Zae,aggV,Zao,Zan,Zag,Zap,PV.nth,PV.row,Heap.get,HL.get,Nat.succ_ne_self,List.length,List.getD_cons_zero,List.take,List.drop,List.take_succ_cons,Nat.reduceEqDiff,Nat.reduceAdd,Nat.reduceLT,Nat.reduceLeDiff,Bool.false_eq_true,ite_true,ite_false,true_and,and_true,implies_true,Nat.zero_add,Nat.add_zero,List.length_cons]
  refine Zaj ?_
  refine Zac ?_
  refine Zac (Zaa [1,2,3,8,9] ?_)
  simp only [Zab,Zad,Zaf,pok,pval,VA.ev,Env.get,Env.put,Env.keep,Zae,intV,binV,Zah,Nat.succ_ne_self,Nat.reduceEqDiff,ite_true,ite_false,true_and]
  refine Zai rfl (fun h1=>?_) (fun h1=>?_)
  · refine Zak ?_
    try simp only [Zae]
    refine Zai rfl (fun hx=>?_) (fun hx=>by simp_all)
    refine Zac (Zaa [6] ?_)
    simp only [Zad,Zaf,pok,pval,VA.ev,Env.get,Env.put,Env.keep,Zae,aggV,intV,binV,Zah,Zao,Zan,Zag,Zap,PV.nth,PV.row,Heap.get,HL.get,Nat.succ_ne_self,List.length,List.getD_cons_zero,List.take,List.drop,List.take_succ_cons,List.drop_succ_cons,Nat.reduceEqDiff,Nat.reduceAdd,Nat.reduceLT,Nat.reduceLeDiff,Bool.false_eq_true,ite_true,ite_false,true_and,and_true,implies_true,Nat.zero_add,List.length_cons]
    refine Zbw rfl (fun gA=>?_) (fun gA=>?_)
    rotate_left
    · simp only [Zab,Zad,Zbi,OpsW_u,Zaf,pok,pval,VA.ev,Env.get,Env.put,Za1,isBool,Nat.succ_ne_self,Nat.reduceEqDiff,Bool.false_eq_true,ite_true,ite_false,true_and,Bool.not_true,gA]
      refine Zar ?_
      try simp only [Env.get,Zae,Zal,retQ,resV,Zau,RS.ev,RS.ok,ite_true,true_and,and_true]
      have e1:Zb0 it act item = false:=by simp [Zb0,show (it.act == act) = false by simpa using gA]
      rw [e1]
      exact View.refl _ _
    simp only [Za6,Zaf,pok,pval,VA.ev,Env.get,Env.put,aggV,intV,binV,Zah,Zao,Zan,Zag,Zap,PV.nth,PV.row,Heap.get,HL.get,Nat.succ_ne_self,List.length,List.getD_cons_zero,List.take,List.drop,List.take_succ_cons,List.drop_succ_cons,Nat.reduceEqDiff,Nat.reduceAdd,Nat.reduceLT,Nat.reduceLeDiff,Bool.false_eq_true,ite_true,ite_false,true_and,and_true,implies_true,Nat.zero_add,List.length_cons,gA]
    refine Zbw rfl (fun g1=>?_) (fun g1=>?_)
    · simp only [Zab,Zad,Za6,Zaf,pok,pval,VA.ev,Env.get,Env.put,Za1,isBool,aggV,intV,binV,Zah,Zao,Zan,Zag,Zap,PV.nth,PV.row,Heap.get,HL.get,Nat.succ_ne_self,List.length,List.getD_cons_zero,List.take,List.drop,List.take_succ_cons,List.drop_succ_cons,Nat.reduceEqDiff,Nat.reduceAdd,Nat.reduceLT,Nat.reduceLeDiff,Bool.false_eq_true,ite_true,ite_false,true_and,and_true,implies_true,Nat.zero_add,List.length_cons,gA,g1]
      refine Zar ?_
      try simp only [Env.get,Zae,Zal,retQ,resV,Zau,RS.ev,RS.ok,ite_true,true_and,and_true]
      have e1:Zb0 it act item = (it.item == -1):=by simp_all [Zb0]
      rw [e1]
      exact View.refl _ _
    · simp only [Zab,Zad,Za6,Zbz,Zaf,pok,pval,VA.ev,Env.get,Env.put,Za1,isBool,Nat.succ_ne_self,Nat.reduceEqDiff,ite_true,ite_false,true_and,Bool.not_false,gA,g1]
      refine Zar ?_
      try simp only [Env.get,Zae,Zal,retQ,resV,Zau,RS.ev,RS.ok,ite_true,true_and,and_true]
      have e1:Zb0 it act item = true:=by simp_all [Zb0]
      rw [e1]
      exact View.refl _ _
  · refine Zac (Zaa [1,2,3,8,9] ?_)
    simp only [Zab,Zad,Zaf,pok,pval,VA.ev,Env.get,Env.put,Env.keep,Zae,intV,binV,Zah,Nat.succ_ne_self,Nat.reduceEqDiff,ite_true,ite_false,true_and]
    refine Zai rfl (fun h2=>?_) (fun h2=>?_)
    · refine Zak ?_
      try simp only [Zae]
      refine Zai rfl (fun hx=>?_) (fun hx=>by simp_all)
      refine Zac (Zaa [6] ?_)
      simp only [Zad,Zaf,pok,pval,VA.ev,Env.get,Env.put,Env.keep,Zae,aggV,intV,binV,Zah,Zao,Zan,Zag,Zap,PV.nth,PV.row,Heap.get,HL.get,Nat.succ_ne_self,List.length,List.getD_cons_zero,List.take,List.drop,List.take_succ_cons,List.drop_succ_cons,Nat.reduceEqDiff,Nat.reduceAdd,Nat.reduceLT,Nat.reduceLeDiff,Bool.false_eq_true,ite_true,ite_false,true_and,and_true,implies_true,Nat.zero_add,List.length_cons]
      refine Zbw rfl (fun gA=>?_) (fun gA=>?_)
      rotate_left
      · simp only [Zab,Zad,Zbi,OpsW_u,Zaf,pok,pval,VA.ev,Env.get,Env.put,Za1,isBool,Nat.succ_ne_self,Nat.reduceEqDiff,Bool.false_eq_true,ite_true,ite_false,true_and,Bool.not_true,gA]
        refine Zar ?_
        try simp only [Env.get,Zae,Zal,retQ,resV,Zau,RS.ev,RS.ok,ite_true,true_and,and_true]
        have e1:Zb0 it act item = false:=by simp [Zb0,show (it.act == act) = false by simpa using gA]
        rw [e1]
        exact View.refl _ _
      simp only [Za6,Zaf,pok,pval,VA.ev,Env.get,Env.put,aggV,intV,binV,Zah,Zao,Zan,Zag,Zap,PV.nth,PV.row,Heap.get,HL.get,Nat.succ_ne_self,List.length,List.getD_cons_zero,List.take,List.drop,List.take_succ_cons,List.drop_succ_cons,Nat.reduceEqDiff,Nat.reduceAdd,Nat.reduceLT,Nat.reduceLeDiff,Bool.false_eq_true,ite_true,ite_false,true_and,and_true,implies_true,Nat.zero_add,List.length_cons,gA]
      refine Zbw rfl (fun g1=>?_) (fun g1=>?_)
      · simp only [Zab,Zad,Za6,Zaf,pok,pval,VA.ev,Env.get,Env.put,Za1,isBool,aggV,intV,binV,Zah,Zao,Zan,Zag,Zap,PV.nth,PV.row,Heap.get,HL.get,Nat.succ_ne_self,List.length,List.getD_cons_zero,List.take,List.drop,List.take_succ_cons,List.drop_succ_cons,Nat.reduceEqDiff,Nat.reduceAdd,Nat.reduceLT,Nat.reduceLeDiff,Bool.false_eq_true,ite_true,ite_false,true_and,and_true,implies_true,Nat.zero_add,List.length_cons,gA,g1]
        refine Zar ?_
        try simp only [Env.get,Zae,Zal,retQ,resV,Zau,RS.ev,RS.ok,ite_true,true_and,and_true]
        have e1:Zb0 it act item = (it.item == -1):=by simp_all [Zb0]
        rw [e1]
        exact View.refl _ _
      · simp only [Zab,Zad,Za6,Zbz,Zaf,pok,pval,VA.ev,Env.get,Env.put,Za1,isBool,Nat.succ_ne_self,Nat.reduceEqDiff,ite_true,ite_false,true_and,Bool.not_false,gA,g1]
        refine Zar ?_
        try simp only [Env.get,Zae,Zal,retQ,resV,Zau,RS.ev,RS.ok,ite_true,true_and,and_true]
        have e1:Zb0 it act item = true:=by simp_all [Zb0]
        rw [e1]
        exact View.refl _ _
    · refine Zaa [1,2,3,8,9] ?_
      simp only [Zab,Zad,Zaf,pok,pval,VA.ev,Env.get,Env.put,Env.keep,Zae,intV,binV,Zah,Nat.succ_ne_self,Nat.reduceEqDiff,ite_true,ite_false,true_and]
      refine Zai rfl (fun h3=>?_) (fun h3=>?_)
      · refine Zac (Zaa [6] ?_)
        simp only [Zad,Zaf,pok,pval,VA.ev,Env.get,Env.put,Env.keep,Zae,aggV,intV,binV,Zah,Zao,Zan,Zag,Zap,PV.nth,PV.row,Heap.get,HL.get,Nat.succ_ne_self,List.length,List.getD_cons_zero,List.take,List.drop,List.take_succ_cons,List.drop_succ_cons,Nat.reduceEqDiff,Nat.reduceAdd,Nat.reduceLT,Nat.reduceLeDiff,Bool.false_eq_true,ite_true,ite_false,true_and,and_true,implies_true,Nat.zero_add,List.length_cons]
        refine Zbw rfl (fun gA=>?_) (fun gA=>?_)
        rotate_left
        · simp only [Zab,Zad,Zbi,OpsW_u,Zaf,pok,pval,VA.ev,Env.get,Env.put,Za1,isBool,Nat.succ_ne_self,Nat.reduceEqDiff,Bool.false_eq_true,ite_true,ite_false,true_and,Bool.not_true,gA]
          refine Zar ?_
          try simp only [Env.get,Zae,Zal,retQ,resV,Zau,RS.ev,RS.ok,ite_true,true_and,and_true]
          have e1:Zb0 it act item = false:=by simp [Zb0,show (it.act == act) = false by simpa using gA]
          rw [e1]
          exact View.refl _ _
        simp only [Za6,Zaf,pok,pval,VA.ev,Env.get,Env.put,aggV,intV,binV,Zah,Zao,Zan,Zag,Zap,PV.nth,PV.row,Heap.get,HL.get,Nat.succ_ne_self,List.length,List.getD_cons_zero,List.take,List.drop,List.take_succ_cons,List.drop_succ_cons,Nat.reduceEqDiff,Nat.reduceAdd,Nat.reduceLT,Nat.reduceLeDiff,Bool.false_eq_true,ite_true,ite_false,true_and,and_true,implies_true,Nat.zero_add,List.length_cons,gA]
        refine Zbw rfl (fun g1=>?_) (fun g1=>?_)
        · simp only [Zab,Zad,Za6,Zaf,pok,pval,VA.ev,Env.get,Env.put,Za1,isBool,aggV,intV,binV,Zah,Zao,Zan,Zag,Zap,PV.nth,PV.row,Heap.get,HL.get,Nat.succ_ne_self,List.length,List.getD_cons_zero,List.take,List.drop,List.take_succ_cons,List.drop_succ_cons,Nat.reduceEqDiff,Nat.reduceAdd,Nat.reduceLT,Nat.reduceLeDiff,Bool.false_eq_true,ite_true,ite_false,true_and,and_true,implies_true,Nat.zero_add,List.length_cons,gA,g1]
          refine Zar ?_
          try simp only [Env.get,Zae,Zal,retQ,resV,Zau,RS.ev,RS.ok,ite_true,true_and,and_true]
          have e1:Zb0 it act item = (it.item == -1):=by simp_all [Zb0]
          rw [e1]
          exact View.refl _ _
        · simp only [Zab,Zad,Za6,Zbz,Zaf,pok,pval,VA.ev,Env.get,Env.put,Za1,isBool,Nat.succ_ne_self,Nat.reduceEqDiff,ite_true,ite_false,true_and,Bool.not_false,gA,g1]
          refine Zar ?_
          try simp only [Env.get,Zae,Zal,retQ,resV,Zau,RS.ev,RS.ok,ite_true,true_and,and_true]
          have e1:Zb0 it act item = true:=by simp_all [Zb0]
          rw [e1]
          exact View.refl _ _
      refine Zac (Zaa [1,2,3,28] ?_)
      simp only [Zab,Zad,Zaf,pok,pval,VA.ev,Env.get,Env.put,Env.keep,Zae,intV,binV,Zah,Nat.succ_ne_self,Nat.reduceEqDiff,ite_true,ite_false,true_and]
      refine Zai rfl (fun h4=>?_) (fun h4=>?_)
      · refine Zac (Zaa [6] ?_)
        simp only [Zad,Zaf,pok,pval,VA.ev,Env.get,Env.put,Env.keep,Zae,aggV,intV,binV,Zah,Zao,Zan,Zag,Zap,PV.nth,PV.row,Heap.get,HL.get,Nat.succ_ne_self,List.length,List.getD_cons_zero,List.take,List.drop,List.take_succ_cons,List.drop_succ_cons,Nat.reduceEqDiff,Nat.reduceAdd,Nat.reduceLT,Nat.reduceLeDiff,Bool.false_eq_true,ite_true,ite_false,true_and,and_true,implies_true,Nat.zero_add,List.length_cons]
        cases hA:(it.act == act)
        · simp only [Zab,Zad,Zbi,Zaf,pok,pval,VA.ev,Env.get,Env.put,Za1,isBool,Nat.succ_ne_self,Nat.reduceEqDiff,Bool.false_eq_true,ite_true,ite_false,true_and,hA]
          refine Zar ?_
          try simp only [Env.get,Zae,Zal,retQ,resV,Zau,RS.ev,RS.ok,ite_true,true_and,and_true]
          have e1:Zb0 it act item = false:=by simp [Zb0,hA]
          rw [e1]
          exact View.refl _ _
        · simp only [Zab,Zad,Za6,Zaf,pok,pval,VA.ev,Env.get,Env.put,Za1,isBool,aggV,intV,binV,Zah,Zao,Zan,Zag,Zap,PV.nth,PV.row,Heap.get,HL.get,Nat.succ_ne_self,List.length,List.getD_cons_zero,List.take,List.drop,List.take_succ_cons,List.drop_succ_cons,Nat.reduceEqDiff,Nat.reduceAdd,Nat.reduceLT,Nat.reduceLeDiff,Bool.false_eq_true,ite_true,ite_false,true_and,and_true,implies_true,Nat.zero_add,List.length_cons,hA]
          refine Zar ?_
          try simp only [Env.get,Zae,Zal,retQ,resV,Zau,RS.ev,RS.ok,ite_true,true_and,and_true]
          have e1:Zb0 it act item = (it.item == item):=by simp [Zb0,hA,h1,h2,h3,h4]
          rw [e1]
          exact View.refl _ _
      refine Zak ?_
      try simp only [Zae,Zal]
      refine Zac (Zaa [6] ?_)
      simp only [Zab,Zad,Zaf,pok,pval,VA.ev,Env.get,Env.put,Env.keep,Zae,Nat.reduceEqDiff,ite_true,ite_false,true_and]
      refine Zar ?_
      try simp only [Env.get,retQ,resV,Zau,RS.ev,RS.ok,ite_true,true_and,and_true]
      have e1:Zb0 it act item = false:=by simp [Zb0,h1,h2,h3,h4]
      rw [e1]
      exact View.refl _ _
end Go.Proofs.YtehokmhebnkfdaaGreat.c
namespace Go.Proofs.YtehokmhebnkfdaaGreat.c
open Go Go.VM
set_option maxRecDepth 20000
set_option maxHeartbeats 0
set_option pp.deepTerms false
def c_commencement_Initial:VC:=(.seq (.region [ZO 2 (.box 3 (.t 0)),ZO 4 (.mv (.c .nilsl))] false) (.seq (.seq (.region [ZO 7 (.faddr 0 (.t 2)),ZO 8 (.load false 1 (.t 7))] false) (.block 0 (.seq (.region [ZO 10 (.bin .eql (.t 8) (.c (.int .i64 1))),ZM 9 10] false) (.cond (.t 9) (.seq (.region [ZO 11 (.faddr 1 (.t 2)),ZO 12 (.load false 1 (.t 11)),ZO 13 (.call 118 [(.c .nilsl),(.t 12)]),ZM 4 13] false) .ret) (.seq (.region [ZO 15 (.bin .eql (.t 8) (.c (.int .i64 3))),ZM 14 15] false) (.cond (.t 14) (.seq (.region [ZO 17 (.faddr 2 (.t 2)),ZO 18 (.load false 1 (.t 17)),ZM 19 1,ZO 20 (.call 119 [(.t 18),(.t 19)]),ZM 16 20,ZO 21 (.ext (.t 16) 0),ZO 22 (.ext (.t 16) 1),ZM 5 21,ZM 6 22] false) (.seq (.region [ZM 23 6] false) (.cond (.t 23) (.seq (.region [ZM 24 5,ZO 25 (.call 118 [(.c .nilsl),(.t 24)]),ZM 4 25] false) .ret) .skip))) .skip)))))) (.seq (.region [ZO 4 (.mv (.c .nilsl))] false) .ret)))
def c_commencement_InForce:VC:=(.seq (.region [ZO 3 (.box 3 (.t 0)),ZO 4 (.box 28 (.t 1)),ZO 6 (.mv (.c .nilsl))] false) (.seq (.seq (.region [ZO 12 (.faddr 3 (.t 4)),ZO 13 (.faddr 0 (.t 12)),ZO 14 (.load false 1 (.t 13)),ZO 15 (.bin .lss (.t 14) (.c (.int .i64 0))),ZM 16 15,ZG 17 (.faddr 3 (.t 4)) 16 false,ZG 18 (.faddr 0 (.t 17)) 16 false,ZG 19 (.load false 1 (.t 18)) 16 false,ZG 20 (.bin .gtr (.t 19) (.c (.int .i64 6))) 16 false,ZO 21 (.pick (.t 16) (.c (.bool true)) (.t 20))] false) (.cond (.t 21) (.seq (.region [ZO 6 (.mv (.c .nilsl))] false) .ret) .skip)) (.seq (.region [ZO 22 (.load true 3 (.t 3)),ZO 23 (.faddr 3 (.t 4)),ZO 24 (.faddr 17 (.t 23)),ZO 25 (.load true 3 (.t 24)),ZO 26 (.call 80 [(.t 22),(.t 25)]),ZM 27 2,ZO 28 (.call 79 [(.t 26),(.t 27)]),ZM 7 28] false) (.seq (.seq (.region [ZM 29 2,ZO 30 (.len false (.t 29)),ZO 31 (.mv (.c (.int .i64 0)))] false) (.block 0 (.loop (.seq (.region [ZO 32 (.bin .lss (.t 31) (.t 30))] false) (.seq (.cond (.t 32) .skip (.exit 0)) (.seq (.block 1 (.seq (.region [ZO 33 (.iaddr 28 (.t 29) (.t 31)),ZO 34 (.load true 28 (.t 33)),ZO 9 (.alloc [(.int .i64 0),(.int .i64 0),(.int .i64 0),(.int .i64 0),.nilsl,.nilsl,(.int .i64 0),(.int .i64 0),(.int .i64 0),(.int .i64 0),(.int .i64 0),(.int .i64 0),(.str []),.nilsl,.nilsl,.nilsl,.nilsl,.nilsl,(.str []),(.str []),(.int .i64 0),(.int .i64 0),(.str []),(.int .i64 0),(.int .i64 0),(.int .i64 0),(.str []),.nilsl]),ZN (.store 28 (.t 9) (.t 34))] false) (.seq (.region [ZO 36 (.call 81 []),ZO 37 (.faddr 3 (.t 9)),ZO 38 (.faddr 0 (.t 37)),ZO 39 (.load false 1 (.t 38)),ZO 40 (.lookup (.one .i) .nilfn true (.t 36) (.t 39)),ZM 35 40,ZO 41 (.ext (.t 35) 0),ZO 42 (.ext (.t 35) 1),ZM 10 41,ZM 11 42] true) (.seq (.region [ZM 43 11,ZM 44 43,ZG 45 (.faddr 3 (.t 9)) 44 true,ZG 46 (.load true 25 (.t 45)) 44 true,ZG 47 (.faddr 0 (.t 4)) 44 true,ZG 48 (.load false 1 (.t 47)) 44 true,ZG 49 (.faddr 1 (.t 4)) 44 true,ZG 50 (.load false 1 (.t 49)) 44 true,ZG 51 (.call 82 [(.t 46),(.t 48),(.t 50)]) 44 true,ZO 52 (.pick (.t 44) (.t 51) (.c (.bool false)))] false) (.cond (.t 52) (.region [ZM 53 10,ZM 54 7,ZO 55 (.faddr 3 (.t 9)),ZO 56 (.faddr 22 (.t 55)),ZO 57 (.load false 1 (.t 56)),ZO 58 (.callv (.t 53) [(.t 54),(.t 57)]),ZM 7 58] false) .skip))))) (.region [ZO 59 (.bin .add (.t 31) (.c (.int .i64 1))),ZM 31 59] false))))))) (.seq (.region [ZM 60 7,ZM 6 60] false) .ret)))))
noncomputable def Zds (s:Sta) (l:List EI):List Sp :=
  if s.kind = 1 then Zce [] s.day else if s.kind = 3 then (if (eventS s.event l).2 then Zce [] (eventS s.event l).1 else []) else []
theorem initS_len (s:Sta) (l:List EI):(Zds s l).length ≤ 1:=by
  unfold Zds
  have h:=fun d=>extend_len (l:=[]) trivial d
  split
  · exact h _
  · split
    · split
      · exact h _
      · simp
    · simp
theorem initS_canon (s:Sta) (l:List EI):Canon (Zds s l):=by
  unfold Zds
  have h:=fun d=>(Zd0 [] d).1
  split
  · exact h _
  · split
    · split
      · exact h _
      · trivial
    · trivial
theorem sp_extend_nil (d:Int) {h:Heap} {K:PV → Heap → Prop} (hk:K (.sl 2 ((Zce [] d).map Sp.enc)) ⟨[],h.top⟩):Zbg Tryz.prog 118 [.nilsl,pI d] h K:=by
  refine ACall_f [.sl 2 (([]:List Sp).map Sp.enc),pI d] ⟨?_,View.refl _ _,trivial⟩ (Zat (Zdh [] d (by simp) (Nat.le_trans (trunc_len (l:=[]) trivial d) (by simp))) hk)
  exact View.nil _ _
theorem sp_commencement_Initial (s:Sta) (l:List EI) (hl:l.length ≤ 1000000):Zbo Tryz.prog 79 [.agg s.enc,.sl 28 (l.map EI.enc)] (.sl 2 ((Zds s l).map Sp.enc)):=by
  refine Zam ?_ (Zav _) (by simp only [Za0,List.mem_cons,List.not_mem_nil,or_false,forall_eq_or_imp,forall_eq,false_implies,implies_true]; repeat' (first  | exact Zay (EI.closed _) | exact Zay (Sta.closed _) | exact Zaw _ | exact Zav _ | exact Zay (Sp.closed _) | refine And.intro ?_ ?_))
  refine Zaq (vc:=c_commencement_Initial) (ts:=[.t 4]) Go.Proofs.Tryz.func79 (by kernel_rfl) rfl rfl (Nat.le_of_ble_eq_true rfl) (by kernel_rfl) ?_
  unfold c_commencement_Initial
  try dsimp only [ZM,ZO,ZN,ZG]
  refine Zac (Zaa [1,2] ?_)
  simp only [Zab,Zad,Zaf,pok,pval,VA.ev,Env.get,Env.put,Env.keep,Za2,Zae,PV.cells,PV.fits,Heap.push,Heap.nil,Nat.succ_ne_self,List.length,Nat.reduceEqDiff,Nat.reduceAdd,ite_true,ite_false,true_and,reduceCtorEq,BEq.rfl,Nat.zero_add,Sta.enc]
  refine Zac ?_
  refine Zac (Zaa [1,2,8] ?_)
  simp only [Zab,Zad,Zaf,pok,pval,VA.ev,Env.get,Env.put,Env.keep,Zae,aggV,Zao,Zan,Zag,Zap,PV.nth,PV.row,Heap.get,HL.get,Nat.succ_ne_self,List.length,List.getD_cons_zero,List.take,List.drop,List.take_succ_cons,Nat.reduceEqDiff,Nat.reduceAdd,Nat.reduceLT,Nat.reduceLeDiff,Bool.false_eq_true,ite_true,ite_false,true_and,and_true,implies_true,Nat.zero_add,Nat.add_zero,List.length_cons]
  refine Zaj ?_
  refine Zac (Zaa [1,2,8,9] ?_)
  simp only [Zab,Zad,Zaf,pok,pval,VA.ev,Env.get,Env.put,Env.keep,Zae,intV,binV,Zah,Nat.succ_ne_self,Nat.reduceEqDiff,ite_true,ite_false,true_and]
  refine Zai rfl (fun h1=>?_) (fun h1=>?_)
  · refine Zac (Zaa [4] ?_)
    simp only [Zab,Zad,Zaf,pok,pval,VA.ev,Env.get,Env.put,Env.keep,Zae,aggV,Zao,Zan,Zag,Zap,PV.nth,PV.row,Heap.get,HL.get,List.map,List.length,List.getD_cons_zero,List.take,List.drop,List.take_succ_cons,List.drop_succ_cons,Nat.reduceEqDiff,Nat.reduceAdd,Nat.reduceLT,Nat.reduceLeDiff,Bool.false_eq_true,ite_true,ite_false,true_and,and_true,implies_true,Nat.zero_add,List.length_cons]
    refine sp_extend_nil s.day ?_
    try simp only []
    refine Zar ?_
    try simp only [Env.get,Zae,Zal,retQ,resV,Zau,RS.ev,RS.ok,ite_true,true_and,and_true]
    have e:Zds s l = Zce [] s.day:=if_pos (by simpa using h1)
    rw [e]
    exact View.refl _ _
  have n1:¬ s.kind = 1:=by simpa using h1
  refine Zac (Zaa [1,2,14] ?_)
  simp only [Zab,Zad,Zaf,pok,pval,VA.ev,Env.get,Env.put,Env.keep,Zae,intV,binV,Zah,Nat.succ_ne_self,Nat.reduceEqDiff,ite_true,ite_false,true_and]
  refine Zai rfl (fun h2=>?_) (fun h2=>?_)
  · have n2:s.kind = 3:=by simpa using h2
    refine Zac (Zaa [5,6] ?_)
    simp only [Zab,Zad,Zaf,pok,pval,VA.ev,Env.get,Env.put,Env.keep,Zae,aggV,Zao,Zan,Zag,Zap,extV,extOk,PV.nth,PV.row,Heap.get,HL.get,Nat.le_refl,Nat.succ_ne_self,List.map,List.length,List.getD_cons_zero,List.take,List.drop,List.take_succ_cons,List.drop_succ_cons,Nat.reduceEqDiff,Nat.reduceLT,Bool.false_eq_true,ite_true,ite_false,true_and,and_true,implies_true,Nat.zero_add,List.length_cons]
    refine Zat (sp_commencement_EventDay l s.event hl) ?_
    try simp only [List.length,List.getD_cons_zero,List.getD_cons_succ,Nat.reduceAdd,Nat.reduceLT,true_and,Nat.zero_add]
    refine Zac (Zaa [5,23] ?_)
    simp only [Zab,Zad,Zaf,pok,pval,VA.ev,Env.get,Env.put,Env.keep,Zae,Nat.succ_ne_self,Nat.reduceEqDiff,ite_true,ite_false,true_and]
    refine Zai rfl (fun h3=>?_) (fun h3=>?_)
    · refine Zac (Zaa [4] ?_)
      simp only [Zab,Zad,Zaf,pok,pval,VA.ev,Env.get,Env.put,Env.keep,Zae,Nat.succ_ne_self,List.map,Nat.reduceEqDiff,ite_true,ite_false,true_and]
      refine sp_extend_nil _ ?_
      try simp only []
      refine Zar ?_
      try simp only [Env.get,Zae,Zal,retQ,resV,Zau,RS.ev,RS.ok,ite_true,true_and,and_true]
      have e:Zds s l = Zce [] (eventS s.event l).1:=by unfold Zds; rw [if_neg n1,if_pos n2,if_pos h3]
      rw [e]
      exact View.refl _ _
    refine Zak ?_
    try simp only [Zae,Zal]
    refine Zac (Zaa [4] ?_)
    simp only [Zab,Zad,Zaf,pok,pval,VA.ev,Env.get,Env.put,Env.keep,Zae,Nat.succ_ne_self,Nat.reduceEqDiff,ite_true,ite_false,true_and]
    refine Zar ?_
    try simp only [Env.get,retQ,resV,Zau,RS.ev,RS.ok,ite_true,true_and,and_true]
    have e:Zds s l = []:=by unfold Zds; rw [if_neg n1,if_pos n2,if_neg (by rw [h3]; exact Bool.false_ne_true)]
    rw [e]
    exact View.nil _ _
  · have n2:¬ s.kind = 3:=by simpa using h2
    refine Zak ?_
    try simp only [Zae,Zal]
    refine Zac (Zaa [4] ?_)
    simp only [Zab,Zad,Zaf,pok,pval,VA.ev,Env.get,Env.put,Env.keep,Zae,Nat.reduceEqDiff,ite_true,ite_false,true_and]
    refine Zar ?_
    try simp only [Env.get,retQ,resV,Zau,RS.ev,RS.ok,ite_true,true_and,and_true]
    have e:Zds s l = []:=by unfold Zds; rw [if_neg n1,if_neg n2]
    rw [e]
    exact View.nil _ _
end Go.Proofs.YtehokmhebnkfdaaGreat.c
namespace Go.Proofs.YtehokmhebnkfdaaGreat.c
open Go Go.VM
set_option maxRecDepth 20000
set_option maxHeartbeats 0
set_option pp.deepTerms false
noncomputable def Zd1 (act item:Int) (days:List Sp) (o:EI):List Sp :=
  if Zb0 o.it act item then (if o.it.kind = 7 ∨ o.it.kind = 9 then Zce days o.it.day else if o.it.kind = 8 then truncS days o.it.day else days) else days
noncomputable def Zc7 (a:Sta) (d:EI) (l:List EI):List Sp :=
  if d.it.kind < 0 ∨ d.it.kind > 6 then [] else l.foldl (Zd1 d.act d.item) (Zds (ruleS a d.it.start) l)
theorem turnS_ok (act item:Int) {days:List Sp} (h:Canon days) (o:EI):Canon (Zd1 act item days o) ∧ (Zd1 act item days o).length ≤ days.length + 1:=by
  unfold Zd1
  split
  · split
    · exact ⟨(Zd0 _ _).1,extend_len h _⟩
    · split
      · exact ⟨(trunc_spec _ _).1,Nat.le_succ_of_le (trunc_len h _)⟩
      · exact ⟨h,Nat.le_succ _⟩
  · exact ⟨h,Nat.le_succ _⟩
theorem force_prefix (act item:Int) (s0:List Sp) (h0:Canon s0) (l:List EI):Canon (l.foldl (Zd1 act item) s0) ∧ (l.foldl (Zd1 act item) s0).length ≤ s0.length + l.length:=by
  induction l generalizing s0 with
  | nil=>exact ⟨h0,Nat.le_refl _⟩
  | cons o r ih =>
    obtain ⟨t1,t2⟩:=turnS_ok act item h0 o
    obtain ⟨i1,i2⟩:=ih _ t1
    refine ⟨i1,?_⟩
    simp only [List.foldl_cons,List.length_cons]
    omega
theorem force_canon (a:Sta) (d:EI) (l:List EI):Canon (Zc7 a d l) ∧ (Zc7 a d l).length ≤ l.length + 1:=by
  unfold Zc7
  split
  · exact ⟨trivial,by simp⟩
  · obtain ⟨h1,h2⟩:=force_prefix d.act d.item (Zds (ruleS a d.it.start) l) (initS_canon _ _) l
    have:=initS_len (ruleS a d.it.start) l
    exact ⟨h1,by omega⟩
theorem sp_commencement_InForce (a:Sta) (d:EI) (l:List EI) (hl:l.length ≤ 5000):Zbo Tryz.prog 60 [.agg a.enc,.agg d.enc,.sl 28 (l.map EI.enc)] (.sl 2 ((Zc7 a d l).map Sp.enc)):=by
  have ed:=It.Zcl d.it
  refine Zam ?_ (Zav _) (by simp only [Za0,List.mem_cons,List.not_mem_nil,or_false,forall_eq_or_imp,forall_eq,false_implies,implies_true]; repeat' (first  | exact Zay (EI.closed _) | exact Zay (Sta.closed _) | exact Zaw _ | exact Zav _ | exact Zay (Sp.closed _) | refine And.intro ?_ ?_))
  refine Zaq (vc:=c_commencement_InForce) (ts:=[.t 6]) Go.Proofs.Tryz.func60 (by kernel_rfl) rfl rfl (Nat.le_of_ble_eq_true rfl) (by kernel_rfl) ?_
  unfold c_commencement_InForce
  try dsimp only [ZM,ZO,ZN,ZG]
  refine Zac (Zaa [2,3,4] ?_)
  simp only [Zab,Zad,Zaf,pok,pval,VA.ev,Env.get,Env.put,Env.keep,Za2,Zae,PV.cells,PV.fits,Heap.push,Heap.nil,Nat.succ_ne_self,List.length,Nat.reduceEqDiff,Nat.reduceAdd,ite_true,ite_false,true_and,reduceCtorEq,BEq.rfl,Nat.zero_add,Sta.enc,EI.enc,ed]
  refine Zac ?_
  refine Zac (Zaa [2,3,4,21] ?_)
  cases e1:decide (d.it.kind < 0) with
  | true =>
    simp only [Zab,Zad,Zbz,Zaf,pok,pval,VA.ev,Env.get,Env.put,Env.keep,Zae,Za1,isBool,aggV,intV,binV,Zah,Zao,Zan,Zag,Zap,PV.nth,PV.row,Heap.get,HL.get,Nat.succ_ne_self,List.length,List.getD_cons_zero,List.take,List.drop,List.take_succ_cons,List.drop_succ_cons,Nat.reduceEqDiff,Nat.reduceAdd,Nat.reduceLT,Nat.reduceLeDiff,Bool.false_eq_true,ite_true,ite_false,true_and,and_true,implies_true,reduceCtorEq,Nat.zero_add,Nat.add_zero,List.length_cons,e1]
    refine Zai rfl (fun h1=>?_) (fun h1=>by cases h1)
    refine Zac (Zaa [6] ?_)
    simp only [Zab,Zad,Zaf,pok,pval,VA.ev,Env.get,Env.put,Env.keep,Zae,Nat.reduceEqDiff,ite_true,ite_false,true_and]
    refine Zar ?_
    try simp only [Env.get,Zae,retQ,resV,Zau,RS.ev,RS.ok,ite_true,true_and,and_true]
    have e:Zc7 a d l = []:=if_pos (.inl (by simpa using e1))
    rw [e]; exact View.nil _ _
  | false =>
    simp only [Zab,Zad,Za6,Zaf,pok,pval,VA.ev,Env.get,Env.put,Env.keep,Zae,Za1,isBool,aggV,intV,binV,Zah,Zao,Zan,Zag,Zap,PV.nth,PV.row,Heap.get,HL.get,Nat.succ_ne_self,List.length,List.getD_cons_zero,List.take,List.drop,List.take_succ_cons,List.drop_succ_cons,Nat.reduceEqDiff,Nat.reduceAdd,Nat.reduceLT,Nat.reduceLeDiff,Bool.false_eq_true,ite_true,ite_false,true_and,and_true,implies_true,reduceCtorEq,Nat.zero_add,Nat.add_zero,List.length_cons,e1]
    refine Zai rfl (fun h1=>?_) (fun h1=>?_)
    · refine Zac (Zaa [6] ?_)
      simp only [Zab,Zad,Zaf,pok,pval,VA.ev,Env.get,Env.put,Env.keep,Zae,Nat.reduceEqDiff,ite_true,ite_false,true_and]
      refine Zar ?_
      try simp only [Env.get,Zae,retQ,resV,Zau,RS.ev,RS.ok,ite_true,true_and,and_true]
      have e:Zc7 a d l = []:=if_pos (.inr (by simpa using h1))
      rw [e]; exact View.nil _ _
    refine Zak ?_
    try simp only [Zae]
    refine Zac (Zaa [2,4,7] ?_)
    simp only [Zab,Zad,Zaf,pok,pval,VA.ev,Env.get,Env.put,Env.keep,Zae,aggV,Zao,Zan,Zag,Zap,PV.nth,PV.row,Heap.get,HL.get,Nat.le_refl,Nat.succ_ne_self,List.map,List.length,List.getD_cons_zero,List.take,List.drop,List.take_succ_cons,List.drop_succ_cons,Nat.reduceEqDiff,Nat.reduceAdd,Nat.reduceLT,Nat.reduceLeDiff,Bool.true_eq_false,ite_true,ite_false,true_and,and_true,reduceCtorEq,Nat.zero_add,List.length_cons,imp_self]
    refine Zat (sp_commencement_EffectiveStart a d.it.start) ?_
    skip
    refine Zat (sp_commencement_Initial (ruleS a d.it.start) l (by omega)) ?_
    skip
    have hF:Zc7 a d l = l.foldl (Zd1 d.act d.item) (Zds (ruleS a d.it.start) l):=if_neg (by simp at e1 h1; omega)
    have hc0:=initS_canon (ruleS a d.it.start) l
    have hn0:=initS_len (ruleS a d.it.start) l
    generalize Zds (ruleS a d.it.start) l = s0 at hF hc0 hn0 ⊢
    have hp:=fun k=>force_prefix d.act d.item s0 hc0 (l.take k)
    refine Zac ?_
    refine Zac (Zaa [4,7,29,30,31] ?_)
    simp only [Zab,Zad,Zaf,pok,pval,VA.ev,Env.get,Env.put,Env.keep,Zae,lenV,Za8,Nat.succ_ne_self,Nat.reduceEqDiff,ite_true,ite_false,true_and,List.length_map]
    refine Zaj ?_
    refine Za4 (σ:={ s:Nat × Nat // s.1 ≤ l.length ∧ 1 < s.2 }) (fun s=>([(4,.loc 1 0 0),(7,.sl 2 (((l.take s.1.1).foldl (Zd1 d.act d.item) s0).map Sp.enc)),(29,.sl 28 (l.map EI.enc)),(30,pI l.length),(31,pI s.1.1)],⟨[(1,.arr false 28 [d.enc])],s.1.2⟩)) (fun s=>l.length - s.1.1) ⟨(0,2),by simp⟩ ?_ ?_ ?_
    · simp only [Env.get,Nat.succ_ne_self,Env.le,List.take,Nat.reduceEqDiff,ite_true,ite_false,true_and,and_true]
      exact ⟨rfl,rfl⟩
    · simp only [Heap.get,Heap.le,HL.get,HL.le,Nat.le_refl,ite_true,ite_false,and_true,reduceCtorEq,EI.enc,ed]
    rintro ⟨⟨k,n⟩,hk,hn⟩
    simp only [] at hk hn ⊢
    have q0:(1 = n) = False:=by simp; omega
    have q1:(n = 1) = False:=by simp; omega
    obtain ⟨pc,pn⟩:=hp k
    have pn2:(l.take k).length ≤ 5000:=by simp; omega
    refine Zac (Zaa [4,7,29,30,31,32] ?_)
    simp only [Zab,Zad,Zaf,pok,pval,VA.ev,Env.get,Env.put,Env.keep,Zae,intV,binV,Zah,Heap.get,Heap.le,HL.le,Nat.succ_ne_self,Env.le,Nat.reduceEqDiff,ite_true,ite_false,true_and,and_true]
    refine Zac ?_
    refine Zai rfl (fun h2=>?_) (fun h2=>?_)
    · refine Zak ?_
      try simp only [Zae]
      simp only [decide_eq_true_eq] at h2
      have ka:k < l.length:=by omega
      have hst:(l.take (k + 1)).foldl (Zd1 d.act d.item) s0 = Zd1 d.act d.item ((l.take k).foldl (Zd1 d.act d.item) s0) l[k]:=by
        rw [List.take_add_one,List.getElem?_eq_getElem ka,List.foldl_append]; rfl
      generalize hD:(l.take k).foldl (Zd1 d.act d.item) s0 = D at pc pn hst ⊢
      have eo:=It.Zcl l[k].it
      refine Zac ?_
      refine Zaj ?_
      refine Zac (Zaa [4,7,9,29,30,31] ?_)
      simp only [Zab,Zad,Zaf,pok,pval,VA.ev,Env.get,Env.put,Env.keep,Zae,aggV,isInt,numOf,lenV,Zag,Zap,Zax,Zas,PV.cells,PV.fits,overlay,PV.nth,PV.row,Heap.get,Heap.set,HL.get,HL.set,HL.del,Heap.push,Nat.le_refl,Nat.succ_ne_self,Zbh,Za9,List.set,List.length,List.getD_cons_zero,List.take,List.drop,List.take_succ_cons,List.drop_succ_cons,List.cons_append,List.nil_append,Nat.reduceEqDiff,Nat.reduceAdd,Nat.reduceLT,Bool.true_eq_false,ite_true,ite_false,true_and,and_true,BEq.rfl,Nat.zero_add,List.length_cons,imp_self,Int.toNat_natCast,List.length_map,rowm ka,EI.enc,eo,ed,q0,q1]
      repeat (with_reducible refine And.intro ?_ ?_; first | omega | (with_reducible constructor <;> omega) | exact False.elim | exact True.intro)
      refine Zac (Zb3 [4,7,9,10,11,29,30,31] (by simp [Heap.le,Heap.get,HL.le,HL.get,q0,q1]) ?_)
      simp only [Zbb,Zbu,QW,dok,dval,VOp.pure,VOp.simple,VOp.det,pok,pval,VA.ev,Env.get,Env.put,Env.keep,Zae,gd,aggV,Zao,Zan,Zag,Zap,extV,extOk,PV.nth,PV.row,lookV,Zca,mapOk,keysOk,keyOk,Heap.get,HL.get,Nat.succ_ne_self,ekOk,List.length,List.getD_cons_zero,List.take,List.drop,List.take_succ_cons,List.drop_succ_cons,Nat.reduceEqDiff,Nat.reduceAdd,Nat.reduceLT,Nat.reduceLeDiff,Bool.false_eq_true,ite_true,ite_false,true_and,and_true,implies_true,forall_const,Nat.zero_add,Nat.add_zero,List.length_cons,q0,q1]
      refine ⟨_,.inl sp_commencement_turns,?_⟩
      have hT:Zd1 d.act d.item D l[k] = (if Zb0 l[k].it d.act d.item then (if l[k].it.kind = 7 ∨ l[k].it.kind = 9 then Zce D l[k].it.day else if l[k].it.kind = 8 then truncS D l[k].it.day else D) else D):=rfl
      rw [hT] at hst
      have hR:=sp_commencement_Refers l[k].it d.act d.item
      rw [eo] at hR
      cases h7:(l[k].it.kind == 7) with
      | true =>
        try simp only [PV.cells,Zdj,Zb9,Zbe,Zb8,List.length,List.getD_cons_zero,List.getD_cons_succ,Nat.reduceAdd,Nat.reduceLT,ite_true,true_and,and_true,implies_true,Nat.zero_add,turnsM,h7,Bool.false_and,Bool.true_and,List.forall_mem_cons,List.not_mem_nil,false_implies,q0,q1]
        refine Zac (Zaa [4,7,9,10,29,30,31,52] ?_)
        simp only [Zab,Zad,Za6,Zaf,pok,pval,VA.ev,Env.get,Env.put,Env.keep,Zae,Za1,isBool,aggV,Zao,Zan,Zag,Zap,PV.nth,PV.row,Heap.get,HL.get,Nat.le_refl,Nat.succ_ne_self,List.map,List.length,List.getD_cons_zero,List.take,List.drop,List.take_succ_cons,List.drop_succ_cons,Nat.reduceEqDiff,Nat.reduceAdd,Nat.reduceLT,Nat.reduceLeDiff,Bool.false_eq_true,Bool.true_eq_false,ite_true,ite_false,true_and,and_true,implies_true,Nat.zero_add,Nat.add_zero,List.length_cons,imp_self,q0,q1]
        refine Zat hR ?_
        skip
        refine Zai rfl (fun h3=>?_) (fun h3=>?_)
        · refine Zaa [4,7,29,30,31] ?_
          rw [if_pos h3,if_pos (.inl (by simpa using h7))] at hst
          simp only [Zab,Zad,Zaf,pok,pval,VA.ev,Env.get,Env.put,Env.keep,Zae,Zal,aggV,Zao,Zan,Zag,Zap,PV.nth,PV.row,Heap.get,HL.get,Nat.succ_ne_self,List.map,List.length,List.getD_cons_zero,List.take,List.drop,List.take_succ_cons,List.drop_succ_cons,List.cons_append,List.nil_append,Nat.reduceEqDiff,Nat.reduceAdd,Nat.reduceLT,Nat.reduceLeDiff,Bool.false_eq_true,ite_true,ite_false,true_and,and_true,implies_true,Nat.zero_add,List.length_cons,q0,q1]
          refine Zat (Zdh D l[k].it.day (by omega) (Nat.le_trans (trunc_len pc _) (by omega))) ?_
          skip
          refine Zaa [4,7,29,30,31] ?_
          simp only [Zab,Zad,Zaf,pok,pval,VA.ev,Env.get,Env.put,Env.keep,Zae,intV,binV,Zah,HL.get,Nat.succ_ne_self,Nat.reduceEqDiff,ite_true,ite_false,true_and,and_true,q0,q1,w64 (n:=(k:Int) + 1) (by omega) (by omega)]
          refine ⟨⟨(k + 1,n + 1),by simp only []; omega,by simp only []; omega⟩,?_,?_,?_⟩
          · rw [hst]; exact ⟨rfl,rfl⟩
          · simp only [Nat.le_refl,q0,q1]
          · simp only []; omega
        · refine Zak ?_
          try simp only [Zae,Zal]
          rw [if_neg (by rw [h3]; exact Bool.false_ne_true)] at hst
          refine Zaa [4,7,29,30,31] ?_
          simp only [Zab,Zad,Zaf,pok,pval,VA.ev,Env.get,Env.put,Env.keep,Zae,intV,binV,Zah,HL.get,Nat.succ_ne_self,Nat.reduceEqDiff,ite_true,ite_false,true_and,and_true,q0,q1,w64 (n:=(k:Int) + 1) (by omega) (by omega)]
          refine ⟨⟨(k + 1,n + 1),by simp only []; omega,by simp only []; omega⟩,?_,?_,?_⟩
          · rw [hst]; exact ⟨rfl,rfl⟩
          · simp only [Nat.le_refl,q0,q1]
          · simp only []; omega
      | false =>
        cases h9:(l[k].it.kind == 9) with
        | true =>
          try simp only [PV.cells,Zdj,Zb9,Zbe,Zb8,List.length,List.getD_cons_zero,List.getD_cons_succ,Nat.reduceAdd,Nat.reduceLT,Bool.false_eq_true,ite_true,ite_false,true_and,and_true,implies_true,Nat.zero_add,turnsM,h7,h9,Bool.false_and,Bool.true_and,List.forall_mem_cons,List.not_mem_nil,false_implies,q0,q1]
          refine Zac (Zaa [4,7,9,10,29,30,31,52] ?_)
          simp only [Zab,Zad,Za6,Zaf,pok,pval,VA.ev,Env.get,Env.put,Env.keep,Zae,Za1,isBool,aggV,Zao,Zan,Zag,Zap,PV.nth,PV.row,Heap.get,HL.get,Nat.le_refl,Nat.succ_ne_self,List.map,List.length,List.getD_cons_zero,List.take,List.drop,List.take_succ_cons,List.drop_succ_cons,Nat.reduceEqDiff,Nat.reduceAdd,Nat.reduceLT,Nat.reduceLeDiff,Bool.false_eq_true,Bool.true_eq_false,ite_true,ite_false,true_and,and_true,implies_true,Nat.zero_add,Nat.add_zero,List.length_cons,imp_self,q0,q1]
          refine Zat hR ?_
          skip
          refine Zai rfl (fun h3=>?_) (fun h3=>?_)
          · refine Zaa [4,7,29,30,31] ?_
            rw [if_pos h3,if_pos (.inr (by simpa using h9))] at hst
            simp only [Zab,Zad,Zaf,pok,pval,VA.ev,Env.get,Env.put,Env.keep,Zae,Zal,aggV,Zao,Zan,Zag,Zap,PV.nth,PV.row,Heap.get,HL.get,Nat.succ_ne_self,List.map,List.length,List.getD_cons_zero,List.take,List.drop,List.take_succ_cons,List.drop_succ_cons,List.cons_append,List.nil_append,Nat.reduceEqDiff,Nat.reduceAdd,Nat.reduceLT,Nat.reduceLeDiff,Bool.false_eq_true,ite_true,ite_false,true_and,and_true,implies_true,Nat.zero_add,List.length_cons,q0,q1]
            refine Zat (Zdh D l[k].it.day (by omega) (Nat.le_trans (trunc_len pc _) (by omega))) ?_
            skip
            refine Zaa [4,7,29,30,31] ?_
            simp only [Zab,Zad,Zaf,pok,pval,VA.ev,Env.get,Env.put,Env.keep,Zae,intV,binV,Zah,HL.get,Nat.succ_ne_self,Nat.reduceEqDiff,ite_true,ite_false,true_and,and_true,q0,q1,w64 (n:=(k:Int) + 1) (by omega) (by omega)]
            refine ⟨⟨(k + 1,n + 1),by simp only []; omega,by simp only []; omega⟩,?_,?_,?_⟩
            · rw [hst]; exact ⟨rfl,rfl⟩
            · simp only [Nat.le_refl,q0,q1]
            · simp only []; omega
          · refine Zak ?_
            try simp only [Zae,Zal]
            rw [if_neg (by rw [h3]; exact Bool.false_ne_true)] at hst
            refine Zaa [4,7,29,30,31] ?_
            simp only [Zab,Zad,Zaf,pok,pval,VA.ev,Env.get,Env.put,Env.keep,Zae,intV,binV,Zah,HL.get,Nat.succ_ne_self,Nat.reduceEqDiff,ite_true,ite_false,true_and,and_true,q0,q1,w64 (n:=(k:Int) + 1) (by omega) (by omega)]
            refine ⟨⟨(k + 1,n + 1),by simp only []; omega,by simp only []; omega⟩,?_,?_,?_⟩
            · rw [hst]; exact ⟨rfl,rfl⟩
            · simp only [Nat.le_refl,q0,q1]
            · simp only []; omega
        | false =>
          have n79:¬ (l[k].it.kind = 7 ∨ l[k].it.kind = 9):=by simp at h7 h9; omega
          cases h8:(l[k].it.kind == 8) with
          | true =>
            try simp only [PV.cells,Zdj,Zb9,Zbe,Zb8,List.length,List.getD_cons_zero,List.getD_cons_succ,Nat.reduceAdd,Nat.reduceLT,Bool.false_eq_true,ite_true,ite_false,true_and,and_true,implies_true,Nat.zero_add,turnsM,h7,h9,h8,Bool.false_and,Bool.true_and,List.forall_mem_cons,List.not_mem_nil,false_implies,q0,q1]
            refine Zac (Zaa [4,7,9,10,29,30,31,52] ?_)
            simp only [Zab,Zad,Za6,Zaf,pok,pval,VA.ev,Env.get,Env.put,Env.keep,Zae,Za1,isBool,aggV,Zao,Zan,Zag,Zap,PV.nth,PV.row,Heap.get,HL.get,Nat.le_refl,Nat.succ_ne_self,List.map,List.length,List.getD_cons_zero,List.take,List.drop,List.take_succ_cons,List.drop_succ_cons,Nat.reduceEqDiff,Nat.reduceAdd,Nat.reduceLT,Nat.reduceLeDiff,Bool.false_eq_true,Bool.true_eq_false,ite_true,ite_false,true_and,and_true,implies_true,Nat.zero_add,Nat.add_zero,List.length_cons,imp_self,q0,q1]
            refine Zat hR ?_
            skip
            refine Zai rfl (fun h3=>?_) (fun h3=>?_)
            · refine Zaa [4,7,29,30,31] ?_
              rw [if_pos h3,if_neg n79,if_pos (by simpa using h8)] at hst
              simp only [Zab,Zad,Zaf,pok,pval,VA.ev,Env.get,Env.put,Env.keep,Zae,Zal,aggV,Zao,Zan,Zag,Zap,PV.nth,PV.row,Heap.get,HL.get,Nat.succ_ne_self,List.map,List.length,List.getD_cons_zero,List.take,List.drop,List.take_succ_cons,List.drop_succ_cons,List.cons_append,List.nil_append,Nat.reduceEqDiff,Nat.reduceAdd,Nat.reduceLT,Nat.reduceLeDiff,Bool.false_eq_true,ite_true,ite_false,true_and,and_true,implies_true,Nat.zero_add,List.length_cons,q0,q1]
              refine Zat (sp_dateset_Truncate D l[k].it.day (by omega)) ?_
              skip
              refine Zaa [4,7,29,30,31] ?_
              simp only [Zab,Zad,Zaf,pok,pval,VA.ev,Env.get,Env.put,Env.keep,Zae,intV,binV,Zah,HL.get,Nat.succ_ne_self,Nat.reduceEqDiff,ite_true,ite_false,true_and,and_true,q0,q1,w64 (n:=(k:Int) + 1) (by omega) (by omega)]
              refine ⟨⟨(k + 1,n + 1),by simp only []; omega,by simp only []; omega⟩,?_,?_,?_⟩
              · rw [hst]; exact ⟨rfl,rfl⟩
              · simp only [Nat.le_refl,q0,q1]
              · simp only []; omega
            · refine Zak ?_
              try simp only [Zae,Zal]
              rw [if_neg (by rw [h3]; exact Bool.false_ne_true)] at hst
              refine Zaa [4,7,29,30,31] ?_
              simp only [Zab,Zad,Zaf,pok,pval,VA.ev,Env.get,Env.put,Env.keep,Zae,intV,binV,Zah,HL.get,Nat.succ_ne_self,Nat.reduceEqDiff,ite_true,ite_false,true_and,and_true,q0,q1,w64 (n:=(k:Int) + 1) (by omega) (by omega)]
              refine ⟨⟨(k + 1,n + 1),by simp only []; omega,by simp only []; omega⟩,?_,?_,?_⟩
              · rw [hst]; exact ⟨rfl,rfl⟩
              · simp only [Nat.le_refl,q0,q1]
              · simp only []; omega
          | false =>
            have n8:¬ l[k].it.kind = 8:=by simpa using h8
            rw [if_neg n79,if_neg n8,ite_self] at hst
            try simp only [PV.cells,Zdj,Zb9,Zbe,Zb8,List.length,List.getD_cons_zero,List.getD_cons_succ,Nat.reduceAdd,Nat.reduceLT,Bool.false_eq_true,ite_false,true_and,and_true,implies_true,Nat.zero_add,turnsM,h7,h9,h8,Bool.false_and,Bool.true_and,List.forall_mem_cons,List.not_mem_nil,false_implies,q0,q1]
            refine Zac (Zaa [4,7,9,10,29,30,31,52] ?_)
            simp only [Zab,Zad,Zbi,Zaf,pok,pval,VA.ev,Env.get,Env.put,Env.keep,Zae,Za1,isBool,Nat.succ_ne_self,Nat.reduceEqDiff,Bool.false_eq_true,ite_true,ite_false,true_and,q0,q1]
            refine Zai rfl (fun h3=>by cases h3) (fun h3=>?_)
            refine Zak ?_
            try simp only [Zae,Zal]
            refine Zaa [4,7,29,30,31] ?_
            simp only [Zab,Zad,Zaf,pok,pval,VA.ev,Env.get,Env.put,Env.keep,Zae,intV,binV,Zah,HL.get,Nat.succ_ne_self,Nat.reduceEqDiff,ite_true,ite_false,true_and,and_true,q0,q1,w64 (n:=(k:Int) + 1) (by omega) (by omega)]
            refine ⟨⟨(k + 1,n + 1),by simp only []; omega,by simp only []; omega⟩,?_,?_,?_⟩
            · rw [hst]; exact ⟨rfl,rfl⟩
            · simp only [Nat.le_refl,q0,q1]
            · simp only []; omega
    · simp only [decide_eq_false_iff_not] at h2
      refine Zaz ?_
      try simp only [Zae,Zal,retQ,ite_true]
      refine Zac (Zaa [6] ?_)
      simp only [Zab,Zad,Zaf,pok,pval,VA.ev,Env.get,Env.put,Env.keep,Zae,Nat.succ_ne_self,Nat.reduceEqDiff,ite_true,ite_false,true_and]
      refine Zar ?_
      try simp only [Env.get,retQ,resV,Zau,RS.ev,RS.ok,ite_true,true_and,and_true]
      have e:l.take k = l:=List.take_of_length_le (by omega)
      rw [e,← hF]
      exact View.refl _ _
end Go.Proofs.YtehokmhebnkfdaaGreat.c
namespace Go.Proofs.YtehokmhebnkfdaaGreat.c
open Go Go.VM
def putR:List Int → Int → List Int
  | [],n=>[n]
  | x :: r,n=>if x < n then x :: putR r n else if x = n then x :: r else n :: x :: r
theorem putR_at (n : Int) : ∀ (l : List Int) (k : Nat) (hk : k ≤ l.length) (h1 : ∀ (j : Nat) (hj : j < l.length), j < k → l[j] < n) (h2 : ∀ (h : k < l.length), ¬ l[k] < n),
    putR l n = if l[k]? = some n then l else l.take k ++ n :: l.drop k
  | [],k,hk,_,_=>by
    have:k = 0:=by simpa using hk
    subst this; rfl
  | x :: r,0,_,_,h2=>by
    have:=h2 (by simp)
    simp only [List.getElem_cons_zero] at this
    simp only [putR,if_neg this,List.getElem?_cons_zero,Option.some.injEq,List.take_zero,List.drop_zero,List.nil_append]
  | x :: r,k + 1,hk,h1,h2=>by
    have hx:x < n:=h1 0 (by simp) (by omega)
    have ih:=putR_at n r k (by simpa using hk) (fun j hj hjk=>by have:=h1 (j + 1) (by simp; omega) (by omega); simpa using this) (fun h=>by have:=h2 (by simp; omega); simpa using this)
    simp only [putR,if_pos hx,ih,List.getElem?_cons_succ,List.take_succ_cons,List.drop_succ_cons,List.cons_append]
    split <;> rfl
theorem putR_mem (n x:Int):∀ l:List Int,x ∈ putR l n ↔ x = n ∨ x ∈ l
  | []=>by simp [putR]
  | y :: r=>by
    simp only [putR]
    split
    · simp only [List.mem_cons,putR_mem n x r]
      constructor
      · rintro (h | h | h) <;> simp [h]
      · rintro (h | h | h) <;> simp [h]
    · split
      · rename_i h; subst h; simp
      · simp
theorem putR_sorted (n:Int):∀ l:List Int,l.Pairwise (· < ·) → (putR l n).Pairwise (· < ·)
  | [],_=>by simp [putR]
  | y :: r,h=>by
    obtain ⟨h1,h2⟩:=List.pairwise_cons.1 h
    simp only [putR]
    split
    · rename_i hy
      refine List.pairwise_cons.2 ⟨fun x hx=>?_,putR_sorted n r h2⟩
      rcases (putR_mem n x r).1 hx with rfl | hx
      · exact hy
      · exact h1 x hx
    · split
      · exact h
      · rename_i h3 h4
        have hn:n < y:=by omega
        refine List.pairwise_cons.2 ⟨fun x hx=>?_,h⟩
        rcases List.mem_cons.1 hx with rfl | hx
        · exact hn
        · have:=h1 x hx; omega
theorem putR_len (n:Int):∀ l:List Int,(putR l n).length ≤ l.length + 1
  | []=>by simp [putR]
  | y :: r=>by
    have:=putR_len n r
    simp only [putR]
    split
    · simp; omega
    · split <;> simp
def inB (x:Int):Bool:=decide (0 < x) && decide (x ≤ 1048576)
def putIf (l:List Int) (n:Int):List Int:=if inB n then putR l n else l
def Zb4 (l:List Int) (s:Sp):List Int:=putIf (putIf l s.frm) s.to
def Zb7 (l:List Sp):List Int:=l.foldl Zb4 [0]
def PtOk (l:List Int):Prop:=l.Pairwise (· < ·) ∧ 0 ∈ l ∧ ∀ x ∈ l,0 ≤ x ∧ x ≤ 1048576
theorem putIf_ok {l:List Int} (n:Int) (h:PtOk l):PtOk (putIf l n) ∧ (∀ x ∈ l,x ∈ putIf l n) ∧ (inB n = true → n ∈ putIf l n):=by
  unfold putIf
  cases e:inB n with
  | false=>exact ⟨h,fun x hx=>hx,fun h=>by cases h⟩
  | true =>
    simp only [inB,Bool.and_eq_true,decide_eq_true_eq] at e
    obtain ⟨h1,h2,h3⟩:=h
    refine ⟨⟨putR_sorted n l h1,(putR_mem n 0 l).2 (.inr h2),fun x hx=>?_⟩,fun x hx=>(putR_mem n x l).2 (.inr hx),fun _=>(putR_mem n n l).2 (.inl rfl)⟩
    rcases (putR_mem n x l).1 hx with rfl | hx
    · omega
    · exact h3 x hx
theorem putIf_len (l:List Int) (n:Int):(putIf l n).length ≤ l.length + 1:=by
  unfold putIf
  split
  · exact putR_len n l
  · omega
theorem point_ok {l:List Int} (s:Sp) (h:PtOk l):PtOk (Zb4 l s) ∧ (∀ x ∈ l,x ∈ Zb4 l s) ∧ (inB s.frm = true → s.frm ∈ Zb4 l s) ∧ (inB s.to = true → s.to ∈ Zb4 l s):=by
  obtain ⟨a1,a2,a3⟩:=putIf_ok s.frm h
  obtain ⟨b1,b2,b3⟩:=putIf_ok s.to a1
  exact ⟨b1,fun x hx=>b2 x (a2 x hx),fun e=>b2 _ (a3 e),b3⟩
theorem points_ok:∀ (l:List Sp) (p:List Int),PtOk p → PtOk (l.foldl Zb4 p) ∧ (∀ x ∈ p,x ∈ l.foldl Zb4 p) ∧ ∀ s ∈ l,(inB s.frm = true → s.frm ∈ l.foldl Zb4 p) ∧ (inB s.to = true → s.to ∈ l.foldl Zb4 p)
  | [],p,h=>⟨h,fun x hx=>hx,fun s hs=>by cases hs⟩
  | s :: r,p,h=>by
    obtain ⟨a1,a2,a3,a4⟩:=point_ok s h
    obtain ⟨b1,b2,b3⟩:=points_ok r _ a1
    refine ⟨b1,fun x hx=>b2 x (a2 x hx),fun t ht=>?_⟩
    rcases List.mem_cons.1 ht with rfl | ht
    · exact ⟨fun e=>b2 _ (a3 e),fun e=>b2 _ (a4 e)⟩
    · exact b3 t ht
theorem points_len:∀ (l:List Sp) (p:List Int),(l.foldl Zb4 p).length ≤ p.length + 2 * l.length
  | [],p=>by simp
  | s :: r,p=>by
    have h1:=points_len r (Zb4 p s)
    have h2:=putIf_len (putIf p s.frm) s.to
    have h3:=putIf_len p s.frm
    simp only [List.foldl_cons,List.length_cons,Zb4] at h1 ⊢
    omega
theorem pointsR_ok (l:List Sp):PtOk (Zb7 l) ∧ ∀ s ∈ l,(inB s.frm = true → s.frm ∈ Zb7 l) ∧ (inB s.to = true → s.to ∈ Zb7 l):=by
  have h:PtOk [0]:=⟨by simp,by simp,fun x hx=>by simp at hx; omega⟩
  obtain ⟨a1,_,a3⟩:=points_ok l [0] h
  exact ⟨a1,a3⟩
def hasB (l:List Sp) (d:Int):Bool:=l.any fun s=>decide (0 ≤ d) && (decide (d ≤ 1048576) && (decide (s.frm ≤ d) && decide (d < s.to)))
theorem hasB_iff (l:List Sp) (d:Int):hasB l d = true ↔ validD d ∧ memS l d:=by
  unfold hasB validD memS Zbv
  rw [List.any_eq_true]
  constructor
  · rintro ⟨s,hs,h⟩
    simp only [Bool.and_eq_true,decide_eq_true_eq] at h
    exact ⟨⟨by omega,by omega⟩,s,hs,h.2.2⟩
  · rintro ⟨⟨h1,h2⟩,s,hs,h⟩
    refine ⟨s,hs,?_⟩
    simp only [Bool.and_eq_true,decide_eq_true_eq]
    exact ⟨h1,by omega,h⟩
theorem hasB_norm (l:List Sp) (d:Int):hasB l d = memB (Zc2 l) d:=by
  rw [Bool.eq_iff_iff,hasB_iff,Zc6,(Zct l).2]
theorem hasB_kept (l:List Sp) (d:Int):hasB l d = true ↔ memS (Zdy l) d:=by rw [hasB_iff,kept_mem]
def mergeJ:List Sp → Sp → List Sp
  | [],x=>[x]
  | s :: r,x=>if s.to = x.frm then ⟨s.frm,x.to⟩ :: r else x :: s :: r
theorem mergeJ_eq:∀ (l acc:List Sp),(∀ s r,acc = s :: r → ∀ t ∈ l,s.to ≤ t.frm) → l.Pairwise (fun a b=>a.to ≤ b.frm) → (∀ s ∈ l,s.frm < s.to) → l.foldl mergeJ acc = l.foldl Zdg acc
  | [],_,_,_,_=>rfl
  | x :: l,acc,h1,h2,h3=>by
    obtain ⟨p1,p2⟩:=List.pairwise_cons.1 h2
    have hx:=h3 x (List.mem_cons_self ..)
    have e:mergeJ acc x = Zdg acc x:=by
      cases acc with
      | nil=>rfl
      | cons s r =>
        have:=h1 s r rfl x (List.mem_cons_self ..)
        simp only [mergeJ,Zdg]
        by_cases hc:s.to = x.frm
        · rw [if_pos hc,if_pos (by omega),if_pos (by omega)]
        · rw [if_neg hc,if_neg (by omega)]
    rw [List.foldl_cons,List.foldl_cons,e]
    refine mergeJ_eq l _ (fun s r hs t ht=>?_) p2 (fun s hs=>h3 s (List.mem_cons_of_mem _ hs))
    have hxt:=p1 t ht
    cases acc with
    | nil =>
      simp only [Zdg,List.cons.injEq] at hs
      rw [← hs.1]; exact hxt
    | cons s' r' =>
      have h4:=h1 s' r' rfl x (List.mem_cons_self ..)
      simp only [Zdg] at hs
      split at hs
      · simp only [List.cons.injEq] at hs
        rw [← hs.1]
        simp only []
        split <;> omega
      · simp only [List.cons.injEq] at hs
        rw [← hs.1]; exact hxt
theorem segs_sorted (p:Int → Bool):∀ C:List Int,C.Pairwise (· < ·) → (segs p C).Pairwise (fun a b=>a.to ≤ b.frm) ∧ (∀ s ∈ segs p C,s.frm < s.to ∧ s.frm ∈ C ∧ s.to ∈ C)
  | [],_=>⟨by simp [segs],fun s hs=>by simp [segs] at hs⟩
  | [x],_=>⟨by simp [segs],fun s hs=>by simp [segs] at hs⟩
  | a :: b :: r,h=>by
    obtain ⟨h1,h2⟩:=List.pairwise_cons.1 h
    obtain ⟨i1,i2⟩:=segs_sorted p (b :: r) h2
    have hab:=h1 b (List.mem_cons_self ..)
    simp only [segs]
    constructor
    · rw [List.pairwise_append]
      refine ⟨by split <;> simp,i1,fun x hx y hy=>?_⟩
      split at hx
      · rw [List.mem_singleton] at hx
        subst hx
        obtain ⟨_,hy2,_⟩:=i2 y hy
        simp only []
        rcases List.mem_cons.1 hy2 with e | e
        · omega
        · have:=(List.pairwise_cons.1 h2).1 _ e; omega
      · cases hx
    · intro s hs
      rcases List.mem_append.1 hs with hs | hs
      · split at hs
        · rw [List.mem_singleton] at hs
          subst hs
          exact ⟨hab,List.mem_cons_self ..,List.mem_cons_of_mem _ (List.mem_cons_self ..)⟩
        · cases hs
      · obtain ⟨k1,k2,k3⟩:=i2 s hs
        exact ⟨k1,List.mem_cons_of_mem _ k2,List.mem_cons_of_mem _ k3⟩
def ctR (ct:Bool → Bool → Bool) (a b:List Sp) (x:Int):Bool:=ct (hasB a x) (hasB b x)
def bothR (ct:Bool → Bool → Bool) (a b:List Sp):List Sp:=((segs (ctR ct a b) (Zb7 (a ++ b) ++ [Zbv])).foldl mergeJ []).reverse
theorem kept_ends {l m:List Sp} (h:∀ s ∈ l,s ∈ m):∀ s ∈ Zdy l,s.frm ∈ Zb7 m ++ [Zbv] ∧ s.to ∈ Zb7 m ++ [Zbv]:=by
  intro s hs
  obtain ⟨o1,o2,o3⟩:=kept_ok s hs
  simp only [Zdy,List.mem_filter,List.mem_map,decide_eq_true_eq] at hs
  obtain ⟨⟨x,hx,rfl⟩,hlt⟩:=hs
  obtain ⟨p1,p2⟩:=pointsR_ok m
  obtain ⟨q1,q2⟩:=p2 x (h x hx)
  simp only [clipS,Zbv] at o1 o2 o3 ⊢
  simp only [List.mem_append,List.mem_singleton]
  constructor
  · left
    by_cases hc:0 > x.frm
    · rw [if_pos hc]; exact p1.2.1
    · rw [if_neg hc] at o2 ⊢
      by_cases h0:x.frm = 0
      · rw [h0]; exact p1.2.1
      · refine q1 ?_
        simp only [inB,Bool.and_eq_true,decide_eq_true_eq]
        constructor
        · omega
        · split at o2 <;> omega
  · by_cases hc:1048577 < x.to
    · rw [if_pos hc]; exact .inr rfl
    · rw [if_neg hc] at o2 o3 ⊢
      by_cases h1:x.to = 1048577
      · exact .inr h1
      · left
        refine q2 ?_
        simp only [inB,Bool.and_eq_true,decide_eq_true_eq]
        constructor
        · split at o2 <;> omega
        · omega
theorem bothR_spec (ct:Bool → Bool → Bool) (h0:ct false false = false) (a b:List Sp):Canon (bothR ct a b) ∧ ∀ d,memS (bothR ct a b) d ↔ ct (hasB a d) (hasB b d) = true:=by
  obtain ⟨⟨p1,p2,p3⟩,_⟩:=pointsR_ok (a ++ b)
  have hs:(Zb7 (a ++ b) ++ [Zbv]).Pairwise (· < ·):=by
    rw [List.pairwise_append]
    refine ⟨p1,by simp,fun x hx y hy=>?_⟩
    rw [List.mem_singleton] at hy
    subst hy
    have:=p3 x hx
    simp only [Zbv]; omega
  have hb:∀ x ∈ Zb7 (a ++ b) ++ [Zbv],0 ≤ x ∧ x ≤ Zbv:=by
    intro x hx
    rcases List.mem_append.1 hx with h | h
    · have:=p3 x h; simp only [Zbv]; omega
    · rw [List.mem_singleton] at h; subst h; simp [Zbv]
  obtain ⟨s1,s2⟩:=segs_sorted (ctR ct a b) _ hs
  have hok:∀ s ∈ segs (ctR ct a b) (Zb7 (a ++ b) ++ [Zbv]),spOk s:=fun s hm=>by
    obtain ⟨k1,k2,k3⟩:=s2 s hm
    exact ⟨(hb _ k2).1,k1,(hb _ k3).2⟩
  have e:=mergeJ_eq (segs (ctR ct a b) (Zb7 (a ++ b) ++ [Zbv])) [] (fun s r h=>by cases h) s1 (fun s hm=>(s2 s hm).1)
  have hp:(segs (ctR ct a b) (Zb7 (a ++ b) ++ [Zbv])).Pairwise leF:=by
    rw [List.pairwise_iff_getElem] at s1 ⊢
    intro i j hi hj hij
    have h1:=s1 i j hi hj hij
    have h2:=(s2 _ (List.getElem_mem hi)).1
    simp only [leF]; omega
  obtain ⟨m1,m2⟩:=mergeAll_canon hok hp
  have hl:=fun d=>segs_law hs (A:=Zdy a) (B:=Zdy b) (kept_ends fun s h=>List.mem_append_left _ h) (kept_ends fun s h=>List.mem_append_right _ h) (hasB a) (hasB b) (hasB_kept a) (hasB_kept b) ct h0 d
  unfold bothR
  rw [e]
  exact ⟨m1,fun d=>(m2 d).trans (hl d)⟩
theorem both_same (ct:Bool → Bool → Bool) (h0:ct false false = false) (a b:List Sp):bothR ct a b = bothS ct a b:=by
  obtain ⟨h1,h2⟩:=both_spec ct h0 a b
  obtain ⟨h3,h4⟩:=bothR_spec ct h0 a b
  refine Zcd.unique h3 h1 fun d=>?_
  rw [h4,h2,hasB_norm,hasB_norm]
def ofR (l:List Sp):List Sp:=bothR ctOr l []
theorem hasB_nil (d:Int):hasB [] d = false:=rfl
theorem ofR_eq (l:List Sp):ofR l = Zc2 l:=by
  obtain ⟨h3,h4⟩:=bothR_spec ctOr rfl l []
  obtain ⟨h1,h2⟩:=Zct l
  refine Zcd.unique h3 h1 fun d=>?_
  unfold ofR
  rw [h4,h2,hasB_nil,ctOr,Bool.or_false,hasB_iff]
def untilR (l:List Sp) (day:Int):List Sp:=bothR ctAnd l [⟨0,day⟩]
theorem untilR_eq (l:List Sp) (day:Int):untilR l day = truncS l day:=both_same ctAnd rfl l _
def sinceR (l:List Sp) (day:Int):List Sp:=bothR ctOr (untilR l day) [⟨day,1048577⟩]
theorem sinceR_eq (l:List Sp) (day:Int):sinceR l day = Zce l day:=by
  unfold sinceR Zce
  rw [untilR_eq]
  exact both_same ctOr rfl _ _
theorem from_eq (day:Int):ofR [⟨day,1048577⟩] = Zce [] day:=by
  rw [ofR_eq]
  obtain ⟨h1,h2⟩:=Zct [⟨day,1048577⟩]
  obtain ⟨h3,h4⟩:=Zd0 [] day
  refine Zcd.unique h1 h3 fun d=>?_
  rw [h2,h4,mem_one]
  constructor
  · rintro ⟨h,k⟩; exact ⟨h,.inr k.1⟩
  · rintro ⟨h,k | k⟩
    · exact (Zcv _ k).elim
    · exact ⟨h,k,h.2⟩
end Go.Proofs.YtehokmhebnkfdaaGreat.c
namespace Go.Proofs.YtehokmhebnkfdaaGreat.c
open Go Go.VM
def days:List Nat:=List.range 1048577
theorem days_len:days.length = 1048577:=List.length_range
def cnt (p:Int → Bool):Nat:=days.countP fun n:Nat=>p (n:Int)
def edges (l:List Sp):List Int:=l.flatMap fun s=>s.frm :: (if s.to < 1048577 then [s.to] else [])
theorem edges_cons (s:Sp) (r:List Sp):edges (s :: r) = s.frm :: ((if s.to < 1048577 then [s.to] else []) ++ edges r):=by simp [edges]
end Go.Proofs.YtehokmhebnkfdaaGreat.c
