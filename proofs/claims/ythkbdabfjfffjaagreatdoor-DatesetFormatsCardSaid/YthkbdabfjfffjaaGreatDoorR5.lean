import Derived.Test.YthkbdabfjfffjaaGreatDoorSo
import Derived.Test.YthkbdabfjfffjaaGreatDoorVmG
import Derived.Lib.AtoiTie
import Derived.Lib.ItoaNum
import Derived.Test.YthkbdabfjfffjaaGreatDoorVmD
import Derived.Lib.ItoaMem
import Derived.Lib.Join
set_option linter.all false
namespace Go.Proofs.YthkbdabfjfffjaaGreatDoor.w
open Go Go.VM
set_option maxRecDepth 20000
set_option maxHeartbeats 0
set_option pp.deepTerms false
def c_dateset_Valid:VC:=(.seq (.region [ZO 2 (.mv (.c (.bool false)))] false) (.seq (.seq (.region [ZM 5 0,ZO 6 (.len false (.t 5)),ZO 7 (.mv (.c (.int .i64 0)))] false) (.block 0 (.loop (.seq (.region [ZO 8 (.bin .lss (.t 7) (.t 6))] false) (.seq (.cond (.t 8) .skip (.exit 0)) (.seq (.block 1 (.seq (.region [ZM 9 7,ZO 10 (.iaddr 2 (.t 5) (.t 7)),ZO 11 (.load true 2 (.t 10)),ZO 4 (.alloc [(.int .i64 0),(.int .i64 0)]),ZM 3 9,ZN (.store 2 (.t 4) (.t 11))] false) (.seq (.region [ZO 12 (.faddr 0 (.t 4)),ZO 13 (.load false 1 (.t 12)),ZO 14 (.bin .lss (.t 13) (.c (.int .i64 0))),ZM 15 14,ZG 16 (.faddr 1 (.t 4)) 15 false,ZG 17 (.load false 1 (.t 16)) 15 false,ZG 18 (.faddr 0 (.t 4)) 15 false,ZG 19 (.load false 1 (.t 18)) 15 false,ZG 20 (.bin .leq (.t 17) (.t 19)) 15 false,ZO 21 (.pick (.t 15) (.c (.bool true)) (.t 20)),ZM 22 21,ZG 23 (.faddr 1 (.t 4)) 22 false,ZG 24 (.load false 1 (.t 23)) 22 false,ZG 25 (.bin .gtr (.t 24) (.c (.int .i64 1048577))) 22 false,ZO 26 (.pick (.t 22) (.c (.bool true)) (.t 25)),ZM 27 26,ZG 28 (.mv (.t 3)) 27 false,ZG 29 (.bin .gtr (.t 28) (.c (.int .i64 0))) 27 false,ZG 30 (.mv (.t 29)) 27 false,ZG 31 (.faddr 0 (.t 4)) 30 true,ZG 32 (.load false 1 (.t 31)) 30 true,ZG 33 (.mv (.t 0)) 30 true,ZG 34 (.mv (.t 3)) 30 true,ZG 35 (.bin .sub (.t 34) (.c (.int .i64 1))) 30 true,ZG 36 (.iaddr 2 (.t 33) (.t 35)) 30 true,ZG 37 (.faddr 1 (.t 36)) 30 true,ZG 38 (.load false 1 (.t 37)) 30 true,ZG 39 (.bin .leq (.t 32) (.t 38)) 30 true,ZG 40 (.pick (.t 30) (.t 39) (.c (.bool false))) 27 false,ZO 41 (.pick (.t 27) (.c (.bool true)) (.t 40))] true) (.cond (.t 41) (.seq (.region [ZO 2 (.mv (.c (.bool false)))] false) .ret) .skip)))) (.region [ZO 42 (.bin .add (.t 7) (.c (.int .i64 1))),ZM 7 42] false))))))) (.seq (.region [ZM 43 0,ZO 44 (.len false (.t 43)),ZO 45 (.bin .leq (.t 44) (.c (.int .i64 4096))),ZM 2 45] false) .ret)))
def canonB:Int → List Sp → Bool
  | _,[]=>true
  | b,s :: r=>(!(decide (s.frm < 0) || (decide (s.to ≤ s.frm) || (decide (1048577 < s.to) || decide (s.frm ≤ b))))) && canonB s.to r
def Zcy (l:List Sp):Bool:=canonB (-1) l && decide (l.length ≤ 4096)
theorem canonB_iff:∀ (l:List Sp) (b:Int),-1 ≤ b → (canonB b l = true ↔ Zct b l)
  | [],b,_=>⟨fun _=>trivial,fun _=>rfl⟩
  | s :: r,b,hb=>by
    simp only [canonB,Zct,Bool.and_eq_true,Bool.not_eq_true',Bool.or_eq_false_iff,decide_eq_false_iff_not,Zch]
    constructor
    · rintro ⟨⟨h1,h2,h3,h4⟩,h5⟩
      exact ⟨by omega,by omega,by omega,(canonB_iff r s.to (by omega)).1 h5⟩
    · rintro ⟨h1,h2,h3,h4⟩
      exact ⟨⟨by omega,by omega,by omega,by omega⟩,(canonB_iff r s.to (by omega)).2 h4⟩
def lastTo (l:List Sp):Nat → Int
  | 0=>-1
  | j + 1=>(l.getD j ⟨0,0⟩).to
def badB (l:List Sp) (i:Nat) (s:Sp):Bool:=decide (s.frm < 0) || (decide (s.to ≤ s.frm) || (decide (1048577 < s.to) || (decide ((0:Int) < (i:Int)) && decide (s.frm ≤ lastTo l i))))
theorem bad_step (l:List Sp) (i:Nat) (h:i < l.length):canonB (lastTo l i) (l.drop i) = (!badB l i l[i] && canonB (lastTo l (i + 1)) (l.drop (i + 1))):=by
  rw [List.drop_eq_getElem_cons h,canonB]
  have e1:lastTo l (i + 1) = l[i].to:=by simp [lastTo,List.getD_eq_getElem?_getD,h]
  rw [e1]
  congr 2
  unfold badB
  cases i with
  | zero =>
    cases h1:decide (l[0].frm < 0) with
    | true=>rfl
    | false =>
      have h2:¬ l[0].frm ≤ -1:=by simp at h1; omega
      have:decide (l[0].frm ≤ lastTo l 0) = false:=decide_eq_false h2
      rw [this]; simp
  | succ j=>simp
theorem sp_dateset_Valid (l:List Sp) (hl:l.length ≤ 1000000):Zcn Tryz.prog 15 [.sl 2 (l.map Sp.enc)] (.bool (Zcy l)):=by
  refine Zb6 ?_ (cB _) (by simp only [Zce,List.mem_cons,List.not_mem_nil,or_false,forall_eq_or_imp,forall_eq,false_implies,implies_true]; repeat' (first  | exact cB _ | exact Zb9 _ | refine And.intro ?_ ?_))
  refine Zcc (vc:=c_dateset_Valid) (ts:=[.t 2]) Go.Proofs.Tryz.func15 (by kernel_rfl) rfl rfl (Nat.le_of_ble_eq_true rfl) (by kernel_rfl) ?_
  unfold c_dateset_Valid
  try dsimp only [ZM,ZO,ZN,ZG]
  refine Za9 (Zae [0] ?_)
  simp only [midQ,Zaa,Zah,Za8,Zao,Zav,Zbj,Za5,guardOf,Zac,Zau,Zaw,Zaf,Zag,Zax,Zbo,VOp.isIaddr,QW,dok,dval,VOp.pure,VOp.simple,VOp.det,pok,pval,VA.ev,Env.get,Env.put,Env.keep,Za0,Za6,Zay,retQ,resV,Zbl,RS.ev,RS.ok,gd,Zbn,isBool,aggV,intV,binV,Zbk,strV,Zby,Zb2,Zbe,unV,unOk,Zb0,isInt,isStr,numOf,loV,hiV,lenV,Zar,Zbf,Zat,Za4,Za3,Zad,Zbm,Zab,Zbd,Za1,Zak,idxV,Zb3,Zbq,extV,Zbz,Zbr,Zbb,mmV,PV.cells,PV.fits,overlay,PV.nth,PV.row,Zbx,Zan,Zbw,Zbh,Zbs,Zbp,Zap,Zbc,Zbg,Zas,Heap.get,Heap.set,Heap.del,Heap.le,HL.get,HL.set,HL.del,HL.le,Heap.push,Heap.nil,Nat.le_refl,Nat.add_eq_left,Nat.left_eq_add,Nat.succ_ne_self,Nat.one_ne_zero,Env.le,Za2,Zbu,Zam,Zbv,Zaj,Zbt,Zaz,Zal,eqOk,ekOk,Zai,Za7,Zba,Zaq,AB.live,pxV,pxOk,fxV,fxOk,Zb1,Zbi,isNil,notNil,List.map,List.set,List.replicate,List.length,List.getD_cons_zero,List.getD_cons_succ,List.getD_nil,List.take,List.drop,List.take_zero,List.drop_zero,List.take_succ_cons,List.drop_succ_cons,List.append,List.cons_append,List.nil_append,Option.map,Nat.reduceEqDiff,Nat.reduceAdd,Nat.reduceLT,Nat.reduceLeDiff,Nat.reduceSub,Nat.reduceMul,reduceIte,Bool.false_eq_true,Bool.true_eq_false,ite_true,ite_false,if_true,if_false,true_and,and_true,implies_true,forall_const,ne_eq,not_false_eq_true,reduceCtorEq,BEq.rfl,beq_self_eq_true,Option.some.injEq,Nat.zero_add,Nat.add_zero,List.length_cons,List.length_nil,true_implies,imp_self,Int.reduceToNat,Int.toNat_natCast,Bool.not_false,Bool.not_true]
  refine Za9 ?_
  refine Za9 (Zae [0,5,6,7] ?_)
  simp only [midQ,Zaa,Zah,Za8,Zao,Zav,Zbj,Za5,guardOf,Zac,Zau,Zaw,Zaf,Zag,Zax,Zbo,VOp.isIaddr,QW,dok,dval,VOp.pure,VOp.simple,VOp.det,pok,pval,VA.ev,Env.get,Env.put,Env.keep,Za0,Za6,Zay,retQ,resV,Zbl,RS.ev,RS.ok,gd,Zbn,isBool,aggV,intV,binV,Zbk,strV,Zby,Zb2,Zbe,unV,unOk,Zb0,isInt,isStr,numOf,loV,hiV,lenV,Zar,Zbf,Zat,Za4,Za3,Zad,Zbm,Zab,Zbd,Za1,Zak,idxV,Zb3,Zbq,extV,Zbz,Zbr,Zbb,mmV,PV.cells,PV.fits,overlay,PV.nth,PV.row,Zbx,Zan,Zbw,Zbh,Zbs,Zbp,Zap,Zbc,Zbg,Zas,Heap.get,Heap.set,Heap.del,Heap.le,HL.get,HL.set,HL.del,HL.le,Heap.push,Heap.nil,Nat.le_refl,Nat.add_eq_left,Nat.left_eq_add,Nat.succ_ne_self,Nat.one_ne_zero,Env.le,Za2,Zbu,Zam,Zbv,Zaj,Zbt,Zaz,Zal,eqOk,ekOk,Zai,Za7,Zba,Zaq,AB.live,pxV,pxOk,fxV,fxOk,Zb1,Zbi,isNil,notNil,List.map,List.set,List.replicate,List.length,List.getD_cons_zero,List.getD_cons_succ,List.getD_nil,List.take,List.drop,List.take_zero,List.drop_zero,List.take_succ_cons,List.drop_succ_cons,List.append,List.cons_append,List.nil_append,Option.map,Nat.reduceEqDiff,Nat.reduceAdd,Nat.reduceLT,Nat.reduceLeDiff,Nat.reduceSub,Nat.reduceMul,reduceIte,Bool.false_eq_true,Bool.true_eq_false,ite_true,ite_false,if_true,if_false,true_and,and_true,implies_true,forall_const,ne_eq,not_false_eq_true,reduceCtorEq,BEq.rfl,beq_self_eq_true,Option.some.injEq,Nat.zero_add,Nat.add_zero,List.length_cons,List.length_nil,true_implies,imp_self,Int.reduceToNat,Int.toNat_natCast,Bool.not_false,Bool.not_true,List.length_map]
  refine Zcb ?_
  refine Zcz (σ:={ s:Nat × Nat // s.1 ≤ l.length ∧ canonB (-1) l = canonB (lastTo l s.1) (l.drop s.1) }) (fun s=>([(0,.sl 2 (l.map Sp.enc)),(5,.sl 2 (l.map Sp.enc)),(6,pI l.length),(7,pI s.1.1)],⟨[],s.1.2⟩)) (fun s=>l.length - s.1.1) ⟨(0,0),by simp [lastTo]⟩ ?_ ?_ ?_
  · simp only [midQ,Zaa,Zah,Za8,Zao,Zav,Zbj,Za5,guardOf,Zac,Zau,Zaw,Zaf,Zag,Zax,Zbo,VOp.isIaddr,QW,dok,dval,VOp.pure,VOp.simple,VOp.det,pok,pval,VA.ev,Env.get,Env.put,Env.keep,Za0,Za6,Zay,retQ,resV,Zbl,RS.ev,RS.ok,gd,Zbn,isBool,aggV,intV,binV,Zbk,strV,Zby,Zb2,Zbe,unV,unOk,Zb0,isInt,isStr,numOf,loV,hiV,lenV,Zar,Zbf,Zat,Za4,Za3,Zad,Zbm,Zab,Zbd,Za1,Zak,idxV,Zb3,Zbq,extV,Zbz,Zbr,Zbb,mmV,PV.cells,PV.fits,overlay,PV.nth,PV.row,Zbx,Zan,Zbw,Zbh,Zbs,Zbp,Zap,Zbc,Zbg,Zas,Heap.get,Heap.set,Heap.del,Heap.le,HL.get,HL.set,HL.del,HL.le,Heap.push,Heap.nil,Nat.le_refl,Nat.add_eq_left,Nat.left_eq_add,Nat.succ_ne_self,Nat.one_ne_zero,Env.le,Za2,Zbu,Zam,Zbv,Zaj,Zbt,Zaz,Zal,eqOk,ekOk,Zai,Za7,Zba,Zaq,AB.live,pxV,pxOk,fxV,fxOk,Zb1,Zbi,isNil,notNil,List.map,List.set,List.replicate,List.length,List.getD_cons_zero,List.getD_cons_succ,List.getD_nil,List.take,List.drop,List.take_zero,List.drop_zero,List.take_succ_cons,List.drop_succ_cons,List.append,List.cons_append,List.nil_append,Option.map,Nat.reduceEqDiff,Nat.reduceAdd,Nat.reduceLT,Nat.reduceLeDiff,Nat.reduceSub,Nat.reduceMul,reduceIte,Bool.false_eq_true,Bool.true_eq_false,ite_true,ite_false,if_true,if_false,true_and,and_true,implies_true,forall_const,ne_eq,not_false_eq_true,reduceCtorEq,BEq.rfl,beq_self_eq_true,Option.some.injEq,Nat.zero_add,Nat.add_zero,List.length_cons,List.length_nil,true_implies,imp_self,Int.reduceToNat,Int.toNat_natCast,Bool.not_false,Bool.not_true]
    rfl
  · simp only [midQ,Zaa,Zah,Za8,Zao,Zav,Zbj,Za5,guardOf,Zac,Zau,Zaw,Zaf,Zag,Zax,Zbo,VOp.isIaddr,QW,dok,dval,VOp.pure,VOp.simple,VOp.det,pok,pval,VA.ev,Env.get,Env.put,Env.keep,Za0,Za6,Zay,retQ,resV,Zbl,RS.ev,RS.ok,gd,Zbn,isBool,aggV,intV,binV,Zbk,strV,Zby,Zb2,Zbe,unV,unOk,Zb0,isInt,isStr,numOf,loV,hiV,lenV,Zar,Zbf,Zat,Za4,Za3,Zad,Zbm,Zab,Zbd,Za1,Zak,idxV,Zb3,Zbq,extV,Zbz,Zbr,Zbb,mmV,PV.cells,PV.fits,overlay,PV.nth,PV.row,Zbx,Zan,Zbw,Zbh,Zbs,Zbp,Zap,Zbc,Zbg,Zas,Heap.get,Heap.set,Heap.del,Heap.le,HL.get,HL.set,HL.del,HL.le,Heap.push,Heap.nil,Nat.le_refl,Nat.add_eq_left,Nat.left_eq_add,Nat.succ_ne_self,Nat.one_ne_zero,Env.le,Za2,Zbu,Zam,Zbv,Zaj,Zbt,Zaz,Zal,eqOk,ekOk,Zai,Za7,Zba,Zaq,AB.live,pxV,pxOk,fxV,fxOk,Zb1,Zbi,isNil,notNil,List.map,List.set,List.replicate,List.length,List.getD_cons_zero,List.getD_cons_succ,List.getD_nil,List.take,List.drop,List.take_zero,List.drop_zero,List.take_succ_cons,List.drop_succ_cons,List.append,List.cons_append,List.nil_append,Option.map,Nat.reduceEqDiff,Nat.reduceAdd,Nat.reduceLT,Nat.reduceLeDiff,Nat.reduceSub,Nat.reduceMul,reduceIte,Bool.false_eq_true,Bool.true_eq_false,ite_true,ite_false,if_true,if_false,true_and,and_true,implies_true,forall_const,ne_eq,not_false_eq_true,reduceCtorEq,BEq.rfl,beq_self_eq_true,Option.some.injEq,Nat.zero_add,Nat.add_zero,List.length_cons,List.length_nil,true_implies,imp_self,Int.reduceToNat,Int.toNat_natCast,Bool.not_false,Bool.not_true]
  rintro ⟨⟨i,n⟩,hi,hpre⟩
  simp only [] at hi hpre ⊢
  refine Za9 (Zae [0,5,6,7,8] ?_)
  simp only [midQ,Zaa,Zah,Za8,Zao,Zav,Zbj,Za5,guardOf,Zac,Zau,Zaw,Zaf,Zag,Zax,Zbo,VOp.isIaddr,QW,dok,dval,VOp.pure,VOp.simple,VOp.det,pok,pval,VA.ev,Env.get,Env.put,Env.keep,Za0,Za6,Zay,retQ,resV,Zbl,RS.ev,RS.ok,gd,Zbn,isBool,aggV,intV,binV,Zbk,strV,Zby,Zb2,Zbe,unV,unOk,Zb0,isInt,isStr,numOf,loV,hiV,lenV,Zar,Zbf,Zat,Za4,Za3,Zad,Zbm,Zab,Zbd,Za1,Zak,idxV,Zb3,Zbq,extV,Zbz,Zbr,Zbb,mmV,PV.cells,PV.fits,overlay,PV.nth,PV.row,Zbx,Zan,Zbw,Zbh,Zbs,Zbp,Zap,Zbc,Zbg,Zas,Heap.get,Heap.set,Heap.del,Heap.le,HL.get,HL.set,HL.del,HL.le,Heap.push,Heap.nil,Nat.le_refl,Nat.add_eq_left,Nat.left_eq_add,Nat.succ_ne_self,Nat.one_ne_zero,Env.le,Za2,Zbu,Zam,Zbv,Zaj,Zbt,Zaz,Zal,eqOk,ekOk,Zai,Za7,Zba,Zaq,AB.live,pxV,pxOk,fxV,fxOk,Zb1,Zbi,isNil,notNil,List.map,List.set,List.replicate,List.length,List.getD_cons_zero,List.getD_cons_succ,List.getD_nil,List.take,List.drop,List.take_zero,List.drop_zero,List.take_succ_cons,List.drop_succ_cons,List.append,List.cons_append,List.nil_append,Option.map,Nat.reduceEqDiff,Nat.reduceAdd,Nat.reduceLT,Nat.reduceLeDiff,Nat.reduceSub,Nat.reduceMul,reduceIte,Bool.false_eq_true,Bool.true_eq_false,ite_true,ite_false,if_true,if_false,true_and,and_true,implies_true,forall_const,ne_eq,not_false_eq_true,reduceCtorEq,BEq.rfl,beq_self_eq_true,Option.some.injEq,Nat.zero_add,Nat.add_zero,List.length_cons,List.length_nil,true_implies,imp_self,Int.reduceToNat,Int.toNat_natCast,Bool.not_false,Bool.not_true]
  refine Za9 ?_
  refine Zb4 rfl (fun h1=>?_) (fun h1=>?_)
  · refine Zb8 ?_
    try simp only [midQ,Zaa,Zah,Za8,Zao,Zav,Zbj,Za5,guardOf,Zac,Zau,Zaw,Zaf,Zag,Zax,Zbo,VOp.isIaddr,QW,dok,dval,VOp.pure,VOp.simple,VOp.det,pok,pval,VA.ev,Env.get,Env.put,Env.keep,Za0,Za6,Zay,retQ,resV,Zbl,RS.ev,RS.ok,gd,Zbn,isBool,aggV,intV,binV,Zbk,strV,Zby,Zb2,Zbe,unV,unOk,Zb0,isInt,isStr,numOf,loV,hiV,lenV,Zar,Zbf,Zat,Za4,Za3,Zad,Zbm,Zab,Zbd,Za1,Zak,idxV,Zb3,Zbq,extV,Zbz,Zbr,Zbb,mmV,PV.cells,PV.fits,overlay,PV.nth,PV.row,Zbx,Zan,Zbw,Zbh,Zbs,Zbp,Zap,Zbc,Zbg,Zas,Heap.get,Heap.set,Heap.del,Heap.le,HL.get,HL.set,HL.del,HL.le,Heap.push,Heap.nil,Nat.le_refl,Nat.add_eq_left,Nat.left_eq_add,Nat.succ_ne_self,Nat.one_ne_zero,Env.le,Za2,Zbu,Zam,Zbv,Zaj,Zbt,Zaz,Zal,eqOk,ekOk,Zai,Za7,Zba,Zaq,AB.live,pxV,pxOk,fxV,fxOk,Zb1,Zbi,isNil,notNil,List.map,List.set,List.replicate,List.length,List.getD_cons_zero,List.getD_cons_succ,List.getD_nil,List.take,List.drop,List.take_zero,List.drop_zero,List.take_succ_cons,List.drop_succ_cons,List.append,List.cons_append,List.nil_append,Option.map,Nat.reduceEqDiff,Nat.reduceAdd,Nat.reduceLT,Nat.reduceLeDiff,Nat.reduceSub,Nat.reduceMul,reduceIte,Bool.false_eq_true,Bool.true_eq_false,ite_true,ite_false,if_true,if_false,true_and,and_true,implies_true,forall_const,ne_eq,not_false_eq_true,reduceCtorEq,BEq.rfl,beq_self_eq_true,Option.some.injEq,Nat.zero_add,Nat.add_zero,List.length_cons,List.length_nil,true_implies,imp_self,Int.reduceToNat,Int.toNat_natCast,Bool.not_false,Bool.not_true]
    simp only [decide_eq_true_eq] at h1
    have ia:i < l.length:=by omega
    have hb:=bad_step l i ia
    refine Za9 ?_
    refine Zcb ?_
    refine Za9 (Zae [0,3,4,5,6,7] ?_)
    simp only [midQ,Zaa,Zah,Za8,Zao,Zav,Zbj,Za5,guardOf,Zac,Zau,Zaw,Zaf,Zag,Zax,Zbo,VOp.isIaddr,QW,dok,dval,VOp.pure,VOp.simple,VOp.det,pok,pval,VA.ev,Env.get,Env.put,Env.keep,Za0,Za6,Zay,retQ,resV,Zbl,RS.ev,RS.ok,gd,Zbn,isBool,aggV,intV,binV,Zbk,strV,Zby,Zb2,Zbe,unV,unOk,Zb0,isInt,isStr,numOf,loV,hiV,lenV,Zar,Zbf,Zat,Za4,Za3,Zad,Zbm,Zab,Zbd,Za1,Zak,idxV,Zb3,Zbq,extV,Zbz,Zbr,Zbb,mmV,PV.cells,PV.fits,overlay,PV.nth,PV.row,Zbx,Zan,Zbw,Zbh,Zbs,Zbp,Zap,Zbc,Zbg,Zas,Heap.get,Heap.set,Heap.del,Heap.le,HL.get,HL.set,HL.del,HL.le,Heap.push,Heap.nil,Nat.le_refl,Nat.add_eq_left,Nat.left_eq_add,Nat.succ_ne_self,Nat.one_ne_zero,Env.le,Za2,Zbu,Zam,Zbv,Zaj,Zbt,Zaz,Zal,eqOk,ekOk,Zai,Za7,Zba,Zaq,AB.live,pxV,pxOk,fxV,fxOk,Zb1,Zbi,isNil,notNil,List.map,List.set,List.replicate,List.length,List.getD_cons_zero,List.getD_cons_succ,List.getD_nil,List.take,List.drop,List.take_zero,List.drop_zero,List.take_succ_cons,List.drop_succ_cons,List.append,List.cons_append,List.nil_append,Option.map,Nat.reduceEqDiff,Nat.reduceAdd,Nat.reduceLT,Nat.reduceLeDiff,Nat.reduceSub,Nat.reduceMul,reduceIte,Bool.false_eq_true,Bool.true_eq_false,ite_true,ite_false,if_true,if_false,true_and,and_true,implies_true,forall_const,ne_eq,not_false_eq_true,reduceCtorEq,BEq.rfl,beq_self_eq_true,Option.some.injEq,Nat.zero_add,Nat.add_zero,List.length_cons,List.length_nil,true_implies,imp_self,Int.reduceToNat,Int.toNat_natCast,Bool.not_false,Bool.not_true,List.length_map,rowm ia,Sp.enc]
    repeat (with_reducible refine And.intro ?_ ?_; first | omega | (with_reducible constructor <;> omega) | exact False.elim | exact True.intro)
    refine Za9 (VW_mid (σ:=Unit) (fun _=>([(0,.sl 2 (l.map Sp.enc)),(5,.sl 2 (l.map Sp.enc)),(6,pI l.length),(7,pI i),(41,.bool (badB l i l[i]))],⟨[],n + 1⟩)) (VW_drawS [0,5,6,7,41] (by simp [Heap.le,Heap.get,HL.le,HL.get]) ?_) (fun _=>?_))
    · unfold badB
      cases e1:decide (l[i].frm < 0) with
      | true =>
        simp only [midQ,Zaa,Zah,Za8,Zao,Zav,Zbj,Za5,guardOf,Zac,Zau,Zaw,Zaf,Zag,Zax,Zbo,VOp.isIaddr,QW,dok,dval,VOp.pure,VOp.simple,VOp.det,pok,pval,VA.ev,Env.get,Env.put,Env.keep,Za0,Za6,Zay,retQ,resV,Zbl,RS.ev,RS.ok,gd,Zbn,isBool,aggV,intV,binV,Zbk,strV,Zby,Zb2,Zbe,unV,unOk,Zb0,isInt,isStr,numOf,loV,hiV,lenV,Zar,Zbf,Zat,Za4,Za3,Zad,Zbm,Zab,Zbd,Za1,Zak,idxV,Zb3,Zbq,extV,Zbz,Zbr,Zbb,mmV,PV.cells,PV.fits,overlay,PV.nth,PV.row,Zbx,Zan,Zbw,Zbh,Zbs,Zbp,Zap,Zbc,Zbg,Zas,Heap.get,Heap.set,Heap.del,Heap.le,HL.get,HL.set,HL.del,HL.le,Heap.push,Heap.nil,Nat.le_refl,Nat.add_eq_left,Nat.left_eq_add,Nat.succ_ne_self,Nat.one_ne_zero,Env.le,Za2,Zbu,Zam,Zbv,Zaj,Zbt,Zaz,Zal,eqOk,ekOk,Zai,Za7,Zba,Zaq,AB.live,pxV,pxOk,fxV,fxOk,Zb1,Zbi,isNil,notNil,List.map,List.set,List.replicate,List.length,List.getD_cons_zero,List.getD_cons_succ,List.getD_nil,List.take,List.drop,List.take_zero,List.drop_zero,List.take_succ_cons,List.drop_succ_cons,List.append,List.cons_append,List.nil_append,Option.map,Nat.reduceEqDiff,Nat.reduceAdd,Nat.reduceLT,Nat.reduceLeDiff,Nat.reduceSub,Nat.reduceMul,reduceIte,Bool.false_eq_true,Bool.true_eq_false,ite_true,ite_false,if_true,if_false,true_and,and_true,implies_true,forall_const,ne_eq,not_false_eq_true,reduceCtorEq,BEq.rfl,beq_self_eq_true,Option.some.injEq,Nat.zero_add,Nat.add_zero,List.length_cons,List.length_nil,true_implies,imp_self,Int.reduceToNat,Int.toNat_natCast,Bool.not_false,Bool.not_true,e1]
        exact ⟨(),by first | trivial | rfl⟩
      | false =>
        cases e2:decide (l[i].to ≤ l[i].frm) with
        | true =>
          simp only [midQ,Zaa,Zah,Za8,Zao,Zav,Zbj,Za5,guardOf,Zac,Zau,Zaw,Zaf,Zag,Zax,Zbo,VOp.isIaddr,QW,dok,dval,VOp.pure,VOp.simple,VOp.det,pok,pval,VA.ev,Env.get,Env.put,Env.keep,Za0,Za6,Zay,retQ,resV,Zbl,RS.ev,RS.ok,gd,Zbn,isBool,aggV,intV,binV,Zbk,strV,Zby,Zb2,Zbe,unV,unOk,Zb0,isInt,isStr,numOf,loV,hiV,lenV,Zar,Zbf,Zat,Za4,Za3,Zad,Zbm,Zab,Zbd,Za1,Zak,idxV,Zb3,Zbq,extV,Zbz,Zbr,Zbb,mmV,PV.cells,PV.fits,overlay,PV.nth,PV.row,Zbx,Zan,Zbw,Zbh,Zbs,Zbp,Zap,Zbc,Zbg,Zas,Heap.get,Heap.set,Heap.del,Heap.le,HL.get,HL.set,HL.del,HL.le,Heap.push,Heap.nil,Nat.le_refl,Nat.add_eq_left,Nat.left_eq_add,Nat.succ_ne_self,Nat.one_ne_zero,Env.le,Za2,Zbu,Zam,Zbv,Zaj,Zbt,Zaz,Zal,eqOk,ekOk,Zai,Za7,Zba,Zaq,AB.live,pxV,pxOk,fxV,fxOk,Zb1,Zbi,isNil,notNil,List.map,List.set,List.replicate,List.length,List.getD_cons_zero,List.getD_cons_succ,List.getD_nil,List.take,List.drop,List.take_zero,List.drop_zero,List.take_succ_cons,List.drop_succ_cons,List.append,List.cons_append,List.nil_append,Option.map,Nat.reduceEqDiff,Nat.reduceAdd,Nat.reduceLT,Nat.reduceLeDiff,Nat.reduceSub,Nat.reduceMul,reduceIte,Bool.false_eq_true,Bool.true_eq_false,ite_true,ite_false,if_true,if_false,true_and,and_true,implies_true,forall_const,ne_eq,not_false_eq_true,reduceCtorEq,BEq.rfl,beq_self_eq_true,Option.some.injEq,Nat.zero_add,Nat.add_zero,List.length_cons,List.length_nil,true_implies,imp_self,Int.reduceToNat,Int.toNat_natCast,Bool.not_false,Bool.not_true,e1,e2]
          exact ⟨(),by first | trivial | rfl⟩
        | false =>
          cases e3:decide (1048577 < l[i].to) with
          | true =>
            simp only [midQ,Zaa,Zah,Za8,Zao,Zav,Zbj,Za5,guardOf,Zac,Zau,Zaw,Zaf,Zag,Zax,Zbo,VOp.isIaddr,QW,dok,dval,VOp.pure,VOp.simple,VOp.det,pok,pval,VA.ev,Env.get,Env.put,Env.keep,Za0,Za6,Zay,retQ,resV,Zbl,RS.ev,RS.ok,gd,Zbn,isBool,aggV,intV,binV,Zbk,strV,Zby,Zb2,Zbe,unV,unOk,Zb0,isInt,isStr,numOf,loV,hiV,lenV,Zar,Zbf,Zat,Za4,Za3,Zad,Zbm,Zab,Zbd,Za1,Zak,idxV,Zb3,Zbq,extV,Zbz,Zbr,Zbb,mmV,PV.cells,PV.fits,overlay,PV.nth,PV.row,Zbx,Zan,Zbw,Zbh,Zbs,Zbp,Zap,Zbc,Zbg,Zas,Heap.get,Heap.set,Heap.del,Heap.le,HL.get,HL.set,HL.del,HL.le,Heap.push,Heap.nil,Nat.le_refl,Nat.add_eq_left,Nat.left_eq_add,Nat.succ_ne_self,Nat.one_ne_zero,Env.le,Za2,Zbu,Zam,Zbv,Zaj,Zbt,Zaz,Zal,eqOk,ekOk,Zai,Za7,Zba,Zaq,AB.live,pxV,pxOk,fxV,fxOk,Zb1,Zbi,isNil,notNil,List.map,List.set,List.replicate,List.length,List.getD_cons_zero,List.getD_cons_succ,List.getD_nil,List.take,List.drop,List.take_zero,List.drop_zero,List.take_succ_cons,List.drop_succ_cons,List.append,List.cons_append,List.nil_append,Option.map,Nat.reduceEqDiff,Nat.reduceAdd,Nat.reduceLT,Nat.reduceLeDiff,Nat.reduceSub,Nat.reduceMul,reduceIte,Bool.false_eq_true,Bool.true_eq_false,ite_true,ite_false,if_true,if_false,true_and,and_true,implies_true,forall_const,ne_eq,not_false_eq_true,reduceCtorEq,BEq.rfl,beq_self_eq_true,Option.some.injEq,Nat.zero_add,Nat.add_zero,List.length_cons,List.length_nil,true_implies,imp_self,Int.reduceToNat,Int.toNat_natCast,Bool.not_false,Bool.not_true,e1,e2,e3]
            exact ⟨(),by first | trivial | rfl⟩
          | false =>
            cases i with
            | zero =>
              have e0:decide ((0:Int) < ((0:Nat):Int)) = false:=rfl
              simp only [midQ,Zaa,Zah,Za8,Zao,Zav,Zbj,Za5,guardOf,Zac,Zau,Zaw,Zaf,Zag,Zax,Zbo,VOp.isIaddr,QW,dok,dval,VOp.pure,VOp.simple,VOp.det,pok,pval,VA.ev,Env.get,Env.put,Env.keep,Za0,Za6,Zay,retQ,resV,Zbl,RS.ev,RS.ok,gd,Zbn,isBool,aggV,intV,binV,Zbk,strV,Zby,Zb2,Zbe,unV,unOk,Zb0,isInt,isStr,numOf,loV,hiV,lenV,Zar,Zbf,Zat,Za4,Za3,Zad,Zbm,Zab,Zbd,Za1,Zak,idxV,Zb3,Zbq,extV,Zbz,Zbr,Zbb,mmV,PV.cells,PV.fits,overlay,PV.nth,PV.row,Zbx,Zan,Zbw,Zbh,Zbs,Zbp,Zap,Zbc,Zbg,Zas,Heap.get,Heap.set,Heap.del,Heap.le,HL.get,HL.set,HL.del,HL.le,Heap.push,Heap.nil,Nat.le_refl,Nat.add_eq_left,Nat.left_eq_add,Nat.succ_ne_self,Nat.one_ne_zero,Env.le,Za2,Zbu,Zam,Zbv,Zaj,Zbt,Zaz,Zal,eqOk,ekOk,Zai,Za7,Zba,Zaq,AB.live,pxV,pxOk,fxV,fxOk,Zb1,Zbi,isNil,notNil,List.map,List.set,List.replicate,List.length,List.getD_cons_zero,List.getD_cons_succ,List.getD_nil,List.take,List.drop,List.take_zero,List.drop_zero,List.take_succ_cons,List.drop_succ_cons,List.append,List.cons_append,List.nil_append,Option.map,Nat.reduceEqDiff,Nat.reduceAdd,Nat.reduceLT,Nat.reduceLeDiff,Nat.reduceSub,Nat.reduceMul,reduceIte,Bool.false_eq_true,Bool.true_eq_false,ite_true,ite_false,if_true,if_false,true_and,and_true,implies_true,forall_const,ne_eq,not_false_eq_true,reduceCtorEq,BEq.rfl,beq_self_eq_true,Option.some.injEq,Nat.zero_add,Nat.add_zero,List.length_cons,List.length_nil,true_implies,imp_self,Int.reduceToNat,Int.toNat_natCast,Bool.not_false,Bool.not_true,e1,e2,e3,e0]
              exact ⟨(),by first | trivial | rfl⟩
            | succ j =>
              have ja:j < l.length:=by omega
              have e0:decide ((0:Int) < ((j + 1:Nat):Int)) = true:=by simp
              have e4:IntKind.i64.wrap (((j + 1:Nat):Int) - 1) = (j:Int):=by rw [w64 (by omega) (by omega)]; omega
              have e5:lastTo l (j + 1) = l[j].to:=by simp [lastTo,List.getD_eq_getElem?_getD,ja]
              simp only [midQ,Zaa,Zah,Za8,Zao,Zav,Zbj,Za5,guardOf,Zac,Zau,Zaw,Zaf,Zag,Zax,Zbo,VOp.isIaddr,QW,dok,dval,VOp.pure,VOp.simple,VOp.det,pok,pval,VA.ev,Env.get,Env.put,Env.keep,Za0,Za6,Zay,retQ,resV,Zbl,RS.ev,RS.ok,gd,Zbn,isBool,aggV,intV,binV,Zbk,strV,Zby,Zb2,Zbe,unV,unOk,Zb0,isInt,isStr,numOf,loV,hiV,lenV,Zar,Zbf,Zat,Za4,Za3,Zad,Zbm,Zab,Zbd,Za1,Zak,idxV,Zb3,Zbq,extV,Zbz,Zbr,Zbb,mmV,PV.cells,PV.fits,overlay,PV.nth,PV.row,Zbx,Zan,Zbw,Zbh,Zbs,Zbp,Zap,Zbc,Zbg,Zas,Heap.get,Heap.set,Heap.del,Heap.le,HL.get,HL.set,HL.del,HL.le,Heap.push,Heap.nil,Nat.le_refl,Nat.add_eq_left,Nat.left_eq_add,Nat.succ_ne_self,Nat.one_ne_zero,Env.le,Za2,Zbu,Zam,Zbv,Zaj,Zbt,Zaz,Zal,eqOk,ekOk,Zai,Za7,Zba,Zaq,AB.live,pxV,pxOk,fxV,fxOk,Zb1,Zbi,isNil,notNil,List.map,List.set,List.replicate,List.length,List.getD_cons_zero,List.getD_cons_succ,List.getD_nil,List.take,List.drop,List.take_zero,List.drop_zero,List.take_succ_cons,List.drop_succ_cons,List.append,List.cons_append,List.nil_append,Option.map,Nat.reduceEqDiff,Nat.reduceAdd,Nat.reduceLT,Nat.reduceLeDiff,Nat.reduceSub,Nat.reduceMul,reduceIte,Bool.false_eq_true,Bool.true_eq_false,ite_true,ite_false,if_true,if_false,true_and,and_true,implies_true,forall_const,ne_eq,not_false_eq_true,reduceCtorEq,BEq.rfl,beq_self_eq_true,Option.some.injEq,Nat.zero_add,Nat.add_zero,List.length_cons,List.length_nil,true_implies,imp_self,Int.reduceToNat,Int.toNat_natCast,Bool.not_false,Bool.not_true,e1,e2,e3,e0,e4,e5,List.length_map,rowm ja,Sp.enc]
              repeat (with_reducible refine And.intro ?_ ?_; first | omega | (with_reducible constructor <;> omega) | exact False.elim | exact True.intro)
              exact ⟨(),by first | trivial | rfl⟩
    refine Zb4 rfl (fun h2=>?_) (fun h2=>?_)
    · refine Za9 (Zae [2] ?_)
      simp only [midQ,Zaa,Zah,Za8,Zao,Zav,Zbj,Za5,guardOf,Zac,Zau,Zaw,Zaf,Zag,Zax,Zbo,VOp.isIaddr,QW,dok,dval,VOp.pure,VOp.simple,VOp.det,pok,pval,VA.ev,Env.get,Env.put,Env.keep,Za0,Za6,Zay,retQ,resV,Zbl,RS.ev,RS.ok,gd,Zbn,isBool,aggV,intV,binV,Zbk,strV,Zby,Zb2,Zbe,unV,unOk,Zb0,isInt,isStr,numOf,loV,hiV,lenV,Zar,Zbf,Zat,Za4,Za3,Zad,Zbm,Zab,Zbd,Za1,Zak,idxV,Zb3,Zbq,extV,Zbz,Zbr,Zbb,mmV,PV.cells,PV.fits,overlay,PV.nth,PV.row,Zbx,Zan,Zbw,Zbh,Zbs,Zbp,Zap,Zbc,Zbg,Zas,Heap.get,Heap.set,Heap.del,Heap.le,HL.get,HL.set,HL.del,HL.le,Heap.push,Heap.nil,Nat.le_refl,Nat.add_eq_left,Nat.left_eq_add,Nat.succ_ne_self,Nat.one_ne_zero,Env.le,Za2,Zbu,Zam,Zbv,Zaj,Zbt,Zaz,Zal,eqOk,ekOk,Zai,Za7,Zba,Zaq,AB.live,pxV,pxOk,fxV,fxOk,Zb1,Zbi,isNil,notNil,List.map,List.set,List.replicate,List.length,List.getD_cons_zero,List.getD_cons_succ,List.getD_nil,List.take,List.drop,List.take_zero,List.drop_zero,List.take_succ_cons,List.drop_succ_cons,List.append,List.cons_append,List.nil_append,Option.map,Nat.reduceEqDiff,Nat.reduceAdd,Nat.reduceLT,Nat.reduceLeDiff,Nat.reduceSub,Nat.reduceMul,reduceIte,Bool.false_eq_true,Bool.true_eq_false,ite_true,ite_false,if_true,if_false,true_and,and_true,implies_true,forall_const,ne_eq,not_false_eq_true,reduceCtorEq,BEq.rfl,beq_self_eq_true,Option.some.injEq,Nat.zero_add,Nat.add_zero,List.length_cons,List.length_nil,true_implies,imp_self,Int.reduceToNat,Int.toNat_natCast,Bool.not_false,Bool.not_true]
      refine Zca ?_
      try simp only [midQ,Zaa,Zah,Za8,Zao,Zav,Zbj,Za5,guardOf,Zac,Zau,Zaw,Zaf,Zag,Zax,Zbo,VOp.isIaddr,QW,dok,dval,VOp.pure,VOp.simple,VOp.det,pok,pval,VA.ev,Env.get,Env.put,Env.keep,Za0,Za6,Zay,retQ,resV,Zbl,RS.ev,RS.ok,gd,Zbn,isBool,aggV,intV,binV,Zbk,strV,Zby,Zb2,Zbe,unV,unOk,Zb0,isInt,isStr,numOf,loV,hiV,lenV,Zar,Zbf,Zat,Za4,Za3,Zad,Zbm,Zab,Zbd,Za1,Zak,idxV,Zb3,Zbq,extV,Zbz,Zbr,Zbb,mmV,PV.cells,PV.fits,overlay,PV.nth,PV.row,Zbx,Zan,Zbw,Zbh,Zbs,Zbp,Zap,Zbc,Zbg,Zas,Heap.get,Heap.set,Heap.del,Heap.le,HL.get,HL.set,HL.del,HL.le,Heap.push,Heap.nil,Nat.le_refl,Nat.add_eq_left,Nat.left_eq_add,Nat.succ_ne_self,Nat.one_ne_zero,Env.le,Za2,Zbu,Zam,Zbv,Zaj,Zbt,Zaz,Zal,eqOk,ekOk,Zai,Za7,Zba,Zaq,AB.live,pxV,pxOk,fxV,fxOk,Zb1,Zbi,isNil,notNil,List.map,List.set,List.replicate,List.length,List.getD_cons_zero,List.getD_cons_succ,List.getD_nil,List.take,List.drop,List.take_zero,List.drop_zero,List.take_succ_cons,List.drop_succ_cons,List.append,List.cons_append,List.nil_append,Option.map,Nat.reduceEqDiff,Nat.reduceAdd,Nat.reduceLT,Nat.reduceLeDiff,Nat.reduceSub,Nat.reduceMul,reduceIte,Bool.false_eq_true,Bool.true_eq_false,ite_true,ite_false,if_true,if_false,true_and,and_true,implies_true,forall_const,ne_eq,not_false_eq_true,reduceCtorEq,BEq.rfl,beq_self_eq_true,Option.some.injEq,Nat.zero_add,Nat.add_zero,List.length_cons,List.length_nil,true_implies,imp_self,Int.reduceToNat,Int.toNat_natCast,Bool.not_false,Bool.not_true]
      have e:Zcy l = false:=by unfold Zcy; rw [hpre,hb,h2]; rfl
      rw [e]
      exact View.refl _ _
    refine Zb8 ?_
    try simp only [midQ,Zaa,Zah,Za8,Zao,Zav,Zbj,Za5,guardOf,Zac,Zau,Zaw,Zaf,Zag,Zax,Zbo,VOp.isIaddr,QW,dok,dval,VOp.pure,VOp.simple,VOp.det,pok,pval,VA.ev,Env.get,Env.put,Env.keep,Za0,Za6,Zay,retQ,resV,Zbl,RS.ev,RS.ok,gd,Zbn,isBool,aggV,intV,binV,Zbk,strV,Zby,Zb2,Zbe,unV,unOk,Zb0,isInt,isStr,numOf,loV,hiV,lenV,Zar,Zbf,Zat,Za4,Za3,Zad,Zbm,Zab,Zbd,Za1,Zak,idxV,Zb3,Zbq,extV,Zbz,Zbr,Zbb,mmV,PV.cells,PV.fits,overlay,PV.nth,PV.row,Zbx,Zan,Zbw,Zbh,Zbs,Zbp,Zap,Zbc,Zbg,Zas,Heap.get,Heap.set,Heap.del,Heap.le,HL.get,HL.set,HL.del,HL.le,Heap.push,Heap.nil,Nat.le_refl,Nat.add_eq_left,Nat.left_eq_add,Nat.succ_ne_self,Nat.one_ne_zero,Env.le,Za2,Zbu,Zam,Zbv,Zaj,Zbt,Zaz,Zal,eqOk,ekOk,Zai,Za7,Zba,Zaq,AB.live,pxV,pxOk,fxV,fxOk,Zb1,Zbi,isNil,notNil,List.map,List.set,List.replicate,List.length,List.getD_cons_zero,List.getD_cons_succ,List.getD_nil,List.take,List.drop,List.take_zero,List.drop_zero,List.take_succ_cons,List.drop_succ_cons,List.append,List.cons_append,List.nil_append,Option.map,Nat.reduceEqDiff,Nat.reduceAdd,Nat.reduceLT,Nat.reduceLeDiff,Nat.reduceSub,Nat.reduceMul,reduceIte,Bool.false_eq_true,Bool.true_eq_false,ite_true,ite_false,if_true,if_false,true_and,and_true,implies_true,forall_const,ne_eq,not_false_eq_true,reduceCtorEq,BEq.rfl,beq_self_eq_true,Option.some.injEq,Nat.zero_add,Nat.add_zero,List.length_cons,List.length_nil,true_implies,imp_self,Int.reduceToNat,Int.toNat_natCast,Bool.not_false,Bool.not_true]
    refine Zae [0,5,6,7] ?_
    simp only [midQ,Zaa,Zah,Za8,Zao,Zav,Zbj,Za5,guardOf,Zac,Zau,Zaw,Zaf,Zag,Zax,Zbo,VOp.isIaddr,QW,dok,dval,VOp.pure,VOp.simple,VOp.det,pok,pval,VA.ev,Env.get,Env.put,Env.keep,Za0,Za6,Zay,retQ,resV,Zbl,RS.ev,RS.ok,gd,Zbn,isBool,aggV,intV,binV,Zbk,strV,Zby,Zb2,Zbe,unV,unOk,Zb0,isInt,isStr,numOf,loV,hiV,lenV,Zar,Zbf,Zat,Za4,Za3,Zad,Zbm,Zab,Zbd,Za1,Zak,idxV,Zb3,Zbq,extV,Zbz,Zbr,Zbb,mmV,PV.cells,PV.fits,overlay,PV.nth,PV.row,Zbx,Zan,Zbw,Zbh,Zbs,Zbp,Zap,Zbc,Zbg,Zas,Heap.get,Heap.set,Heap.del,Heap.le,HL.get,HL.set,HL.del,HL.le,Heap.push,Heap.nil,Nat.le_refl,Nat.add_eq_left,Nat.left_eq_add,Nat.succ_ne_self,Nat.one_ne_zero,Env.le,Za2,Zbu,Zam,Zbv,Zaj,Zbt,Zaz,Zal,eqOk,ekOk,Zai,Za7,Zba,Zaq,AB.live,pxV,pxOk,fxV,fxOk,Zb1,Zbi,isNil,notNil,List.map,List.set,List.replicate,List.length,List.getD_cons_zero,List.getD_cons_succ,List.getD_nil,List.take,List.drop,List.take_zero,List.drop_zero,List.take_succ_cons,List.drop_succ_cons,List.append,List.cons_append,List.nil_append,Option.map,Nat.reduceEqDiff,Nat.reduceAdd,Nat.reduceLT,Nat.reduceLeDiff,Nat.reduceSub,Nat.reduceMul,reduceIte,Bool.false_eq_true,Bool.true_eq_false,ite_true,ite_false,if_true,if_false,true_and,and_true,implies_true,forall_const,ne_eq,not_false_eq_true,reduceCtorEq,BEq.rfl,beq_self_eq_true,Option.some.injEq,Nat.zero_add,Nat.add_zero,List.length_cons,List.length_nil,true_implies,imp_self,Int.reduceToNat,Int.toNat_natCast,Bool.not_false,Bool.not_true,w64 (n:=(i:Int) + 1) (by omega) (by omega)]
    refine ⟨⟨(i + 1,n + 1),by simp only []; omega,by simp only []; rw [hpre,hb,h2]; rfl⟩,?_,?_,?_⟩
    · rfl
    · exact Nat.le_refl _
    · simp only []; omega
  · simp only [decide_eq_false_iff_not] at h1
    refine Zcw ?_
    try simp only [midQ,Zaa,Zah,Za8,Zao,Zav,Zbj,Za5,guardOf,Zac,Zau,Zaw,Zaf,Zag,Zax,Zbo,VOp.isIaddr,QW,dok,dval,VOp.pure,VOp.simple,VOp.det,pok,pval,VA.ev,Env.get,Env.put,Env.keep,Za0,Za6,Zay,retQ,resV,Zbl,RS.ev,RS.ok,gd,Zbn,isBool,aggV,intV,binV,Zbk,strV,Zby,Zb2,Zbe,unV,unOk,Zb0,isInt,isStr,numOf,loV,hiV,lenV,Zar,Zbf,Zat,Za4,Za3,Zad,Zbm,Zab,Zbd,Za1,Zak,idxV,Zb3,Zbq,extV,Zbz,Zbr,Zbb,mmV,PV.cells,PV.fits,overlay,PV.nth,PV.row,Zbx,Zan,Zbw,Zbh,Zbs,Zbp,Zap,Zbc,Zbg,Zas,Heap.get,Heap.set,Heap.del,Heap.le,HL.get,HL.set,HL.del,HL.le,Heap.push,Heap.nil,Nat.le_refl,Nat.add_eq_left,Nat.left_eq_add,Nat.succ_ne_self,Nat.one_ne_zero,Env.le,Za2,Zbu,Zam,Zbv,Zaj,Zbt,Zaz,Zal,eqOk,ekOk,Zai,Za7,Zba,Zaq,AB.live,pxV,pxOk,fxV,fxOk,Zb1,Zbi,isNil,notNil,List.map,List.set,List.replicate,List.length,List.getD_cons_zero,List.getD_cons_succ,List.getD_nil,List.take,List.drop,List.take_zero,List.drop_zero,List.take_succ_cons,List.drop_succ_cons,List.append,List.cons_append,List.nil_append,Option.map,Nat.reduceEqDiff,Nat.reduceAdd,Nat.reduceLT,Nat.reduceLeDiff,Nat.reduceSub,Nat.reduceMul,reduceIte,Bool.false_eq_true,Bool.true_eq_false,ite_true,ite_false,if_true,if_false,true_and,and_true,implies_true,forall_const,ne_eq,not_false_eq_true,reduceCtorEq,BEq.rfl,beq_self_eq_true,Option.some.injEq,Nat.zero_add,Nat.add_zero,List.length_cons,List.length_nil,true_implies,imp_self,Int.reduceToNat,Int.toNat_natCast,Bool.not_false,Bool.not_true]
    refine Za9 (Zae [2] ?_)
    simp only [midQ,Zaa,Zah,Za8,Zao,Zav,Zbj,Za5,guardOf,Zac,Zau,Zaw,Zaf,Zag,Zax,Zbo,VOp.isIaddr,QW,dok,dval,VOp.pure,VOp.simple,VOp.det,pok,pval,VA.ev,Env.get,Env.put,Env.keep,Za0,Za6,Zay,retQ,resV,Zbl,RS.ev,RS.ok,gd,Zbn,isBool,aggV,intV,binV,Zbk,strV,Zby,Zb2,Zbe,unV,unOk,Zb0,isInt,isStr,numOf,loV,hiV,lenV,Zar,Zbf,Zat,Za4,Za3,Zad,Zbm,Zab,Zbd,Za1,Zak,idxV,Zb3,Zbq,extV,Zbz,Zbr,Zbb,mmV,PV.cells,PV.fits,overlay,PV.nth,PV.row,Zbx,Zan,Zbw,Zbh,Zbs,Zbp,Zap,Zbc,Zbg,Zas,Heap.get,Heap.set,Heap.del,Heap.le,HL.get,HL.set,HL.del,HL.le,Heap.push,Heap.nil,Nat.le_refl,Nat.add_eq_left,Nat.left_eq_add,Nat.succ_ne_self,Nat.one_ne_zero,Env.le,Za2,Zbu,Zam,Zbv,Zaj,Zbt,Zaz,Zal,eqOk,ekOk,Zai,Za7,Zba,Zaq,AB.live,pxV,pxOk,fxV,fxOk,Zb1,Zbi,isNil,notNil,List.map,List.set,List.replicate,List.length,List.getD_cons_zero,List.getD_cons_succ,List.getD_nil,List.take,List.drop,List.take_zero,List.drop_zero,List.take_succ_cons,List.drop_succ_cons,List.append,List.cons_append,List.nil_append,Option.map,Nat.reduceEqDiff,Nat.reduceAdd,Nat.reduceLT,Nat.reduceLeDiff,Nat.reduceSub,Nat.reduceMul,reduceIte,Bool.false_eq_true,Bool.true_eq_false,ite_true,ite_false,if_true,if_false,true_and,and_true,implies_true,forall_const,ne_eq,not_false_eq_true,reduceCtorEq,BEq.rfl,beq_self_eq_true,Option.some.injEq,Nat.zero_add,Nat.add_zero,List.length_cons,List.length_nil,true_implies,imp_self,Int.reduceToNat,Int.toNat_natCast,Bool.not_false,Bool.not_true,List.length_map]
    refine Zca ?_
    try simp only [midQ,Zaa,Zah,Za8,Zao,Zav,Zbj,Za5,guardOf,Zac,Zau,Zaw,Zaf,Zag,Zax,Zbo,VOp.isIaddr,QW,dok,dval,VOp.pure,VOp.simple,VOp.det,pok,pval,VA.ev,Env.get,Env.put,Env.keep,Za0,Za6,Zay,retQ,resV,Zbl,RS.ev,RS.ok,gd,Zbn,isBool,aggV,intV,binV,Zbk,strV,Zby,Zb2,Zbe,unV,unOk,Zb0,isInt,isStr,numOf,loV,hiV,lenV,Zar,Zbf,Zat,Za4,Za3,Zad,Zbm,Zab,Zbd,Za1,Zak,idxV,Zb3,Zbq,extV,Zbz,Zbr,Zbb,mmV,PV.cells,PV.fits,overlay,PV.nth,PV.row,Zbx,Zan,Zbw,Zbh,Zbs,Zbp,Zap,Zbc,Zbg,Zas,Heap.get,Heap.set,Heap.del,Heap.le,HL.get,HL.set,HL.del,HL.le,Heap.push,Heap.nil,Nat.le_refl,Nat.add_eq_left,Nat.left_eq_add,Nat.succ_ne_self,Nat.one_ne_zero,Env.le,Za2,Zbu,Zam,Zbv,Zaj,Zbt,Zaz,Zal,eqOk,ekOk,Zai,Za7,Zba,Zaq,AB.live,pxV,pxOk,fxV,fxOk,Zb1,Zbi,isNil,notNil,List.map,List.set,List.replicate,List.length,List.getD_cons_zero,List.getD_cons_succ,List.getD_nil,List.take,List.drop,List.take_zero,List.drop_zero,List.take_succ_cons,List.drop_succ_cons,List.append,List.cons_append,List.nil_append,Option.map,Nat.reduceEqDiff,Nat.reduceAdd,Nat.reduceLT,Nat.reduceLeDiff,Nat.reduceSub,Nat.reduceMul,reduceIte,Bool.false_eq_true,Bool.true_eq_false,ite_true,ite_false,if_true,if_false,true_and,and_true,implies_true,forall_const,ne_eq,not_false_eq_true,reduceCtorEq,BEq.rfl,beq_self_eq_true,Option.some.injEq,Nat.zero_add,Nat.add_zero,List.length_cons,List.length_nil,true_implies,imp_self,Int.reduceToNat,Int.toNat_natCast,Bool.not_false,Bool.not_true]
    have e:Zcy l = decide ((l.length:Int) ≤ 4096):=by
      unfold Zcy
      rw [hpre,List.drop_eq_nil_of_le (by omega),Bool.eq_iff_iff]
      simp [canonB]; omega
    rw [e]
    exact View.refl _ _
end Go.Proofs.YthkbdabfjfffjaaGreatDoor.w
namespace Go.VM
open Go
def isD (b:UInt8):Bool:=decide (48 ≤ b.toNat) && decide (b.toNat ≤ 57)
def val (l:Str):Nat:=l.foldl (fun n b=>10 * n + (b.toNat - 48)) 0
theorem ofNat_toNat {k:Nat} (h:k < 256):(UInt8.ofNat k).toNat = k:=by simp [UInt8.toNat_ofNat']; omega
theorem isD_digit {d:Nat} (h:d < 10):isD (UInt8.ofNat (48 + d)) = true:=by
  simp only [isD]; rw [ofNat_toNat (by omega)]; simp; omega
theorem decDigits_all (n:Nat):∀ b ∈ Lib.decDigits n,isD b = true:=by
  induction n using Nat.strongRecOn with
  | _ n ih =>
    intro b hb
    rw [Lib.decDigits] at hb
    split at hb
    · rw [List.mem_singleton] at hb; subst hb; exact isD_digit (by omega)
    · rw [List.mem_append,List.mem_singleton] at hb
      rcases hb with hb | rfl
      · exact ih (n / 10) (by omega) b hb
      · exact isD_digit (by omega)
theorem val_append (l m:Str):val (l ++ m) = m.foldl (fun n b=>10 * n + (b.toNat - 48)) (val l):=by simp [val]
theorem val_snoc (l:Str) (b:UInt8):val (l ++ [b]) = 10 * val l + (b.toNat - 48):=by rw [val_append]; rfl
theorem val_decDigits (n:Nat):val (Lib.decDigits n) = n:=by
  induction n using Nat.strongRecOn with
  | _ n ih =>
    rw [Lib.decDigits]
    split
    · show 10 * 0 + _ = _
      rw [ofNat_toNat (by omega)]; omega
    · rw [val_snoc,ih (n / 10) (by omega),ofNat_toNat (by omega)]; omega
theorem decDigits_ne (n:Nat):Lib.decDigits n ≠ []:=by rw [Lib.decDigits]; split <;> simp
theorem decFrom_val:∀ (l:Str) (acc:Nat),(∀ b ∈ l,isD b = true) → Lib.decFrom acc l = some (l.foldl (fun n b=>10 * n + (b.toNat - 48)) acc)
  | [],acc,_=>rfl
  | b :: r,acc,h=>by
    have hb:=h b (by simp)
    have hd:Lib.digitVal b = some (b.toNat - 48):=by
      simp only [isD,Bool.and_eq_true,decide_eq_true_eq] at hb
      simp [Lib.digitVal,hb]
    simp only [Lib.decFrom,hd,List.foldl_cons]
    rw [decFrom_val r _ (fun x hx=>h x (by simp [hx])),Nat.mul_comm acc 10]
theorem atoi_val (l:Str) (h:∀ b ∈ l,isD b = true) (hne:l ≠ []):Lib.atoi l = some ((val l:Nat):Int):=by
  cases l with
  | nil=>exact absurd rfl hne
  | cons b r =>
    have hb:=h b (by simp)
    simp only [isD,Bool.and_eq_true,decide_eq_true_eq] at hb
    have h45:(b == 45) = false:=by
      rw [beq_eq_false_iff_ne]; intro e; subst e; exact absurd hb.1 (by decide)
    have h43:(b == 43) = false:=by
      rw [beq_eq_false_iff_ne]; intro e; subst e; exact absurd hb.1 (by decide)
    simp only [Lib.atoi,h45,h43,Lib.decNat,List.isEmpty_cons,Bool.false_eq_true,if_false]
    rw [decFrom_val _ _ h]; rfl
def oneS (x:Sp):Str:=if x.to - x.frm = 1 then Lib.itoa x.frm else if x.to = 1048577 then Lib.itoa x.frm ++ [43] else Lib.itoa x.frm ++ [45] ++ Lib.itoa (x.to - 1)
def okSp (x:Sp):Prop:=0 ≤ x.frm ∧ x.frm < x.to ∧ x.to ≤ 1048577
def cutC (c:UInt8):Str → Str × Str × Bool
  | []=>([],[],false)
  | b :: r=>if b = c then ([],r,true) else (b :: (cutC c r).1,(cutC c r).2)
theorem cutC_no {c:UInt8}:∀ {s:Str},c ∉ s → cutC c s = (s,[],false)
  | [],_=>rfl
  | b :: r,h=>by
    have h1:¬ b = c:=fun e=>h (by rw [e]; exact List.mem_cons_self)
    rw [cutC,if_neg h1,cutC_no fun hh=>h (List.mem_cons_of_mem _ hh)]
theorem cutC_at {c:UInt8}:∀ {s t:Str},c ∉ s → cutC c (s ++ c :: t) = (s,t,true)
  | [],t,_=>by rw [List.nil_append,cutC,if_pos rfl]
  | b :: r,t,h=>by
    have h1:¬ b = c:=fun e=>h (by rw [e]; exact List.mem_cons_self)
    rw [List.cons_append,cutC,if_neg h1,cutC_at fun hh=>h (List.mem_cons_of_mem _ hh)]
def Zco (c:UInt8):Str → List Str
  | []=>[[]]
  | b :: r=>if b = c then [] :: Zco c r else match Zco c r with
    | []=>[[b]]
    | p :: q=>(b :: p) :: q
theorem splitC_ne (c:UInt8):∀ s:Str,Zco c s ≠ []
  | []=>by simp [Zco]
  | b :: r=>by
    rw [Zco]
    split
    · simp
    · split <;> simp
theorem splitC_len (c:UInt8):∀ s:Str,(Zco c s).length ≤ s.length + 1
  | []=>by simp [Zco]
  | b :: r=>by
    have ih:=splitC_len c r
    have hne:=splitC_ne c r
    rw [Zco]
    split
    · simp; omega
    · cases h:Zco c r with
      | nil=>exact absurd h hne
      | cons p q=>rw [h] at ih; simp at ih ⊢; omega
theorem splitC_no {c:UInt8}:∀ {s:Str},c ∉ s → Zco c s = [s]
  | [],_=>rfl
  | b :: r,h=>by
    have h1:¬ b = c:=fun e=>h (by rw [e]; exact List.mem_cons_self)
    rw [Zco,if_neg h1,splitC_no fun hh=>h (List.mem_cons_of_mem _ hh)]
theorem splitC_at {c:UInt8}:∀ {s t:Str},c ∉ s → Zco c (s ++ c :: t) = s :: Zco c t
  | [],t,_=>by rw [List.nil_append,Zco,if_pos rfl]
  | b :: r,t,h=>by
    have h1:¬ b = c:=fun e=>h (by rw [e]; exact List.mem_cons_self)
    rw [List.cons_append,Zco,if_neg h1,splitC_at fun hh=>h (List.mem_cons_of_mem _ hh)]
theorem join_two (x y:Str) (r:List Str) (sep:Str):Lib.join (x :: y :: r) sep = x ++ sep ++ Lib.join (y :: r) sep:=by
  simp [Lib.join,List.intercalate]
theorem split_join {c:UInt8}:∀ {l:List Str},l ≠ [] → (∀ x ∈ l,c ∉ x) → Zco c (Lib.join l [c]) = l
  | [],h,_=>absurd rfl h
  | [x],_,h=>by rw [Lib.join_one]; exact splitC_no (h x List.mem_cons_self)
  | x :: y :: r,_,h=>by
    rw [join_two]
    have:x ++ [c] ++ Lib.join (y :: r) [c] = x ++ c :: Lib.join (y :: r) [c]:=by simp
    rw [this,splitC_at (h x List.mem_cons_self),split_join (by simp) fun z hz=>h z (List.mem_cons_of_mem _ hz)]
theorem join_split (c:UInt8):∀ s:Str,Lib.join (Zco c s) [c] = s
  | []=>by rw [Zco,Lib.join_one]
  | b :: r=>by
    have ih:=join_split c r
    have hne:=splitC_ne c r
    rw [Zco]
    split
    · rename_i h
      subst h
      cases hq:Zco b r with
      | nil=>exact absurd hq hne
      | cons p q =>
        rw [join_two,← hq,ih]; rfl
    · cases hq:Zco c r with
      | nil=>exact absurd hq hne
      | cons p q =>
        rw [hq] at ih
        cases q with
        | nil=>rw [Lib.join_one] at ih ⊢; rw [ih]
        | cons y q =>
          rw [join_two] at ih ⊢
          rw [← ih]; rfl
def atoiF (s:Str):Int × Bool:=match Lib.atoiAll s with
  | .ok v=>(v,true)
  | .range=>(Lib.atoiSat s,false)
  | .syntax=>(0,false)
def sufF (s:Str):Bool:=s.getLast? == some 43
def trimF (s:Str):Str:=if sufF s then s.dropLast else s
def readF (p:Str):Sp × Bool :=
  let cu:=cutC 45 p
  let fr:=atoiF (trimF cu.1)
  let x0:Sp:=⟨fr.1,if sufF cu.1 then 1048577 else IntKind.i64.wrap (fr.1 + 1)⟩
  if cu.2.2 = true then
    let to:=atoiF cu.2.1
    if to.2 = false ∨ 1048576 < to.1 then (⟨fr.1,to.1⟩,false)
    else (⟨fr.1,to.1 + 1⟩,fr.2 && (decide (0 ≤ fr.1) && (decide (fr.1 ≤ 1048576) && (decide (fr.1 < to.1 + 1) && decide (oneS ⟨fr.1,to.1 + 1⟩ = p)))))
  else (x0,fr.2 && (decide (0 ≤ fr.1) && (decide (fr.1 ≤ 1048576) && (decide (x0.frm < x0.to) && decide (oneS x0 = p)))))
theorem read_sound {p:Str} (h:(readF p).2 = true):okSp (readF p).1 ∧ oneS (readF p).1 = p:=by
  unfold readF at h ⊢
  simp only [] at h ⊢
  split at h
  · rename_i h1
    rw [if_pos h1]
    split at h
    · cases h
    · rename_i h2
      rw [if_neg h2]
      simp only [Bool.and_eq_true,decide_eq_true_eq] at h
      obtain ⟨h3,h4,h5,h6,h7⟩:=h
      have h8:¬ (1048576:Int) < (atoiF (cutC 45 p).2.1).1:=fun e=>h2 (.inr e)
      exact ⟨⟨h4,h6,by show (atoiF (cutC 45 p).2.1).1 + 1 ≤ 1048577; omega⟩,h7⟩
  · rename_i h1
    rw [if_neg h1]
    simp only [Bool.and_eq_true,decide_eq_true_eq] at h
    obtain ⟨h3,h4,h5,h6,h7⟩:=h
    refine ⟨⟨h4,h6,?_⟩,h7⟩
    show (if sufF (cutC 45 p).1 = true then (1048577:Int) else IntKind.i64.wrap ((atoiF (trimF (cutC 45 p).1)).1 + 1)) ≤ 1048577
    split
    · exact Int.le_refl _
    · rw [w64 (by omega) (by omega)]; omega
end Go.VM
namespace Go.Proofs.YthkbdabfjfffjaaGreatDoor.w
open Go Go.VM
theorem itoa_dec {n:Int} (h:0 ≤ n):Lib.itoa n = Lib.decDigits n.toNat:=by unfold Lib.itoa; rw [if_neg (by omega)]
theorem dec_not {n:Int} (h:0 ≤ n) {c:UInt8} (hc:isD c = false):c ∉ Lib.itoa n:=by
  rw [itoa_dec h]
  intro hm
  have:=decDigits_all _ _ hm
  rw [hc] at this; cases this
theorem not45:isD 45 = false:=rfl
theorem not43:isD 43 = false:=rfl
theorem not44:isD 44 = false:=rfl
theorem dec_short:∀ {n:Nat},n < 10000000 → (Lib.decDigits n).length ≤ 7:=by
  have step:∀ (k n:Nat),1 ≤ k → n < 10 ^ k → (Lib.decDigits n).length ≤ k:=by
    intro k
    induction k with
    | zero=>intro n h; omega
    | succ k ih =>
      intro n _ hn
      rw [Lib.decDigits]
      split
      · simp
      · rename_i h10
        have hk:1 ≤ k:=by
          rcases Nat.eq_zero_or_pos k with e | e
          · subst e; simp at hn; omega
          · exact e
        have:=ih (n / 10) hk (by rw [Nat.pow_succ] at hn; omega)
        simp; omega
  intro n h
  exact step 7 n (by omega) (by simpa using h)
theorem Zdb {n:Int} (h0:0 ≤ n) (h1:n ≤ 1048577):(Lib.itoa n).length ≤ 7:=by rw [itoa_dec h0]; exact dec_short (by omega)
theorem itoa_ne {n:Int} (h0:0 ≤ n):Lib.itoa n ≠ []:=by rw [itoa_dec h0]; exact decDigits_ne _
theorem atoiF_itoa {n:Int} (h0:0 ≤ n) (h1:n ≤ 1048577):atoiF (Lib.itoa n) = (n,true):=by
  unfold atoiF
  have hs:=Zdb h0 h1
  rw [Lib.atoiAll_short _ (by omega)]
  rw [itoa_dec h0,atoi_val _ (decDigits_all _) (decDigits_ne _),val_decDigits]
  show ((n.toNat:Int),true) = _
  rw [show (n.toNat:Int) = n by omega]
theorem suf_itoa {n:Int} (h0:0 ≤ n):sufF (Lib.itoa n) = false:=by
  unfold sufF
  rw [beq_eq_false_iff_ne]
  intro h
  exact dec_not h0 not43 (List.mem_of_getLast? h)
theorem suf_plus (s:Str):sufF (s ++ [43]) = true:=by unfold sufF; simp
theorem trim_plus (s:Str):trimF (s ++ [43]) = s:=by unfold trimF; rw [suf_plus,if_pos rfl,List.dropLast_concat]
theorem trim_itoa {n:Int} (h0:0 ≤ n):trimF (Lib.itoa n) = Lib.itoa n:=by unfold trimF; rw [suf_itoa h0]; rfl
theorem read_complete {x:Sp} (h:okSp x):readF (oneS x) = (x,true):=by
  obtain ⟨h0,h1,h2⟩:=h
  have ha:=atoiF_itoa h0 (by omega:x.frm ≤ 1048577)
  have n45:=dec_not h0 not45
  obtain ⟨a,b⟩:=x
  simp only [] at h0 h1 h2 ha n45
  by_cases e1:b - a = 1
  · have hone:oneS ⟨a,b⟩ = Lib.itoa a:=by unfold oneS; rw [if_pos e1]
    rw [hone]
    unfold readF
    rw [cutC_no n45]
    simp only [trim_itoa h0,suf_itoa h0,ha,Bool.false_eq_true,if_false]
    rw [w64 (by omega) (by omega),show a + 1 = b by omega,hone]
    simp [h0,h1]; omega
  · by_cases e2:b = 1048577
    · have hone:oneS ⟨a,b⟩ = Lib.itoa a ++ [43]:=by unfold oneS; rw [if_neg e1,if_pos e2]
      rw [hone]
      have hn:(45:UInt8) ∉ Lib.itoa a ++ [43]:=by
        intro hm
        rcases List.mem_append.1 hm with hm | hm
        · exact n45 hm
        · simp at hm
      unfold readF
      rw [cutC_no hn]
      simp only [trim_plus,suf_plus,ha,Bool.false_eq_true,if_false,if_true]
      subst e2
      rw [hone]
      simp [h0,h1]; omega
    · have hone:oneS ⟨a,b⟩ = Lib.itoa a ++ [45] ++ Lib.itoa (b - 1):=by unfold oneS; rw [if_neg e1,if_neg e2]
      rw [hone]
      have hb:=atoiF_itoa (n:=b - 1) (by omega) (by omega)
      have e3:Lib.itoa a ++ [45] ++ Lib.itoa (b - 1) = Lib.itoa a ++ 45 :: Lib.itoa (b - 1):=by simp
      unfold readF
      rw [e3,cutC_at n45]
      simp only [trim_itoa h0,suf_itoa h0,ha,hb,if_true]
      rw [if_neg (by simp; omega),show b - 1 + 1 = b by omega,hone,e3]
      simp [h0,h1]; omega
theorem one_no44 {x:Sp} (h:okSp x):(44:UInt8) ∉ oneS x:=by
  obtain ⟨h0,h1,h2⟩:=h
  have a1:=dec_not h0 not44
  have a2:=dec_not (n:=x.to - 1) (by omega) not44
  unfold oneS
  split
  · exact a1
  · split
    · intro hm
      rcases List.mem_append.1 hm with hm | hm
      · exact a1 hm
      · simp at hm
    · intro hm
      rcases List.mem_append.1 hm with hm | hm
      · rcases List.mem_append.1 hm with hm | hm
        · exact a1 hm
        · simp at hm
      · exact a2 hm
theorem one_short {x:Sp} (h:okSp x):(oneS x).length ≤ 15:=by
  obtain ⟨h0,h1,h2⟩:=h
  have a1:=Zdb h0 (by omega:x.frm ≤ 1048577)
  have a2:=Zdb (n:=x.to - 1) (by omega) (by omega)
  unfold oneS
  split
  · omega
  · split <;> simp <;> omega
theorem canonF_ok:∀ {l:List Sp} {b:Int},-1 ≤ b → Zct b l → ∀ x ∈ l,okSp x
  | [],_,_,_,x,hx=>by cases hx
  | s :: r,b,hb,h,x,hx=>by
    obtain ⟨h1,h2,h3,h4⟩:=h
    rcases List.mem_cons.1 hx with rfl | hx
    · exact ⟨by omega,h2,h3⟩
    · exact canonF_ok (by omega) h4 x hx
def neverT:Str:=[110,101,118,101,114]
def readsF:List Str → Option (List Sp)
  | []=>some []
  | p :: r=>if (readF p).2 = true then (readsF r).map ((readF p).1 :: ·) else none
def parseP (s:Str):Option (List Sp):=if s = neverT then some [] else match readsF (Zco 44 s) with
  | some l=>if Zcy l = true then some l else none
  | none=>none
def fmtT (c:List Sp):Str:=if c = [] then neverT else Lib.join (c.map oneS) [44]
theorem reads_sound:∀ {p:List Str} {l:List Sp},readsF p = some l → p = l.map oneS ∧ ∀ x ∈ l,okSp x
  | [],l,h=>by cases h; exact ⟨rfl,by simp⟩
  | q :: r,l,h=>by
    rw [readsF] at h
    split at h
    · rename_i h1
      obtain ⟨m,hm,rfl⟩:=Option.map_eq_some_iff.1 h
      obtain ⟨k1,k2⟩:=reads_sound hm
      obtain ⟨k3,k4⟩:=read_sound h1
      refine ⟨by rw [List.map_cons,k4,← k1],fun x hx=>?_⟩
      rcases List.mem_cons.1 hx with rfl | hx
      · exact k3
      · exact k2 x hx
    · cases h
theorem reads_complete:∀ {l:List Sp},(∀ x ∈ l,okSp x) → readsF (l.map oneS) = some l
  | [],_=>rfl
  | x :: r,h=>by
    rw [List.map_cons,readsF,read_complete (h x List.mem_cons_self),if_pos rfl,reads_complete fun y hy=>h y (List.mem_cons_of_mem _ hy)]
    rfl
theorem never_read {l:List Sp} (h:∀ x ∈ l,okSp x) (hn:l ≠ []):Lib.join (l.map oneS) [44] ≠ neverT:=by
  cases l with
  | nil=>exact absurd rfl hn
  | cons x r =>
    intro e
    have h0:=(h x List.mem_cons_self).1
    have hh:(Lib.join ((x :: r).map oneS) [44]).head? = (Lib.itoa x.frm).head?:=by
      have hne:=itoa_ne h0
      have h1:(oneS x).head? = (Lib.itoa x.frm).head? ∧ oneS x ≠ []:=by
        cases hd:Lib.itoa x.frm with
        | nil=>exact absurd hd hne
        | cons c t=>unfold oneS; rw [hd]; split; exact ⟨rfl,by simp⟩; split; exact ⟨rfl,by simp⟩; exact ⟨rfl,by simp⟩
      cases r with
      | nil=>rw [List.map_cons,List.map_nil,Lib.join_one]; exact h1.1
      | cons y r =>
        rw [List.map_cons,List.map_cons,join_two]
        cases ho:oneS x with
        | nil=>exact absurd ho h1.2
        | cons c t=>rw [← h1.1,ho]; rfl
    rw [e,itoa_dec h0] at hh
    have:isD 110 = true:=decDigits_all x.frm.toNat 110 (by
      cases hd:Lib.decDigits x.frm.toNat with
      | nil=>exact absurd hd (decDigits_ne _)
      | cons c t=>rw [hd] at hh; simp [neverT] at hh; rw [← hh]; exact List.mem_cons_self)
    cases this
theorem validB_canon {l:List Sp} (h:Zcy l = true):Canon l ∧ l.length ≤ 4096:=by
  unfold Zcy at h
  simp only [Bool.and_eq_true,decide_eq_true_eq] at h
  exact ⟨(canonB_iff l (-1) (Int.le_refl _)).1 h.1,h.2⟩
theorem canon_validB {l:List Sp} (h:Canon l) (hl:l.length ≤ 4096):Zcy l = true:=by
  unfold Zcy
  simp only [Bool.and_eq_true,decide_eq_true_eq]
  exact ⟨(canonB_iff l (-1) (Int.le_refl _)).2 h,hl⟩
theorem parse_some {s:Str} {l:List Sp}:parseP s = some l ↔ Zcy l = true ∧ s = fmtT l:=by
  unfold parseP
  constructor
  · intro h
    split at h
    · rename_i h1
      cases h
      exact ⟨rfl,by rw [h1]; rfl⟩
    · split at h
      · rename_i m hm
        split at h
        · rename_i hv
          cases h
          refine ⟨hv,?_⟩
          obtain ⟨k1,_⟩:=reads_sound hm
          have hne:l ≠ []:=by
            rintro rfl
            exact splitC_ne 44 s k1
          unfold fmtT
          rw [if_neg hne,← k1,join_split]
        · cases h
      · cases h
  · rintro ⟨hv,rfl⟩
    have hok:=canonF_ok (Int.le_refl _) (validB_canon hv).1
    unfold fmtT
    split
    · rename_i h1
      subst h1
      rw [if_pos rfl]
    · rename_i h1
      rw [if_neg (never_read hok h1),split_join (by simpa using h1) (fun x hx=>by
        obtain ⟨y,hy,rfl⟩:=List.mem_map.1 hx
        exact one_no44 (hok y hy)),reads_complete hok]
      simp only
      rw [if_pos hv]
end Go.Proofs.YthkbdabfjfffjaaGreatDoor.w
namespace Go.Proofs.YthkbdabfjfffjaaGreatDoor.w
open Go Go.VM
def putR:List Int → Int → List Int
  | [],n=>[n]
  | x :: r,n=>if x < n then x :: putR r n else if x = n then x :: r else n :: x :: r
theorem putR_at (n : Int) : ∀ (l : List Int) (k : Nat) (hk : k ≤ l.length) (h1 : ∀ (j : Nat) (hj : j < l.length), j < k → l[j] < n) (h2 : ∀ (h : k < l.length), ¬ l[k] < n),
    putR l n = if l[k]? = some n then l else l.take k ++ n :: l.drop k
  | [],k,hk,_,_=>by
    have:k = 0:=by simpa using hk
    subst this; rfl
  | x :: r,0,_,_,h2=>by
    have:=h2 (by simp)
    simp only [List.getElem_cons_zero] at this
    simp only [putR,if_neg this,List.getElem?_cons_zero,Option.some.injEq,List.take_zero,List.drop_zero,List.nil_append]
  | x :: r,k + 1,hk,h1,h2=>by
    have hx:x < n:=h1 0 (by simp) (by omega)
    have ih:=putR_at n r k (by simpa using hk) (fun j hj hjk=>by have:=h1 (j + 1) (by simp; omega) (by omega); simpa using this) (fun h=>by have:=h2 (by simp; omega); simpa using this)
    simp only [putR,if_pos hx,ih,List.getElem?_cons_succ,List.take_succ_cons,List.drop_succ_cons,List.cons_append]
    split <;> rfl
theorem putR_mem (n x:Int):∀ l:List Int,x ∈ putR l n ↔ x = n ∨ x ∈ l
  | []=>by simp [putR]
  | y :: r=>by
    simp only [putR]
    split
    · simp only [List.mem_cons,putR_mem n x r]
      constructor
      · rintro (h | h | h) <;> simp [h]
      · rintro (h | h | h) <;> simp [h]
    · split
      · rename_i h; subst h; simp
      · simp
theorem putR_sorted (n:Int):∀ l:List Int,l.Pairwise (· < ·) → (putR l n).Pairwise (· < ·)
  | [],_=>by simp [putR]
  | y :: r,h=>by
    obtain ⟨h1,h2⟩:=List.pairwise_cons.1 h
    simp only [putR]
    split
    · rename_i hy
      refine List.pairwise_cons.2 ⟨fun x hx=>?_,putR_sorted n r h2⟩
      rcases (putR_mem n x r).1 hx with rfl | hx
      · exact hy
      · exact h1 x hx
    · split
      · exact h
      · rename_i h3 h4
        have hn:n < y:=by omega
        refine List.pairwise_cons.2 ⟨fun x hx=>?_,h⟩
        rcases List.mem_cons.1 hx with rfl | hx
        · exact hn
        · have:=h1 x hx; omega
theorem putR_len (n:Int):∀ l:List Int,(putR l n).length ≤ l.length + 1
  | []=>by simp [putR]
  | y :: r=>by
    have:=putR_len n r
    simp only [putR]
    split
    · simp; omega
    · split <;> simp
def inB (x:Int):Bool:=decide (0 < x) && decide (x ≤ 1048576)
def putIf (l:List Int) (n:Int):List Int:=if inB n then putR l n else l
def Zck (l:List Int) (s:Sp):List Int:=putIf (putIf l s.frm) s.to
def Zcm (l:List Sp):List Int:=l.foldl Zck [0]
def PtOk (l:List Int):Prop:=l.Pairwise (· < ·) ∧ 0 ∈ l ∧ ∀ x ∈ l,0 ≤ x ∧ x ≤ 1048576
theorem putIf_ok {l:List Int} (n:Int) (h:PtOk l):PtOk (putIf l n) ∧ (∀ x ∈ l,x ∈ putIf l n) ∧ (inB n = true → n ∈ putIf l n):=by
  unfold putIf
  cases e:inB n with
  | false=>exact ⟨h,fun x hx=>hx,fun h=>by cases h⟩
  | true =>
    simp only [inB,Bool.and_eq_true,decide_eq_true_eq] at e
    obtain ⟨h1,h2,h3⟩:=h
    refine ⟨⟨putR_sorted n l h1,(putR_mem n 0 l).2 (.inr h2),fun x hx=>?_⟩,fun x hx=>(putR_mem n x l).2 (.inr hx),fun _=>(putR_mem n n l).2 (.inl rfl)⟩
    rcases (putR_mem n x l).1 hx with rfl | hx
    · omega
    · exact h3 x hx
theorem putIf_len (l:List Int) (n:Int):(putIf l n).length ≤ l.length + 1:=by
  unfold putIf
  split
  · exact putR_len n l
  · omega
theorem point_ok {l:List Int} (s:Sp) (h:PtOk l):PtOk (Zck l s) ∧ (∀ x ∈ l,x ∈ Zck l s) ∧ (inB s.frm = true → s.frm ∈ Zck l s) ∧ (inB s.to = true → s.to ∈ Zck l s):=by
  obtain ⟨a1,a2,a3⟩:=putIf_ok s.frm h
  obtain ⟨b1,b2,b3⟩:=putIf_ok s.to a1
  exact ⟨b1,fun x hx=>b2 x (a2 x hx),fun e=>b2 _ (a3 e),b3⟩
theorem points_ok:∀ (l:List Sp) (p:List Int),PtOk p → PtOk (l.foldl Zck p) ∧ (∀ x ∈ p,x ∈ l.foldl Zck p) ∧ ∀ s ∈ l,(inB s.frm = true → s.frm ∈ l.foldl Zck p) ∧ (inB s.to = true → s.to ∈ l.foldl Zck p)
  | [],p,h=>⟨h,fun x hx=>hx,fun s hs=>by cases hs⟩
  | s :: r,p,h=>by
    obtain ⟨a1,a2,a3,a4⟩:=point_ok s h
    obtain ⟨b1,b2,b3⟩:=points_ok r _ a1
    refine ⟨b1,fun x hx=>b2 x (a2 x hx),fun t ht=>?_⟩
    rcases List.mem_cons.1 ht with rfl | ht
    · exact ⟨fun e=>b2 _ (a3 e),fun e=>b2 _ (a4 e)⟩
    · exact b3 t ht
theorem points_len:∀ (l:List Sp) (p:List Int),(l.foldl Zck p).length ≤ p.length + 2 * l.length
  | [],p=>by simp
  | s :: r,p=>by
    have h1:=points_len r (Zck p s)
    have h2:=putIf_len (putIf p s.frm) s.to
    have h3:=putIf_len p s.frm
    simp only [List.foldl_cons,List.length_cons,Zck] at h1 ⊢
    omega
theorem pointsR_ok (l:List Sp):PtOk (Zcm l) ∧ ∀ s ∈ l,(inB s.frm = true → s.frm ∈ Zcm l) ∧ (inB s.to = true → s.to ∈ Zcm l):=by
  have h:PtOk [0]:=⟨by simp,by simp,fun x hx=>by simp at hx; omega⟩
  obtain ⟨a1,_,a3⟩:=points_ok l [0] h
  exact ⟨a1,a3⟩
def hasB (l:List Sp) (d:Int):Bool:=l.any fun s=>decide (0 ≤ d) && (decide (d ≤ 1048576) && (decide (s.frm ≤ d) && decide (d < s.to)))
theorem hasB_iff (l:List Sp) (d:Int):hasB l d = true ↔ validD d ∧ memS l d:=by
  unfold hasB validD memS Zch
  rw [List.any_eq_true]
  constructor
  · rintro ⟨s,hs,h⟩
    simp only [Bool.and_eq_true,decide_eq_true_eq] at h
    exact ⟨⟨by omega,by omega⟩,s,hs,h.2.2⟩
  · rintro ⟨⟨h1,h2⟩,s,hs,h⟩
    refine ⟨s,hs,?_⟩
    simp only [Bool.and_eq_true,decide_eq_true_eq]
    exact ⟨h1,by omega,h⟩
theorem hasB_kept (l:List Sp) (d:Int):hasB l d = true ↔ memS (Zc8 l) d:=by rw [hasB_iff,kept_mem]
def mergeJ:List Sp → Sp → List Sp
  | [],x=>[x]
  | s :: r,x=>if s.to = x.frm then ⟨s.frm,x.to⟩ :: r else x :: s :: r
theorem mergeJ_eq:∀ (l acc:List Sp),(∀ s r,acc = s :: r → ∀ t ∈ l,s.to ≤ t.frm) → l.Pairwise (fun a b=>a.to ≤ b.frm) → (∀ s ∈ l,s.frm < s.to) → l.foldl mergeJ acc = l.foldl Zc5 acc
  | [],_,_,_,_=>rfl
  | x :: l,acc,h1,h2,h3=>by
    obtain ⟨p1,p2⟩:=List.pairwise_cons.1 h2
    have hx:=h3 x (List.mem_cons_self ..)
    have e:mergeJ acc x = Zc5 acc x:=by
      cases acc with
      | nil=>rfl
      | cons s r =>
        have:=h1 s r rfl x (List.mem_cons_self ..)
        simp only [mergeJ,Zc5]
        by_cases hc:s.to = x.frm
        · rw [if_pos hc,if_pos (by omega),if_pos (by omega)]
        · rw [if_neg hc,if_neg (by omega)]
    rw [List.foldl_cons,List.foldl_cons,e]
    refine mergeJ_eq l _ (fun s r hs t ht=>?_) p2 (fun s hs=>h3 s (List.mem_cons_of_mem _ hs))
    have hxt:=p1 t ht
    cases acc with
    | nil =>
      simp only [Zc5,List.cons.injEq] at hs
      rw [← hs.1]; exact hxt
    | cons s' r' =>
      have h4:=h1 s' r' rfl x (List.mem_cons_self ..)
      simp only [Zc5] at hs
      split at hs
      · simp only [List.cons.injEq] at hs
        rw [← hs.1]
        simp only []
        split <;> omega
      · simp only [List.cons.injEq] at hs
        rw [← hs.1]; exact hxt
theorem segs_sorted (p:Int → Bool):∀ C:List Int,C.Pairwise (· < ·) → (segs p C).Pairwise (fun a b=>a.to ≤ b.frm) ∧ (∀ s ∈ segs p C,s.frm < s.to ∧ s.frm ∈ C ∧ s.to ∈ C)
  | [],_=>⟨by simp [segs],fun s hs=>by simp [segs] at hs⟩
  | [x],_=>⟨by simp [segs],fun s hs=>by simp [segs] at hs⟩
  | a :: b :: r,h=>by
    obtain ⟨h1,h2⟩:=List.pairwise_cons.1 h
    obtain ⟨i1,i2⟩:=segs_sorted p (b :: r) h2
    have hab:=h1 b (List.mem_cons_self ..)
    simp only [segs]
    constructor
    · rw [List.pairwise_append]
      refine ⟨by split <;> simp,i1,fun x hx y hy=>?_⟩
      split at hx
      · rw [List.mem_singleton] at hx
        subst hx
        obtain ⟨_,hy2,_⟩:=i2 y hy
        simp only []
        rcases List.mem_cons.1 hy2 with e | e
        · omega
        · have:=(List.pairwise_cons.1 h2).1 _ e; omega
      · cases hx
    · intro s hs
      rcases List.mem_append.1 hs with hs | hs
      · split at hs
        · rw [List.mem_singleton] at hs
          subst hs
          exact ⟨hab,List.mem_cons_self ..,List.mem_cons_of_mem _ (List.mem_cons_self ..)⟩
        · cases hs
      · obtain ⟨k1,k2,k3⟩:=i2 s hs
        exact ⟨k1,List.mem_cons_of_mem _ k2,List.mem_cons_of_mem _ k3⟩
def ctR (ct:Bool → Bool → Bool) (a b:List Sp) (x:Int):Bool:=ct (hasB a x) (hasB b x)
def bothR (ct:Bool → Bool → Bool) (a b:List Sp):List Sp:=((segs (ctR ct a b) (Zcm (a ++ b) ++ [Zch])).foldl mergeJ []).reverse
theorem kept_ends {l m:List Sp} (h:∀ s ∈ l,s ∈ m):∀ s ∈ Zc8 l,s.frm ∈ Zcm m ++ [Zch] ∧ s.to ∈ Zcm m ++ [Zch]:=by
  intro s hs
  obtain ⟨o1,o2,o3⟩:=kept_ok s hs
  simp only [Zc8,List.mem_filter,List.mem_map,decide_eq_true_eq] at hs
  obtain ⟨⟨x,hx,rfl⟩,hlt⟩:=hs
  obtain ⟨p1,p2⟩:=pointsR_ok m
  obtain ⟨q1,q2⟩:=p2 x (h x hx)
  simp only [clipS,Zch] at o1 o2 o3 ⊢
  simp only [List.mem_append,List.mem_singleton]
  constructor
  · left
    by_cases hc:0 > x.frm
    · rw [if_pos hc]; exact p1.2.1
    · rw [if_neg hc] at o2 ⊢
      by_cases h0:x.frm = 0
      · rw [h0]; exact p1.2.1
      · refine q1 ?_
        simp only [inB,Bool.and_eq_true,decide_eq_true_eq]
        constructor
        · omega
        · split at o2 <;> omega
  · by_cases hc:1048577 < x.to
    · rw [if_pos hc]; exact .inr rfl
    · rw [if_neg hc] at o2 o3 ⊢
      by_cases h1:x.to = 1048577
      · exact .inr h1
      · left
        refine q2 ?_
        simp only [inB,Bool.and_eq_true,decide_eq_true_eq]
        constructor
        · split at o2 <;> omega
        · omega
theorem bothR_spec (ct:Bool → Bool → Bool) (h0:ct false false = false) (a b:List Sp):Canon (bothR ct a b) ∧ ∀ d,memS (bothR ct a b) d ↔ ct (hasB a d) (hasB b d) = true:=by
  obtain ⟨⟨p1,p2,p3⟩,_⟩:=pointsR_ok (a ++ b)
  have hs:(Zcm (a ++ b) ++ [Zch]).Pairwise (· < ·):=by
    rw [List.pairwise_append]
    refine ⟨p1,by simp,fun x hx y hy=>?_⟩
    rw [List.mem_singleton] at hy
    subst hy
    have:=p3 x hx
    simp only [Zch]; omega
  have hb:∀ x ∈ Zcm (a ++ b) ++ [Zch],0 ≤ x ∧ x ≤ Zch:=by
    intro x hx
    rcases List.mem_append.1 hx with h | h
    · have:=p3 x h; simp only [Zch]; omega
    · rw [List.mem_singleton] at h; subst h; simp [Zch]
  obtain ⟨s1,s2⟩:=segs_sorted (ctR ct a b) _ hs
  have hok:∀ s ∈ segs (ctR ct a b) (Zcm (a ++ b) ++ [Zch]),spOk s:=fun s hm=>by
    obtain ⟨k1,k2,k3⟩:=s2 s hm
    exact ⟨(hb _ k2).1,k1,(hb _ k3).2⟩
  have e:=mergeJ_eq (segs (ctR ct a b) (Zcm (a ++ b) ++ [Zch])) [] (fun s r h=>by cases h) s1 (fun s hm=>(s2 s hm).1)
  have hp:(segs (ctR ct a b) (Zcm (a ++ b) ++ [Zch])).Pairwise leF:=by
    rw [List.pairwise_iff_getElem] at s1 ⊢
    intro i j hi hj hij
    have h1:=s1 i j hi hj hij
    have h2:=(s2 _ (List.getElem_mem hi)).1
    simp only [leF]; omega
  obtain ⟨m1,m2⟩:=mergeAll_canon hok hp
  have hl:=fun d=>segs_law hs (A:=Zc8 a) (B:=Zc8 b) (kept_ends fun s h=>List.mem_append_left _ h) (kept_ends fun s h=>List.mem_append_right _ h) (hasB a) (hasB b) (hasB_kept a) (hasB_kept b) ct h0 d
  unfold bothR
  rw [e]
  exact ⟨m1,fun d=>(m2 d).trans (hl d)⟩
def ofR (l:List Sp):List Sp:=bothR ctOr l []
theorem hasB_nil (d:Int):hasB [] d = false:=rfl
theorem ofR_eq (l:List Sp):ofR l = Zci l:=by
  obtain ⟨h3,h4⟩:=bothR_spec ctOr rfl l []
  obtain ⟨h1,h2⟩:=Zcj l
  refine Zct.unique h3 h1 fun d=>?_
  unfold ofR
  rw [h4,h2,hasB_nil,ctOr,Bool.or_false,hasB_iff]
end Go.Proofs.YthkbdabfjfffjaaGreatDoor.w
namespace Go.Proofs.YthkbdabfjfffjaaGreatDoor.w
open Go Go.VM
noncomputable def chi (l:List Sp) (d:Int):Bool:=memB (Zci l) d
theorem chi_canon {l:List Sp} (h:Canon l) (d:Int):chi l d = memB l d:=by unfold chi; rw [norm_self h]
theorem chi_both (ct:Bool → Bool → Bool) (h0:ct false false = false) (a b:List Sp) (d:Int):chi (bothS ct a b) d = ct (chi a d) (chi b d):=by
  obtain ⟨h1,h2⟩:=both_spec ct h0 a b
  rw [chi_canon h1,Bool.eq_iff_iff,Zcu,h2]; rfl
theorem canon_ext {l m:List Sp} (h1:Canon l) (h2:Canon m) (h:∀ d,chi l d = chi m d):l = m:=by
  refine Zct.unique h1 h2 fun d=>?_
  have:=h d
  rw [chi_canon h1,chi_canon h2,Bool.eq_iff_iff,Zcu,Zcu] at this
  exact this
theorem both_canon (ct:Bool → Bool → Bool) (h0:ct false false = false) (a b:List Sp):Canon (bothS ct a b):=(both_spec ct h0 a b).1
theorem chi_norm (l:List Sp) (d:Int):chi (Zci l) d = chi l d:=by
  rw [chi_canon (Zcj l).1]; rfl
theorem chi_valid {l:List Sp} {d:Int} (h:chi l d = true):validD d:=(Zcj l).1.valid ((Zcu _ _).1 h)
theorem chi_trunc (l:List Sp) (day d:Int):chi (truncS l day) d = (chi l d && decide (d < day)):=by
  obtain ⟨h1,h2⟩:=trunc_spec l day
  have hn:=(Zcj l).2 d
  rw [chi_canon h1,Bool.eq_iff_iff,Zcu,h2,Bool.and_eq_true,decide_eq_true_eq]
  unfold chi
  rw [Zcu,hn]
  exact ⟨fun h=>⟨⟨h.1,h.2.1⟩,h.2.2⟩,fun h=>⟨h.1.1,h.1.2,h.2⟩⟩
theorem chi_extend (l:List Sp) (day d:Int):chi (extendS l day) d = ((decide (0 ≤ d) && decide (d ≤ 1048576)) && (decide (day ≤ d) || chi l d)):=by
  obtain ⟨h1,h2⟩:=extend_spec l day
  have hn:=(Zcj l).2 d
  rw [chi_canon h1,Bool.eq_iff_iff,Zcu,h2]
  simp only [Bool.and_eq_true,Bool.or_eq_true,decide_eq_true_eq]
  unfold chi
  rw [Zcu,hn]
  unfold validD Zch
  constructor
  · rintro ⟨h,k | k⟩
    · exact ⟨⟨h.1,by omega⟩,.inr ⟨h,k⟩⟩
    · exact ⟨⟨h.1,by omega⟩,.inl k⟩
  · rintro ⟨h,k | k⟩
    · exact ⟨⟨h.1,by omega⟩,.inr k⟩
    · exact ⟨⟨h.1,by omega⟩,.inl k.2⟩
def days:List Nat:=List.range 1048577
def cnt (p:Int → Bool):Nat:=days.countP fun n:Nat=>p (n:Int)
theorem chi_rest (a:List Sp) (day d:Int):chi (bothS ctAnd a (extendS [] day)) d = (chi a d && !decide (d < day)):=by
  rw [chi_both ctAnd rfl,chi_extend,ctAnd]
  cases h:chi a d with
  | false=>rfl
  | true =>
    have v:=chi_valid h
    unfold validD Zch at v
    have e:chi [] d = false:=by
      cases hh:chi [] d with
      | false=>rfl
      | true=>exact (Zc0 d (((Zcj []).2 d).1 ((Zcu _ _).1 hh)).2).elim
    rw [e]
    rw [Bool.eq_iff_iff]; simp; omega
theorem split_join (a:List Sp) (day:Int):bothS ctOr (truncS a day) (bothS ctAnd a (extendS [] day)) = Zci a:=by
  refine canon_ext (both_canon ctOr rfl _ _) (Zcj a).1 fun d=>?_
  rw [chi_both ctOr rfl,chi_trunc,chi_rest,chi_norm,ctOr]
  cases chi a d <;> cases decide (d < day) <;> rfl
end Go.Proofs.YthkbdabfjfffjaaGreatDoor.w
namespace Go.Proofs.YthkbdabfjfffjaaGreatDoor.w
open Go Go.VM
set_option maxRecDepth 20000
set_option maxHeartbeats 0
set_option pp.deepTerms false
def c_pandectref02_Has:VC:=(.seq (.region [ZO 4 (.mv (.c (.bool false)))] false) (.seq (.seq (.region [ZO 5 (.mv (.c (.int .i64 0)))] false) (.block 0 (.loop (.seq (.seq (.region [ZM 6 5,ZM 7 0,ZO 8 (.len false (.t 7)),ZO 9 (.bin .lss (.t 6) (.t 8))] false) (.cond (.t 9) .skip (.exit 0))) (.seq (.block 1 (.seq (.region [ZM 12 1,ZO 13 (.bin .geq (.t 12) (.c (.int .i64 0))),ZM 14 13,ZG 15 (.mv (.t 1)) 14 true,ZG 16 (.bin .leq (.t 15) (.c (.int .i64 1048576))) 14 true,ZO 17 (.pick (.t 14) (.t 16) (.c (.bool false))),ZM 18 17,ZG 19 (.mv (.t 0)) 18 true,ZG 20 (.mv (.t 5)) 18 true,ZG 21 (.iaddr 2 (.t 19) (.t 20)) 18 true,ZG 22 (.faddr 0 (.t 21)) 18 true,ZG 23 (.load false 1 (.t 22)) 18 true,ZG 24 (.mv (.t 1)) 18 true,ZG 25 (.bin .leq (.t 23) (.t 24)) 18 true,ZO 26 (.pick (.t 18) (.t 25) (.c (.bool false))),ZM 27 26,ZG 28 (.mv (.t 1)) 27 true,ZG 29 (.mv (.t 0)) 27 true,ZG 30 (.mv (.t 5)) 27 true,ZG 31 (.iaddr 2 (.t 29) (.t 30)) 27 true,ZG 32 (.faddr 1 (.t 31)) 27 true,ZG 33 (.load false 1 (.t 32)) 27 true,ZG 34 (.bin .lss (.t 28) (.t 33)) 27 true,ZO 35 (.pick (.t 27) (.t 34) (.c (.bool false)))] false) (.cond (.t 35) (.seq (.region [ZO 4 (.mv (.c (.bool true)))] false) .ret) .skip))) (.region [ZM 10 5,ZO 11 (.bin .add (.t 10) (.c (.int .i64 1))),ZM 5 11] false)))))) (.seq (.region [ZO 4 (.mv (.c (.bool false)))] false) .ret)))
def c_pandectref02_put:VC:=(.seq (.region [ZO 4 (.mv (.c .nilsl))] false) (.seq (.region [ZO 5 (.mv (.c (.int .i64 0)))] false) (.seq (.block 0 (.loop (.seq (.seq (.region [ZM 6 5,ZM 7 0,ZO 8 (.len false (.t 7)),ZO 9 (.bin .lss (.t 6) (.t 8)),ZM 10 9,ZG 11 (.mv (.t 0)) 10 true,ZG 12 (.mv (.t 5)) 10 true,ZG 13 (.iaddr 1 (.t 11) (.t 12)) 10 true,ZG 14 (.load false 1 (.t 13)) 10 true,ZG 15 (.mv (.t 1)) 10 true,ZG 16 (.bin .lss (.t 14) (.t 15)) 10 true,ZO 17 (.pick (.t 10) (.t 16) (.c (.bool false)))] false) (.cond (.t 17) .skip (.exit 0))) (.block 1 (.region [ZM 18 5,ZO 19 (.bin .add (.t 18) (.c (.int .i64 1))),ZM 5 19] false))))) (.seq (.seq (.region [ZM 20 5,ZM 21 0,ZO 22 (.len false (.t 21)),ZO 23 (.bin .lss (.t 20) (.t 22)),ZM 24 23,ZG 25 (.mv (.t 0)) 24 true,ZG 26 (.mv (.t 5)) 24 true,ZG 27 (.iaddr 1 (.t 25) (.t 26)) 24 true,ZG 28 (.load false 1 (.t 27)) 24 true,ZG 29 (.mv (.t 1)) 24 true,ZG 30 (.bin .eql (.t 28) (.t 29)) 24 true,ZO 31 (.pick (.t 24) (.t 30) (.c (.bool false)))] false) (.cond (.t 31) (.seq (.region [ZM 32 0,ZM 4 32] false) .ret) .skip)) (.seq (.draw2 [ZO 33 (.fx (.mk0 1) []),ZM 34 0,ZM 35 5,ZO 36 (.slice false 1 (.t 34) none (some (.t 35))),ZO 37 (.app 1 8 [(.int .i64 0)] false (.t 33) (.t 36)),ZM 38 1,ZO 39 (.bslice 1 1 [(.int .i64 0)] [(0,(.t 38))]),ZO 40 (.app 1 8 [(.int .i64 0)] false (.t 37) (.t 39)),ZM 41 0,ZM 42 5,ZO 43 (.slice false 1 (.t 41) (some (.t 42)) none),ZO 44 (.app 1 8 [(.int .i64 0)] false (.t 40) (.t 43)),ZM 4 44] [false,false,false,false,false,false,false,false,false,false,false,false,false]) .ret)))))
def c_pandectref02_Points:VC:=(.seq (.region [ZO 2 (.mv (.c .nilsl))] false) (.seq (.region [ZO 5 (.bslice 1 1 [(.int .i64 0)] [(0,(.c (.int .i64 0)))]),ZM 3 5] false) (.seq (.seq (.region [ZO 4 (.mv (.c (.int .i64 0)))] false) (.block 0 (.loop (.seq (.seq (.region [ZM 6 4,ZM 7 0,ZO 8 (.len false (.t 7)),ZO 9 (.bin .lss (.t 6) (.t 8))] false) (.cond (.t 9) .skip (.exit 0))) (.seq (.block 1 (.seq (.seq (.region [ZM 12 0,ZM 13 4,ZO 14 (.iaddr 2 (.t 12) (.t 13)),ZO 15 (.faddr 0 (.t 14)),ZO 16 (.load false 1 (.t 15)),ZO 17 (.bin .gtr (.t 16) (.c (.int .i64 0))),ZM 18 17,ZG 19 (.mv (.t 0)) 18 true,ZG 20 (.mv (.t 4)) 18 true,ZG 21 (.iaddr 2 (.t 19) (.t 20)) 18 true,ZG 22 (.faddr 0 (.t 21)) 18 true,ZG 23 (.load false 1 (.t 22)) 18 true,ZG 24 (.bin .leq (.t 23) (.c (.int .i64 1048576))) 18 true,ZO 25 (.pick (.t 18) (.t 24) (.c (.bool false)))] false) (.cond (.t 25) (.region [ZM 26 3,ZM 27 0,ZM 28 4,ZO 29 (.iaddr 2 (.t 27) (.t 28)),ZO 30 (.faddr 0 (.t 29)),ZO 31 (.load false 1 (.t 30)),ZO 32 (.call 57 [(.t 26),(.t 31)]),ZM 3 32] false) .skip)) (.seq (.region [ZM 33 0,ZM 34 4,ZO 35 (.iaddr 2 (.t 33) (.t 34)),ZO 36 (.faddr 1 (.t 35)),ZO 37 (.load false 1 (.t 36)),ZO 38 (.bin .gtr (.t 37) (.c (.int .i64 0))),ZM 39 38,ZG 40 (.mv (.t 0)) 39 true,ZG 41 (.mv (.t 4)) 39 true,ZG 42 (.iaddr 2 (.t 40) (.t 41)) 39 true,ZG 43 (.faddr 1 (.t 42)) 39 true,ZG 44 (.load false 1 (.t 43)) 39 true,ZG 45 (.bin .leq (.t 44) (.c (.int .i64 1048576))) 39 true,ZO 46 (.pick (.t 39) (.t 45) (.c (.bool false)))] false) (.cond (.t 46) (.region [ZM 47 3,ZM 48 0,ZM 49 4,ZO 50 (.iaddr 2 (.t 48) (.t 49)),ZO 51 (.faddr 1 (.t 50)),ZO 52 (.load false 1 (.t 51)),ZO 53 (.call 57 [(.t 47),(.t 52)]),ZM 3 53] false) .skip)))) (.region [ZM 10 4,ZO 11 (.bin .add (.t 10) (.c (.int .i64 1))),ZM 4 11] false)))))) (.seq (.region [ZM 54 3,ZM 2 54] false) .ret))))
def c_pandectref02_counts:VC:=(.seq (.region [ZO 8 (.mv (.c (.bool false)))] false) (.seq (.region [ZM 11 1,ZM 12 3,ZO 13 (.call 58 [(.t 11),(.t 12)]),ZM 14 2,ZM 15 3,ZO 16 (.call 58 [(.t 14),(.t 15)]),ZM 9 13,ZM 10 16] false) (.seq (.seq (.region [ZM 17 0] false) (.block 0 (.seq (.region [ZO 19 (.bin .eql (.t 17) (.c (.int .i64 0))),ZM 18 19] false) (.cond (.t 18) (.seq (.region [ZM 20 9,ZM 21 20,ZG 22 (.mv (.t 10)) 21 false,ZO 23 (.pick (.t 21) (.c (.bool true)) (.t 22)),ZM 8 23] false) .ret) (.seq (.region [ZO 25 (.bin .eql (.t 17) (.c (.int .i64 1))),ZM 24 25] false) (.cond (.t 24) (.seq (.region [ZM 26 9,ZM 27 26,ZG 28 (.mv (.t 10)) 27 true,ZO 29 (.pick (.t 27) (.t 28) (.c (.bool false))),ZM 8 29] false) .ret) .skip)))))) (.seq (.region [ZM 30 9,ZM 31 30,ZG 32 (.mv (.t 10)) 31 true,ZG 33 (.un .not (.t 32)) 31 true,ZO 34 (.pick (.t 31) (.t 33) (.c (.bool false))),ZM 8 34] false) .ret))))
theorem sp_pandectref02_Has (l:List Sp) (d:Int) (hl:l.length ≤ 4611686018427387904):Zcn Tryz.prog 58 [.sl 2 (l.map Sp.enc),pI d] (.bool (hasB l d)):=by
  refine Zb6 ?_ (cB _) (by simp only [Zce,List.mem_cons,List.not_mem_nil,or_false,forall_eq_or_imp,forall_eq,false_implies,implies_true]; repeat' (first  | exact cI _ | exact cB _ | exact Zb9 _ | exact Zcs (by simp only [List.mem_cons,List.not_mem_nil,or_false,forall_eq]; first | exact cI _ | exact cS _ | exact Zcq _) | refine And.intro ?_ ?_))
  refine Zcc (vc:=c_pandectref02_Has) (ts:=[.t 4]) Go.Proofs.Tryz.func58 (by kernel_rfl) rfl rfl (Nat.le_of_ble_eq_true rfl) (by kernel_rfl) ?_
  unfold c_pandectref02_Has
  try dsimp only [ZM,ZO,ZN,ZG]
  refine Za9 (Zae [0,1] ?_)
  simp only [Zaa,Zah,Za5,pok,pval,VA.ev,Env.get,Env.put,Env.keep,Za0,Za6,Heap.nil,Nat.succ_ne_self,Nat.reduceEqDiff,ite_true,ite_false,true_and,reduceCtorEq,Nat.zero_add]
  refine Za9 ?_
  refine Za9 (Zae [0,1,5] ?_)
  simp only [Zaa,Zah,Za5,pok,pval,VA.ev,Env.get,Env.put,Env.keep,Za6,Nat.succ_ne_self,Nat.reduceEqDiff,ite_true,ite_false,true_and,reduceCtorEq]
  refine Zcb ?_
  refine Zcz (σ:={ i:Nat // i ≤ l.length ∧ hasB (l.take i) d = false }) (fun s=>([(0,.sl 2 (l.map Sp.enc)),(1,pI d),(5,pI s.1)],⟨[],0⟩)) (fun s=>l.length - s.1) ⟨0,by simp [hasB]⟩ ?_ ?_ ?_
  · simp only [Env.get,Nat.succ_ne_self,Env.le,Nat.reduceEqDiff,ite_true,ite_false,true_and,and_true,reduceCtorEq]
    rfl
  · simp only [Heap.le,HL.le,Nat.le_refl,and_true]
  rintro ⟨i,hi,hpre⟩
  simp only []
  refine Za9 ?_
  refine Za9 (Zae [0,1,5,9] ?_)
  simp only [Zaa,Zah,Za5,pok,pval,VA.ev,Env.get,Env.put,Env.keep,Za6,intV,binV,Zbk,lenV,Zbq,Heap.le,HL.le,Nat.succ_ne_self,Env.le,Nat.reduceEqDiff,ite_true,ite_false,true_and,and_true,reduceCtorEq,List.length_map]
  refine Zb4 rfl (fun h1=>?_) (fun h1=>?_)
  · refine Zb8 ?_
    try simp only [Za6]
    simp only [decide_eq_true_eq] at h1
    have ia:i < l.length:=by omega
    have hst:hasB (l.take (i + 1)) d = (hasB (l.take i) d || (decide (0 ≤ d) && (decide (d ≤ 1048576) && (decide (l[i].frm ≤ d) && decide (d < l[i].to))))):=by
      unfold hasB
      rw [List.take_add_one,List.getElem?_eq_getElem ia,List.any_append]; simp
    have hall:hasB l d = (hasB (l.take (i + 1)) d || hasB (l.drop (i + 1)) d):=by
      unfold hasB
      rw [← List.any_append,List.take_append_drop]
    rw [hpre,Bool.false_or] at hst
    refine Za9 ?_
    refine Zcb ?_
    refine VW_seqJ (σ:=Unit) [0,1,5,35] (fun _=>([(0,.sl 2 (l.map Sp.enc)),(1,pI d),(5,pI i),(35,.bool (decide (0 ≤ d) && (decide (d ≤ 1048576) && (decide (l[i].frm ≤ d) && decide (d < l[i].to)))))],⟨[],0⟩)) ?_ (fun _=>?_)
    · cases e1:decide (0 ≤ d) with
      | false =>
        simp only [Zaa,Zah,Zao,Za5,pok,pval,VA.ev,Env.get,Env.put,Env.keep,Zbn,isBool,intV,binV,Zbk,Heap.le,HL.le,Nat.le_refl,Nat.succ_ne_self,Env.le,Nat.reduceEqDiff,Bool.false_eq_true,ite_true,ite_false,true_and,and_true,reduceCtorEq,e1]
        exact ⟨(),by first | trivial | rfl⟩
      | true =>
        cases e2:decide (d ≤ 1048576) with
        | false =>
          simp only [Zaa,Zah,Za8,Zao,Za5,pok,pval,VA.ev,Env.get,Env.put,Env.keep,Zbn,isBool,intV,binV,Zbk,Heap.le,HL.le,Nat.le_refl,Nat.succ_ne_self,Env.le,Nat.reduceEqDiff,Bool.false_eq_true,ite_true,ite_false,true_and,and_true,reduceCtorEq,e1,e2]
          exact ⟨(),by first | trivial | rfl⟩
        | true =>
          cases e3:decide (l[i].frm ≤ d) with
          | false =>
            simp only [Zaa,Zah,Za8,Zao,Za5,pok,pval,VA.ev,Env.get,Env.put,Env.keep,Zbn,isBool,aggV,intV,binV,Zbk,isInt,numOf,lenV,Za4,Za3,Zad,Zbm,Za1,Zak,PV.nth,PV.row,Heap.le,HL.le,Nat.le_refl,Nat.succ_ne_self,Env.le,List.length,List.getD_cons_zero,List.take,List.drop,List.take_succ_cons,Nat.reduceEqDiff,Nat.reduceAdd,Nat.reduceLeDiff,Bool.false_eq_true,ite_true,ite_false,true_and,and_true,implies_true,reduceCtorEq,Nat.zero_add,List.length_cons,Int.toNat_natCast,e1,e2,e3,List.length_map,rowm ia,Sp.enc]
            repeat (with_reducible refine And.intro ?_ ?_; first | omega | (with_reducible constructor <;> omega) | exact False.elim | exact True.intro)
            exact ⟨(),by first | trivial | rfl⟩
          | true =>
            simp only [Zaa,Zah,Za8,Za5,pok,pval,VA.ev,Env.get,Env.put,Env.keep,Zbn,isBool,aggV,intV,binV,Zbk,isInt,numOf,lenV,Za4,Za3,Zad,Zbm,Za1,Zak,PV.nth,PV.row,Heap.le,HL.le,Nat.le_refl,Nat.succ_ne_self,Env.le,List.length,List.getD_cons_zero,List.take,List.drop,List.take_succ_cons,Nat.reduceEqDiff,Nat.reduceAdd,Nat.reduceLeDiff,Bool.false_eq_true,ite_true,ite_false,true_and,and_true,implies_true,reduceCtorEq,Nat.zero_add,List.length_cons,Int.toNat_natCast,e1,e2,e3,List.length_map,rowm ia,Sp.enc]
            repeat (with_reducible refine And.intro ?_ ?_; first | omega | (with_reducible constructor <;> omega) | exact False.elim | exact True.intro)
            exact ⟨(),by first | trivial | rfl⟩
    refine Zb4 rfl (fun h2=>?_) (fun h2=>?_)
    · refine Za9 (Zae [4] ?_)
      simp only [Zaa,Zah,Za5,pok,pval,VA.ev,Env.get,Env.put,Env.keep,Za6,Nat.succ_ne_self,Nat.reduceEqDiff,ite_true,ite_false,true_and,reduceCtorEq]
      refine Zca ?_
      try simp only [Env.get,Za6,Zay,retQ,resV,Zbl,RS.ev,RS.ok,ite_true,true_and,and_true]
      rw [hall,hst,h2]
      exact View.refl _ _
    refine Zb8 ?_
    try simp only [Za6,Zay]
    refine Zae [0,1,5] ?_
    simp only [Zaa,Zah,Za5,pok,pval,VA.ev,Env.get,Env.put,Env.keep,Za6,intV,binV,Zbk,Nat.le_refl,Nat.succ_ne_self,Nat.reduceEqDiff,ite_true,ite_false,true_and,reduceCtorEq,w64 (n:=(i:Int) + 1) (by omega) (by omega)]
    refine ⟨⟨i + 1,by omega,by rw [hst,h2]⟩,?_,?_⟩
    · rfl
    · simp only []; omega
  · simp only [decide_eq_false_iff_not] at h1
    refine Zcw ?_
    try simp only [Za6,Zay,retQ,ite_true]
    refine Za9 (Zae [4] ?_)
    simp only [Zaa,Zah,Za5,pok,pval,VA.ev,Env.get,Env.put,Env.keep,Za6,Nat.succ_ne_self,Nat.reduceEqDiff,ite_true,ite_false,true_and,reduceCtorEq]
    refine Zca ?_
    try simp only [Env.get,retQ,resV,Zbl,RS.ev,RS.ok,ite_true,true_and,and_true]
    rw [List.take_of_length_le (by omega)] at hpre
    rw [hpre]
    exact View.refl _ _
theorem sp_pandectref02_put (l:List Int) (n:Int) (hl:l.length ≤ 1000000):Zcn Tryz.prog 57 [.sl 1 (l.map fun x=>[pI x]),pI n] (.sl 1 ((putR l n).map fun x=>[pI x])):=by
  refine Zb6 ?_ (closed_sc _) (by simp only [Zce,List.mem_cons,List.not_mem_nil,or_false,forall_eq_or_imp,forall_eq,false_implies,implies_true]; repeat' (first  | exact cI _ | exact closed_sc _ | exact Zcs (by simp only [List.mem_cons,List.not_mem_nil,or_false,forall_eq]; first | exact cI _ | exact cS _ | exact Zcq _) | refine And.intro ?_ ?_))
  refine Zcc (vc:=c_pandectref02_put) (ts:=[.t 4]) Go.Proofs.Tryz.func57 (by kernel_rfl) rfl rfl (Nat.le_of_ble_eq_true rfl) (by kernel_rfl) ?_
  unfold c_pandectref02_put
  try dsimp only [ZM,ZO,ZN,ZG]
  refine Za9 (Zae [0,1] ?_)
  simp only [Zaa,Zah,Za5,pok,pval,VA.ev,Env.get,Env.put,Env.keep,Za0,Za6,Heap.nil,Nat.succ_ne_self,Nat.reduceEqDiff,ite_true,ite_false,true_and,reduceCtorEq,Nat.zero_add]
  refine Za9 (Zae [0,1,5] ?_)
  simp only [Zaa,Zah,Za5,pok,pval,VA.ev,Env.get,Env.put,Env.keep,Za6,Nat.succ_ne_self,Nat.reduceEqDiff,ite_true,ite_false,true_and,reduceCtorEq]
  refine Za9 ?_
  refine Zcb ?_
  refine Zcz (σ:={ i:Nat // i ≤ l.length ∧ ∀ (j:Nat) (hj:j < l.length),j < i → l[j] < n }) (fun s=>([(0,.sl 1 (l.map fun x=>[pI x])),(1,pI n),(5,pI s.1)],⟨[],0⟩)) (fun s=>l.length - s.1) ⟨0,by simp⟩ ?_ ?_ ?_
  · simp only [Env.get,Nat.succ_ne_self,Env.le,Nat.reduceEqDiff,ite_true,ite_false,true_and,and_true,reduceCtorEq]
    rfl
  · simp only [Heap.le,HL.le,Nat.le_refl,and_true]
  rintro ⟨i,hi,hpre⟩
  simp only []
  refine Za9 ?_
  refine VW_seqJ (σ:=Unit) [0,1,5,17] (fun _=>([(0,.sl 1 (l.map fun x=>[pI x])),(1,pI n),(5,pI i),(17,.bool (decide (∃ h:i < l.length,l[i] < n)))],⟨[],0⟩)) ?_ (fun _=>?_)
  · by_cases ia:i < l.length
    · have e0:decide ((i:Int) < (l.length:Int)) = true:=by simpa using ia
      have e1:decide (∃ h:i < l.length,l[i] < n) = decide (l[i] < n):=by simp [ia]
      rw [e1]
      simp only [Zaa,Zah,Za8,Za5,pok,pval,VA.ev,Env.get,Env.put,Env.keep,Zbn,isBool,aggV,intV,binV,Zbk,isInt,numOf,lenV,Zad,Zbm,Za1,Zak,Zbq,PV.nth,PV.row,Heap.le,HL.le,Nat.le_refl,Nat.succ_ne_self,Env.le,List.length,List.getD_cons_zero,List.take,List.take_succ_cons,Nat.reduceEqDiff,Bool.false_eq_true,ite_true,ite_false,true_and,and_true,implies_true,reduceCtorEq,Nat.zero_add,List.length_cons,Int.toNat_natCast,List.length_map,e0,rowm ia]
      repeat (with_reducible refine And.intro ?_ ?_; first | omega | (with_reducible constructor <;> omega) | exact False.elim | exact True.intro)
      exact ⟨(),by first | trivial | rfl⟩
    · have e0:decide ((i:Int) < (l.length:Int)) = false:=by simp; omega
      have e1:decide (∃ h:i < l.length,l[i] < n) = false:=by simp [ia]
      rw [e1]
      simp only [Zaa,Zah,Zao,Za5,pok,pval,VA.ev,Env.get,Env.put,Env.keep,Zbn,isBool,intV,binV,Zbk,lenV,Zbq,Heap.le,HL.le,Nat.le_refl,Nat.succ_ne_self,Env.le,Nat.reduceEqDiff,Bool.false_eq_true,ite_true,ite_false,true_and,and_true,reduceCtorEq,List.length_map,e0]
      exact ⟨(),by first | trivial | rfl⟩
  refine Zb4 rfl (fun h1=>?_) (fun h1=>?_)
  · refine Zb8 ?_
    try simp only [Za6,Heap.le,HL.le,Env.le,and_true]
    simp only [decide_eq_true_eq] at h1
    obtain ⟨ia,hlt⟩:=h1
    refine Zcb ?_
    refine Zae [0,1,5] ?_
    simp only [Zaa,Zah,Za5,pok,pval,VA.ev,Env.get,Env.put,Env.keep,Za6,Zay,intV,binV,Zbk,Nat.le_refl,Nat.succ_ne_self,Nat.reduceEqDiff,ite_true,ite_false,true_and,reduceCtorEq,w64 (n:=(i:Int) + 1) (by omega) (by omega)]
    refine ⟨⟨i + 1,by omega,fun j hj hj'=>?_⟩,?_,?_⟩
    · rcases Nat.lt_or_eq_of_le (Nat.le_of_lt_succ hj') with h3 | rfl
      · exact hpre j hj h3
      · exact hlt
    · rfl
    · simp only []; omega
  · simp only [decide_eq_false_iff_not,not_exists] at h1
    have hp:=putR_at n l i hi hpre h1
    refine Zcw ?_
    try simp only [Za6,Zay,retQ,ite_true]
    refine Za9 ?_
    refine VW_seqJ (σ:=Unit) [0,1,5,31] (fun _=>([(0,.sl 1 (l.map fun x=>[pI x])),(1,pI n),(5,pI i),(31,.bool (decide (l[i]? = some n)))],⟨[],0⟩)) ?_ (fun _=>?_)
    · by_cases ia:i < l.length
      · have e0:decide ((i:Int) < (l.length:Int)) = true:=by simpa using ia
        have e1:decide (l[i]? = some n) = (l[i] == n):=by rw [List.getElem?_eq_getElem ia,Bool.eq_iff_iff]; simp
        rw [e1]
        simp only [Zaa,Zah,Za8,Za5,pok,pval,VA.ev,Env.get,Env.put,Env.keep,Zbn,isBool,aggV,intV,binV,Zbk,isInt,numOf,lenV,Zad,Zbm,Za1,Zak,Zbq,PV.nth,PV.row,Heap.le,HL.le,Nat.le_refl,Nat.succ_ne_self,Env.le,List.length,List.getD_cons_zero,List.take,List.take_succ_cons,Nat.reduceEqDiff,Bool.false_eq_true,ite_true,ite_false,true_and,and_true,implies_true,reduceCtorEq,Nat.zero_add,List.length_cons,Int.toNat_natCast,List.length_map,e0,rowm ia]
        repeat (with_reducible refine And.intro ?_ ?_; first | omega | (with_reducible constructor <;> omega) | exact False.elim | exact True.intro)
        exact ⟨(),by first | trivial | rfl⟩
      · have e0:decide ((i:Int) < (l.length:Int)) = false:=by simp; omega
        have e1:decide (l[i]? = some n) = false:=by rw [List.getElem?_eq_none (by omega)]; simp
        rw [e1]
        simp only [Zaa,Zah,Zao,Za5,pok,pval,VA.ev,Env.get,Env.put,Env.keep,Zbn,isBool,intV,binV,Zbk,lenV,Zbq,Heap.le,HL.le,Nat.le_refl,Nat.succ_ne_self,Env.le,Nat.reduceEqDiff,Bool.false_eq_true,ite_true,ite_false,true_and,and_true,reduceCtorEq,List.length_map,e0]
        exact ⟨(),by first | trivial | rfl⟩
    refine Zb4 rfl (fun h2=>?_) (fun h2=>?_)
    · refine Za9 (Zae [4] ?_)
      simp only [Zaa,Zah,Za5,pok,pval,VA.ev,Env.get,Env.put,Env.keep,Za6,Nat.succ_ne_self,Nat.reduceEqDiff,ite_true,ite_false,true_and,reduceCtorEq]
      refine Zca ?_
      try simp only [Env.get,Za6,retQ,resV,Zbl,RS.ev,RS.ok,ite_true,true_and,and_true]
      rw [hp,if_pos (by simpa using h2)]
      exact View.refl _ _
    refine Zb8 ?_
    try simp only [Za6]
    rw [if_neg (by simpa using h2)] at hp
    have a1:(List.take i (l.map fun x=>[pI x])).length = i:=by simp; omega
    have a2:List.take i (List.take i (l.map fun x=>[pI x])) = List.take i (l.map fun x=>[pI x]):=by rw [List.take_take,Nat.min_self]
    have a3:(List.take i (l.map fun x=>[pI x]) ++ [[pI n]]).length = i + 1:=by simp; omega
    have a4:List.take (i + 1) (List.take i (l.map fun x=>[pI x]) ++ [[pI n]]) = List.take i (l.map fun x=>[pI x]) ++ [[pI n]]:=List.take_of_length_le (by omega)
    have a5:List.take (l.length - i) (List.drop i (l.map fun x=>[pI x])) = List.drop i (l.map fun x=>[pI x]):=List.take_of_length_le (by simp)
    have a6:(List.drop i (l.map fun x=>[pI x])).length = l.length - i:=by simp
    refine Za9 (VW_draw2E 100 [4] (by simp) ?_)
    simp only [Za5,Zac,Zau,QW,dok,dval,VOp.pure,VOp.simple,VOp.det,pok,pval,VA.ev,Env.get,Env.put,Env.keep,Za6,gd,numOf,loV,hiV,lenV,Zar,Zbf,Zat,PV.cells,PV.fits,Heap.get,Heap.del,Heap.le,HL.get,HL.del,HL.le,Heap.push,Nat.le_refl,Nat.succ_ne_self,Za2,Zbu,Zam,Zbv,Zaj,Zbt,Zaz,Zal,fxV,fxOk,List.map,List.set,List.replicate,List.length,List.take,List.drop,List.drop_zero,List.nil_append,Option.map,Nat.reduceEqDiff,Nat.reduceAdd,Nat.reduceLT,Nat.reduceLeDiff,ite_true,ite_false,true_and,and_true,implies_true,forall_const,reduceCtorEq,BEq.rfl,Nat.zero_add,Nat.add_zero,List.length_cons,List.length_nil,Int.toNat_natCast,List.length_map,Nat.sub_zero,a1,a2,a3,a4,a5,a6]
    repeat (with_reducible refine And.intro ?_ ?_; first | omega | (with_reducible constructor <;> omega) | exact False.elim | exact True.intro)
    refine Zca ?_
    try simp only [Env.get,retQ,resV,Zbl,RS.ev,RS.ok,ite_true,true_and,and_true]
    rw [hp,List.map_append,List.map_cons,List.map_take,List.map_drop]
    exact View.own_all (fz:=false) (by simp [Heap.get,HL.get]) (by simp; omega)
theorem sp_pandectref02_Points (l:List Sp) (hl:l.length ≤ 100000):Zcn Tryz.prog 38 [.sl 2 (l.map Sp.enc)] (.sl 1 ((Zcm l).map fun x=>[pI x])):=by
  refine Zb6 ?_ (closed_sc _) (by simp only [Zce,List.mem_cons,List.not_mem_nil,or_false,forall_eq_or_imp,forall_eq,false_implies,implies_true]; repeat' (first  | exact cI _ | exact closed_sc _ | exact Zb9 _ | exact Zcs (by simp only [List.mem_cons,List.not_mem_nil,or_false,forall_eq]; first | exact cI _ | exact cS _ | exact Zcq _) | refine And.intro ?_ ?_))
  refine Zcc (vc:=c_pandectref02_Points) (ts:=[.t 2]) Go.Proofs.Tryz.func38 (by kernel_rfl) rfl rfl (Nat.le_of_ble_eq_true rfl) (by kernel_rfl) ?_
  unfold c_pandectref02_Points
  try dsimp only [ZM,ZO,ZN,ZG]
  refine Za9 (Zae [0] ?_)
  simp only [Zaa,Zah,Za5,pok,pval,VA.ev,Env.get,Env.put,Env.keep,Za0,Za6,Heap.nil,ite_true,ite_false,true_and,reduceCtorEq]
  refine Za9 (Zae [0,3] ?_)
  simp only [Zaa,Zah,Za5,pok,pval,VA.ev,Env.get,Env.put,Env.keep,Za6,PV.cells,PV.fits,Heap.push,Zaz,Zal,List.set,List.replicate,Nat.reduceEqDiff,Nat.reduceLT,ite_true,ite_false,true_and,and_true,reduceCtorEq,BEq.rfl,Nat.zero_add]
  refine VW_freeze [(0,.sl 2 (l.map Sp.enc)),(3,.sl 1 (([0]:List Int).map fun x=>[pI x]))] ⟨View.refl _ _,View.own_all (fz:=false) rfl rfl,trivial⟩ ?_
  try simp only [List.map]
  refine Za9 ?_
  refine Za9 (Zae [0,3,4] ?_)
  simp only [Zaa,Zah,Za5,pok,pval,VA.ev,Env.get,Env.put,Env.keep,Za6,Nat.succ_ne_self,Nat.reduceEqDiff,ite_true,ite_false,true_and,reduceCtorEq]
  refine Zcb ?_
  refine Zcz (σ:={ i:Nat // i ≤ l.length }) (fun s=>([(0,.sl 2 (l.map Sp.enc)),(3,.sl 1 (((l.take s.1).foldl Zck [0]).map fun x=>[pI x])),(4,pI s.1)],⟨[],1⟩)) (fun s=>l.length - s.1) ⟨0,by simp⟩ ?_ ?_ ?_
  · simp only [Env.get,Nat.succ_ne_self,Env.le,List.take,Nat.reduceEqDiff,ite_true,ite_false,true_and,and_true,reduceCtorEq]
    exact ⟨rfl,rfl⟩
  · simp only [Heap.le,HL.le,Nat.le_refl,and_true]
  rintro ⟨i,hi⟩
  simp only []
  refine Za9 ?_
  refine Za9 (Zae [0,3,4,9] ?_)
  simp only [Zaa,Zah,Za5,pok,pval,VA.ev,Env.get,Env.put,Env.keep,Za6,intV,binV,Zbk,lenV,Zbq,Heap.le,HL.le,Nat.succ_ne_self,Env.le,Nat.reduceEqDiff,ite_true,ite_false,true_and,and_true,reduceCtorEq,List.length_map]
  refine Zb4 rfl (fun h1=>?_) (fun h1=>?_)
  · refine Zb8 ?_
    try simp only [Za6]
    simp only [decide_eq_true_eq] at h1
    have ia:i < l.length:=by omega
    have hst:(l.take (i + 1)).foldl Zck [0] = Zck ((l.take i).foldl Zck [0]) l[i]:=by
      rw [List.take_add_one,List.getElem?_eq_getElem ia,List.foldl_append]; rfl
    have hln:=points_len (l.take i) [0]
    generalize (l.take i).foldl Zck [0] = A at hst hln ⊢
    have hlA:A.length ≤ 200001:=by simp at hln; omega
    have hlB:=putIf_len A l[i].frm
    refine Za9 ?_
    refine Zcb ?_
    refine Za9 ?_
    refine VW_seqJ (σ:=Unit) [0,3,4,25] (fun _=>([(0,.sl 2 (l.map Sp.enc)),(3,.sl 1 (A.map fun x=>[pI x])),(4,pI i),(25,.bool (inB l[i].frm))],⟨[],1⟩)) ?_ (fun _=>?_)
    · unfold inB
      cases e1:decide (0 < l[i].frm) with
      | false =>
        simp only [Zaa,Zah,Zao,Za5,pok,pval,VA.ev,Env.get,Env.put,Env.keep,Zbn,isBool,aggV,intV,binV,Zbk,isInt,numOf,lenV,Za4,Za3,Zad,Zbm,Za1,Zak,PV.nth,PV.row,Heap.le,HL.le,Nat.le_refl,Nat.succ_ne_self,Env.le,List.length,List.getD_cons_zero,List.take,List.drop,List.take_succ_cons,Nat.reduceEqDiff,Nat.reduceAdd,Nat.reduceLeDiff,Bool.false_eq_true,ite_true,ite_false,true_and,and_true,implies_true,reduceCtorEq,Nat.zero_add,List.length_cons,Int.toNat_natCast,List.length_map,rowm ia,Sp.enc,e1]
        repeat (with_reducible refine And.intro ?_ ?_; first | omega | (with_reducible constructor <;> omega) | exact False.elim | exact True.intro)
        exact ⟨(),by first | trivial | rfl⟩
      | true =>
        simp only [Zaa,Zah,Za8,Za5,pok,pval,VA.ev,Env.get,Env.put,Env.keep,Zbn,isBool,aggV,intV,binV,Zbk,isInt,numOf,lenV,Za4,Za3,Zad,Zbm,Za1,Zak,PV.nth,PV.row,Heap.le,HL.le,Nat.le_refl,Nat.succ_ne_self,Env.le,List.length,List.getD_cons_zero,List.take,List.drop,List.take_succ_cons,Nat.reduceEqDiff,Nat.reduceAdd,Nat.reduceLeDiff,Bool.false_eq_true,ite_true,ite_false,true_and,and_true,implies_true,reduceCtorEq,Nat.zero_add,List.length_cons,Int.toNat_natCast,List.length_map,rowm ia,Sp.enc,e1]
        repeat (with_reducible refine And.intro ?_ ?_; first | omega | (with_reducible constructor <;> omega) | exact False.elim | exact True.intro)
        exact ⟨(),by first | trivial | rfl⟩
    refine VW_mid (σ:=Unit) (fun _=>([(0,.sl 2 (l.map Sp.enc)),(3,.sl 1 ((putIf A l[i].frm).map fun x=>[pI x])),(4,pI i)],⟨[],1⟩)) ?_ (fun _=>?_)
    · refine Zb4 rfl (fun h2=>?_) (fun h2=>?_)
      · refine Zae [0,3,4] ?_
        simp only [midQ,Zaa,Zah,Za5,pok,pval,VA.ev,Env.get,Env.put,Env.keep,aggV,isInt,numOf,lenV,Za4,Za3,Zad,Zbm,Za1,Zak,PV.nth,PV.row,Heap.le,HL.le,Nat.succ_ne_self,Env.le,List.map,List.length,List.getD_cons_zero,List.take,List.drop,List.take_succ_cons,Nat.reduceEqDiff,Nat.reduceAdd,Nat.reduceLeDiff,Bool.false_eq_true,ite_true,ite_false,true_and,and_true,implies_true,reduceCtorEq,Nat.zero_add,List.length_cons,Int.toNat_natCast,List.length_map,rowm ia,Sp.enc]
        repeat (with_reducible refine And.intro ?_ ?_; first | omega | (with_reducible constructor <;> omega) | exact False.elim | exact True.intro)
        refine Zb7 (sp_pandectref02_put A l[i].frm (by omega)) ?_
        try simp only [Nat.le_refl,and_true]
        simp only [putIf,h2,if_true]
        exact ⟨(),by first | trivial | rfl⟩
      · refine Zb8 ?_
        try simp only [midQ,Env.get,Heap.le,HL.le,Nat.le_refl,Nat.succ_ne_self,Env.le,Nat.reduceEqDiff,ite_true,ite_false,true_and,and_true,reduceCtorEq]
        simp only [putIf,h2,Bool.false_eq_true,if_false]
        exact ⟨(),by first | trivial | rfl⟩
    refine VW_seqJ (σ:=Unit) [0,3,4,46] (fun _=>([(0,.sl 2 (l.map Sp.enc)),(3,.sl 1 ((putIf A l[i].frm).map fun x=>[pI x])),(4,pI i),(46,.bool (inB l[i].to))],⟨[],1⟩)) ?_ (fun _=>?_)
    · unfold inB
      cases e1:decide (0 < l[i].to) with
      | false =>
        simp only [Zaa,Zah,Zao,Za5,pok,pval,VA.ev,Env.get,Env.put,Env.keep,Zbn,isBool,aggV,intV,binV,Zbk,isInt,numOf,lenV,Za4,Za3,Zad,Zbm,Za1,Zak,PV.nth,PV.row,Heap.le,HL.le,Nat.le_refl,Nat.succ_ne_self,Env.le,List.length,List.getD_cons_zero,List.take,List.drop,List.take_succ_cons,Nat.reduceEqDiff,Bool.false_eq_true,ite_true,ite_false,true_and,and_true,implies_true,reduceCtorEq,Nat.zero_add,List.length_cons,Int.toNat_natCast,List.length_map,rowm ia,Sp.enc,e1]
        repeat (with_reducible refine And.intro ?_ ?_; first | omega | (with_reducible constructor <;> omega) | exact False.elim | exact True.intro)
        exact ⟨(),by first | trivial | rfl⟩
      | true =>
        simp only [Zaa,Zah,Za8,Za5,pok,pval,VA.ev,Env.get,Env.put,Env.keep,Zbn,isBool,aggV,intV,binV,Zbk,isInt,numOf,lenV,Za4,Za3,Zad,Zbm,Za1,Zak,PV.nth,PV.row,Heap.le,HL.le,Nat.le_refl,Nat.succ_ne_self,Env.le,List.length,List.getD_cons_zero,List.take,List.drop,List.take_succ_cons,Nat.reduceEqDiff,Bool.false_eq_true,ite_true,ite_false,true_and,and_true,implies_true,reduceCtorEq,Nat.zero_add,List.length_cons,Int.toNat_natCast,List.length_map,rowm ia,Sp.enc,e1]
        repeat (with_reducible refine And.intro ?_ ?_; first | omega | (with_reducible constructor <;> omega) | exact False.elim | exact True.intro)
        exact ⟨(),by first | trivial | rfl⟩
    refine Zb4 rfl (fun h3=>?_) (fun h3=>?_)
    · refine Zae [0,3,4] ?_
      simp only [Zaa,Zah,Za5,pok,pval,VA.ev,Env.get,Env.put,Env.keep,Za6,Zay,aggV,isInt,numOf,lenV,Za4,Za3,Zad,Zbm,Za1,Zak,PV.nth,PV.row,Nat.le_refl,Nat.succ_ne_self,List.map,List.length,List.getD_cons_zero,List.take,List.drop,List.take_succ_cons,Nat.reduceEqDiff,Bool.false_eq_true,ite_true,ite_false,true_and,and_true,implies_true,reduceCtorEq,Nat.zero_add,List.length_cons,Int.toNat_natCast,List.length_map,rowm ia,Sp.enc]
      repeat (with_reducible refine And.intro ?_ ?_; first | omega | (with_reducible constructor <;> omega) | exact False.elim | exact True.intro)
      refine Zb7 (sp_pandectref02_put (putIf A l[i].frm) l[i].to (by omega)) ?_
      skip
      refine Zae [0,3,4] ?_
      simp only [Zaa,Zah,Za5,pok,pval,VA.ev,Env.get,Env.put,Env.keep,Za6,intV,binV,Zbk,Nat.le_refl,Nat.succ_ne_self,Nat.reduceEqDiff,ite_true,ite_false,true_and,reduceCtorEq,w64 (n:=(i:Int) + 1) (by omega) (by omega)]
      refine ⟨⟨i + 1,by omega⟩,?_,?_⟩
      · rw [hst,Zck]; simp [putIf,h3]
      · simp only []; omega
    · refine Zb8 ?_
      try simp only [Za6,Zay]
      refine Zae [0,3,4] ?_
      simp only [Zaa,Zah,Za5,pok,pval,VA.ev,Env.get,Env.put,Env.keep,Za6,intV,binV,Zbk,Nat.le_refl,Nat.succ_ne_self,Nat.reduceEqDiff,ite_true,ite_false,true_and,reduceCtorEq,w64 (n:=(i:Int) + 1) (by omega) (by omega)]
      refine ⟨⟨i + 1,by omega⟩,?_,?_⟩
      · rw [hst,Zck]; simp [putIf,h3]
      · simp only []; omega
  · simp only [decide_eq_false_iff_not] at h1
    refine Zcw ?_
    try simp only [Za6,Zay,retQ,ite_true]
    refine Za9 (Zae [2] ?_)
    simp only [Zaa,Zah,Za5,pok,pval,VA.ev,Env.get,Env.put,Env.keep,Za6,Nat.succ_ne_self,Nat.reduceEqDiff,ite_true,ite_false,true_and,reduceCtorEq]
    refine Zca ?_
    try simp only [Env.get,retQ,resV,Zbl,RS.ev,RS.ok,ite_true,true_and,and_true]
    rw [List.take_of_length_le (by omega)]
    exact View.refl _ _
def ctOf (how:Int):Bool → Bool → Bool:=if how = 0 then ctOr else if how = 1 then ctAnd else fun x y=>x && !y
theorem sp_pandectref02_counts (how:Int) (a b:List Sp) (d:Int) (ha:a.length ≤ 4611686018427387904) (hb:b.length ≤ 4611686018427387904):Zcn Tryz.prog 39 [pI how,.sl 2 (a.map Sp.enc),.sl 2 (b.map Sp.enc),pI d] (.bool (ctR (ctOf how) a b d)):=by
  refine Zb6 ?_ (cB _) (by simp only [Zce,List.mem_cons,List.not_mem_nil,or_false,forall_eq_or_imp,forall_eq,false_implies,implies_true]; repeat' (first  | exact cI _ | exact cB _ | exact Zb9 _ | exact Zcs (by simp only [List.mem_cons,List.not_mem_nil,or_false,forall_eq]; first | exact cI _ | exact cS _ | exact Zcq _) | refine And.intro ?_ ?_))
  refine Zcc (vc:=c_pandectref02_counts) (ts:=[.t 8]) Go.Proofs.Tryz.func39 (by kernel_rfl) rfl rfl (Nat.le_of_ble_eq_true rfl) (by kernel_rfl) ?_
  unfold c_pandectref02_counts
  try dsimp only [ZM,ZO,ZN,ZG]
  refine Za9 (Zae [0,1,2,3] ?_)
  simp only [Zaa,Zah,Za5,pok,pval,VA.ev,Env.get,Env.put,Env.keep,Za0,Za6,Heap.nil,Nat.succ_ne_self,Nat.reduceEqDiff,Nat.reduceAdd,ite_true,ite_false,true_and,reduceCtorEq,Nat.zero_add]
  refine Za9 (Zae [0,9,10] ?_)
  simp only [Zaa,Zah,Za5,pok,pval,VA.ev,Env.get,Env.put,Env.keep,Za6,Nat.succ_ne_self,List.map,Nat.reduceEqDiff,ite_true,ite_false,true_and,reduceCtorEq]
  refine Zb7 (sp_pandectref02_Has a d ha) ?_
  skip
  refine Zb7 (sp_pandectref02_Has b d hb) ?_
  skip
  unfold ctR
  generalize hasB a d = x
  generalize hasB b d = y
  refine Za9 ?_
  refine Za9 (Zae [9,10,17] ?_)
  simp only [Zaa,Zah,Za5,pok,pval,VA.ev,Env.get,Env.put,Env.keep,Za6,Nat.succ_ne_self,Nat.reduceEqDiff,ite_true,ite_false,true_and,reduceCtorEq]
  refine Zcb ?_
  refine Za9 (Zae [9,10,17,18] ?_)
  simp only [Zaa,Zah,Za5,pok,pval,VA.ev,Env.get,Env.put,Env.keep,Za6,intV,binV,Zbk,Nat.succ_ne_self,Nat.reduceEqDiff,ite_true,ite_false,true_and]
  refine Zb4 rfl (fun h1=>?_) (fun h1=>?_)
  · have e:ctOf how = ctOr:=if_pos (by simpa using h1)
    rw [e]
    refine Za9 (Zae [8] ?_)
    cases x <;>
    · simp only [Zaa,Zah,Za8,Zav,Za5,pok,pval,VA.ev,Env.get,Env.put,Env.keep,Za6,Zbn,isBool,Nat.succ_ne_self,Nat.reduceEqDiff,Bool.false_eq_true,ite_true,ite_false,true_and]
      refine Zca ?_
      try simp only [Env.get,Za6,Zay,retQ,resV,Zbl,RS.ev,RS.ok,ite_true,true_and,and_true]
      exact View.refl _ _
  refine Za9 (Zae [9,10,24] ?_)
  simp only [Zaa,Zah,Za5,pok,pval,VA.ev,Env.get,Env.put,Env.keep,Za6,intV,binV,Zbk,Nat.succ_ne_self,Nat.reduceEqDiff,ite_true,ite_false,true_and]
  refine Zb4 rfl (fun h2=>?_) (fun h2=>?_)
  · have e:ctOf how = ctAnd:=by unfold ctOf; rw [if_neg (by simpa using h1),if_pos (by simpa using h2)]
    rw [e]
    refine Za9 (Zae [8] ?_)
    cases x <;>
    · simp only [Zaa,Zah,Za8,Zao,Za5,pok,pval,VA.ev,Env.get,Env.put,Env.keep,Za6,Zbn,isBool,Nat.succ_ne_self,Nat.reduceEqDiff,Bool.false_eq_true,ite_true,ite_false,true_and]
      refine Zca ?_
      try simp only [Env.get,Za6,Zay,retQ,resV,Zbl,RS.ev,RS.ok,ite_true,true_and,and_true]
      exact View.refl _ _
  refine Zb8 ?_
  try simp only [Za6,Zay]
  have e:ctOf how = fun x y=>x && !y:=by unfold ctOf; rw [if_neg (by simpa using h1),if_neg (by simpa using h2)]
  rw [e]
  refine Za9 (Zae [8] ?_)
  cases x <;>
  · simp only [Zaa,Zah,Za8,Zao,Za5,pok,pval,VA.ev,Env.get,Env.put,Env.keep,Za6,Zbn,isBool,unV,unOk,Nat.succ_ne_self,Nat.reduceEqDiff,Bool.false_eq_true,ite_true,ite_false,true_and]
    refine Zca ?_
    try simp only [Env.get,retQ,resV,Zbl,RS.ev,RS.ok,ite_true,true_and,and_true]
    exact View.refl _ _
end Go.Proofs.YthkbdabfjfffjaaGreatDoor.w
