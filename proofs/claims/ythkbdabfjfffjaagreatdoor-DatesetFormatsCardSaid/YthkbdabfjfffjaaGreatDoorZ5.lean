import Derived.Test.YthkbdabfjfffjaaGreatDoorZ3
import Derived.Test.YthkbdabfjfffjaaGreatDoorVmG
set_option linter.all false
namespace Go.Proofs.YthkbdabfjfffjaaGreatDoor.w
open Go Go.VM
set_option maxRecDepth 20000
set_option maxHeartbeats 0
set_option pp.deepTerms false
def c_pandectref02_Text:VC:=(.seq (.region [ZO 2 (.mv (.c (.str [])))] false) (.seq (.region [ZO 3 (.mv (.c (.str [])))] false) (.seq (.region [ZM 6 0,ZO 7 (.call 10 [(.t 6)]),ZM 4 7] false) (.seq (.seq (.region [ZO 5 (.mv (.c (.int .i64 0)))] false) (.block 0 (.loop (.seq (.seq (.region [ZM 8 5,ZM 9 4,ZO 10 (.len false (.t 9)),ZO 11 (.bin .lss (.t 8) (.t 10))] false) (.cond (.t 11) .skip (.exit 0))) (.seq (.block 1 (.seq (.seq (.region [ZM 14 5,ZO 15 (.bin .gtr (.t 14) (.c (.int .i64 0)))] false) (.cond (.t 15) (.region [ZM 16 3,ZO 17 (.bin .add (.t 16) (.c (.str [44]))),ZM 3 17] false) .skip)) (.seq (.region [ZM 18 3,ZM 19 4,ZM 20 5,ZO 21 (.iaddr 2 (.t 19) (.t 20)),ZO 22 (.faddr 0 (.t 21)),ZO 23 (.load false 1 (.t 22)),ZO 24 (.call 20 [(.t 23)]),ZO 25 (.bin .add (.t 18) (.t 24)),ZM 3 25] false) (.seq (.region [ZM 26 4,ZM 27 5,ZO 28 (.iaddr 2 (.t 26) (.t 27)),ZO 29 (.faddr 1 (.t 28)),ZO 30 (.load false 1 (.t 29)),ZO 31 (.bin .eql (.t 30) (.c (.int .i64 1048577))),ZM 32 31,ZG 33 (.mv (.t 4)) 32 true,ZG 34 (.mv (.t 5)) 32 true,ZG 35 (.iaddr 2 (.t 33) (.t 34)) 32 true,ZG 36 (.faddr 0 (.t 35)) 32 true,ZG 37 (.load false 1 (.t 36)) 32 true,ZG 38 (.bin .lss (.t 37) (.c (.int .i64 1048576))) 32 true,ZO 39 (.pick (.t 32) (.t 38) (.c (.bool false)))] false) (.cond (.t 39) (.region [ZM 40 3,ZO 41 (.bin .add (.t 40) (.c (.str [43]))),ZM 3 41] false) (.seq (.region [ZM 42 4,ZM 43 5,ZO 44 (.iaddr 2 (.t 42) (.t 43)),ZO 45 (.faddr 1 (.t 44)),ZO 46 (.load false 1 (.t 45)),ZM 47 4,ZM 48 5,ZO 49 (.iaddr 2 (.t 47) (.t 48)),ZO 50 (.faddr 0 (.t 49)),ZO 51 (.load false 1 (.t 50)),ZO 52 (.bin .sub (.t 46) (.t 51)),ZO 53 (.bin .gtr (.t 52) (.c (.int .i64 1)))] true) (.cond (.t 53) (.region [ZM 54 3,ZO 55 (.bin .add (.t 54) (.c (.str [45]))),ZM 56 4,ZM 57 5,ZO 58 (.iaddr 2 (.t 56) (.t 57)),ZO 59 (.faddr 1 (.t 58)),ZO 60 (.load false 1 (.t 59)),ZO 61 (.bin .sub (.t 60) (.c (.int .i64 1))),ZO 62 (.call 20 [(.t 61)]),ZO 63 (.bin .add (.t 55) (.t 62)),ZM 3 63] false) .skip))))))) (.region [ZM 12 5,ZO 13 (.bin .add (.t 12) (.c (.int .i64 1))),ZM 5 13] false)))))) (.seq (.seq (.region [ZM 64 4,ZO 65 (.len false (.t 64)),ZO 66 (.bin .eql (.t 65) (.c (.int .i64 0)))] false) (.cond (.t 66) (.seq (.region [ZO 2 (.mv (.c (.str [110,101,118,101,114])))] false) .ret) .skip)) (.seq (.region [ZM 67 3,ZM 2 67] false) .ret))))))
def partT (c:List Sp):Str:=Lib.join (c.map oneS) [44]
theorem join_snoc (l:List Str) (x:Str) (h:l ≠ []) (sep:Str):Lib.join (l ++ [x]) sep = Lib.join l sep ++ sep ++ x:=by
  induction l with
  | nil=>exact absurd rfl h
  | cons a r ih =>
    cases r with
    | nil=>rw [List.singleton_append,join_two,Lib.join_one,Lib.join_one]
    | cons b r =>
      rw [List.cons_append,List.cons_append,join_two,join_two,← List.cons_append,ih (by simp)]
      simp
theorem partT_step {c:List Sp} {i:Nat} (h:i < c.length):partT (c.take (i + 1)) = (if i = 0 then [] else partT (c.take i) ++ [44]) ++ oneS c[i]:=by
  unfold partT
  rw [List.take_add_one,List.getElem?_eq_getElem h,List.map_append]
  split
  · rename_i h0
    subst h0
    simp [Lib.join_one]
  · rename_i h0
    show Lib.join ((c.take i).map oneS ++ [oneS c[i]]) [44] = _
    rw [join_snoc _ _ (by
      intro e
      have:=congrArg List.length e
      simp at this
      rcases this with h1 | h1
      · omega
      · rw [h1] at h; simp at h)]
theorem partT_len {c:List Sp} (hc:∀ x ∈ c,okSp x):(partT c).length ≤ 16 * c.length:=by
  unfold partT
  induction c with
  | nil=>simp [Lib.join,List.intercalate]
  | cons x r ih =>
    have h1:=one_short (hc x List.mem_cons_self)
    have h2:=ih fun y hy=>hc y (List.mem_cons_of_mem _ hy)
    cases r with
    | nil=>rw [List.map_cons,List.map_nil,Lib.join_one]; simp; omega
    | cons y r=>rw [List.map_cons,List.map_cons,join_two]; rw [List.map_cons] at h2; simp at h2 ⊢; omega
theorem dig_itoa {n:Int} (h0:0 ≤ n) (h1:n ≤ 1048577):Zcn Tryz.prog 20 [pI n] (.str (Lib.itoa n)):=by
  have:=sp_r_Digits n.toNat (by omega)
  rw [show ((n.toNat:Nat):Int) = n by omega,← itoa_dec h0] at this
  exact this
theorem sp_r_Text (l:List Sp) (hl:l.length ≤ 10000):Zcn Tryz.prog 8 [.sl 2 (l.map Sp.enc)] (.str (fmtT (Zci l))):=by
  have O:=sp_pandectref02_Of l hl
  rw [ofR_eq] at O
  have hcl:=norm_len l
  have hok:=canonF_ok (Int.le_refl _) (Zcj l).1
  generalize Zci l = c at *
  refine Zb6 ?_ (cS _) (by simp only [Zce,List.mem_cons,List.not_mem_nil,or_false,forall_eq_or_imp,forall_eq,false_implies,implies_true]; repeat' (first  | exact cS _ | exact Zb9 _ | refine And.intro ?_ ?_))
  refine Zcc (vc:=c_pandectref02_Text) (ts:=[.t 2]) Go.Proofs.Tryz.func8 (by kernel_rfl) rfl rfl (Nat.le_of_ble_eq_true rfl) (by kernel_rfl) ?_
  unfold c_pandectref02_Text
  try dsimp only [ZM,ZO,ZN,ZG]
  refine Za9 (Zae [0] ?_)
  simp only [midQ,Zaa,Zah,Za8,Zao,Zav,Zbj,Za5,guardOf,Zac,Zau,Zaw,Zaf,Zag,Zax,Zbo,VOp.isIaddr,QW,dok,dval,VOp.pure,VOp.simple,VOp.det,pok,pval,VA.ev,Env.get,Env.put,Env.keep,Za0,Za6,Zay,retQ,resV,Zbl,RS.ev,RS.ok,gd,Zbn,isBool,aggV,intV,binV,Zbk,strV,Zby,Zb2,Zbe,unV,unOk,Zb0,isInt,isStr,numOf,loV,hiV,lenV,Zar,Zbf,Zat,Za4,Za3,Zad,Zbm,Zab,Zbd,Za1,Zak,idxV,Zb3,Zbq,extV,Zbz,Zbr,Zbb,mmV,PV.cells,PV.fits,overlay,PV.nth,PV.row,Zbx,Zan,Zbw,Zbh,Zbs,Zbp,Zap,Zbc,Zbg,Zas,Heap.get,Heap.set,Heap.del,Heap.le,HL.get,HL.set,HL.del,HL.le,Heap.push,Heap.nil,Nat.le_refl,Nat.add_eq_left,Nat.left_eq_add,Nat.succ_ne_self,Nat.one_ne_zero,Env.le,Za2,Zbu,Zam,Zbv,Zaj,Zbt,Zaz,Zal,eqOk,ekOk,Zai,Za7,Zba,Zaq,AB.live,pxV,pxOk,fxV,fxOk,Zb1,Zbi,isNil,notNil,List.map,List.set,List.replicate,List.length,List.getD_cons_zero,List.getD_cons_succ,List.getD_nil,List.take,List.drop,List.take_zero,List.drop_zero,List.take_succ_cons,List.drop_succ_cons,List.append,List.cons_append,List.nil_append,Option.map,Nat.reduceEqDiff,Nat.reduceAdd,Nat.reduceLT,Nat.reduceLeDiff,Nat.reduceSub,Nat.reduceMul,reduceIte,Bool.false_eq_true,Bool.true_eq_false,ite_true,ite_false,if_true,if_false,true_and,and_true,implies_true,forall_const,ne_eq,not_false_eq_true,reduceCtorEq,BEq.rfl,beq_self_eq_true,Option.some.injEq,Nat.zero_add,Nat.add_zero,List.length_cons,List.length_nil,true_implies,imp_self,Int.reduceToNat,Int.toNat_natCast,Bool.not_false,Bool.not_true]
  refine Za9 (Zae [0,3] ?_)
  simp only [midQ,Zaa,Zah,Za8,Zao,Zav,Zbj,Za5,guardOf,Zac,Zau,Zaw,Zaf,Zag,Zax,Zbo,VOp.isIaddr,QW,dok,dval,VOp.pure,VOp.simple,VOp.det,pok,pval,VA.ev,Env.get,Env.put,Env.keep,Za0,Za6,Zay,retQ,resV,Zbl,RS.ev,RS.ok,gd,Zbn,isBool,aggV,intV,binV,Zbk,strV,Zby,Zb2,Zbe,unV,unOk,Zb0,isInt,isStr,numOf,loV,hiV,lenV,Zar,Zbf,Zat,Za4,Za3,Zad,Zbm,Zab,Zbd,Za1,Zak,idxV,Zb3,Zbq,extV,Zbz,Zbr,Zbb,mmV,PV.cells,PV.fits,overlay,PV.nth,PV.row,Zbx,Zan,Zbw,Zbh,Zbs,Zbp,Zap,Zbc,Zbg,Zas,Heap.get,Heap.set,Heap.del,Heap.le,HL.get,HL.set,HL.del,HL.le,Heap.push,Heap.nil,Nat.le_refl,Nat.add_eq_left,Nat.left_eq_add,Nat.succ_ne_self,Nat.one_ne_zero,Env.le,Za2,Zbu,Zam,Zbv,Zaj,Zbt,Zaz,Zal,eqOk,ekOk,Zai,Za7,Zba,Zaq,AB.live,pxV,pxOk,fxV,fxOk,Zb1,Zbi,isNil,notNil,List.map,List.set,List.replicate,List.length,List.getD_cons_zero,List.getD_cons_succ,List.getD_nil,List.take,List.drop,List.take_zero,List.drop_zero,List.take_succ_cons,List.drop_succ_cons,List.append,List.cons_append,List.nil_append,Option.map,Nat.reduceEqDiff,Nat.reduceAdd,Nat.reduceLT,Nat.reduceLeDiff,Nat.reduceSub,Nat.reduceMul,reduceIte,Bool.false_eq_true,Bool.true_eq_false,ite_true,ite_false,if_true,if_false,true_and,and_true,implies_true,forall_const,ne_eq,not_false_eq_true,reduceCtorEq,BEq.rfl,beq_self_eq_true,Option.some.injEq,Nat.zero_add,Nat.add_zero,List.length_cons,List.length_nil,true_implies,imp_self,Int.reduceToNat,Int.toNat_natCast,Bool.not_false,Bool.not_true]
  refine Za9 (Zae [3,4] ?_)
  simp only [midQ,Zaa,Zah,Za8,Zao,Zav,Zbj,Za5,guardOf,Zac,Zau,Zaw,Zaf,Zag,Zax,Zbo,VOp.isIaddr,QW,dok,dval,VOp.pure,VOp.simple,VOp.det,pok,pval,VA.ev,Env.get,Env.put,Env.keep,Za0,Za6,Zay,retQ,resV,Zbl,RS.ev,RS.ok,gd,Zbn,isBool,aggV,intV,binV,Zbk,strV,Zby,Zb2,Zbe,unV,unOk,Zb0,isInt,isStr,numOf,loV,hiV,lenV,Zar,Zbf,Zat,Za4,Za3,Zad,Zbm,Zab,Zbd,Za1,Zak,idxV,Zb3,Zbq,extV,Zbz,Zbr,Zbb,mmV,PV.cells,PV.fits,overlay,PV.nth,PV.row,Zbx,Zan,Zbw,Zbh,Zbs,Zbp,Zap,Zbc,Zbg,Zas,Heap.get,Heap.set,Heap.del,Heap.le,HL.get,HL.set,HL.del,HL.le,Heap.push,Heap.nil,Nat.le_refl,Nat.add_eq_left,Nat.left_eq_add,Nat.succ_ne_self,Nat.one_ne_zero,Env.le,Za2,Zbu,Zam,Zbv,Zaj,Zbt,Zaz,Zal,eqOk,ekOk,Zai,Za7,Zba,Zaq,AB.live,pxV,pxOk,fxV,fxOk,Zb1,Zbi,isNil,notNil,List.map,List.set,List.replicate,List.length,List.getD_cons_zero,List.getD_cons_succ,List.getD_nil,List.take,List.drop,List.take_zero,List.drop_zero,List.take_succ_cons,List.drop_succ_cons,List.append,List.cons_append,List.nil_append,Option.map,Nat.reduceEqDiff,Nat.reduceAdd,Nat.reduceLT,Nat.reduceLeDiff,Nat.reduceSub,Nat.reduceMul,reduceIte,Bool.false_eq_true,Bool.true_eq_false,ite_true,ite_false,if_true,if_false,true_and,and_true,implies_true,forall_const,ne_eq,not_false_eq_true,reduceCtorEq,BEq.rfl,beq_self_eq_true,Option.some.injEq,Nat.zero_add,Nat.add_zero,List.length_cons,List.length_nil,true_implies,imp_self,Int.reduceToNat,Int.toNat_natCast,Bool.not_false,Bool.not_true]
  refine Zb7 O ?_
  try simp only [midQ,Zaa,Zah,Za8,Zao,Zav,Zbj,Za5,guardOf,Zac,Zau,Zaw,Zaf,Zag,Zax,Zbo,VOp.isIaddr,QW,dok,dval,VOp.pure,VOp.simple,VOp.det,pok,pval,VA.ev,Env.get,Env.put,Env.keep,Za0,Za6,Zay,retQ,resV,Zbl,RS.ev,RS.ok,gd,Zbn,isBool,aggV,intV,binV,Zbk,strV,Zby,Zb2,Zbe,unV,unOk,Zb0,isInt,isStr,numOf,loV,hiV,lenV,Zar,Zbf,Zat,Za4,Za3,Zad,Zbm,Zab,Zbd,Za1,Zak,idxV,Zb3,Zbq,extV,Zbz,Zbr,Zbb,mmV,PV.cells,PV.fits,overlay,PV.nth,PV.row,Zbx,Zan,Zbw,Zbh,Zbs,Zbp,Zap,Zbc,Zbg,Zas,Heap.get,Heap.set,Heap.del,Heap.le,HL.get,HL.set,HL.del,HL.le,Heap.push,Heap.nil,Nat.le_refl,Nat.add_eq_left,Nat.left_eq_add,Nat.succ_ne_self,Nat.one_ne_zero,Env.le,Za2,Zbu,Zam,Zbv,Zaj,Zbt,Zaz,Zal,eqOk,ekOk,Zai,Za7,Zba,Zaq,AB.live,pxV,pxOk,fxV,fxOk,Zb1,Zbi,isNil,notNil,List.map,List.set,List.replicate,List.length,List.getD_cons_zero,List.getD_cons_succ,List.getD_nil,List.take,List.drop,List.take_zero,List.drop_zero,List.take_succ_cons,List.drop_succ_cons,List.append,List.cons_append,List.nil_append,Option.map,Nat.reduceEqDiff,Nat.reduceAdd,Nat.reduceLT,Nat.reduceLeDiff,Nat.reduceSub,Nat.reduceMul,reduceIte,Bool.false_eq_true,Bool.true_eq_false,ite_true,ite_false,if_true,if_false,true_and,and_true,implies_true,forall_const,ne_eq,not_false_eq_true,reduceCtorEq,BEq.rfl,beq_self_eq_true,Option.some.injEq,Nat.zero_add,Nat.add_zero,List.length_cons,List.length_nil,true_implies,imp_self,Int.reduceToNat,Int.toNat_natCast,Bool.not_false,Bool.not_true]
  refine Za9 ?_
  refine Za9 (Zae [3,4,5] ?_)
  simp only [midQ,Zaa,Zah,Za8,Zao,Zav,Zbj,Za5,guardOf,Zac,Zau,Zaw,Zaf,Zag,Zax,Zbo,VOp.isIaddr,QW,dok,dval,VOp.pure,VOp.simple,VOp.det,pok,pval,VA.ev,Env.get,Env.put,Env.keep,Za0,Za6,Zay,retQ,resV,Zbl,RS.ev,RS.ok,gd,Zbn,isBool,aggV,intV,binV,Zbk,strV,Zby,Zb2,Zbe,unV,unOk,Zb0,isInt,isStr,numOf,loV,hiV,lenV,Zar,Zbf,Zat,Za4,Za3,Zad,Zbm,Zab,Zbd,Za1,Zak,idxV,Zb3,Zbq,extV,Zbz,Zbr,Zbb,mmV,PV.cells,PV.fits,overlay,PV.nth,PV.row,Zbx,Zan,Zbw,Zbh,Zbs,Zbp,Zap,Zbc,Zbg,Zas,Heap.get,Heap.set,Heap.del,Heap.le,HL.get,HL.set,HL.del,HL.le,Heap.push,Heap.nil,Nat.le_refl,Nat.add_eq_left,Nat.left_eq_add,Nat.succ_ne_self,Nat.one_ne_zero,Env.le,Za2,Zbu,Zam,Zbv,Zaj,Zbt,Zaz,Zal,eqOk,ekOk,Zai,Za7,Zba,Zaq,AB.live,pxV,pxOk,fxV,fxOk,Zb1,Zbi,isNil,notNil,List.map,List.set,List.replicate,List.length,List.getD_cons_zero,List.getD_cons_succ,List.getD_nil,List.take,List.drop,List.take_zero,List.drop_zero,List.take_succ_cons,List.drop_succ_cons,List.append,List.cons_append,List.nil_append,Option.map,Nat.reduceEqDiff,Nat.reduceAdd,Nat.reduceLT,Nat.reduceLeDiff,Nat.reduceSub,Nat.reduceMul,reduceIte,Bool.false_eq_true,Bool.true_eq_false,ite_true,ite_false,if_true,if_false,true_and,and_true,implies_true,forall_const,ne_eq,not_false_eq_true,reduceCtorEq,BEq.rfl,beq_self_eq_true,Option.some.injEq,Nat.zero_add,Nat.add_zero,List.length_cons,List.length_nil,true_implies,imp_self,Int.reduceToNat,Int.toNat_natCast,Bool.not_false,Bool.not_true]
  refine Zcb ?_
  refine Zcz (σ:={ i:Nat // i ≤ c.length }) (fun i=>([(3,.str (partT (c.take i.1))),(4,.sl 2 (c.map Sp.enc)),(5,pI i.1)],⟨[],0⟩)) (fun i=>c.length - i.1) ⟨0,Nat.zero_le _⟩ ?_ ?_ ?_
  · simp only [midQ,Zaa,Zah,Za8,Zao,Zav,Zbj,Za5,guardOf,Zac,Zau,Zaw,Zaf,Zag,Zax,Zbo,VOp.isIaddr,QW,dok,dval,VOp.pure,VOp.simple,VOp.det,pok,pval,VA.ev,Env.get,Env.put,Env.keep,Za0,Za6,Zay,retQ,resV,Zbl,RS.ev,RS.ok,gd,Zbn,isBool,aggV,intV,binV,Zbk,strV,Zby,Zb2,Zbe,unV,unOk,Zb0,isInt,isStr,numOf,loV,hiV,lenV,Zar,Zbf,Zat,Za4,Za3,Zad,Zbm,Zab,Zbd,Za1,Zak,idxV,Zb3,Zbq,extV,Zbz,Zbr,Zbb,mmV,PV.cells,PV.fits,overlay,PV.nth,PV.row,Zbx,Zan,Zbw,Zbh,Zbs,Zbp,Zap,Zbc,Zbg,Zas,Heap.get,Heap.set,Heap.del,Heap.le,HL.get,HL.set,HL.del,HL.le,Heap.push,Heap.nil,Nat.le_refl,Nat.add_eq_left,Nat.left_eq_add,Nat.succ_ne_self,Nat.one_ne_zero,Env.le,Za2,Zbu,Zam,Zbv,Zaj,Zbt,Zaz,Zal,eqOk,ekOk,Zai,Za7,Zba,Zaq,AB.live,pxV,pxOk,fxV,fxOk,Zb1,Zbi,isNil,notNil,List.map,List.set,List.replicate,List.length,List.getD_cons_zero,List.getD_cons_succ,List.getD_nil,List.take,List.drop,List.take_zero,List.drop_zero,List.take_succ_cons,List.drop_succ_cons,List.append,List.cons_append,List.nil_append,Option.map,Nat.reduceEqDiff,Nat.reduceAdd,Nat.reduceLT,Nat.reduceLeDiff,Nat.reduceSub,Nat.reduceMul,reduceIte,Bool.false_eq_true,Bool.true_eq_false,ite_true,ite_false,if_true,if_false,true_and,and_true,implies_true,forall_const,ne_eq,not_false_eq_true,reduceCtorEq,BEq.rfl,beq_self_eq_true,Option.some.injEq,Nat.zero_add,Nat.add_zero,List.length_cons,List.length_nil,true_implies,imp_self,Int.reduceToNat,Int.toNat_natCast,Bool.not_false,Bool.not_true]
    exact ⟨rfl,rfl⟩
  · simp only [midQ,Zaa,Zah,Za8,Zao,Zav,Zbj,Za5,guardOf,Zac,Zau,Zaw,Zaf,Zag,Zax,Zbo,VOp.isIaddr,QW,dok,dval,VOp.pure,VOp.simple,VOp.det,pok,pval,VA.ev,Env.get,Env.put,Env.keep,Za0,Za6,Zay,retQ,resV,Zbl,RS.ev,RS.ok,gd,Zbn,isBool,aggV,intV,binV,Zbk,strV,Zby,Zb2,Zbe,unV,unOk,Zb0,isInt,isStr,numOf,loV,hiV,lenV,Zar,Zbf,Zat,Za4,Za3,Zad,Zbm,Zab,Zbd,Za1,Zak,idxV,Zb3,Zbq,extV,Zbz,Zbr,Zbb,mmV,PV.cells,PV.fits,overlay,PV.nth,PV.row,Zbx,Zan,Zbw,Zbh,Zbs,Zbp,Zap,Zbc,Zbg,Zas,Heap.get,Heap.set,Heap.del,Heap.le,HL.get,HL.set,HL.del,HL.le,Heap.push,Heap.nil,Nat.le_refl,Nat.add_eq_left,Nat.left_eq_add,Nat.succ_ne_self,Nat.one_ne_zero,Env.le,Za2,Zbu,Zam,Zbv,Zaj,Zbt,Zaz,Zal,eqOk,ekOk,Zai,Za7,Zba,Zaq,AB.live,pxV,pxOk,fxV,fxOk,Zb1,Zbi,isNil,notNil,List.map,List.set,List.replicate,List.length,List.getD_cons_zero,List.getD_cons_succ,List.getD_nil,List.take,List.drop,List.take_zero,List.drop_zero,List.take_succ_cons,List.drop_succ_cons,List.append,List.cons_append,List.nil_append,Option.map,Nat.reduceEqDiff,Nat.reduceAdd,Nat.reduceLT,Nat.reduceLeDiff,Nat.reduceSub,Nat.reduceMul,reduceIte,Bool.false_eq_true,Bool.true_eq_false,ite_true,ite_false,if_true,if_false,true_and,and_true,implies_true,forall_const,ne_eq,not_false_eq_true,reduceCtorEq,BEq.rfl,beq_self_eq_true,Option.some.injEq,Nat.zero_add,Nat.add_zero,List.length_cons,List.length_nil,true_implies,imp_self,Int.reduceToNat,Int.toNat_natCast,Bool.not_false,Bool.not_true]
    try rfl
  rintro ⟨i,hi⟩
  simp only [] at hi ⊢
  refine Za9 ?_
  refine Za9 (Zae [3,4,5,11] ?_)
  simp only [midQ,Zaa,Zah,Za8,Zao,Zav,Zbj,Za5,guardOf,Zac,Zau,Zaw,Zaf,Zag,Zax,Zbo,VOp.isIaddr,QW,dok,dval,VOp.pure,VOp.simple,VOp.det,pok,pval,VA.ev,Env.get,Env.put,Env.keep,Za0,Za6,Zay,retQ,resV,Zbl,RS.ev,RS.ok,gd,Zbn,isBool,aggV,intV,binV,Zbk,strV,Zby,Zb2,Zbe,unV,unOk,Zb0,isInt,isStr,numOf,loV,hiV,lenV,Zar,Zbf,Zat,Za4,Za3,Zad,Zbm,Zab,Zbd,Za1,Zak,idxV,Zb3,Zbq,extV,Zbz,Zbr,Zbb,mmV,PV.cells,PV.fits,overlay,PV.nth,PV.row,Zbx,Zan,Zbw,Zbh,Zbs,Zbp,Zap,Zbc,Zbg,Zas,Heap.get,Heap.set,Heap.del,Heap.le,HL.get,HL.set,HL.del,HL.le,Heap.push,Heap.nil,Nat.le_refl,Nat.add_eq_left,Nat.left_eq_add,Nat.succ_ne_self,Nat.one_ne_zero,Env.le,Za2,Zbu,Zam,Zbv,Zaj,Zbt,Zaz,Zal,eqOk,ekOk,Zai,Za7,Zba,Zaq,AB.live,pxV,pxOk,fxV,fxOk,Zb1,Zbi,isNil,notNil,List.map,List.set,List.replicate,List.length,List.getD_cons_zero,List.getD_cons_succ,List.getD_nil,List.take,List.drop,List.take_zero,List.drop_zero,List.take_succ_cons,List.drop_succ_cons,List.append,List.cons_append,List.nil_append,Option.map,Nat.reduceEqDiff,Nat.reduceAdd,Nat.reduceLT,Nat.reduceLeDiff,Nat.reduceSub,Nat.reduceMul,reduceIte,Bool.false_eq_true,Bool.true_eq_false,ite_true,ite_false,if_true,if_false,true_and,and_true,implies_true,forall_const,ne_eq,not_false_eq_true,reduceCtorEq,BEq.rfl,beq_self_eq_true,Option.some.injEq,Nat.zero_add,Nat.add_zero,List.length_cons,List.length_nil,true_implies,imp_self,Int.reduceToNat,Int.toNat_natCast,Bool.not_false,Bool.not_true,List.length_map]
  have hpl:=partT_len (c:=c.take i) fun x hx=>hok x (List.mem_of_mem_take hx)
  rw [List.length_take] at hpl
  refine Zb4 rfl (fun h1=>?_) (fun h1=>?_)
  · simp only [decide_eq_true_eq] at h1
    have ia:i < c.length:=by omega
    have hstep:=partT_step ia
    have hrow:(c.map Sp.enc).getD i [] = c[i].enc:=rowm ia
    have hx:=hok _ (List.getElem_mem ia)
    generalize c[i] = x at hstep hrow hx
    have hxe:x.enc = [pI x.frm,pI x.to]:=rfl
    rw [hxe] at hrow
    generalize partT (c.take i) = S at *
    refine Zb8 ?_
    try simp only [midQ,Zaa,Zah,Za8,Zao,Zav,Zbj,Za5,guardOf,Zac,Zau,Zaw,Zaf,Zag,Zax,Zbo,VOp.isIaddr,QW,dok,dval,VOp.pure,VOp.simple,VOp.det,pok,pval,VA.ev,Env.get,Env.put,Env.keep,Za0,Za6,Zay,retQ,resV,Zbl,RS.ev,RS.ok,gd,Zbn,isBool,aggV,intV,binV,Zbk,strV,Zby,Zb2,Zbe,unV,unOk,Zb0,isInt,isStr,numOf,loV,hiV,lenV,Zar,Zbf,Zat,Za4,Za3,Zad,Zbm,Zab,Zbd,Za1,Zak,idxV,Zb3,Zbq,extV,Zbz,Zbr,Zbb,mmV,PV.cells,PV.fits,overlay,PV.nth,PV.row,Zbx,Zan,Zbw,Zbh,Zbs,Zbp,Zap,Zbc,Zbg,Zas,Heap.get,Heap.set,Heap.del,Heap.le,HL.get,HL.set,HL.del,HL.le,Heap.push,Heap.nil,Nat.le_refl,Nat.add_eq_left,Nat.left_eq_add,Nat.succ_ne_self,Nat.one_ne_zero,Env.le,Za2,Zbu,Zam,Zbv,Zaj,Zbt,Zaz,Zal,eqOk,ekOk,Zai,Za7,Zba,Zaq,AB.live,pxV,pxOk,fxV,fxOk,Zb1,Zbi,isNil,notNil,List.map,List.set,List.replicate,List.length,List.getD_cons_zero,List.getD_cons_succ,List.getD_nil,List.take,List.drop,List.take_zero,List.drop_zero,List.take_succ_cons,List.drop_succ_cons,List.append,List.cons_append,List.nil_append,Option.map,Nat.reduceEqDiff,Nat.reduceAdd,Nat.reduceLT,Nat.reduceLeDiff,Nat.reduceSub,Nat.reduceMul,reduceIte,Bool.false_eq_true,Bool.true_eq_false,ite_true,ite_false,if_true,if_false,true_and,and_true,implies_true,forall_const,ne_eq,not_false_eq_true,reduceCtorEq,BEq.rfl,beq_self_eq_true,Option.some.injEq,Nat.zero_add,Nat.add_zero,List.length_cons,List.length_nil,true_implies,imp_self,Int.reduceToNat,Int.toNat_natCast,Bool.not_false,Bool.not_true]
    refine Za9 ?_
    refine Zcb ?_
    generalize hS1:(if i = 0 then [] else S ++ [44]) = S1 at hstep
    have hS1l:S1.length ≤ S.length + 1:=by rw [← hS1]; split <;> simp
    refine Za9 (VW_mid (σ:=Unit) (fun _=>([(3,.str S1),(4,.sl 2 (c.map Sp.enc)),(5,pI i)],⟨[],0⟩)) ?_ (fun _=>?_))
    · refine Za9 (Zae [3,4,5,15] ?_)
      simp only [midQ,Zaa,Zah,Za8,Zao,Zav,Zbj,Za5,guardOf,Zac,Zau,Zaw,Zaf,Zag,Zax,Zbo,VOp.isIaddr,QW,dok,dval,VOp.pure,VOp.simple,VOp.det,pok,pval,VA.ev,Env.get,Env.put,Env.keep,Za0,Za6,Zay,retQ,resV,Zbl,RS.ev,RS.ok,gd,Zbn,isBool,aggV,intV,binV,Zbk,strV,Zby,Zb2,Zbe,unV,unOk,Zb0,isInt,isStr,numOf,loV,hiV,lenV,Zar,Zbf,Zat,Za4,Za3,Zad,Zbm,Zab,Zbd,Za1,Zak,idxV,Zb3,Zbq,extV,Zbz,Zbr,Zbb,mmV,PV.cells,PV.fits,overlay,PV.nth,PV.row,Zbx,Zan,Zbw,Zbh,Zbs,Zbp,Zap,Zbc,Zbg,Zas,Heap.get,Heap.set,Heap.del,Heap.le,HL.get,HL.set,HL.del,HL.le,Heap.push,Heap.nil,Nat.le_refl,Nat.add_eq_left,Nat.left_eq_add,Nat.succ_ne_self,Nat.one_ne_zero,Env.le,Za2,Zbu,Zam,Zbv,Zaj,Zbt,Zaz,Zal,eqOk,ekOk,Zai,Za7,Zba,Zaq,AB.live,pxV,pxOk,fxV,fxOk,Zb1,Zbi,isNil,notNil,List.map,List.set,List.replicate,List.length,List.getD_cons_zero,List.getD_cons_succ,List.getD_nil,List.take,List.drop,List.take_zero,List.drop_zero,List.take_succ_cons,List.drop_succ_cons,List.append,List.cons_append,List.nil_append,Option.map,Nat.reduceEqDiff,Nat.reduceAdd,Nat.reduceLT,Nat.reduceLeDiff,Nat.reduceSub,Nat.reduceMul,reduceIte,Bool.false_eq_true,Bool.true_eq_false,ite_true,ite_false,if_true,if_false,true_and,and_true,implies_true,forall_const,ne_eq,not_false_eq_true,reduceCtorEq,BEq.rfl,beq_self_eq_true,Option.some.injEq,Nat.zero_add,Nat.add_zero,List.length_cons,List.length_nil,true_implies,imp_self,Int.reduceToNat,Int.toNat_natCast,Bool.not_false,Bool.not_true]
      by_cases h0:i = 0
      · refine Zb4 rfl (fun h=>by simp at h; omega) (fun _=>?_)
        refine Zb8 ?_
        rw [if_pos h0] at hS1
        have hS0:S = S1:=by
          have:S.length = 0:=by rw [h0] at hpl; simpa using hpl
          rw [List.eq_nil_of_length_eq_zero this]; exact hS1
        rw [hS0]
        refine ⟨(),?_⟩
        try simp only [midQ,Zaa,Zah,Za8,Zao,Zav,Zbj,Za5,guardOf,Zac,Zau,Zaw,Zaf,Zag,Zax,Zbo,VOp.isIaddr,QW,dok,dval,VOp.pure,VOp.simple,VOp.det,pok,pval,VA.ev,Env.get,Env.put,Env.keep,Za0,Za6,Zay,retQ,resV,Zbl,RS.ev,RS.ok,gd,Zbn,isBool,aggV,intV,binV,Zbk,strV,Zby,Zb2,Zbe,unV,unOk,Zb0,isInt,isStr,numOf,loV,hiV,lenV,Zar,Zbf,Zat,Za4,Za3,Zad,Zbm,Zab,Zbd,Za1,Zak,idxV,Zb3,Zbq,extV,Zbz,Zbr,Zbb,mmV,PV.cells,PV.fits,overlay,PV.nth,PV.row,Zbx,Zan,Zbw,Zbh,Zbs,Zbp,Zap,Zbc,Zbg,Zas,Heap.get,Heap.set,Heap.del,Heap.le,HL.get,HL.set,HL.del,HL.le,Heap.push,Heap.nil,Nat.le_refl,Nat.add_eq_left,Nat.left_eq_add,Nat.succ_ne_self,Nat.one_ne_zero,Env.le,Za2,Zbu,Zam,Zbv,Zaj,Zbt,Zaz,Zal,eqOk,ekOk,Zai,Za7,Zba,Zaq,AB.live,pxV,pxOk,fxV,fxOk,Zb1,Zbi,isNil,notNil,List.map,List.set,List.replicate,List.length,List.getD_cons_zero,List.getD_cons_succ,List.getD_nil,List.take,List.drop,List.take_zero,List.drop_zero,List.take_succ_cons,List.drop_succ_cons,List.append,List.cons_append,List.nil_append,Option.map,Nat.reduceEqDiff,Nat.reduceAdd,Nat.reduceLT,Nat.reduceLeDiff,Nat.reduceSub,Nat.reduceMul,reduceIte,Bool.false_eq_true,Bool.true_eq_false,ite_true,ite_false,if_true,if_false,true_and,and_true,implies_true,forall_const,ne_eq,not_false_eq_true,reduceCtorEq,BEq.rfl,beq_self_eq_true,Option.some.injEq,Nat.zero_add,Nat.add_zero,List.length_cons,List.length_nil,true_implies,imp_self,Int.reduceToNat,Int.toNat_natCast,Bool.not_false,Bool.not_true,true_and]
        all_goals (repeat' (first | rfl | trivial | omega | (simp only []; omega) | refine And.intro ?_ ?_))
      · refine Zb4 rfl (fun _=>?_) (fun h=>by simp at h; omega)
        rw [if_neg h0] at hS1
        refine Zae [3,4,5] ?_
        simp only [midQ,Zaa,Zah,Za8,Zao,Zav,Zbj,Za5,guardOf,Zac,Zau,Zaw,Zaf,Zag,Zax,Zbo,VOp.isIaddr,QW,dok,dval,VOp.pure,VOp.simple,VOp.det,pok,pval,VA.ev,Env.get,Env.put,Env.keep,Za0,Za6,Zay,retQ,resV,Zbl,RS.ev,RS.ok,gd,Zbn,isBool,aggV,intV,binV,Zbk,strV,Zby,Zb2,Zbe,unV,unOk,Zb0,isInt,isStr,numOf,loV,hiV,lenV,Zar,Zbf,Zat,Za4,Za3,Zad,Zbm,Zab,Zbd,Za1,Zak,idxV,Zb3,Zbq,extV,Zbz,Zbr,Zbb,mmV,PV.cells,PV.fits,overlay,PV.nth,PV.row,Zbx,Zan,Zbw,Zbh,Zbs,Zbp,Zap,Zbc,Zbg,Zas,Heap.get,Heap.set,Heap.del,Heap.le,HL.get,HL.set,HL.del,HL.le,Heap.push,Heap.nil,Nat.le_refl,Nat.add_eq_left,Nat.left_eq_add,Nat.succ_ne_self,Nat.one_ne_zero,Env.le,Za2,Zbu,Zam,Zbv,Zaj,Zbt,Zaz,Zal,eqOk,ekOk,Zai,Za7,Zba,Zaq,AB.live,pxV,pxOk,fxV,fxOk,Zb1,Zbi,isNil,notNil,List.map,List.set,List.replicate,List.length,List.getD_cons_zero,List.getD_cons_succ,List.getD_nil,List.take,List.drop,List.take_zero,List.drop_zero,List.take_succ_cons,List.drop_succ_cons,List.append,List.cons_append,List.nil_append,Option.map,Nat.reduceEqDiff,Nat.reduceAdd,Nat.reduceLT,Nat.reduceLeDiff,Nat.reduceSub,Nat.reduceMul,reduceIte,Bool.false_eq_true,Bool.true_eq_false,ite_true,ite_false,if_true,if_false,true_and,and_true,implies_true,forall_const,ne_eq,not_false_eq_true,reduceCtorEq,BEq.rfl,beq_self_eq_true,Option.some.injEq,Nat.zero_add,Nat.add_zero,List.length_cons,List.length_nil,true_implies,imp_self,Int.reduceToNat,Int.toNat_natCast,Bool.not_false,Bool.not_true,hS1]
        refine ⟨by omega,(),?_⟩
        try simp only [midQ,Zaa,Zah,Za8,Zao,Zav,Zbj,Za5,guardOf,Zac,Zau,Zaw,Zaf,Zag,Zax,Zbo,VOp.isIaddr,QW,dok,dval,VOp.pure,VOp.simple,VOp.det,pok,pval,VA.ev,Env.get,Env.put,Env.keep,Za0,Za6,Zay,retQ,resV,Zbl,RS.ev,RS.ok,gd,Zbn,isBool,aggV,intV,binV,Zbk,strV,Zby,Zb2,Zbe,unV,unOk,Zb0,isInt,isStr,numOf,loV,hiV,lenV,Zar,Zbf,Zat,Za4,Za3,Zad,Zbm,Zab,Zbd,Za1,Zak,idxV,Zb3,Zbq,extV,Zbz,Zbr,Zbb,mmV,PV.cells,PV.fits,overlay,PV.nth,PV.row,Zbx,Zan,Zbw,Zbh,Zbs,Zbp,Zap,Zbc,Zbg,Zas,Heap.get,Heap.set,Heap.del,Heap.le,HL.get,HL.set,HL.del,HL.le,Heap.push,Heap.nil,Nat.le_refl,Nat.add_eq_left,Nat.left_eq_add,Nat.succ_ne_self,Nat.one_ne_zero,Env.le,Za2,Zbu,Zam,Zbv,Zaj,Zbt,Zaz,Zal,eqOk,ekOk,Zai,Za7,Zba,Zaq,AB.live,pxV,pxOk,fxV,fxOk,Zb1,Zbi,isNil,notNil,List.map,List.set,List.replicate,List.length,List.getD_cons_zero,List.getD_cons_succ,List.getD_nil,List.take,List.drop,List.take_zero,List.drop_zero,List.take_succ_cons,List.drop_succ_cons,List.append,List.cons_append,List.nil_append,Option.map,Nat.reduceEqDiff,Nat.reduceAdd,Nat.reduceLT,Nat.reduceLeDiff,Nat.reduceSub,Nat.reduceMul,reduceIte,Bool.false_eq_true,Bool.true_eq_false,ite_true,ite_false,if_true,if_false,true_and,and_true,implies_true,forall_const,ne_eq,not_false_eq_true,reduceCtorEq,BEq.rfl,beq_self_eq_true,Option.some.injEq,Nat.zero_add,Nat.add_zero,List.length_cons,List.length_nil,true_implies,imp_self,Int.reduceToNat,Int.toNat_natCast,Bool.not_false,Bool.not_true,true_and]
        all_goals (repeat' (first | rfl | trivial | omega | (simp only []; omega) | refine And.intro ?_ ?_))
    have D1:=dig_itoa hx.1 (by have:=hx.2; omega)
    have L1:=Zdb hx.1 (by have:=hx.2; omega:x.frm ≤ 1048577)
    refine Za9 (Zae [3,4,5] ?_)
    simp only [midQ,Zaa,Zah,Za8,Zao,Zav,Zbj,Za5,guardOf,Zac,Zau,Zaw,Zaf,Zag,Zax,Zbo,VOp.isIaddr,QW,dok,dval,VOp.pure,VOp.simple,VOp.det,pok,pval,VA.ev,Env.get,Env.put,Env.keep,Za0,Za6,Zay,retQ,resV,Zbl,RS.ev,RS.ok,gd,Zbn,isBool,aggV,intV,binV,Zbk,strV,Zby,Zb2,Zbe,unV,unOk,Zb0,isInt,isStr,numOf,loV,hiV,lenV,Zar,Zbf,Zat,Za4,Za3,Zad,Zbm,Zab,Zbd,Za1,Zak,idxV,Zb3,Zbq,extV,Zbz,Zbr,Zbb,mmV,PV.cells,PV.fits,overlay,PV.nth,PV.row,Zbx,Zan,Zbw,Zbh,Zbs,Zbp,Zap,Zbc,Zbg,Zas,Heap.get,Heap.set,Heap.del,Heap.le,HL.get,HL.set,HL.del,HL.le,Heap.push,Heap.nil,Nat.le_refl,Nat.add_eq_left,Nat.left_eq_add,Nat.succ_ne_self,Nat.one_ne_zero,Env.le,Za2,Zbu,Zam,Zbv,Zaj,Zbt,Zaz,Zal,eqOk,ekOk,Zai,Za7,Zba,Zaq,AB.live,pxV,pxOk,fxV,fxOk,Zb1,Zbi,isNil,notNil,List.map,List.set,List.replicate,List.length,List.getD_cons_zero,List.getD_cons_succ,List.getD_nil,List.take,List.drop,List.take_zero,List.drop_zero,List.take_succ_cons,List.drop_succ_cons,List.append,List.cons_append,List.nil_append,Option.map,Nat.reduceEqDiff,Nat.reduceAdd,Nat.reduceLT,Nat.reduceLeDiff,Nat.reduceSub,Nat.reduceMul,reduceIte,Bool.false_eq_true,Bool.true_eq_false,ite_true,ite_false,if_true,if_false,true_and,and_true,implies_true,forall_const,ne_eq,not_false_eq_true,reduceCtorEq,BEq.rfl,beq_self_eq_true,Option.some.injEq,Nat.zero_add,Nat.add_zero,List.length_cons,List.length_nil,true_implies,imp_self,Int.reduceToNat,Int.toNat_natCast,Bool.not_false,Bool.not_true,List.length_map,hrow]
    refine ⟨⟨by omega,by omega⟩,?_⟩
    refine Zb7 D1 ?_
    try simp only [midQ,Zaa,Zah,Za8,Zao,Zav,Zbj,Za5,guardOf,Zac,Zau,Zaw,Zaf,Zag,Zax,Zbo,VOp.isIaddr,QW,dok,dval,VOp.pure,VOp.simple,VOp.det,pok,pval,VA.ev,Env.get,Env.put,Env.keep,Za0,Za6,Zay,retQ,resV,Zbl,RS.ev,RS.ok,gd,Zbn,isBool,aggV,intV,binV,Zbk,strV,Zby,Zb2,Zbe,unV,unOk,Zb0,isInt,isStr,numOf,loV,hiV,lenV,Zar,Zbf,Zat,Za4,Za3,Zad,Zbm,Zab,Zbd,Za1,Zak,idxV,Zb3,Zbq,extV,Zbz,Zbr,Zbb,mmV,PV.cells,PV.fits,overlay,PV.nth,PV.row,Zbx,Zan,Zbw,Zbh,Zbs,Zbp,Zap,Zbc,Zbg,Zas,Heap.get,Heap.set,Heap.del,Heap.le,HL.get,HL.set,HL.del,HL.le,Heap.push,Heap.nil,Nat.le_refl,Nat.add_eq_left,Nat.left_eq_add,Nat.succ_ne_self,Nat.one_ne_zero,Env.le,Za2,Zbu,Zam,Zbv,Zaj,Zbt,Zaz,Zal,eqOk,ekOk,Zai,Za7,Zba,Zaq,AB.live,pxV,pxOk,fxV,fxOk,Zb1,Zbi,isNil,notNil,List.map,List.set,List.replicate,List.length,List.getD_cons_zero,List.getD_cons_succ,List.getD_nil,List.take,List.drop,List.take_zero,List.drop_zero,List.take_succ_cons,List.drop_succ_cons,List.append,List.cons_append,List.nil_append,Option.map,Nat.reduceEqDiff,Nat.reduceAdd,Nat.reduceLT,Nat.reduceLeDiff,Nat.reduceSub,Nat.reduceMul,reduceIte,Bool.false_eq_true,Bool.true_eq_false,ite_true,ite_false,if_true,if_false,true_and,and_true,implies_true,forall_const,ne_eq,not_false_eq_true,reduceCtorEq,BEq.rfl,beq_self_eq_true,Option.some.injEq,Nat.zero_add,Nat.add_zero,List.length_cons,List.length_nil,true_implies,imp_self,Int.reduceToNat,Int.toNat_natCast,Bool.not_false,Bool.not_true]
    refine ⟨by omega,?_⟩
    obtain ⟨hx0,hx1,hx2⟩:=hx
    by_cases e1:x.to - x.frm = 1
    · have hone:oneS x = Lib.itoa x.frm:=by unfold oneS; rw [if_pos e1]
      rw [hone] at hstep
      have hg:(decide (x.frm < 1048576) && decide (x.to = 1048577)) = false:=by
        rw [Bool.and_eq_false_iff,decide_eq_false_iff_not,decide_eq_false_iff_not]; omega
      by_cases e2:x.to = 1048577
      · have c1:(x.to == (1048577:Int)) = true:=by simpa using e2
        have c2:decide (x.frm < (1048576:Int)) = false:=decide_eq_false (by omega)
        refine Za9 (Zae [3,4,5,39] ?_)
        simp only [midQ,Zaa,Zah,Za8,Zao,Zav,Zbj,Za5,guardOf,Zac,Zau,Zaw,Zaf,Zag,Zax,Zbo,VOp.isIaddr,QW,dok,dval,VOp.pure,VOp.simple,VOp.det,pok,pval,VA.ev,Env.get,Env.put,Env.keep,Za0,Za6,Zay,retQ,resV,Zbl,RS.ev,RS.ok,gd,Zbn,isBool,aggV,intV,binV,Zbk,strV,Zby,Zb2,Zbe,unV,unOk,Zb0,isInt,isStr,numOf,loV,hiV,lenV,Zar,Zbf,Zat,Za4,Za3,Zad,Zbm,Zab,Zbd,Za1,Zak,idxV,Zb3,Zbq,extV,Zbz,Zbr,Zbb,mmV,PV.cells,PV.fits,overlay,PV.nth,PV.row,Zbx,Zan,Zbw,Zbh,Zbs,Zbp,Zap,Zbc,Zbg,Zas,Heap.get,Heap.set,Heap.del,Heap.le,HL.get,HL.set,HL.del,HL.le,Heap.push,Heap.nil,Nat.le_refl,Nat.add_eq_left,Nat.left_eq_add,Nat.succ_ne_self,Nat.one_ne_zero,Env.le,Za2,Zbu,Zam,Zbv,Zaj,Zbt,Zaz,Zal,eqOk,ekOk,Zai,Za7,Zba,Zaq,AB.live,pxV,pxOk,fxV,fxOk,Zb1,Zbi,isNil,notNil,List.map,List.set,List.replicate,List.length,List.getD_cons_zero,List.getD_cons_succ,List.getD_nil,List.take,List.drop,List.take_zero,List.drop_zero,List.take_succ_cons,List.drop_succ_cons,List.append,List.cons_append,List.nil_append,Option.map,Nat.reduceEqDiff,Nat.reduceAdd,Nat.reduceLT,Nat.reduceLeDiff,Nat.reduceSub,Nat.reduceMul,reduceIte,Bool.false_eq_true,Bool.true_eq_false,ite_true,ite_false,if_true,if_false,true_and,and_true,implies_true,forall_const,ne_eq,not_false_eq_true,reduceCtorEq,BEq.rfl,beq_self_eq_true,Option.some.injEq,Nat.zero_add,Nat.add_zero,List.length_cons,List.length_nil,true_implies,imp_self,Int.reduceToNat,Int.toNat_natCast,Bool.not_false,Bool.not_true,List.length_map,hrow,c1,c2]
        refine ⟨⟨by omega,by omega⟩,⟨by omega,by omega⟩,?_⟩
        refine Zb4 rfl (fun h=>by cases h) (fun _=>?_)
        refine Za9 (VW_drawS [3,4,5,53] (by simp [Heap.le,Heap.get,HL.le,HL.get]) ?_)
        simp only [midQ,Zaa,Zah,Za8,Zao,Zav,Zbj,Za5,guardOf,Zac,Zau,Zaw,Zaf,Zag,Zax,Zbo,VOp.isIaddr,QW,dok,dval,VOp.pure,VOp.simple,VOp.det,pok,pval,VA.ev,Env.get,Env.put,Env.keep,Za0,Za6,Zay,retQ,resV,Zbl,RS.ev,RS.ok,gd,Zbn,isBool,aggV,intV,binV,Zbk,strV,Zby,Zb2,Zbe,unV,unOk,Zb0,isInt,isStr,numOf,loV,hiV,lenV,Zar,Zbf,Zat,Za4,Za3,Zad,Zbm,Zab,Zbd,Za1,Zak,idxV,Zb3,Zbq,extV,Zbz,Zbr,Zbb,mmV,PV.cells,PV.fits,overlay,PV.nth,PV.row,Zbx,Zan,Zbw,Zbh,Zbs,Zbp,Zap,Zbc,Zbg,Zas,Heap.get,Heap.set,Heap.del,Heap.le,HL.get,HL.set,HL.del,HL.le,Heap.push,Heap.nil,Nat.le_refl,Nat.add_eq_left,Nat.left_eq_add,Nat.succ_ne_self,Nat.one_ne_zero,Env.le,Za2,Zbu,Zam,Zbv,Zaj,Zbt,Zaz,Zal,eqOk,ekOk,Zai,Za7,Zba,Zaq,AB.live,pxV,pxOk,fxV,fxOk,Zb1,Zbi,isNil,notNil,List.map,List.set,List.replicate,List.length,List.getD_cons_zero,List.getD_cons_succ,List.getD_nil,List.take,List.drop,List.take_zero,List.drop_zero,List.take_succ_cons,List.drop_succ_cons,List.append,List.cons_append,List.nil_append,Option.map,Nat.reduceEqDiff,Nat.reduceAdd,Nat.reduceLT,Nat.reduceLeDiff,Nat.reduceSub,Nat.reduceMul,reduceIte,Bool.false_eq_true,Bool.true_eq_false,ite_true,ite_false,if_true,if_false,true_and,and_true,implies_true,forall_const,ne_eq,not_false_eq_true,reduceCtorEq,BEq.rfl,beq_self_eq_true,Option.some.injEq,Nat.zero_add,Nat.add_zero,List.length_cons,List.length_nil,true_implies,imp_self,Int.reduceToNat,Int.toNat_natCast,Bool.not_false,Bool.not_true,List.length_map,hrow,w64 (n:=x.to - x.frm) (by omega) (by omega)]
        refine ⟨⟨by omega,by omega⟩,⟨by omega,by omega⟩,?_⟩
        refine Zb4 rfl (fun h=>by simp at h; omega) (fun _=>?_)
        refine Zb8 ?_
        try simp only [midQ,Zaa,Zah,Za8,Zao,Zav,Zbj,Za5,guardOf,Zac,Zau,Zaw,Zaf,Zag,Zax,Zbo,VOp.isIaddr,QW,dok,dval,VOp.pure,VOp.simple,VOp.det,pok,pval,VA.ev,Env.get,Env.put,Env.keep,Za0,Za6,Zay,retQ,resV,Zbl,RS.ev,RS.ok,gd,Zbn,isBool,aggV,intV,binV,Zbk,strV,Zby,Zb2,Zbe,unV,unOk,Zb0,isInt,isStr,numOf,loV,hiV,lenV,Zar,Zbf,Zat,Za4,Za3,Zad,Zbm,Zab,Zbd,Za1,Zak,idxV,Zb3,Zbq,extV,Zbz,Zbr,Zbb,mmV,PV.cells,PV.fits,overlay,PV.nth,PV.row,Zbx,Zan,Zbw,Zbh,Zbs,Zbp,Zap,Zbc,Zbg,Zas,Heap.get,Heap.set,Heap.del,Heap.le,HL.get,HL.set,HL.del,HL.le,Heap.push,Heap.nil,Nat.le_refl,Nat.add_eq_left,Nat.left_eq_add,Nat.succ_ne_self,Nat.one_ne_zero,Env.le,Za2,Zbu,Zam,Zbv,Zaj,Zbt,Zaz,Zal,eqOk,ekOk,Zai,Za7,Zba,Zaq,AB.live,pxV,pxOk,fxV,fxOk,Zb1,Zbi,isNil,notNil,List.map,List.set,List.replicate,List.length,List.getD_cons_zero,List.getD_cons_succ,List.getD_nil,List.take,List.drop,List.take_zero,List.drop_zero,List.take_succ_cons,List.drop_succ_cons,List.append,List.cons_append,List.nil_append,Option.map,Nat.reduceEqDiff,Nat.reduceAdd,Nat.reduceLT,Nat.reduceLeDiff,Nat.reduceSub,Nat.reduceMul,reduceIte,Bool.false_eq_true,Bool.true_eq_false,ite_true,ite_false,if_true,if_false,true_and,and_true,implies_true,forall_const,ne_eq,not_false_eq_true,reduceCtorEq,BEq.rfl,beq_self_eq_true,Option.some.injEq,Nat.zero_add,Nat.add_zero,List.length_cons,List.length_nil,true_implies,imp_self,Int.reduceToNat,Int.toNat_natCast,Bool.not_false,Bool.not_true]
        refine Zae [3,4,5] ?_
        simp only [midQ,Zaa,Zah,Za8,Zao,Zav,Zbj,Za5,guardOf,Zac,Zau,Zaw,Zaf,Zag,Zax,Zbo,VOp.isIaddr,QW,dok,dval,VOp.pure,VOp.simple,VOp.det,pok,pval,VA.ev,Env.get,Env.put,Env.keep,Za0,Za6,Zay,retQ,resV,Zbl,RS.ev,RS.ok,gd,Zbn,isBool,aggV,intV,binV,Zbk,strV,Zby,Zb2,Zbe,unV,unOk,Zb0,isInt,isStr,numOf,loV,hiV,lenV,Zar,Zbf,Zat,Za4,Za3,Zad,Zbm,Zab,Zbd,Za1,Zak,idxV,Zb3,Zbq,extV,Zbz,Zbr,Zbb,mmV,PV.cells,PV.fits,overlay,PV.nth,PV.row,Zbx,Zan,Zbw,Zbh,Zbs,Zbp,Zap,Zbc,Zbg,Zas,Heap.get,Heap.set,Heap.del,Heap.le,HL.get,HL.set,HL.del,HL.le,Heap.push,Heap.nil,Nat.le_refl,Nat.add_eq_left,Nat.left_eq_add,Nat.succ_ne_self,Nat.one_ne_zero,Env.le,Za2,Zbu,Zam,Zbv,Zaj,Zbt,Zaz,Zal,eqOk,ekOk,Zai,Za7,Zba,Zaq,AB.live,pxV,pxOk,fxV,fxOk,Zb1,Zbi,isNil,notNil,List.map,List.set,List.replicate,List.length,List.getD_cons_zero,List.getD_cons_succ,List.getD_nil,List.take,List.drop,List.take_zero,List.drop_zero,List.take_succ_cons,List.drop_succ_cons,List.append,List.cons_append,List.nil_append,Option.map,Nat.reduceEqDiff,Nat.reduceAdd,Nat.reduceLT,Nat.reduceLeDiff,Nat.reduceSub,Nat.reduceMul,reduceIte,Bool.false_eq_true,Bool.true_eq_false,ite_true,ite_false,if_true,if_false,true_and,and_true,implies_true,forall_const,ne_eq,not_false_eq_true,reduceCtorEq,BEq.rfl,beq_self_eq_true,Option.some.injEq,Nat.zero_add,Nat.add_zero,List.length_cons,List.length_nil,true_implies,imp_self,Int.reduceToNat,Int.toNat_natCast,Bool.not_false,Bool.not_true,w64 (n:=(i:Int) + 1) (by omega) (by omega)]
        refine ⟨⟨i + 1,ia⟩,?_⟩
        simp only [hstep]
        try simp only [midQ,Zaa,Zah,Za8,Zao,Zav,Zbj,Za5,guardOf,Zac,Zau,Zaw,Zaf,Zag,Zax,Zbo,VOp.isIaddr,QW,dok,dval,VOp.pure,VOp.simple,VOp.det,pok,pval,VA.ev,Env.get,Env.put,Env.keep,Za0,Za6,Zay,retQ,resV,Zbl,RS.ev,RS.ok,gd,Zbn,isBool,aggV,intV,binV,Zbk,strV,Zby,Zb2,Zbe,unV,unOk,Zb0,isInt,isStr,numOf,loV,hiV,lenV,Zar,Zbf,Zat,Za4,Za3,Zad,Zbm,Zab,Zbd,Za1,Zak,idxV,Zb3,Zbq,extV,Zbz,Zbr,Zbb,mmV,PV.cells,PV.fits,overlay,PV.nth,PV.row,Zbx,Zan,Zbw,Zbh,Zbs,Zbp,Zap,Zbc,Zbg,Zas,Heap.get,Heap.set,Heap.del,Heap.le,HL.get,HL.set,HL.del,HL.le,Heap.push,Heap.nil,Nat.le_refl,Nat.add_eq_left,Nat.left_eq_add,Nat.succ_ne_self,Nat.one_ne_zero,Env.le,Za2,Zbu,Zam,Zbv,Zaj,Zbt,Zaz,Zal,eqOk,ekOk,Zai,Za7,Zba,Zaq,AB.live,pxV,pxOk,fxV,fxOk,Zb1,Zbi,isNil,notNil,List.map,List.set,List.replicate,List.length,List.getD_cons_zero,List.getD_cons_succ,List.getD_nil,List.take,List.drop,List.take_zero,List.drop_zero,List.take_succ_cons,List.drop_succ_cons,List.append,List.cons_append,List.nil_append,Option.map,Nat.reduceEqDiff,Nat.reduceAdd,Nat.reduceLT,Nat.reduceLeDiff,Nat.reduceSub,Nat.reduceMul,reduceIte,Bool.false_eq_true,Bool.true_eq_false,ite_true,ite_false,if_true,if_false,true_and,and_true,implies_true,forall_const,ne_eq,not_false_eq_true,reduceCtorEq,BEq.rfl,beq_self_eq_true,Option.some.injEq,Nat.zero_add,Nat.add_zero,List.length_cons,List.length_nil,true_implies,imp_self,Int.reduceToNat,Int.toNat_natCast,Bool.not_false,Bool.not_true,true_and]
        all_goals (repeat' (first | rfl | trivial | omega | (simp only []; omega) | refine And.intro ?_ ?_))
      · have c1:(x.to == (1048577:Int)) = false:=by simpa using e2
        refine Za9 (Zae [3,4,5,39] ?_)
        simp only [midQ,Zaa,Zah,Za8,Zao,Zav,Zbj,Za5,guardOf,Zac,Zau,Zaw,Zaf,Zag,Zax,Zbo,VOp.isIaddr,QW,dok,dval,VOp.pure,VOp.simple,VOp.det,pok,pval,VA.ev,Env.get,Env.put,Env.keep,Za0,Za6,Zay,retQ,resV,Zbl,RS.ev,RS.ok,gd,Zbn,isBool,aggV,intV,binV,Zbk,strV,Zby,Zb2,Zbe,unV,unOk,Zb0,isInt,isStr,numOf,loV,hiV,lenV,Zar,Zbf,Zat,Za4,Za3,Zad,Zbm,Zab,Zbd,Za1,Zak,idxV,Zb3,Zbq,extV,Zbz,Zbr,Zbb,mmV,PV.cells,PV.fits,overlay,PV.nth,PV.row,Zbx,Zan,Zbw,Zbh,Zbs,Zbp,Zap,Zbc,Zbg,Zas,Heap.get,Heap.set,Heap.del,Heap.le,HL.get,HL.set,HL.del,HL.le,Heap.push,Heap.nil,Nat.le_refl,Nat.add_eq_left,Nat.left_eq_add,Nat.succ_ne_self,Nat.one_ne_zero,Env.le,Za2,Zbu,Zam,Zbv,Zaj,Zbt,Zaz,Zal,eqOk,ekOk,Zai,Za7,Zba,Zaq,AB.live,pxV,pxOk,fxV,fxOk,Zb1,Zbi,isNil,notNil,List.map,List.set,List.replicate,List.length,List.getD_cons_zero,List.getD_cons_succ,List.getD_nil,List.take,List.drop,List.take_zero,List.drop_zero,List.take_succ_cons,List.drop_succ_cons,List.append,List.cons_append,List.nil_append,Option.map,Nat.reduceEqDiff,Nat.reduceAdd,Nat.reduceLT,Nat.reduceLeDiff,Nat.reduceSub,Nat.reduceMul,reduceIte,Bool.false_eq_true,Bool.true_eq_false,ite_true,ite_false,if_true,if_false,true_and,and_true,implies_true,forall_const,ne_eq,not_false_eq_true,reduceCtorEq,BEq.rfl,beq_self_eq_true,Option.some.injEq,Nat.zero_add,Nat.add_zero,List.length_cons,List.length_nil,true_implies,imp_self,Int.reduceToNat,Int.toNat_natCast,Bool.not_false,Bool.not_true,List.length_map,hrow,c1]
        refine ⟨⟨by omega,by omega⟩,?_⟩
        refine Zb4 rfl (fun h=>by cases h) (fun _=>?_)
        refine Za9 (VW_drawS [3,4,5,53] (by simp [Heap.le,Heap.get,HL.le,HL.get]) ?_)
        simp only [midQ,Zaa,Zah,Za8,Zao,Zav,Zbj,Za5,guardOf,Zac,Zau,Zaw,Zaf,Zag,Zax,Zbo,VOp.isIaddr,QW,dok,dval,VOp.pure,VOp.simple,VOp.det,pok,pval,VA.ev,Env.get,Env.put,Env.keep,Za0,Za6,Zay,retQ,resV,Zbl,RS.ev,RS.ok,gd,Zbn,isBool,aggV,intV,binV,Zbk,strV,Zby,Zb2,Zbe,unV,unOk,Zb0,isInt,isStr,numOf,loV,hiV,lenV,Zar,Zbf,Zat,Za4,Za3,Zad,Zbm,Zab,Zbd,Za1,Zak,idxV,Zb3,Zbq,extV,Zbz,Zbr,Zbb,mmV,PV.cells,PV.fits,overlay,PV.nth,PV.row,Zbx,Zan,Zbw,Zbh,Zbs,Zbp,Zap,Zbc,Zbg,Zas,Heap.get,Heap.set,Heap.del,Heap.le,HL.get,HL.set,HL.del,HL.le,Heap.push,Heap.nil,Nat.le_refl,Nat.add_eq_left,Nat.left_eq_add,Nat.succ_ne_self,Nat.one_ne_zero,Env.le,Za2,Zbu,Zam,Zbv,Zaj,Zbt,Zaz,Zal,eqOk,ekOk,Zai,Za7,Zba,Zaq,AB.live,pxV,pxOk,fxV,fxOk,Zb1,Zbi,isNil,notNil,List.map,List.set,List.replicate,List.length,List.getD_cons_zero,List.getD_cons_succ,List.getD_nil,List.take,List.drop,List.take_zero,List.drop_zero,List.take_succ_cons,List.drop_succ_cons,List.append,List.cons_append,List.nil_append,Option.map,Nat.reduceEqDiff,Nat.reduceAdd,Nat.reduceLT,Nat.reduceLeDiff,Nat.reduceSub,Nat.reduceMul,reduceIte,Bool.false_eq_true,Bool.true_eq_false,ite_true,ite_false,if_true,if_false,true_and,and_true,implies_true,forall_const,ne_eq,not_false_eq_true,reduceCtorEq,BEq.rfl,beq_self_eq_true,Option.some.injEq,Nat.zero_add,Nat.add_zero,List.length_cons,List.length_nil,true_implies,imp_self,Int.reduceToNat,Int.toNat_natCast,Bool.not_false,Bool.not_true,List.length_map,hrow,w64 (n:=x.to - x.frm) (by omega) (by omega)]
        refine ⟨⟨by omega,by omega⟩,⟨by omega,by omega⟩,?_⟩
        refine Zb4 rfl (fun h=>by simp at h; omega) (fun _=>?_)
        refine Zb8 ?_
        try simp only [midQ,Zaa,Zah,Za8,Zao,Zav,Zbj,Za5,guardOf,Zac,Zau,Zaw,Zaf,Zag,Zax,Zbo,VOp.isIaddr,QW,dok,dval,VOp.pure,VOp.simple,VOp.det,pok,pval,VA.ev,Env.get,Env.put,Env.keep,Za0,Za6,Zay,retQ,resV,Zbl,RS.ev,RS.ok,gd,Zbn,isBool,aggV,intV,binV,Zbk,strV,Zby,Zb2,Zbe,unV,unOk,Zb0,isInt,isStr,numOf,loV,hiV,lenV,Zar,Zbf,Zat,Za4,Za3,Zad,Zbm,Zab,Zbd,Za1,Zak,idxV,Zb3,Zbq,extV,Zbz,Zbr,Zbb,mmV,PV.cells,PV.fits,overlay,PV.nth,PV.row,Zbx,Zan,Zbw,Zbh,Zbs,Zbp,Zap,Zbc,Zbg,Zas,Heap.get,Heap.set,Heap.del,Heap.le,HL.get,HL.set,HL.del,HL.le,Heap.push,Heap.nil,Nat.le_refl,Nat.add_eq_left,Nat.left_eq_add,Nat.succ_ne_self,Nat.one_ne_zero,Env.le,Za2,Zbu,Zam,Zbv,Zaj,Zbt,Zaz,Zal,eqOk,ekOk,Zai,Za7,Zba,Zaq,AB.live,pxV,pxOk,fxV,fxOk,Zb1,Zbi,isNil,notNil,List.map,List.set,List.replicate,List.length,List.getD_cons_zero,List.getD_cons_succ,List.getD_nil,List.take,List.drop,List.take_zero,List.drop_zero,List.take_succ_cons,List.drop_succ_cons,List.append,List.cons_append,List.nil_append,Option.map,Nat.reduceEqDiff,Nat.reduceAdd,Nat.reduceLT,Nat.reduceLeDiff,Nat.reduceSub,Nat.reduceMul,reduceIte,Bool.false_eq_true,Bool.true_eq_false,ite_true,ite_false,if_true,if_false,true_and,and_true,implies_true,forall_const,ne_eq,not_false_eq_true,reduceCtorEq,BEq.rfl,beq_self_eq_true,Option.some.injEq,Nat.zero_add,Nat.add_zero,List.length_cons,List.length_nil,true_implies,imp_self,Int.reduceToNat,Int.toNat_natCast,Bool.not_false,Bool.not_true]
        refine Zae [3,4,5] ?_
        simp only [midQ,Zaa,Zah,Za8,Zao,Zav,Zbj,Za5,guardOf,Zac,Zau,Zaw,Zaf,Zag,Zax,Zbo,VOp.isIaddr,QW,dok,dval,VOp.pure,VOp.simple,VOp.det,pok,pval,VA.ev,Env.get,Env.put,Env.keep,Za0,Za6,Zay,retQ,resV,Zbl,RS.ev,RS.ok,gd,Zbn,isBool,aggV,intV,binV,Zbk,strV,Zby,Zb2,Zbe,unV,unOk,Zb0,isInt,isStr,numOf,loV,hiV,lenV,Zar,Zbf,Zat,Za4,Za3,Zad,Zbm,Zab,Zbd,Za1,Zak,idxV,Zb3,Zbq,extV,Zbz,Zbr,Zbb,mmV,PV.cells,PV.fits,overlay,PV.nth,PV.row,Zbx,Zan,Zbw,Zbh,Zbs,Zbp,Zap,Zbc,Zbg,Zas,Heap.get,Heap.set,Heap.del,Heap.le,HL.get,HL.set,HL.del,HL.le,Heap.push,Heap.nil,Nat.le_refl,Nat.add_eq_left,Nat.left_eq_add,Nat.succ_ne_self,Nat.one_ne_zero,Env.le,Za2,Zbu,Zam,Zbv,Zaj,Zbt,Zaz,Zal,eqOk,ekOk,Zai,Za7,Zba,Zaq,AB.live,pxV,pxOk,fxV,fxOk,Zb1,Zbi,isNil,notNil,List.map,List.set,List.replicate,List.length,List.getD_cons_zero,List.getD_cons_succ,List.getD_nil,List.take,List.drop,List.take_zero,List.drop_zero,List.take_succ_cons,List.drop_succ_cons,List.append,List.cons_append,List.nil_append,Option.map,Nat.reduceEqDiff,Nat.reduceAdd,Nat.reduceLT,Nat.reduceLeDiff,Nat.reduceSub,Nat.reduceMul,reduceIte,Bool.false_eq_true,Bool.true_eq_false,ite_true,ite_false,if_true,if_false,true_and,and_true,implies_true,forall_const,ne_eq,not_false_eq_true,reduceCtorEq,BEq.rfl,beq_self_eq_true,Option.some.injEq,Nat.zero_add,Nat.add_zero,List.length_cons,List.length_nil,true_implies,imp_self,Int.reduceToNat,Int.toNat_natCast,Bool.not_false,Bool.not_true,w64 (n:=(i:Int) + 1) (by omega) (by omega)]
        refine ⟨⟨i + 1,ia⟩,?_⟩
        simp only [hstep]
        try simp only [midQ,Zaa,Zah,Za8,Zao,Zav,Zbj,Za5,guardOf,Zac,Zau,Zaw,Zaf,Zag,Zax,Zbo,VOp.isIaddr,QW,dok,dval,VOp.pure,VOp.simple,VOp.det,pok,pval,VA.ev,Env.get,Env.put,Env.keep,Za0,Za6,Zay,retQ,resV,Zbl,RS.ev,RS.ok,gd,Zbn,isBool,aggV,intV,binV,Zbk,strV,Zby,Zb2,Zbe,unV,unOk,Zb0,isInt,isStr,numOf,loV,hiV,lenV,Zar,Zbf,Zat,Za4,Za3,Zad,Zbm,Zab,Zbd,Za1,Zak,idxV,Zb3,Zbq,extV,Zbz,Zbr,Zbb,mmV,PV.cells,PV.fits,overlay,PV.nth,PV.row,Zbx,Zan,Zbw,Zbh,Zbs,Zbp,Zap,Zbc,Zbg,Zas,Heap.get,Heap.set,Heap.del,Heap.le,HL.get,HL.set,HL.del,HL.le,Heap.push,Heap.nil,Nat.le_refl,Nat.add_eq_left,Nat.left_eq_add,Nat.succ_ne_self,Nat.one_ne_zero,Env.le,Za2,Zbu,Zam,Zbv,Zaj,Zbt,Zaz,Zal,eqOk,ekOk,Zai,Za7,Zba,Zaq,AB.live,pxV,pxOk,fxV,fxOk,Zb1,Zbi,isNil,notNil,List.map,List.set,List.replicate,List.length,List.getD_cons_zero,List.getD_cons_succ,List.getD_nil,List.take,List.drop,List.take_zero,List.drop_zero,List.take_succ_cons,List.drop_succ_cons,List.append,List.cons_append,List.nil_append,Option.map,Nat.reduceEqDiff,Nat.reduceAdd,Nat.reduceLT,Nat.reduceLeDiff,Nat.reduceSub,Nat.reduceMul,reduceIte,Bool.false_eq_true,Bool.true_eq_false,ite_true,ite_false,if_true,if_false,true_and,and_true,implies_true,forall_const,ne_eq,not_false_eq_true,reduceCtorEq,BEq.rfl,beq_self_eq_true,Option.some.injEq,Nat.zero_add,Nat.add_zero,List.length_cons,List.length_nil,true_implies,imp_self,Int.reduceToNat,Int.toNat_natCast,Bool.not_false,Bool.not_true,true_and]
        all_goals (repeat' (first | rfl | trivial | omega | (simp only []; omega) | refine And.intro ?_ ?_))
    · by_cases e2:x.to = 1048577
      · have hone:oneS x = Lib.itoa x.frm ++ [43]:=by unfold oneS; rw [if_neg e1,if_pos e2]
        rw [hone] at hstep
        have c1:(x.to == (1048577:Int)) = true:=by simpa using e2
        have c2:decide (x.frm < (1048576:Int)) = true:=decide_eq_true (by omega)
        refine Za9 (Zae [3,4,5,39] ?_)
        simp only [midQ,Zaa,Zah,Za8,Zao,Zav,Zbj,Za5,guardOf,Zac,Zau,Zaw,Zaf,Zag,Zax,Zbo,VOp.isIaddr,QW,dok,dval,VOp.pure,VOp.simple,VOp.det,pok,pval,VA.ev,Env.get,Env.put,Env.keep,Za0,Za6,Zay,retQ,resV,Zbl,RS.ev,RS.ok,gd,Zbn,isBool,aggV,intV,binV,Zbk,strV,Zby,Zb2,Zbe,unV,unOk,Zb0,isInt,isStr,numOf,loV,hiV,lenV,Zar,Zbf,Zat,Za4,Za3,Zad,Zbm,Zab,Zbd,Za1,Zak,idxV,Zb3,Zbq,extV,Zbz,Zbr,Zbb,mmV,PV.cells,PV.fits,overlay,PV.nth,PV.row,Zbx,Zan,Zbw,Zbh,Zbs,Zbp,Zap,Zbc,Zbg,Zas,Heap.get,Heap.set,Heap.del,Heap.le,HL.get,HL.set,HL.del,HL.le,Heap.push,Heap.nil,Nat.le_refl,Nat.add_eq_left,Nat.left_eq_add,Nat.succ_ne_self,Nat.one_ne_zero,Env.le,Za2,Zbu,Zam,Zbv,Zaj,Zbt,Zaz,Zal,eqOk,ekOk,Zai,Za7,Zba,Zaq,AB.live,pxV,pxOk,fxV,fxOk,Zb1,Zbi,isNil,notNil,List.map,List.set,List.replicate,List.length,List.getD_cons_zero,List.getD_cons_succ,List.getD_nil,List.take,List.drop,List.take_zero,List.drop_zero,List.take_succ_cons,List.drop_succ_cons,List.append,List.cons_append,List.nil_append,Option.map,Nat.reduceEqDiff,Nat.reduceAdd,Nat.reduceLT,Nat.reduceLeDiff,Nat.reduceSub,Nat.reduceMul,reduceIte,Bool.false_eq_true,Bool.true_eq_false,ite_true,ite_false,if_true,if_false,true_and,and_true,implies_true,forall_const,ne_eq,not_false_eq_true,reduceCtorEq,BEq.rfl,beq_self_eq_true,Option.some.injEq,Nat.zero_add,Nat.add_zero,List.length_cons,List.length_nil,true_implies,imp_self,Int.reduceToNat,Int.toNat_natCast,Bool.not_false,Bool.not_true,List.length_map,hrow,c1,c2]
        refine ⟨⟨by omega,by omega⟩,⟨by omega,by omega⟩,?_⟩
        refine Zb4 rfl (fun _=>?_) (fun h=>by cases h)
        refine Zae [3,4,5] ?_
        simp only [midQ,Zaa,Zah,Za8,Zao,Zav,Zbj,Za5,guardOf,Zac,Zau,Zaw,Zaf,Zag,Zax,Zbo,VOp.isIaddr,QW,dok,dval,VOp.pure,VOp.simple,VOp.det,pok,pval,VA.ev,Env.get,Env.put,Env.keep,Za0,Za6,Zay,retQ,resV,Zbl,RS.ev,RS.ok,gd,Zbn,isBool,aggV,intV,binV,Zbk,strV,Zby,Zb2,Zbe,unV,unOk,Zb0,isInt,isStr,numOf,loV,hiV,lenV,Zar,Zbf,Zat,Za4,Za3,Zad,Zbm,Zab,Zbd,Za1,Zak,idxV,Zb3,Zbq,extV,Zbz,Zbr,Zbb,mmV,PV.cells,PV.fits,overlay,PV.nth,PV.row,Zbx,Zan,Zbw,Zbh,Zbs,Zbp,Zap,Zbc,Zbg,Zas,Heap.get,Heap.set,Heap.del,Heap.le,HL.get,HL.set,HL.del,HL.le,Heap.push,Heap.nil,Nat.le_refl,Nat.add_eq_left,Nat.left_eq_add,Nat.succ_ne_self,Nat.one_ne_zero,Env.le,Za2,Zbu,Zam,Zbv,Zaj,Zbt,Zaz,Zal,eqOk,ekOk,Zai,Za7,Zba,Zaq,AB.live,pxV,pxOk,fxV,fxOk,Zb1,Zbi,isNil,notNil,List.map,List.set,List.replicate,List.length,List.getD_cons_zero,List.getD_cons_succ,List.getD_nil,List.take,List.drop,List.take_zero,List.drop_zero,List.take_succ_cons,List.drop_succ_cons,List.append,List.cons_append,List.nil_append,Option.map,Nat.reduceEqDiff,Nat.reduceAdd,Nat.reduceLT,Nat.reduceLeDiff,Nat.reduceSub,Nat.reduceMul,reduceIte,Bool.false_eq_true,Bool.true_eq_false,ite_true,ite_false,if_true,if_false,true_and,and_true,implies_true,forall_const,ne_eq,not_false_eq_true,reduceCtorEq,BEq.rfl,beq_self_eq_true,Option.some.injEq,Nat.zero_add,Nat.add_zero,List.length_cons,List.length_nil,true_implies,imp_self,Int.reduceToNat,Int.toNat_natCast,Bool.not_false,Bool.not_true,List.length_append]
        refine ⟨by omega,?_⟩
        have hstep2:partT (c.take (i + 1)) = S1 ++ Lib.itoa x.frm ++ [43]:=by rw [hstep]; simp
        refine Zae [3,4,5] ?_
        simp only [midQ,Zaa,Zah,Za8,Zao,Zav,Zbj,Za5,guardOf,Zac,Zau,Zaw,Zaf,Zag,Zax,Zbo,VOp.isIaddr,QW,dok,dval,VOp.pure,VOp.simple,VOp.det,pok,pval,VA.ev,Env.get,Env.put,Env.keep,Za0,Za6,Zay,retQ,resV,Zbl,RS.ev,RS.ok,gd,Zbn,isBool,aggV,intV,binV,Zbk,strV,Zby,Zb2,Zbe,unV,unOk,Zb0,isInt,isStr,numOf,loV,hiV,lenV,Zar,Zbf,Zat,Za4,Za3,Zad,Zbm,Zab,Zbd,Za1,Zak,idxV,Zb3,Zbq,extV,Zbz,Zbr,Zbb,mmV,PV.cells,PV.fits,overlay,PV.nth,PV.row,Zbx,Zan,Zbw,Zbh,Zbs,Zbp,Zap,Zbc,Zbg,Zas,Heap.get,Heap.set,Heap.del,Heap.le,HL.get,HL.set,HL.del,HL.le,Heap.push,Heap.nil,Nat.le_refl,Nat.add_eq_left,Nat.left_eq_add,Nat.succ_ne_self,Nat.one_ne_zero,Env.le,Za2,Zbu,Zam,Zbv,Zaj,Zbt,Zaz,Zal,eqOk,ekOk,Zai,Za7,Zba,Zaq,AB.live,pxV,pxOk,fxV,fxOk,Zb1,Zbi,isNil,notNil,List.map,List.set,List.replicate,List.length,List.getD_cons_zero,List.getD_cons_succ,List.getD_nil,List.take,List.drop,List.take_zero,List.drop_zero,List.take_succ_cons,List.drop_succ_cons,List.append,List.cons_append,List.nil_append,Option.map,Nat.reduceEqDiff,Nat.reduceAdd,Nat.reduceLT,Nat.reduceLeDiff,Nat.reduceSub,Nat.reduceMul,reduceIte,Bool.false_eq_true,Bool.true_eq_false,ite_true,ite_false,if_true,if_false,true_and,and_true,implies_true,forall_const,ne_eq,not_false_eq_true,reduceCtorEq,BEq.rfl,beq_self_eq_true,Option.some.injEq,Nat.zero_add,Nat.add_zero,List.length_cons,List.length_nil,true_implies,imp_self,Int.reduceToNat,Int.toNat_natCast,Bool.not_false,Bool.not_true,w64 (n:=(i:Int) + 1) (by omega) (by omega)]
        refine ⟨⟨i + 1,ia⟩,?_⟩
        simp only [hstep2]
        try simp only [midQ,Zaa,Zah,Za8,Zao,Zav,Zbj,Za5,guardOf,Zac,Zau,Zaw,Zaf,Zag,Zax,Zbo,VOp.isIaddr,QW,dok,dval,VOp.pure,VOp.simple,VOp.det,pok,pval,VA.ev,Env.get,Env.put,Env.keep,Za0,Za6,Zay,retQ,resV,Zbl,RS.ev,RS.ok,gd,Zbn,isBool,aggV,intV,binV,Zbk,strV,Zby,Zb2,Zbe,unV,unOk,Zb0,isInt,isStr,numOf,loV,hiV,lenV,Zar,Zbf,Zat,Za4,Za3,Zad,Zbm,Zab,Zbd,Za1,Zak,idxV,Zb3,Zbq,extV,Zbz,Zbr,Zbb,mmV,PV.cells,PV.fits,overlay,PV.nth,PV.row,Zbx,Zan,Zbw,Zbh,Zbs,Zbp,Zap,Zbc,Zbg,Zas,Heap.get,Heap.set,Heap.del,Heap.le,HL.get,HL.set,HL.del,HL.le,Heap.push,Heap.nil,Nat.le_refl,Nat.add_eq_left,Nat.left_eq_add,Nat.succ_ne_self,Nat.one_ne_zero,Env.le,Za2,Zbu,Zam,Zbv,Zaj,Zbt,Zaz,Zal,eqOk,ekOk,Zai,Za7,Zba,Zaq,AB.live,pxV,pxOk,fxV,fxOk,Zb1,Zbi,isNil,notNil,List.map,List.set,List.replicate,List.length,List.getD_cons_zero,List.getD_cons_succ,List.getD_nil,List.take,List.drop,List.take_zero,List.drop_zero,List.take_succ_cons,List.drop_succ_cons,List.append,List.cons_append,List.nil_append,Option.map,Nat.reduceEqDiff,Nat.reduceAdd,Nat.reduceLT,Nat.reduceLeDiff,Nat.reduceSub,Nat.reduceMul,reduceIte,Bool.false_eq_true,Bool.true_eq_false,ite_true,ite_false,if_true,if_false,true_and,and_true,implies_true,forall_const,ne_eq,not_false_eq_true,reduceCtorEq,BEq.rfl,beq_self_eq_true,Option.some.injEq,Nat.zero_add,Nat.add_zero,List.length_cons,List.length_nil,true_implies,imp_self,Int.reduceToNat,Int.toNat_natCast,Bool.not_false,Bool.not_true,true_and]
        all_goals (repeat' (first | rfl | trivial | omega | (simp only []; omega) | refine And.intro ?_ ?_))
      · have hone:oneS x = Lib.itoa x.frm ++ [45] ++ Lib.itoa (x.to - 1):=by unfold oneS; rw [if_neg e1,if_neg e2]
        rw [hone] at hstep
        have c1:(x.to == (1048577:Int)) = false:=by simpa using e2
        refine Za9 (Zae [3,4,5,39] ?_)
        simp only [midQ,Zaa,Zah,Za8,Zao,Zav,Zbj,Za5,guardOf,Zac,Zau,Zaw,Zaf,Zag,Zax,Zbo,VOp.isIaddr,QW,dok,dval,VOp.pure,VOp.simple,VOp.det,pok,pval,VA.ev,Env.get,Env.put,Env.keep,Za0,Za6,Zay,retQ,resV,Zbl,RS.ev,RS.ok,gd,Zbn,isBool,aggV,intV,binV,Zbk,strV,Zby,Zb2,Zbe,unV,unOk,Zb0,isInt,isStr,numOf,loV,hiV,lenV,Zar,Zbf,Zat,Za4,Za3,Zad,Zbm,Zab,Zbd,Za1,Zak,idxV,Zb3,Zbq,extV,Zbz,Zbr,Zbb,mmV,PV.cells,PV.fits,overlay,PV.nth,PV.row,Zbx,Zan,Zbw,Zbh,Zbs,Zbp,Zap,Zbc,Zbg,Zas,Heap.get,Heap.set,Heap.del,Heap.le,HL.get,HL.set,HL.del,HL.le,Heap.push,Heap.nil,Nat.le_refl,Nat.add_eq_left,Nat.left_eq_add,Nat.succ_ne_self,Nat.one_ne_zero,Env.le,Za2,Zbu,Zam,Zbv,Zaj,Zbt,Zaz,Zal,eqOk,ekOk,Zai,Za7,Zba,Zaq,AB.live,pxV,pxOk,fxV,fxOk,Zb1,Zbi,isNil,notNil,List.map,List.set,List.replicate,List.length,List.getD_cons_zero,List.getD_cons_succ,List.getD_nil,List.take,List.drop,List.take_zero,List.drop_zero,List.take_succ_cons,List.drop_succ_cons,List.append,List.cons_append,List.nil_append,Option.map,Nat.reduceEqDiff,Nat.reduceAdd,Nat.reduceLT,Nat.reduceLeDiff,Nat.reduceSub,Nat.reduceMul,reduceIte,Bool.false_eq_true,Bool.true_eq_false,ite_true,ite_false,if_true,if_false,true_and,and_true,implies_true,forall_const,ne_eq,not_false_eq_true,reduceCtorEq,BEq.rfl,beq_self_eq_true,Option.some.injEq,Nat.zero_add,Nat.add_zero,List.length_cons,List.length_nil,true_implies,imp_self,Int.reduceToNat,Int.toNat_natCast,Bool.not_false,Bool.not_true,List.length_map,hrow,c1]
        refine ⟨⟨by omega,by omega⟩,?_⟩
        refine Zb4 rfl (fun h=>by cases h) (fun _=>?_)
        refine Za9 (VW_drawS [3,4,5,53] (by simp [Heap.le,Heap.get,HL.le,HL.get]) ?_)
        simp only [midQ,Zaa,Zah,Za8,Zao,Zav,Zbj,Za5,guardOf,Zac,Zau,Zaw,Zaf,Zag,Zax,Zbo,VOp.isIaddr,QW,dok,dval,VOp.pure,VOp.simple,VOp.det,pok,pval,VA.ev,Env.get,Env.put,Env.keep,Za0,Za6,Zay,retQ,resV,Zbl,RS.ev,RS.ok,gd,Zbn,isBool,aggV,intV,binV,Zbk,strV,Zby,Zb2,Zbe,unV,unOk,Zb0,isInt,isStr,numOf,loV,hiV,lenV,Zar,Zbf,Zat,Za4,Za3,Zad,Zbm,Zab,Zbd,Za1,Zak,idxV,Zb3,Zbq,extV,Zbz,Zbr,Zbb,mmV,PV.cells,PV.fits,overlay,PV.nth,PV.row,Zbx,Zan,Zbw,Zbh,Zbs,Zbp,Zap,Zbc,Zbg,Zas,Heap.get,Heap.set,Heap.del,Heap.le,HL.get,HL.set,HL.del,HL.le,Heap.push,Heap.nil,Nat.le_refl,Nat.add_eq_left,Nat.left_eq_add,Nat.succ_ne_self,Nat.one_ne_zero,Env.le,Za2,Zbu,Zam,Zbv,Zaj,Zbt,Zaz,Zal,eqOk,ekOk,Zai,Za7,Zba,Zaq,AB.live,pxV,pxOk,fxV,fxOk,Zb1,Zbi,isNil,notNil,List.map,List.set,List.replicate,List.length,List.getD_cons_zero,List.getD_cons_succ,List.getD_nil,List.take,List.drop,List.take_zero,List.drop_zero,List.take_succ_cons,List.drop_succ_cons,List.append,List.cons_append,List.nil_append,Option.map,Nat.reduceEqDiff,Nat.reduceAdd,Nat.reduceLT,Nat.reduceLeDiff,Nat.reduceSub,Nat.reduceMul,reduceIte,Bool.false_eq_true,Bool.true_eq_false,ite_true,ite_false,if_true,if_false,true_and,and_true,implies_true,forall_const,ne_eq,not_false_eq_true,reduceCtorEq,BEq.rfl,beq_self_eq_true,Option.some.injEq,Nat.zero_add,Nat.add_zero,List.length_cons,List.length_nil,true_implies,imp_self,Int.reduceToNat,Int.toNat_natCast,Bool.not_false,Bool.not_true,List.length_map,hrow,w64 (n:=x.to - x.frm) (by omega) (by omega)]
        refine ⟨⟨by omega,by omega⟩,⟨by omega,by omega⟩,?_⟩
        refine Zb4 rfl (fun _=>?_) (fun h=>by simp at h; omega)
        have D2:=dig_itoa (n:=x.to - 1) (by omega) (by omega)
        have L2:=Zdb (n:=x.to - 1) (by omega) (by omega)
        refine Zae [3,4,5] ?_
        simp only [midQ,Zaa,Zah,Za8,Zao,Zav,Zbj,Za5,guardOf,Zac,Zau,Zaw,Zaf,Zag,Zax,Zbo,VOp.isIaddr,QW,dok,dval,VOp.pure,VOp.simple,VOp.det,pok,pval,VA.ev,Env.get,Env.put,Env.keep,Za0,Za6,Zay,retQ,resV,Zbl,RS.ev,RS.ok,gd,Zbn,isBool,aggV,intV,binV,Zbk,strV,Zby,Zb2,Zbe,unV,unOk,Zb0,isInt,isStr,numOf,loV,hiV,lenV,Zar,Zbf,Zat,Za4,Za3,Zad,Zbm,Zab,Zbd,Za1,Zak,idxV,Zb3,Zbq,extV,Zbz,Zbr,Zbb,mmV,PV.cells,PV.fits,overlay,PV.nth,PV.row,Zbx,Zan,Zbw,Zbh,Zbs,Zbp,Zap,Zbc,Zbg,Zas,Heap.get,Heap.set,Heap.del,Heap.le,HL.get,HL.set,HL.del,HL.le,Heap.push,Heap.nil,Nat.le_refl,Nat.add_eq_left,Nat.left_eq_add,Nat.succ_ne_self,Nat.one_ne_zero,Env.le,Za2,Zbu,Zam,Zbv,Zaj,Zbt,Zaz,Zal,eqOk,ekOk,Zai,Za7,Zba,Zaq,AB.live,pxV,pxOk,fxV,fxOk,Zb1,Zbi,isNil,notNil,List.map,List.set,List.replicate,List.length,List.getD_cons_zero,List.getD_cons_succ,List.getD_nil,List.take,List.drop,List.take_zero,List.drop_zero,List.take_succ_cons,List.drop_succ_cons,List.append,List.cons_append,List.nil_append,Option.map,Nat.reduceEqDiff,Nat.reduceAdd,Nat.reduceLT,Nat.reduceLeDiff,Nat.reduceSub,Nat.reduceMul,reduceIte,Bool.false_eq_true,Bool.true_eq_false,ite_true,ite_false,if_true,if_false,true_and,and_true,implies_true,forall_const,ne_eq,not_false_eq_true,reduceCtorEq,BEq.rfl,beq_self_eq_true,Option.some.injEq,Nat.zero_add,Nat.add_zero,List.length_cons,List.length_nil,true_implies,imp_self,Int.reduceToNat,Int.toNat_natCast,Bool.not_false,Bool.not_true,List.length_map,hrow,w64 (n:=x.to - 1) (by omega) (by omega),List.length_append]
        refine ⟨by omega,⟨by omega,by omega⟩,?_⟩
        refine Zb7 D2 ?_
        try simp only [midQ,Zaa,Zah,Za8,Zao,Zav,Zbj,Za5,guardOf,Zac,Zau,Zaw,Zaf,Zag,Zax,Zbo,VOp.isIaddr,QW,dok,dval,VOp.pure,VOp.simple,VOp.det,pok,pval,VA.ev,Env.get,Env.put,Env.keep,Za0,Za6,Zay,retQ,resV,Zbl,RS.ev,RS.ok,gd,Zbn,isBool,aggV,intV,binV,Zbk,strV,Zby,Zb2,Zbe,unV,unOk,Zb0,isInt,isStr,numOf,loV,hiV,lenV,Zar,Zbf,Zat,Za4,Za3,Zad,Zbm,Zab,Zbd,Za1,Zak,idxV,Zb3,Zbq,extV,Zbz,Zbr,Zbb,mmV,PV.cells,PV.fits,overlay,PV.nth,PV.row,Zbx,Zan,Zbw,Zbh,Zbs,Zbp,Zap,Zbc,Zbg,Zas,Heap.get,Heap.set,Heap.del,Heap.le,HL.get,HL.set,HL.del,HL.le,Heap.push,Heap.nil,Nat.le_refl,Nat.add_eq_left,Nat.left_eq_add,Nat.succ_ne_self,Nat.one_ne_zero,Env.le,Za2,Zbu,Zam,Zbv,Zaj,Zbt,Zaz,Zal,eqOk,ekOk,Zai,Za7,Zba,Zaq,AB.live,pxV,pxOk,fxV,fxOk,Zb1,Zbi,isNil,notNil,List.map,List.set,List.replicate,List.length,List.getD_cons_zero,List.getD_cons_succ,List.getD_nil,List.take,List.drop,List.take_zero,List.drop_zero,List.take_succ_cons,List.drop_succ_cons,List.append,List.cons_append,List.nil_append,Option.map,Nat.reduceEqDiff,Nat.reduceAdd,Nat.reduceLT,Nat.reduceLeDiff,Nat.reduceSub,Nat.reduceMul,reduceIte,Bool.false_eq_true,Bool.true_eq_false,ite_true,ite_false,if_true,if_false,true_and,and_true,implies_true,forall_const,ne_eq,not_false_eq_true,reduceCtorEq,BEq.rfl,beq_self_eq_true,Option.some.injEq,Nat.zero_add,Nat.add_zero,List.length_cons,List.length_nil,true_implies,imp_self,Int.reduceToNat,Int.toNat_natCast,Bool.not_false,Bool.not_true,List.length_append]
        refine ⟨by omega,?_⟩
        have hstep2:partT (c.take (i + 1)) = S1 ++ Lib.itoa x.frm ++ [45] ++ Lib.itoa (x.to - 1):=by rw [hstep]; simp
        refine Zae [3,4,5] ?_
        simp only [midQ,Zaa,Zah,Za8,Zao,Zav,Zbj,Za5,guardOf,Zac,Zau,Zaw,Zaf,Zag,Zax,Zbo,VOp.isIaddr,QW,dok,dval,VOp.pure,VOp.simple,VOp.det,pok,pval,VA.ev,Env.get,Env.put,Env.keep,Za0,Za6,Zay,retQ,resV,Zbl,RS.ev,RS.ok,gd,Zbn,isBool,aggV,intV,binV,Zbk,strV,Zby,Zb2,Zbe,unV,unOk,Zb0,isInt,isStr,numOf,loV,hiV,lenV,Zar,Zbf,Zat,Za4,Za3,Zad,Zbm,Zab,Zbd,Za1,Zak,idxV,Zb3,Zbq,extV,Zbz,Zbr,Zbb,mmV,PV.cells,PV.fits,overlay,PV.nth,PV.row,Zbx,Zan,Zbw,Zbh,Zbs,Zbp,Zap,Zbc,Zbg,Zas,Heap.get,Heap.set,Heap.del,Heap.le,HL.get,HL.set,HL.del,HL.le,Heap.push,Heap.nil,Nat.le_refl,Nat.add_eq_left,Nat.left_eq_add,Nat.succ_ne_self,Nat.one_ne_zero,Env.le,Za2,Zbu,Zam,Zbv,Zaj,Zbt,Zaz,Zal,eqOk,ekOk,Zai,Za7,Zba,Zaq,AB.live,pxV,pxOk,fxV,fxOk,Zb1,Zbi,isNil,notNil,List.map,List.set,List.replicate,List.length,List.getD_cons_zero,List.getD_cons_succ,List.getD_nil,List.take,List.drop,List.take_zero,List.drop_zero,List.take_succ_cons,List.drop_succ_cons,List.append,List.cons_append,List.nil_append,Option.map,Nat.reduceEqDiff,Nat.reduceAdd,Nat.reduceLT,Nat.reduceLeDiff,Nat.reduceSub,Nat.reduceMul,reduceIte,Bool.false_eq_true,Bool.true_eq_false,ite_true,ite_false,if_true,if_false,true_and,and_true,implies_true,forall_const,ne_eq,not_false_eq_true,reduceCtorEq,BEq.rfl,beq_self_eq_true,Option.some.injEq,Nat.zero_add,Nat.add_zero,List.length_cons,List.length_nil,true_implies,imp_self,Int.reduceToNat,Int.toNat_natCast,Bool.not_false,Bool.not_true,w64 (n:=(i:Int) + 1) (by omega) (by omega)]
        refine ⟨⟨i + 1,ia⟩,?_⟩
        simp only [hstep2]
        try simp only [midQ,Zaa,Zah,Za8,Zao,Zav,Zbj,Za5,guardOf,Zac,Zau,Zaw,Zaf,Zag,Zax,Zbo,VOp.isIaddr,QW,dok,dval,VOp.pure,VOp.simple,VOp.det,pok,pval,VA.ev,Env.get,Env.put,Env.keep,Za0,Za6,Zay,retQ,resV,Zbl,RS.ev,RS.ok,gd,Zbn,isBool,aggV,intV,binV,Zbk,strV,Zby,Zb2,Zbe,unV,unOk,Zb0,isInt,isStr,numOf,loV,hiV,lenV,Zar,Zbf,Zat,Za4,Za3,Zad,Zbm,Zab,Zbd,Za1,Zak,idxV,Zb3,Zbq,extV,Zbz,Zbr,Zbb,mmV,PV.cells,PV.fits,overlay,PV.nth,PV.row,Zbx,Zan,Zbw,Zbh,Zbs,Zbp,Zap,Zbc,Zbg,Zas,Heap.get,Heap.set,Heap.del,Heap.le,HL.get,HL.set,HL.del,HL.le,Heap.push,Heap.nil,Nat.le_refl,Nat.add_eq_left,Nat.left_eq_add,Nat.succ_ne_self,Nat.one_ne_zero,Env.le,Za2,Zbu,Zam,Zbv,Zaj,Zbt,Zaz,Zal,eqOk,ekOk,Zai,Za7,Zba,Zaq,AB.live,pxV,pxOk,fxV,fxOk,Zb1,Zbi,isNil,notNil,List.map,List.set,List.replicate,List.length,List.getD_cons_zero,List.getD_cons_succ,List.getD_nil,List.take,List.drop,List.take_zero,List.drop_zero,List.take_succ_cons,List.drop_succ_cons,List.append,List.cons_append,List.nil_append,Option.map,Nat.reduceEqDiff,Nat.reduceAdd,Nat.reduceLT,Nat.reduceLeDiff,Nat.reduceSub,Nat.reduceMul,reduceIte,Bool.false_eq_true,Bool.true_eq_false,ite_true,ite_false,if_true,if_false,true_and,and_true,implies_true,forall_const,ne_eq,not_false_eq_true,reduceCtorEq,BEq.rfl,beq_self_eq_true,Option.some.injEq,Nat.zero_add,Nat.add_zero,List.length_cons,List.length_nil,true_implies,imp_self,Int.reduceToNat,Int.toNat_natCast,Bool.not_false,Bool.not_true,true_and]
        all_goals (repeat' (first | rfl | trivial | omega | (simp only []; omega) | refine And.intro ?_ ?_))
  · simp only [decide_eq_false_iff_not] at h1
    obtain rfl:i = c.length:=by omega
    rw [List.take_length]
    refine Zcw ?_
    try simp only [midQ,Zaa,Zah,Za8,Zao,Zav,Zbj,Za5,guardOf,Zac,Zau,Zaw,Zaf,Zag,Zax,Zbo,VOp.isIaddr,QW,dok,dval,VOp.pure,VOp.simple,VOp.det,pok,pval,VA.ev,Env.get,Env.put,Env.keep,Za0,Za6,Zay,retQ,resV,Zbl,RS.ev,RS.ok,gd,Zbn,isBool,aggV,intV,binV,Zbk,strV,Zby,Zb2,Zbe,unV,unOk,Zb0,isInt,isStr,numOf,loV,hiV,lenV,Zar,Zbf,Zat,Za4,Za3,Zad,Zbm,Zab,Zbd,Za1,Zak,idxV,Zb3,Zbq,extV,Zbz,Zbr,Zbb,mmV,PV.cells,PV.fits,overlay,PV.nth,PV.row,Zbx,Zan,Zbw,Zbh,Zbs,Zbp,Zap,Zbc,Zbg,Zas,Heap.get,Heap.set,Heap.del,Heap.le,HL.get,HL.set,HL.del,HL.le,Heap.push,Heap.nil,Nat.le_refl,Nat.add_eq_left,Nat.left_eq_add,Nat.succ_ne_self,Nat.one_ne_zero,Env.le,Za2,Zbu,Zam,Zbv,Zaj,Zbt,Zaz,Zal,eqOk,ekOk,Zai,Za7,Zba,Zaq,AB.live,pxV,pxOk,fxV,fxOk,Zb1,Zbi,isNil,notNil,List.map,List.set,List.replicate,List.length,List.getD_cons_zero,List.getD_cons_succ,List.getD_nil,List.take,List.drop,List.take_zero,List.drop_zero,List.take_succ_cons,List.drop_succ_cons,List.append,List.cons_append,List.nil_append,Option.map,Nat.reduceEqDiff,Nat.reduceAdd,Nat.reduceLT,Nat.reduceLeDiff,Nat.reduceSub,Nat.reduceMul,reduceIte,Bool.false_eq_true,Bool.true_eq_false,ite_true,ite_false,if_true,if_false,true_and,and_true,implies_true,forall_const,ne_eq,not_false_eq_true,reduceCtorEq,BEq.rfl,beq_self_eq_true,Option.some.injEq,Nat.zero_add,Nat.add_zero,List.length_cons,List.length_nil,true_implies,imp_self,Int.reduceToNat,Int.toNat_natCast,Bool.not_false,Bool.not_true]
    refine Za9 ?_
    refine Za9 (Zae [3,66] ?_)
    simp only [midQ,Zaa,Zah,Za8,Zao,Zav,Zbj,Za5,guardOf,Zac,Zau,Zaw,Zaf,Zag,Zax,Zbo,VOp.isIaddr,QW,dok,dval,VOp.pure,VOp.simple,VOp.det,pok,pval,VA.ev,Env.get,Env.put,Env.keep,Za0,Za6,Zay,retQ,resV,Zbl,RS.ev,RS.ok,gd,Zbn,isBool,aggV,intV,binV,Zbk,strV,Zby,Zb2,Zbe,unV,unOk,Zb0,isInt,isStr,numOf,loV,hiV,lenV,Zar,Zbf,Zat,Za4,Za3,Zad,Zbm,Zab,Zbd,Za1,Zak,idxV,Zb3,Zbq,extV,Zbz,Zbr,Zbb,mmV,PV.cells,PV.fits,overlay,PV.nth,PV.row,Zbx,Zan,Zbw,Zbh,Zbs,Zbp,Zap,Zbc,Zbg,Zas,Heap.get,Heap.set,Heap.del,Heap.le,HL.get,HL.set,HL.del,HL.le,Heap.push,Heap.nil,Nat.le_refl,Nat.add_eq_left,Nat.left_eq_add,Nat.succ_ne_self,Nat.one_ne_zero,Env.le,Za2,Zbu,Zam,Zbv,Zaj,Zbt,Zaz,Zal,eqOk,ekOk,Zai,Za7,Zba,Zaq,AB.live,pxV,pxOk,fxV,fxOk,Zb1,Zbi,isNil,notNil,List.map,List.set,List.replicate,List.length,List.getD_cons_zero,List.getD_cons_succ,List.getD_nil,List.take,List.drop,List.take_zero,List.drop_zero,List.take_succ_cons,List.drop_succ_cons,List.append,List.cons_append,List.nil_append,Option.map,Nat.reduceEqDiff,Nat.reduceAdd,Nat.reduceLT,Nat.reduceLeDiff,Nat.reduceSub,Nat.reduceMul,reduceIte,Bool.false_eq_true,Bool.true_eq_false,ite_true,ite_false,if_true,if_false,true_and,and_true,implies_true,forall_const,ne_eq,not_false_eq_true,reduceCtorEq,BEq.rfl,beq_self_eq_true,Option.some.injEq,Nat.zero_add,Nat.add_zero,List.length_cons,List.length_nil,true_implies,imp_self,Int.reduceToNat,Int.toNat_natCast,Bool.not_false,Bool.not_true,List.length_map]
    by_cases h0:c = []
    · subst h0
      refine Zb4 rfl (fun _=>?_) (fun h=>by simp at h)
      refine Za9 (Zae [2] ?_)
      simp only [midQ,Zaa,Zah,Za8,Zao,Zav,Zbj,Za5,guardOf,Zac,Zau,Zaw,Zaf,Zag,Zax,Zbo,VOp.isIaddr,QW,dok,dval,VOp.pure,VOp.simple,VOp.det,pok,pval,VA.ev,Env.get,Env.put,Env.keep,Za0,Za6,Zay,retQ,resV,Zbl,RS.ev,RS.ok,gd,Zbn,isBool,aggV,intV,binV,Zbk,strV,Zby,Zb2,Zbe,unV,unOk,Zb0,isInt,isStr,numOf,loV,hiV,lenV,Zar,Zbf,Zat,Za4,Za3,Zad,Zbm,Zab,Zbd,Za1,Zak,idxV,Zb3,Zbq,extV,Zbz,Zbr,Zbb,mmV,PV.cells,PV.fits,overlay,PV.nth,PV.row,Zbx,Zan,Zbw,Zbh,Zbs,Zbp,Zap,Zbc,Zbg,Zas,Heap.get,Heap.set,Heap.del,Heap.le,HL.get,HL.set,HL.del,HL.le,Heap.push,Heap.nil,Nat.le_refl,Nat.add_eq_left,Nat.left_eq_add,Nat.succ_ne_self,Nat.one_ne_zero,Env.le,Za2,Zbu,Zam,Zbv,Zaj,Zbt,Zaz,Zal,eqOk,ekOk,Zai,Za7,Zba,Zaq,AB.live,pxV,pxOk,fxV,fxOk,Zb1,Zbi,isNil,notNil,List.map,List.set,List.replicate,List.length,List.getD_cons_zero,List.getD_cons_succ,List.getD_nil,List.take,List.drop,List.take_zero,List.drop_zero,List.take_succ_cons,List.drop_succ_cons,List.append,List.cons_append,List.nil_append,Option.map,Nat.reduceEqDiff,Nat.reduceAdd,Nat.reduceLT,Nat.reduceLeDiff,Nat.reduceSub,Nat.reduceMul,reduceIte,Bool.false_eq_true,Bool.true_eq_false,ite_true,ite_false,if_true,if_false,true_and,and_true,implies_true,forall_const,ne_eq,not_false_eq_true,reduceCtorEq,BEq.rfl,beq_self_eq_true,Option.some.injEq,Nat.zero_add,Nat.add_zero,List.length_cons,List.length_nil,true_implies,imp_self,Int.reduceToNat,Int.toNat_natCast,Bool.not_false,Bool.not_true]
      refine Zca ?_
      try simp only [midQ,Zaa,Zah,Za8,Zao,Zav,Zbj,Za5,guardOf,Zac,Zau,Zaw,Zaf,Zag,Zax,Zbo,VOp.isIaddr,QW,dok,dval,VOp.pure,VOp.simple,VOp.det,pok,pval,VA.ev,Env.get,Env.put,Env.keep,Za0,Za6,Zay,retQ,resV,Zbl,RS.ev,RS.ok,gd,Zbn,isBool,aggV,intV,binV,Zbk,strV,Zby,Zb2,Zbe,unV,unOk,Zb0,isInt,isStr,numOf,loV,hiV,lenV,Zar,Zbf,Zat,Za4,Za3,Zad,Zbm,Zab,Zbd,Za1,Zak,idxV,Zb3,Zbq,extV,Zbz,Zbr,Zbb,mmV,PV.cells,PV.fits,overlay,PV.nth,PV.row,Zbx,Zan,Zbw,Zbh,Zbs,Zbp,Zap,Zbc,Zbg,Zas,Heap.get,Heap.set,Heap.del,Heap.le,HL.get,HL.set,HL.del,HL.le,Heap.push,Heap.nil,Nat.le_refl,Nat.add_eq_left,Nat.left_eq_add,Nat.succ_ne_self,Nat.one_ne_zero,Env.le,Za2,Zbu,Zam,Zbv,Zaj,Zbt,Zaz,Zal,eqOk,ekOk,Zai,Za7,Zba,Zaq,AB.live,pxV,pxOk,fxV,fxOk,Zb1,Zbi,isNil,notNil,List.map,List.set,List.replicate,List.length,List.getD_cons_zero,List.getD_cons_succ,List.getD_nil,List.take,List.drop,List.take_zero,List.drop_zero,List.take_succ_cons,List.drop_succ_cons,List.append,List.cons_append,List.nil_append,Option.map,Nat.reduceEqDiff,Nat.reduceAdd,Nat.reduceLT,Nat.reduceLeDiff,Nat.reduceSub,Nat.reduceMul,reduceIte,Bool.false_eq_true,Bool.true_eq_false,ite_true,ite_false,if_true,if_false,true_and,and_true,implies_true,forall_const,ne_eq,not_false_eq_true,reduceCtorEq,BEq.rfl,beq_self_eq_true,Option.some.injEq,Nat.zero_add,Nat.add_zero,List.length_cons,List.length_nil,true_implies,imp_self,Int.reduceToNat,Int.toNat_natCast,Bool.not_false,Bool.not_true]
      exact View.refl _ _
    · have hc0:c.length ≠ 0:=fun e=>h0 (List.eq_nil_of_length_eq_zero e)
      refine Zb4 rfl (fun h=>by simp at h; exact absurd h h0) (fun _=>?_)
      refine Zb8 ?_
      try simp only [midQ,Zaa,Zah,Za8,Zao,Zav,Zbj,Za5,guardOf,Zac,Zau,Zaw,Zaf,Zag,Zax,Zbo,VOp.isIaddr,QW,dok,dval,VOp.pure,VOp.simple,VOp.det,pok,pval,VA.ev,Env.get,Env.put,Env.keep,Za0,Za6,Zay,retQ,resV,Zbl,RS.ev,RS.ok,gd,Zbn,isBool,aggV,intV,binV,Zbk,strV,Zby,Zb2,Zbe,unV,unOk,Zb0,isInt,isStr,numOf,loV,hiV,lenV,Zar,Zbf,Zat,Za4,Za3,Zad,Zbm,Zab,Zbd,Za1,Zak,idxV,Zb3,Zbq,extV,Zbz,Zbr,Zbb,mmV,PV.cells,PV.fits,overlay,PV.nth,PV.row,Zbx,Zan,Zbw,Zbh,Zbs,Zbp,Zap,Zbc,Zbg,Zas,Heap.get,Heap.set,Heap.del,Heap.le,HL.get,HL.set,HL.del,HL.le,Heap.push,Heap.nil,Nat.le_refl,Nat.add_eq_left,Nat.left_eq_add,Nat.succ_ne_self,Nat.one_ne_zero,Env.le,Za2,Zbu,Zam,Zbv,Zaj,Zbt,Zaz,Zal,eqOk,ekOk,Zai,Za7,Zba,Zaq,AB.live,pxV,pxOk,fxV,fxOk,Zb1,Zbi,isNil,notNil,List.map,List.set,List.replicate,List.length,List.getD_cons_zero,List.getD_cons_succ,List.getD_nil,List.take,List.drop,List.take_zero,List.drop_zero,List.take_succ_cons,List.drop_succ_cons,List.append,List.cons_append,List.nil_append,Option.map,Nat.reduceEqDiff,Nat.reduceAdd,Nat.reduceLT,Nat.reduceLeDiff,Nat.reduceSub,Nat.reduceMul,reduceIte,Bool.false_eq_true,Bool.true_eq_false,ite_true,ite_false,if_true,if_false,true_and,and_true,implies_true,forall_const,ne_eq,not_false_eq_true,reduceCtorEq,BEq.rfl,beq_self_eq_true,Option.some.injEq,Nat.zero_add,Nat.add_zero,List.length_cons,List.length_nil,true_implies,imp_self,Int.reduceToNat,Int.toNat_natCast,Bool.not_false,Bool.not_true]
      refine Za9 (Zae [2] ?_)
      simp only [midQ,Zaa,Zah,Za8,Zao,Zav,Zbj,Za5,guardOf,Zac,Zau,Zaw,Zaf,Zag,Zax,Zbo,VOp.isIaddr,QW,dok,dval,VOp.pure,VOp.simple,VOp.det,pok,pval,VA.ev,Env.get,Env.put,Env.keep,Za0,Za6,Zay,retQ,resV,Zbl,RS.ev,RS.ok,gd,Zbn,isBool,aggV,intV,binV,Zbk,strV,Zby,Zb2,Zbe,unV,unOk,Zb0,isInt,isStr,numOf,loV,hiV,lenV,Zar,Zbf,Zat,Za4,Za3,Zad,Zbm,Zab,Zbd,Za1,Zak,idxV,Zb3,Zbq,extV,Zbz,Zbr,Zbb,mmV,PV.cells,PV.fits,overlay,PV.nth,PV.row,Zbx,Zan,Zbw,Zbh,Zbs,Zbp,Zap,Zbc,Zbg,Zas,Heap.get,Heap.set,Heap.del,Heap.le,HL.get,HL.set,HL.del,HL.le,Heap.push,Heap.nil,Nat.le_refl,Nat.add_eq_left,Nat.left_eq_add,Nat.succ_ne_self,Nat.one_ne_zero,Env.le,Za2,Zbu,Zam,Zbv,Zaj,Zbt,Zaz,Zal,eqOk,ekOk,Zai,Za7,Zba,Zaq,AB.live,pxV,pxOk,fxV,fxOk,Zb1,Zbi,isNil,notNil,List.map,List.set,List.replicate,List.length,List.getD_cons_zero,List.getD_cons_succ,List.getD_nil,List.take,List.drop,List.take_zero,List.drop_zero,List.take_succ_cons,List.drop_succ_cons,List.append,List.cons_append,List.nil_append,Option.map,Nat.reduceEqDiff,Nat.reduceAdd,Nat.reduceLT,Nat.reduceLeDiff,Nat.reduceSub,Nat.reduceMul,reduceIte,Bool.false_eq_true,Bool.true_eq_false,ite_true,ite_false,if_true,if_false,true_and,and_true,implies_true,forall_const,ne_eq,not_false_eq_true,reduceCtorEq,BEq.rfl,beq_self_eq_true,Option.some.injEq,Nat.zero_add,Nat.add_zero,List.length_cons,List.length_nil,true_implies,imp_self,Int.reduceToNat,Int.toNat_natCast,Bool.not_false,Bool.not_true]
      refine Zca ?_
      try simp only [midQ,Zaa,Zah,Za8,Zao,Zav,Zbj,Za5,guardOf,Zac,Zau,Zaw,Zaf,Zag,Zax,Zbo,VOp.isIaddr,QW,dok,dval,VOp.pure,VOp.simple,VOp.det,pok,pval,VA.ev,Env.get,Env.put,Env.keep,Za0,Za6,Zay,retQ,resV,Zbl,RS.ev,RS.ok,gd,Zbn,isBool,aggV,intV,binV,Zbk,strV,Zby,Zb2,Zbe,unV,unOk,Zb0,isInt,isStr,numOf,loV,hiV,lenV,Zar,Zbf,Zat,Za4,Za3,Zad,Zbm,Zab,Zbd,Za1,Zak,idxV,Zb3,Zbq,extV,Zbz,Zbr,Zbb,mmV,PV.cells,PV.fits,overlay,PV.nth,PV.row,Zbx,Zan,Zbw,Zbh,Zbs,Zbp,Zap,Zbc,Zbg,Zas,Heap.get,Heap.set,Heap.del,Heap.le,HL.get,HL.set,HL.del,HL.le,Heap.push,Heap.nil,Nat.le_refl,Nat.add_eq_left,Nat.left_eq_add,Nat.succ_ne_self,Nat.one_ne_zero,Env.le,Za2,Zbu,Zam,Zbv,Zaj,Zbt,Zaz,Zal,eqOk,ekOk,Zai,Za7,Zba,Zaq,AB.live,pxV,pxOk,fxV,fxOk,Zb1,Zbi,isNil,notNil,List.map,List.set,List.replicate,List.length,List.getD_cons_zero,List.getD_cons_succ,List.getD_nil,List.take,List.drop,List.take_zero,List.drop_zero,List.take_succ_cons,List.drop_succ_cons,List.append,List.cons_append,List.nil_append,Option.map,Nat.reduceEqDiff,Nat.reduceAdd,Nat.reduceLT,Nat.reduceLeDiff,Nat.reduceSub,Nat.reduceMul,reduceIte,Bool.false_eq_true,Bool.true_eq_false,ite_true,ite_false,if_true,if_false,true_and,and_true,implies_true,forall_const,ne_eq,not_false_eq_true,reduceCtorEq,BEq.rfl,beq_self_eq_true,Option.some.injEq,Nat.zero_add,Nat.add_zero,List.length_cons,List.length_nil,true_implies,imp_self,Int.reduceToNat,Int.toNat_natCast,Bool.not_false,Bool.not_true]
      unfold fmtT
      rw [if_neg h0]
      exact View.refl _ _
end Go.Proofs.YthkbdabfjfffjaaGreatDoor.w
namespace Go.Proofs.YthkbdabfjfffjaaGreatDoor.w
open Go Go.VM
set_option maxRecDepth 20000
set_option maxHeartbeats 0
set_option pp.deepTerms false
def stepR (s:Str) (a:Nat):Option (Sp × Nat) :=
  if (numF s a).2 < 0 then none
  else if (numF s a).2.toNat < s.length ∧ s.getD (numF s a).2.toNat 0 = 43 then some (⟨(numF s a).1,1048577⟩,(numF s a).2.toNat + 1)
  else if (numF s a).2.toNat < s.length ∧ s.getD (numF s a).2.toNat 0 = 45 then
    (if (numF s ((numF s a).2.toNat + 1)).2 < 0 then none else some (⟨(numF s a).1,(numF s ((numF s a).2.toNat + 1)).1 + 1⟩,(numF s ((numF s a).2.toNat + 1)).2.toNat))
  else some (⟨(numF s a).1,(numF s a).1 + 1⟩,(numF s a).2.toNat)
def runR:Nat → Str → Nat → Option (List Sp)
  | 0,_,_=>none
  | f + 1,s,a=>match stepR s a with
    | none=>none
    | some (x,k)=>if k = s.length then some [x] else if s.getD k 0 = 44 then (runR f s (k + 1)).map (x :: ·) else none
theorem numF_bd (s:Str) (a:Nat) (ha:a ≤ s.length):0 ≤ (numF s a).1 ∧ (numF s a).1 < 100000000 ∧ ((numF s a).2 = -1 ∨ ((a:Int) < (numF s a).2 ∧ (numF s a).2 ≤ s.length)):=by
  unfold numF
  split
  · exact ⟨by decide,by decide,.inl rfl⟩
  · rename_i h
    have hl:(digF s a).length ≤ min 8 (s.length - a):=by
      unfold digF
      have:=(List.takeWhile_sublist isD (l:=(s.drop a).take 8)).length_le
      rw [List.length_take,List.length_drop] at this
      exact this
    have hpos:1 ≤ (digF s a).length:=by
      cases hd:digF s a with
      | nil=>exact absurd hd h
      | cons c t=>simp
    have hall:∀ x ∈ digF s a,isD x = true:=by
      unfold digF
      intro x hx
      exact List.all_eq_true.1 (List.all_takeWhile (p:=isD)) x hx
    have hv:=val_lt _ (digF s a) hall rfl
    have hp:10 ^ (digF s a).length ≤ 10 ^ 8:=Nat.pow_le_pow_right (by omega) (by omega)
    have p8:(10:Nat) ^ 8 = 100000000:=by decide
    refine ⟨by show (0:Int) ≤ ((val (digF s a):Nat):Int); omega,by show ((val (digF s a):Nat):Int) < 100000000; omega,.inr ⟨by show (a:Int) < (a:Int) + _; omega,by show (a:Int) + ((digF s a).length:Int) ≤ _; omega⟩⟩
theorem stepR_bd {s:Str} {a:Nat} (ha:a ≤ s.length) {x:Sp} {k:Nat} (h:stepR s a = some (x,k)):a < k ∧ k ≤ s.length ∧ 0 ≤ x.frm ∧ x.frm < 100000000 ∧ 0 ≤ x.to ∧ x.to ≤ 100000000:=by
  have b1:=numF_bd s a ha
  unfold stepR at h
  split at h
  · cases h
  · rename_i h1
    have hk:(a:Int) < (numF s a).2 ∧ (numF s a).2 ≤ s.length:=by omega
    split at h
    · rename_i h2
      cases h
      exact ⟨by omega,by omega,b1.1,b1.2.1,by show (0:Int) ≤ 1048577; omega,by show (1048577:Int) ≤ 100000000; omega⟩
    · split at h
      · rename_i h3
        split at h
        · cases h
        · rename_i h4
          have b2:=numF_bd s ((numF s a).2.toNat + 1) (by omega)
          cases h
          refine ⟨by omega,by omega,b1.1,b1.2.1,?_,?_⟩
          · show (0:Int) ≤ (numF s ((numF s a).2.toNat + 1)).1 + 1; omega
          · show (numF s ((numF s a).2.toNat + 1)).1 + 1 ≤ 100000000; omega
      · cases h
        refine ⟨by omega,by omega,b1.1,b1.2.1,?_,?_⟩
        · show (0:Int) ≤ (numF s a).1 + 1; omega
        · show (numF s a).1 + 1 ≤ 100000000; omega
noncomputable def finRF (s:Str):Option (List Sp) → List Sp × Bool
  | none=>([],false)
  | some l=>if Zcy l = true ∧ fmtT (Zci l) = s then (l,true) else ([],false)
noncomputable def parseRF (s:Str):List Sp × Bool:=if s = neverT then ([],true) else finRF s (runR (s.length + 1) s 0)
end Go.Proofs.YthkbdabfjfffjaaGreatDoor.w
namespace Go.Proofs.YthkbdabfjfffjaaGreatDoor.w
open Go Go.VM
def endD (r:Str):Prop:=r = [] ∨ ∃ c t,r = c :: t ∧ isD c = false
theorem dig_pre (pre D r:Str) (hD:∀ x ∈ D,isD x = true) (hl:D.length ≤ 7) (hr:endD r):digF (pre ++ (D ++ r)) pre.length = D:=by
  unfold digF
  rw [List.drop_left,List.take_append,List.take_of_length_le (by omega),List.takeWhile_append_of_pos hD]
  have:(r.take (8 - D.length)).takeWhile isD = []:=by
    rcases hr with rfl | ⟨c,t,rfl,hc⟩
    · simp
    · obtain ⟨k,hk⟩:∃ k,8 - D.length = k + 1:=⟨7 - D.length,by omega⟩
      rw [hk,List.take_succ_cons,List.takeWhile_cons,hc]; rfl
  rw [this,List.append_nil]
theorem num_pre (pre r:Str) {n:Int} (h0:0 ≤ n) (h1:n ≤ 1048577) (hr:endD r):numF (pre ++ (Lib.itoa n ++ r)) pre.length = (n,((pre.length + (Lib.itoa n).length:Nat):Int)):=by
  have hd:∀ x ∈ Lib.itoa n,isD x = true:=by rw [itoa_dec h0]; exact decDigits_all _
  have e:=dig_pre pre (Lib.itoa n) r hd (Zdb h0 h1) hr
  unfold numF
  rw [e,if_neg (itoa_ne h0)]
  have hv:((val (Lib.itoa n):Nat):Int) = n:=by rw [itoa_dec h0,val_decDigits]; omega
  rw [hv]
  push_cast
  rfl
theorem getD_pre (pre D r:Str) (c:UInt8):(pre ++ (D ++ c :: r)).getD (pre.length + D.length) 0 = c:=by
  rw [← List.append_assoc,List.getD_eq_getElem?_getD,List.getElem?_append_right (by simp)]
  simp
theorem step_pre (pre r:Str) {x:Sp} (hx:okSp x) (hr:r = [] ∨ ∃ t,r = 44 :: t):stepR (pre ++ (oneS x ++ r)) pre.length = some (x,pre.length + (oneS x).length):=by
  obtain ⟨h0,h1,h2⟩:=hx
  have hre:endD r:=by
    rcases hr with rfl | ⟨t,rfl⟩
    · exact .inl rfl
    · exact .inr ⟨44,t,rfl,rfl⟩
  obtain ⟨a,b⟩:=x
  simp only [] at h0 h1 h2
  by_cases e1:b - a = 1
  · have hone:oneS ⟨a,b⟩ = Lib.itoa a:=by unfold oneS; rw [if_pos e1]
    rw [hone]
    have hn:=num_pre pre r h0 (by omega) hre
    unfold stepR
    rw [hn]
    simp only [Int.toNat_natCast]
    rw [if_neg (by omega)]
    have hno:∀ c:UInt8,c ≠ 44 → ¬ (pre.length + (Lib.itoa a).length < (pre ++ (Lib.itoa a ++ r)).length ∧ (pre ++ (Lib.itoa a ++ r)).getD (pre.length + (Lib.itoa a).length) 0 = c):=by
      rintro c hc ⟨k1,k2⟩
      rcases hr with rfl | ⟨t,rfl⟩
      · simp at k1
      · rw [getD_pre] at k2; exact hc k2.symm
    rw [if_neg (hno 43 (by decide)),if_neg (hno 45 (by decide)),show a + 1 = b by omega]
  · by_cases e2:b = 1048577
    · have hone:oneS ⟨a,b⟩ = Lib.itoa a ++ [43]:=by unfold oneS; rw [if_neg e1,if_pos e2]
      rw [hone]
      have e3:pre ++ (Lib.itoa a ++ [43] ++ r) = pre ++ (Lib.itoa a ++ 43 :: r):=by simp
      rw [e3]
      have hn:=num_pre pre (43 :: r) h0 (by omega) (.inr ⟨43,r,rfl,rfl⟩)
      unfold stepR
      rw [hn]
      simp only [Int.toNat_natCast]
      rw [if_neg (by omega),if_pos ⟨by simp,getD_pre _ _ _ _⟩]
      subst e2
      simp
      omega
    · have hone:oneS ⟨a,b⟩ = Lib.itoa a ++ [45] ++ Lib.itoa (b - 1):=by unfold oneS; rw [if_neg e1,if_neg e2]
      rw [hone]
      have e3:pre ++ (Lib.itoa a ++ [45] ++ Lib.itoa (b - 1) ++ r) = pre ++ (Lib.itoa a ++ 45 :: (Lib.itoa (b - 1) ++ r)):=by simp
      rw [e3]
      have hn:=num_pre pre (45 :: (Lib.itoa (b - 1) ++ r)) h0 (by omega) (.inr ⟨45,_,rfl,rfl⟩)
      have e4:pre ++ (Lib.itoa a ++ 45 :: (Lib.itoa (b - 1) ++ r)) = (pre ++ Lib.itoa a ++ [45]) ++ (Lib.itoa (b - 1) ++ r):=by simp
      have hn2:=num_pre (pre ++ Lib.itoa a ++ [45]) r (n:=b - 1) (by omega) (by omega) hre
      rw [← e4] at hn2
      have e5:(pre ++ Lib.itoa a ++ [45]).length = pre.length + (Lib.itoa a).length + 1:=by simp; omega
      rw [e5] at hn2
      unfold stepR
      rw [hn]
      simp only [Int.toNat_natCast]
      have n43:¬ (pre.length + (Lib.itoa a).length < (pre ++ (Lib.itoa a ++ 45 :: (Lib.itoa (b - 1) ++ r))).length ∧ (pre ++ (Lib.itoa a ++ 45 :: (Lib.itoa (b - 1) ++ r))).getD (pre.length + (Lib.itoa a).length) 0 = 43):=by
        rintro ⟨_,k2⟩
        rw [getD_pre] at k2; cases k2
      rw [if_neg (by omega),if_neg n43,if_pos ⟨by simp,getD_pre _ _ _ _⟩,hn2]
      simp only [Int.toNat_natCast]
      rw [if_neg (by omega),show b - 1 + 1 = b by omega]
      simp
      omega
theorem run_pre:∀ (l:List Sp) (pre:Str) (f:Nat),l ≠ [] → (∀ x ∈ l,okSp x) → l.length ≤ f → runR f (pre ++ partT l) pre.length = some l
  | [],_,_,h,_,_=>absurd rfl h
  | [x],pre,f,_,hok,hf=>by
    obtain ⟨f,rfl⟩:∃ g,f = g + 1:=⟨f - 1,by simp at hf; omega⟩
    have h:=step_pre pre [] (hok x List.mem_cons_self) (.inl rfl)
    rw [List.append_nil] at h
    have hp:partT [x] = oneS x:=by unfold partT; rw [List.map_cons,List.map_nil,Lib.join_one]
    rw [hp,runR,h]
    simp only
    rw [if_pos (by rw [List.length_append])]
  | x :: y :: r,pre,f,_,hok,hf=>by
    obtain ⟨f,rfl⟩:∃ g,f = g + 1:=⟨f - 1,by simp at hf; omega⟩
    have hp:partT (x :: y :: r) = oneS x ++ 44 :: partT (y :: r):=by unfold partT; rw [List.map_cons,List.map_cons,join_two]; simp
    have h:=step_pre pre (44 :: partT (y :: r)) (hok x List.mem_cons_self) (.inr ⟨_,rfl⟩)
    have ih:=run_pre (y :: r) (pre ++ oneS x ++ [44]) f (by simp) (fun z hz=>hok z (List.mem_cons_of_mem _ hz)) (by simp at hf ⊢; omega)
    have e:(pre ++ oneS x ++ [44]) ++ partT (y :: r) = pre ++ (oneS x ++ 44 :: partT (y :: r)):=by simp
    have e2:(pre ++ oneS x ++ [44]).length = pre.length + (oneS x).length + 1:=by simp; omega
    rw [e,e2] at ih
    rw [hp,runR,h]
    simp only
    rw [if_neg (by simp),if_pos (getD_pre _ _ _ _),ih]
    rfl
theorem len_part:∀ (l:List Sp),(∀ x ∈ l,okSp x) → l.length ≤ (partT l).length
  | [],_=>Nat.zero_le _
  | [x],h=>by
    unfold partT
    rw [List.map_cons,List.map_nil,Lib.join_one]
    have:=itoa_ne (h x List.mem_cons_self).1
    have hne:oneS x ≠ []:=by
      unfold oneS
      split
      · exact this
      · split <;> simp
    cases ho:oneS x with
    | nil=>exact absurd ho hne
    | cons c t=>simp
  | x :: y :: r,h=>by
    have:=len_part (y :: r) fun z hz=>h z (List.mem_cons_of_mem _ hz)
    unfold partT at *
    rw [List.map_cons,List.map_cons,join_two]
    simp at this ⊢
    omega
theorem norm_valid {l:List Sp} (h:Zcy l = true):Zci l = l:=norm_self (validB_canon h).1
theorem parseR_iff {s:Str} {l:List Sp}:parseRF s = (l,true) ↔ Zcy l = true ∧ s = fmtT l:=by
  unfold parseRF
  constructor
  · intro h
    split at h
    · rename_i hs
      cases h
      exact ⟨rfl,by rw [hs]; rfl⟩
    · unfold finRF at h
      split at h
      · cases h
      · split at h
        · rename_i hh
          cases h
          exact ⟨hh.1,by rw [← hh.2,norm_valid hh.1]⟩
        · cases h
  · rintro ⟨hv,rfl⟩
    have hok:=canonF_ok (Int.le_refl _) (validB_canon hv).1
    by_cases h0:l = []
    · subst h0
      exact if_pos rfl
    · have hf:fmtT l = partT l:=by unfold fmtT partT; rw [if_neg h0]
      have hne:fmtT l ≠ neverT:=by rw [hf]; exact never_read hok h0
      rw [if_neg hne]
      have hr:=run_pre l [] ((fmtT l).length + 1) h0 hok (by rw [hf]; have:=len_part l hok; omega)
      rw [List.nil_append,← hf] at hr
      rw [show ([]:Str).length = 0 from rfl] at hr
      rw [hr]
      show (if Zcy l = true ∧ fmtT (Zci l) = fmtT l then (l,true) else ([],false)) = (l,true)
      rw [if_pos ⟨hv,by rw [norm_valid hv]⟩]
end Go.Proofs.YthkbdabfjfffjaaGreatDoor.w
namespace Go.Proofs.YthkbdabfjfffjaaGreatDoor.w
open Go Go.VM
set_option maxRecDepth 20000
set_option maxHeartbeats 0
set_option pp.deepTerms false
theorem sp_dateset_one {x:Sp} (h:okSp x):Zcn Tryz.prog 16 [.agg x.enc] (.str (oneS x)):=by
  obtain ⟨h0,h1,h2⟩:=h
  obtain ⟨a,b⟩:=x
  simp only [] at h0 h1 h2
  have A:=sp_strconv_Itoa a h0 (by omega)
  have la:=Zdb h0 (by omega:a ≤ 1048577)
  refine Zb6 ?_ (cS _) (by simp only [Zce,List.mem_cons,List.not_mem_nil,or_false,forall_eq_or_imp,forall_eq,false_implies,implies_true]; repeat' (first  | exact cS _ | exact closed_agg (Sp.closed _) | refine And.intro ?_ ?_))
  refine Zcc (vc:=Zc4) (ts:=[.t 2]) Go.Proofs.Tryz.func16 (by kernel_rfl) rfl rfl (Nat.le_of_ble_eq_true rfl) (by kernel_rfl) ?_
  unfold Zc4
  try dsimp only [ZM,ZO,ZN,ZG]
  refine Za9 (Zae [1] ?_)
  simp only [Zaa,Zah,Za8,Zao,Zav,Zbj,Za5,guardOf,Zac,Zau,Zaw,Zaf,Zag,Zax,Zbo,VOp.isIaddr,QW,dok,dval,VOp.pure,VOp.simple,VOp.det,pok,pval,VA.ev,Env.get,Env.put,Env.keep,Za0,Za6,Zay,retQ,resV,Zbl,RS.ev,RS.ok,gd,Zbn,isBool,aggV,intV,binV,Zbk,strV,Zby,Zb2,Zbe,unV,unOk,Zb0,isInt,isStr,numOf,loV,hiV,lenV,Zar,Zbf,Zat,Za4,Za3,Zad,Zbm,Zab,Zbd,Za1,Zak,idxV,Zb3,Zbq,extV,Zbz,Zbr,Zbb,mmV,PV.cells,PV.fits,overlay,PV.nth,PV.row,Zbx,Zan,Zbw,Zbh,Zbs,Zbp,Zap,Zbc,Zbg,Zas,Heap.get,Heap.set,Heap.del,Heap.le,HL.get,HL.set,HL.del,HL.le,Heap.push,Heap.nil,Nat.le_refl,Nat.add_eq_left,Nat.left_eq_add,Nat.succ_ne_self,Nat.one_ne_zero,Env.le,Za2,Zbu,Zam,Zbv,Zaj,Zbt,Zaz,Zal,eqOk,ekOk,Zai,Za7,Zba,Zaq,AB.live,pxV,pxOk,fxV,fxOk,Zb1,Zbi,isNil,notNil,List.map,List.set,List.replicate,List.length,List.getD_cons_zero,List.getD_cons_succ,List.getD_nil,List.take,List.drop,List.take_zero,List.drop_zero,List.take_succ_cons,List.drop_succ_cons,List.append,List.cons_append,List.nil_append,Option.map,Nat.reduceEqDiff,Nat.reduceAdd,Nat.reduceLT,Nat.reduceLeDiff,Nat.reduceSub,Nat.reduceMul,reduceIte,Bool.false_eq_true,Bool.true_eq_false,ite_true,ite_false,if_true,if_false,true_and,and_true,implies_true,forall_const,ne_eq,not_false_eq_true,reduceCtorEq,BEq.rfl,beq_self_eq_true,Option.some.injEq,Nat.zero_add,Nat.add_zero,List.length_cons,List.length_nil,true_implies,imp_self,Int.reduceToNat,Int.toNat_natCast,Bool.not_false,Bool.not_true,Sp.enc]
  refine Za9 (Zae [1,3] ?_)
  simp only [Zaa,Zah,Za8,Zao,Zav,Zbj,Za5,guardOf,Zac,Zau,Zaw,Zaf,Zag,Zax,Zbo,VOp.isIaddr,QW,dok,dval,VOp.pure,VOp.simple,VOp.det,pok,pval,VA.ev,Env.get,Env.put,Env.keep,Za0,Za6,Zay,retQ,resV,Zbl,RS.ev,RS.ok,gd,Zbn,isBool,aggV,intV,binV,Zbk,strV,Zby,Zb2,Zbe,unV,unOk,Zb0,isInt,isStr,numOf,loV,hiV,lenV,Zar,Zbf,Zat,Za4,Za3,Zad,Zbm,Zab,Zbd,Za1,Zak,idxV,Zb3,Zbq,extV,Zbz,Zbr,Zbb,mmV,PV.cells,PV.fits,overlay,PV.nth,PV.row,Zbx,Zan,Zbw,Zbh,Zbs,Zbp,Zap,Zbc,Zbg,Zas,Heap.get,Heap.set,Heap.del,Heap.le,HL.get,HL.set,HL.del,HL.le,Heap.push,Heap.nil,Nat.le_refl,Nat.add_eq_left,Nat.left_eq_add,Nat.succ_ne_self,Nat.one_ne_zero,Env.le,Za2,Zbu,Zam,Zbv,Zaj,Zbt,Zaz,Zal,eqOk,ekOk,Zai,Za7,Zba,Zaq,AB.live,pxV,pxOk,fxV,fxOk,Zb1,Zbi,isNil,notNil,List.map,List.set,List.replicate,List.length,List.getD_cons_zero,List.getD_cons_succ,List.getD_nil,List.take,List.drop,List.take_zero,List.drop_zero,List.take_succ_cons,List.drop_succ_cons,List.append,List.cons_append,List.nil_append,Option.map,Nat.reduceEqDiff,Nat.reduceAdd,Nat.reduceLT,Nat.reduceLeDiff,Nat.reduceSub,Nat.reduceMul,reduceIte,Bool.false_eq_true,Bool.true_eq_false,ite_true,ite_false,if_true,if_false,true_and,and_true,implies_true,forall_const,ne_eq,not_false_eq_true,reduceCtorEq,BEq.rfl,beq_self_eq_true,Option.some.injEq,Nat.zero_add,Nat.add_zero,List.length_cons,List.length_nil,true_implies,imp_self,Int.reduceToNat,Int.toNat_natCast,Bool.not_false,Bool.not_true]
  refine Zb7 A ?_
  try simp only [Zaa,Zah,Za8,Zao,Zav,Zbj,Za5,guardOf,Zac,Zau,Zaw,Zaf,Zag,Zax,Zbo,VOp.isIaddr,QW,dok,dval,VOp.pure,VOp.simple,VOp.det,pok,pval,VA.ev,Env.get,Env.put,Env.keep,Za0,Za6,Zay,retQ,resV,Zbl,RS.ev,RS.ok,gd,Zbn,isBool,aggV,intV,binV,Zbk,strV,Zby,Zb2,Zbe,unV,unOk,Zb0,isInt,isStr,numOf,loV,hiV,lenV,Zar,Zbf,Zat,Za4,Za3,Zad,Zbm,Zab,Zbd,Za1,Zak,idxV,Zb3,Zbq,extV,Zbz,Zbr,Zbb,mmV,PV.cells,PV.fits,overlay,PV.nth,PV.row,Zbx,Zan,Zbw,Zbh,Zbs,Zbp,Zap,Zbc,Zbg,Zas,Heap.get,Heap.set,Heap.del,Heap.le,HL.get,HL.set,HL.del,HL.le,Heap.push,Heap.nil,Nat.le_refl,Nat.add_eq_left,Nat.left_eq_add,Nat.succ_ne_self,Nat.one_ne_zero,Env.le,Za2,Zbu,Zam,Zbv,Zaj,Zbt,Zaz,Zal,eqOk,ekOk,Zai,Za7,Zba,Zaq,AB.live,pxV,pxOk,fxV,fxOk,Zb1,Zbi,isNil,notNil,List.map,List.set,List.replicate,List.length,List.getD_cons_zero,List.getD_cons_succ,List.getD_nil,List.take,List.drop,List.take_zero,List.drop_zero,List.take_succ_cons,List.drop_succ_cons,List.append,List.cons_append,List.nil_append,Option.map,Nat.reduceEqDiff,Nat.reduceAdd,Nat.reduceLT,Nat.reduceLeDiff,Nat.reduceSub,Nat.reduceMul,reduceIte,Bool.false_eq_true,Bool.true_eq_false,ite_true,ite_false,if_true,if_false,true_and,and_true,implies_true,forall_const,ne_eq,not_false_eq_true,reduceCtorEq,BEq.rfl,beq_self_eq_true,Option.some.injEq,Nat.zero_add,Nat.add_zero,List.length_cons,List.length_nil,true_implies,imp_self,Int.reduceToNat,Int.toNat_natCast,Bool.not_false,Bool.not_true]
  refine Za9 ?_
  refine Zcb ?_
  refine Za9 (Zae [1,3,7] ?_)
  simp only [Zaa,Zah,Za8,Zao,Zav,Zbj,Za5,guardOf,Zac,Zau,Zaw,Zaf,Zag,Zax,Zbo,VOp.isIaddr,QW,dok,dval,VOp.pure,VOp.simple,VOp.det,pok,pval,VA.ev,Env.get,Env.put,Env.keep,Za0,Za6,Zay,retQ,resV,Zbl,RS.ev,RS.ok,gd,Zbn,isBool,aggV,intV,binV,Zbk,strV,Zby,Zb2,Zbe,unV,unOk,Zb0,isInt,isStr,numOf,loV,hiV,lenV,Zar,Zbf,Zat,Za4,Za3,Zad,Zbm,Zab,Zbd,Za1,Zak,idxV,Zb3,Zbq,extV,Zbz,Zbr,Zbb,mmV,PV.cells,PV.fits,overlay,PV.nth,PV.row,Zbx,Zan,Zbw,Zbh,Zbs,Zbp,Zap,Zbc,Zbg,Zas,Heap.get,Heap.set,Heap.del,Heap.le,HL.get,HL.set,HL.del,HL.le,Heap.push,Heap.nil,Nat.le_refl,Nat.add_eq_left,Nat.left_eq_add,Nat.succ_ne_self,Nat.one_ne_zero,Env.le,Za2,Zbu,Zam,Zbv,Zaj,Zbt,Zaz,Zal,eqOk,ekOk,Zai,Za7,Zba,Zaq,AB.live,pxV,pxOk,fxV,fxOk,Zb1,Zbi,isNil,notNil,List.map,List.set,List.replicate,List.length,List.getD_cons_zero,List.getD_cons_succ,List.getD_nil,List.take,List.drop,List.take_zero,List.drop_zero,List.take_succ_cons,List.drop_succ_cons,List.append,List.cons_append,List.nil_append,Option.map,Nat.reduceEqDiff,Nat.reduceAdd,Nat.reduceLT,Nat.reduceLeDiff,Nat.reduceSub,Nat.reduceMul,reduceIte,Bool.false_eq_true,Bool.true_eq_false,ite_true,ite_false,if_true,if_false,true_and,and_true,implies_true,forall_const,ne_eq,not_false_eq_true,reduceCtorEq,BEq.rfl,beq_self_eq_true,Option.some.injEq,Nat.zero_add,Nat.add_zero,List.length_cons,List.length_nil,true_implies,imp_self,Int.reduceToNat,Int.toNat_natCast,Bool.not_false,Bool.not_true,w64 (n:=b - a) (by omega) (by omega)]
  by_cases e1:b - a = 1
  · have hone:oneS ⟨a,b⟩ = Lib.itoa a:=by unfold oneS; rw [if_pos e1]
    rw [hone]
    refine Zb4 rfl (fun _=>?_) (fun h=>by simp at h; omega)
    refine Za9 (Zae [2] ?_)
    simp only [Zaa,Zah,Za8,Zao,Zav,Zbj,Za5,guardOf,Zac,Zau,Zaw,Zaf,Zag,Zax,Zbo,VOp.isIaddr,QW,dok,dval,VOp.pure,VOp.simple,VOp.det,pok,pval,VA.ev,Env.get,Env.put,Env.keep,Za0,Za6,Zay,retQ,resV,Zbl,RS.ev,RS.ok,gd,Zbn,isBool,aggV,intV,binV,Zbk,strV,Zby,Zb2,Zbe,unV,unOk,Zb0,isInt,isStr,numOf,loV,hiV,lenV,Zar,Zbf,Zat,Za4,Za3,Zad,Zbm,Zab,Zbd,Za1,Zak,idxV,Zb3,Zbq,extV,Zbz,Zbr,Zbb,mmV,PV.cells,PV.fits,overlay,PV.nth,PV.row,Zbx,Zan,Zbw,Zbh,Zbs,Zbp,Zap,Zbc,Zbg,Zas,Heap.get,Heap.set,Heap.del,Heap.le,HL.get,HL.set,HL.del,HL.le,Heap.push,Heap.nil,Nat.le_refl,Nat.add_eq_left,Nat.left_eq_add,Nat.succ_ne_self,Nat.one_ne_zero,Env.le,Za2,Zbu,Zam,Zbv,Zaj,Zbt,Zaz,Zal,eqOk,ekOk,Zai,Za7,Zba,Zaq,AB.live,pxV,pxOk,fxV,fxOk,Zb1,Zbi,isNil,notNil,List.map,List.set,List.replicate,List.length,List.getD_cons_zero,List.getD_cons_succ,List.getD_nil,List.take,List.drop,List.take_zero,List.drop_zero,List.take_succ_cons,List.drop_succ_cons,List.append,List.cons_append,List.nil_append,Option.map,Nat.reduceEqDiff,Nat.reduceAdd,Nat.reduceLT,Nat.reduceLeDiff,Nat.reduceSub,Nat.reduceMul,reduceIte,Bool.false_eq_true,Bool.true_eq_false,ite_true,ite_false,if_true,if_false,true_and,and_true,implies_true,forall_const,ne_eq,not_false_eq_true,reduceCtorEq,BEq.rfl,beq_self_eq_true,Option.some.injEq,Nat.zero_add,Nat.add_zero,List.length_cons,List.length_nil,true_implies,imp_self,Int.reduceToNat,Int.toNat_natCast,Bool.not_false,Bool.not_true]
    refine Zca ?_
    try simp only [Zaa,Zah,Za8,Zao,Zav,Zbj,Za5,guardOf,Zac,Zau,Zaw,Zaf,Zag,Zax,Zbo,VOp.isIaddr,QW,dok,dval,VOp.pure,VOp.simple,VOp.det,pok,pval,VA.ev,Env.get,Env.put,Env.keep,Za0,Za6,Zay,retQ,resV,Zbl,RS.ev,RS.ok,gd,Zbn,isBool,aggV,intV,binV,Zbk,strV,Zby,Zb2,Zbe,unV,unOk,Zb0,isInt,isStr,numOf,loV,hiV,lenV,Zar,Zbf,Zat,Za4,Za3,Zad,Zbm,Zab,Zbd,Za1,Zak,idxV,Zb3,Zbq,extV,Zbz,Zbr,Zbb,mmV,PV.cells,PV.fits,overlay,PV.nth,PV.row,Zbx,Zan,Zbw,Zbh,Zbs,Zbp,Zap,Zbc,Zbg,Zas,Heap.get,Heap.set,Heap.del,Heap.le,HL.get,HL.set,HL.del,HL.le,Heap.push,Heap.nil,Nat.le_refl,Nat.add_eq_left,Nat.left_eq_add,Nat.succ_ne_self,Nat.one_ne_zero,Env.le,Za2,Zbu,Zam,Zbv,Zaj,Zbt,Zaz,Zal,eqOk,ekOk,Zai,Za7,Zba,Zaq,AB.live,pxV,pxOk,fxV,fxOk,Zb1,Zbi,isNil,notNil,List.map,List.set,List.replicate,List.length,List.getD_cons_zero,List.getD_cons_succ,List.getD_nil,List.take,List.drop,List.take_zero,List.drop_zero,List.take_succ_cons,List.drop_succ_cons,List.append,List.cons_append,List.nil_append,Option.map,Nat.reduceEqDiff,Nat.reduceAdd,Nat.reduceLT,Nat.reduceLeDiff,Nat.reduceSub,Nat.reduceMul,reduceIte,Bool.false_eq_true,Bool.true_eq_false,ite_true,ite_false,if_true,if_false,true_and,and_true,implies_true,forall_const,ne_eq,not_false_eq_true,reduceCtorEq,BEq.rfl,beq_self_eq_true,Option.some.injEq,Nat.zero_add,Nat.add_zero,List.length_cons,List.length_nil,true_implies,imp_self,Int.reduceToNat,Int.toNat_natCast,Bool.not_false,Bool.not_true]
    exact View.refl _ _
  refine Zb4 rfl (fun h=>by simp at h; omega) (fun _=>?_)
  refine Za9 (Zae [1,3,15] ?_)
  simp only [Zaa,Zah,Za8,Zao,Zav,Zbj,Za5,guardOf,Zac,Zau,Zaw,Zaf,Zag,Zax,Zbo,VOp.isIaddr,QW,dok,dval,VOp.pure,VOp.simple,VOp.det,pok,pval,VA.ev,Env.get,Env.put,Env.keep,Za0,Za6,Zay,retQ,resV,Zbl,RS.ev,RS.ok,gd,Zbn,isBool,aggV,intV,binV,Zbk,strV,Zby,Zb2,Zbe,unV,unOk,Zb0,isInt,isStr,numOf,loV,hiV,lenV,Zar,Zbf,Zat,Za4,Za3,Zad,Zbm,Zab,Zbd,Za1,Zak,idxV,Zb3,Zbq,extV,Zbz,Zbr,Zbb,mmV,PV.cells,PV.fits,overlay,PV.nth,PV.row,Zbx,Zan,Zbw,Zbh,Zbs,Zbp,Zap,Zbc,Zbg,Zas,Heap.get,Heap.set,Heap.del,Heap.le,HL.get,HL.set,HL.del,HL.le,Heap.push,Heap.nil,Nat.le_refl,Nat.add_eq_left,Nat.left_eq_add,Nat.succ_ne_self,Nat.one_ne_zero,Env.le,Za2,Zbu,Zam,Zbv,Zaj,Zbt,Zaz,Zal,eqOk,ekOk,Zai,Za7,Zba,Zaq,AB.live,pxV,pxOk,fxV,fxOk,Zb1,Zbi,isNil,notNil,List.map,List.set,List.replicate,List.length,List.getD_cons_zero,List.getD_cons_succ,List.getD_nil,List.take,List.drop,List.take_zero,List.drop_zero,List.take_succ_cons,List.drop_succ_cons,List.append,List.cons_append,List.nil_append,Option.map,Nat.reduceEqDiff,Nat.reduceAdd,Nat.reduceLT,Nat.reduceLeDiff,Nat.reduceSub,Nat.reduceMul,reduceIte,Bool.false_eq_true,Bool.true_eq_false,ite_true,ite_false,if_true,if_false,true_and,and_true,implies_true,forall_const,ne_eq,not_false_eq_true,reduceCtorEq,BEq.rfl,beq_self_eq_true,Option.some.injEq,Nat.zero_add,Nat.add_zero,List.length_cons,List.length_nil,true_implies,imp_self,Int.reduceToNat,Int.toNat_natCast,Bool.not_false,Bool.not_true]
  by_cases e2:b = 1048577
  · have hone:oneS ⟨a,b⟩ = Lib.itoa a ++ [43]:=by unfold oneS; rw [if_neg e1,if_pos e2]
    rw [hone]
    refine Zb4 rfl (fun _=>?_) (fun h=>by simp at h; omega)
    refine Za9 (Zae [2] ?_)
    simp only [Zaa,Zah,Za8,Zao,Zav,Zbj,Za5,guardOf,Zac,Zau,Zaw,Zaf,Zag,Zax,Zbo,VOp.isIaddr,QW,dok,dval,VOp.pure,VOp.simple,VOp.det,pok,pval,VA.ev,Env.get,Env.put,Env.keep,Za0,Za6,Zay,retQ,resV,Zbl,RS.ev,RS.ok,gd,Zbn,isBool,aggV,intV,binV,Zbk,strV,Zby,Zb2,Zbe,unV,unOk,Zb0,isInt,isStr,numOf,loV,hiV,lenV,Zar,Zbf,Zat,Za4,Za3,Zad,Zbm,Zab,Zbd,Za1,Zak,idxV,Zb3,Zbq,extV,Zbz,Zbr,Zbb,mmV,PV.cells,PV.fits,overlay,PV.nth,PV.row,Zbx,Zan,Zbw,Zbh,Zbs,Zbp,Zap,Zbc,Zbg,Zas,Heap.get,Heap.set,Heap.del,Heap.le,HL.get,HL.set,HL.del,HL.le,Heap.push,Heap.nil,Nat.le_refl,Nat.add_eq_left,Nat.left_eq_add,Nat.succ_ne_self,Nat.one_ne_zero,Env.le,Za2,Zbu,Zam,Zbv,Zaj,Zbt,Zaz,Zal,eqOk,ekOk,Zai,Za7,Zba,Zaq,AB.live,pxV,pxOk,fxV,fxOk,Zb1,Zbi,isNil,notNil,List.map,List.set,List.replicate,List.length,List.getD_cons_zero,List.getD_cons_succ,List.getD_nil,List.take,List.drop,List.take_zero,List.drop_zero,List.take_succ_cons,List.drop_succ_cons,List.append,List.cons_append,List.nil_append,Option.map,Nat.reduceEqDiff,Nat.reduceAdd,Nat.reduceLT,Nat.reduceLeDiff,Nat.reduceSub,Nat.reduceMul,reduceIte,Bool.false_eq_true,Bool.true_eq_false,ite_true,ite_false,if_true,if_false,true_and,and_true,implies_true,forall_const,ne_eq,not_false_eq_true,reduceCtorEq,BEq.rfl,beq_self_eq_true,Option.some.injEq,Nat.zero_add,Nat.add_zero,List.length_cons,List.length_nil,true_implies,imp_self,Int.reduceToNat,Int.toNat_natCast,Bool.not_false,Bool.not_true]
    refine ⟨by omega,?_⟩
    refine Zca ?_
    try simp only [Zaa,Zah,Za8,Zao,Zav,Zbj,Za5,guardOf,Zac,Zau,Zaw,Zaf,Zag,Zax,Zbo,VOp.isIaddr,QW,dok,dval,VOp.pure,VOp.simple,VOp.det,pok,pval,VA.ev,Env.get,Env.put,Env.keep,Za0,Za6,Zay,retQ,resV,Zbl,RS.ev,RS.ok,gd,Zbn,isBool,aggV,intV,binV,Zbk,strV,Zby,Zb2,Zbe,unV,unOk,Zb0,isInt,isStr,numOf,loV,hiV,lenV,Zar,Zbf,Zat,Za4,Za3,Zad,Zbm,Zab,Zbd,Za1,Zak,idxV,Zb3,Zbq,extV,Zbz,Zbr,Zbb,mmV,PV.cells,PV.fits,overlay,PV.nth,PV.row,Zbx,Zan,Zbw,Zbh,Zbs,Zbp,Zap,Zbc,Zbg,Zas,Heap.get,Heap.set,Heap.del,Heap.le,HL.get,HL.set,HL.del,HL.le,Heap.push,Heap.nil,Nat.le_refl,Nat.add_eq_left,Nat.left_eq_add,Nat.succ_ne_self,Nat.one_ne_zero,Env.le,Za2,Zbu,Zam,Zbv,Zaj,Zbt,Zaz,Zal,eqOk,ekOk,Zai,Za7,Zba,Zaq,AB.live,pxV,pxOk,fxV,fxOk,Zb1,Zbi,isNil,notNil,List.map,List.set,List.replicate,List.length,List.getD_cons_zero,List.getD_cons_succ,List.getD_nil,List.take,List.drop,List.take_zero,List.drop_zero,List.take_succ_cons,List.drop_succ_cons,List.append,List.cons_append,List.nil_append,Option.map,Nat.reduceEqDiff,Nat.reduceAdd,Nat.reduceLT,Nat.reduceLeDiff,Nat.reduceSub,Nat.reduceMul,reduceIte,Bool.false_eq_true,Bool.true_eq_false,ite_true,ite_false,if_true,if_false,true_and,and_true,implies_true,forall_const,ne_eq,not_false_eq_true,reduceCtorEq,BEq.rfl,beq_self_eq_true,Option.some.injEq,Nat.zero_add,Nat.add_zero,List.length_cons,List.length_nil,true_implies,imp_self,Int.reduceToNat,Int.toNat_natCast,Bool.not_false,Bool.not_true]
    exact View.refl _ _
  · have hone:oneS ⟨a,b⟩ = Lib.itoa a ++ [45] ++ Lib.itoa (b - 1):=by unfold oneS; rw [if_neg e1,if_neg e2]
    rw [hone]
    have B:=sp_strconv_Itoa (b - 1) (by omega) (by omega)
    have lb:=Zdb (n:=b - 1) (by omega) (by omega)
    refine Zb4 rfl (fun h=>by simp at h; omega) (fun _=>?_)
    refine Zb8 ?_
    try simp only [Zaa,Zah,Za8,Zao,Zav,Zbj,Za5,guardOf,Zac,Zau,Zaw,Zaf,Zag,Zax,Zbo,VOp.isIaddr,QW,dok,dval,VOp.pure,VOp.simple,VOp.det,pok,pval,VA.ev,Env.get,Env.put,Env.keep,Za0,Za6,Zay,retQ,resV,Zbl,RS.ev,RS.ok,gd,Zbn,isBool,aggV,intV,binV,Zbk,strV,Zby,Zb2,Zbe,unV,unOk,Zb0,isInt,isStr,numOf,loV,hiV,lenV,Zar,Zbf,Zat,Za4,Za3,Zad,Zbm,Zab,Zbd,Za1,Zak,idxV,Zb3,Zbq,extV,Zbz,Zbr,Zbb,mmV,PV.cells,PV.fits,overlay,PV.nth,PV.row,Zbx,Zan,Zbw,Zbh,Zbs,Zbp,Zap,Zbc,Zbg,Zas,Heap.get,Heap.set,Heap.del,Heap.le,HL.get,HL.set,HL.del,HL.le,Heap.push,Heap.nil,Nat.le_refl,Nat.add_eq_left,Nat.left_eq_add,Nat.succ_ne_self,Nat.one_ne_zero,Env.le,Za2,Zbu,Zam,Zbv,Zaj,Zbt,Zaz,Zal,eqOk,ekOk,Zai,Za7,Zba,Zaq,AB.live,pxV,pxOk,fxV,fxOk,Zb1,Zbi,isNil,notNil,List.map,List.set,List.replicate,List.length,List.getD_cons_zero,List.getD_cons_succ,List.getD_nil,List.take,List.drop,List.take_zero,List.drop_zero,List.take_succ_cons,List.drop_succ_cons,List.append,List.cons_append,List.nil_append,Option.map,Nat.reduceEqDiff,Nat.reduceAdd,Nat.reduceLT,Nat.reduceLeDiff,Nat.reduceSub,Nat.reduceMul,reduceIte,Bool.false_eq_true,Bool.true_eq_false,ite_true,ite_false,if_true,if_false,true_and,and_true,implies_true,forall_const,ne_eq,not_false_eq_true,reduceCtorEq,BEq.rfl,beq_self_eq_true,Option.some.injEq,Nat.zero_add,Nat.add_zero,List.length_cons,List.length_nil,true_implies,imp_self,Int.reduceToNat,Int.toNat_natCast,Bool.not_false,Bool.not_true]
    refine Za9 (Zae [2] ?_)
    simp only [Zaa,Zah,Za8,Zao,Zav,Zbj,Za5,guardOf,Zac,Zau,Zaw,Zaf,Zag,Zax,Zbo,VOp.isIaddr,QW,dok,dval,VOp.pure,VOp.simple,VOp.det,pok,pval,VA.ev,Env.get,Env.put,Env.keep,Za0,Za6,Zay,retQ,resV,Zbl,RS.ev,RS.ok,gd,Zbn,isBool,aggV,intV,binV,Zbk,strV,Zby,Zb2,Zbe,unV,unOk,Zb0,isInt,isStr,numOf,loV,hiV,lenV,Zar,Zbf,Zat,Za4,Za3,Zad,Zbm,Zab,Zbd,Za1,Zak,idxV,Zb3,Zbq,extV,Zbz,Zbr,Zbb,mmV,PV.cells,PV.fits,overlay,PV.nth,PV.row,Zbx,Zan,Zbw,Zbh,Zbs,Zbp,Zap,Zbc,Zbg,Zas,Heap.get,Heap.set,Heap.del,Heap.le,HL.get,HL.set,HL.del,HL.le,Heap.push,Heap.nil,Nat.le_refl,Nat.add_eq_left,Nat.left_eq_add,Nat.succ_ne_self,Nat.one_ne_zero,Env.le,Za2,Zbu,Zam,Zbv,Zaj,Zbt,Zaz,Zal,eqOk,ekOk,Zai,Za7,Zba,Zaq,AB.live,pxV,pxOk,fxV,fxOk,Zb1,Zbi,isNil,notNil,List.map,List.set,List.replicate,List.length,List.getD_cons_zero,List.getD_cons_succ,List.getD_nil,List.take,List.drop,List.take_zero,List.drop_zero,List.take_succ_cons,List.drop_succ_cons,List.append,List.cons_append,List.nil_append,Option.map,Nat.reduceEqDiff,Nat.reduceAdd,Nat.reduceLT,Nat.reduceLeDiff,Nat.reduceSub,Nat.reduceMul,reduceIte,Bool.false_eq_true,Bool.true_eq_false,ite_true,ite_false,if_true,if_false,true_and,and_true,implies_true,forall_const,ne_eq,not_false_eq_true,reduceCtorEq,BEq.rfl,beq_self_eq_true,Option.some.injEq,Nat.zero_add,Nat.add_zero,List.length_cons,List.length_nil,true_implies,imp_self,Int.reduceToNat,Int.toNat_natCast,Bool.not_false,Bool.not_true,w64 (n:=b - 1) (by omega) (by omega)]
    refine ⟨by omega,?_⟩
    refine Zb7 B ?_
    try simp only [Zaa,Zah,Za8,Zao,Zav,Zbj,Za5,guardOf,Zac,Zau,Zaw,Zaf,Zag,Zax,Zbo,VOp.isIaddr,QW,dok,dval,VOp.pure,VOp.simple,VOp.det,pok,pval,VA.ev,Env.get,Env.put,Env.keep,Za0,Za6,Zay,retQ,resV,Zbl,RS.ev,RS.ok,gd,Zbn,isBool,aggV,intV,binV,Zbk,strV,Zby,Zb2,Zbe,unV,unOk,Zb0,isInt,isStr,numOf,loV,hiV,lenV,Zar,Zbf,Zat,Za4,Za3,Zad,Zbm,Zab,Zbd,Za1,Zak,idxV,Zb3,Zbq,extV,Zbz,Zbr,Zbb,mmV,PV.cells,PV.fits,overlay,PV.nth,PV.row,Zbx,Zan,Zbw,Zbh,Zbs,Zbp,Zap,Zbc,Zbg,Zas,Heap.get,Heap.set,Heap.del,Heap.le,HL.get,HL.set,HL.del,HL.le,Heap.push,Heap.nil,Nat.le_refl,Nat.add_eq_left,Nat.left_eq_add,Nat.succ_ne_self,Nat.one_ne_zero,Env.le,Za2,Zbu,Zam,Zbv,Zaj,Zbt,Zaz,Zal,eqOk,ekOk,Zai,Za7,Zba,Zaq,AB.live,pxV,pxOk,fxV,fxOk,Zb1,Zbi,isNil,notNil,List.map,List.set,List.replicate,List.length,List.getD_cons_zero,List.getD_cons_succ,List.getD_nil,List.take,List.drop,List.take_zero,List.drop_zero,List.take_succ_cons,List.drop_succ_cons,List.append,List.cons_append,List.nil_append,Option.map,Nat.reduceEqDiff,Nat.reduceAdd,Nat.reduceLT,Nat.reduceLeDiff,Nat.reduceSub,Nat.reduceMul,reduceIte,Bool.false_eq_true,Bool.true_eq_false,ite_true,ite_false,if_true,if_false,true_and,and_true,implies_true,forall_const,ne_eq,not_false_eq_true,reduceCtorEq,BEq.rfl,beq_self_eq_true,Option.some.injEq,Nat.zero_add,Nat.add_zero,List.length_cons,List.length_nil,true_implies,imp_self,Int.reduceToNat,Int.toNat_natCast,Bool.not_false,Bool.not_true,List.length_append]
    refine ⟨by omega,?_⟩
    refine Zca ?_
    try simp only [Zaa,Zah,Za8,Zao,Zav,Zbj,Za5,guardOf,Zac,Zau,Zaw,Zaf,Zag,Zax,Zbo,VOp.isIaddr,QW,dok,dval,VOp.pure,VOp.simple,VOp.det,pok,pval,VA.ev,Env.get,Env.put,Env.keep,Za0,Za6,Zay,retQ,resV,Zbl,RS.ev,RS.ok,gd,Zbn,isBool,aggV,intV,binV,Zbk,strV,Zby,Zb2,Zbe,unV,unOk,Zb0,isInt,isStr,numOf,loV,hiV,lenV,Zar,Zbf,Zat,Za4,Za3,Zad,Zbm,Zab,Zbd,Za1,Zak,idxV,Zb3,Zbq,extV,Zbz,Zbr,Zbb,mmV,PV.cells,PV.fits,overlay,PV.nth,PV.row,Zbx,Zan,Zbw,Zbh,Zbs,Zbp,Zap,Zbc,Zbg,Zas,Heap.get,Heap.set,Heap.del,Heap.le,HL.get,HL.set,HL.del,HL.le,Heap.push,Heap.nil,Nat.le_refl,Nat.add_eq_left,Nat.left_eq_add,Nat.succ_ne_self,Nat.one_ne_zero,Env.le,Za2,Zbu,Zam,Zbv,Zaj,Zbt,Zaz,Zal,eqOk,ekOk,Zai,Za7,Zba,Zaq,AB.live,pxV,pxOk,fxV,fxOk,Zb1,Zbi,isNil,notNil,List.map,List.set,List.replicate,List.length,List.getD_cons_zero,List.getD_cons_succ,List.getD_nil,List.take,List.drop,List.take_zero,List.drop_zero,List.take_succ_cons,List.drop_succ_cons,List.append,List.cons_append,List.nil_append,Option.map,Nat.reduceEqDiff,Nat.reduceAdd,Nat.reduceLT,Nat.reduceLeDiff,Nat.reduceSub,Nat.reduceMul,reduceIte,Bool.false_eq_true,Bool.true_eq_false,ite_true,ite_false,if_true,if_false,true_and,and_true,implies_true,forall_const,ne_eq,not_false_eq_true,reduceCtorEq,BEq.rfl,beq_self_eq_true,Option.some.injEq,Nat.zero_add,Nat.add_zero,List.length_cons,List.length_nil,true_implies,imp_self,Int.reduceToNat,Int.toNat_natCast,Bool.not_false,Bool.not_true]
    exact View.refl _ _
theorem sp_dateset_Format (l:List Sp) (hl:l.length ≤ 10000):Zcn Tryz.prog 6 [.sl 2 (l.map Sp.enc)] (.str (fmtT (Zci l))):=by
  have hok:=canonF_ok (Int.le_refl _) (Zcj l).1
  have hn:=norm_len l
  have hp:=partT_len (c:=Zci l) hok
  unfold partT at hp
  have:=sp_dateset_Format_by l oneS hl (fun s hs=>sp_dateset_one (hok s hs)) (by omega)
  exact this
end Go.Proofs.YthkbdabfjfffjaaGreatDoor.w
