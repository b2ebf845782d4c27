import Derived.Test.YtjmekckcffckoabGreatDoorRdU
import Derived.Test.YtjmekckcffckoabGreatDoorVmT
import Derived.Test.YtjmekckcffckoabGreatDoorK6
import Derived.Test.YtjmekckcffckoabGreatDoorVmAc
import Derived.Test.YtjmekckcffckoabGreatDoorVmS
import Derived.Test.YtjmekckcffckoabGreatDoorR6
import Derived.Test.YtjmekckcffckoabGreatDoorRows
import Derived.Lib.LaidTab
import Derived.LaidSub
import Derived.Lib.ItoaNum
import Derived.Test.YtjmekckcffckoabGreatDoorVmAn
set_option linter.all false
namespace Go.Proofs.YtjmekckcffckoabGreatDoor.w
open Go Go.VM
set_option maxRecDepth 20000
set_option maxHeartbeats 0
set_option pp.deepTerms false
def c_pandectref56_Few:VC:=(.seq (.region [ZO 2 (.mv (.c (.bool false)))] false) (.seq (.region [ZO 3 (.mv (.c (.int .i64 0)))] false) (.seq (.seq (.region [ZO 4 (.mv (.c (.int .i64 0)))] false) (.block 0 (.loop (.seq (.seq (.region [ZM 7 4,ZM 8 0,ZO 9 (.len false (.t 8)),ZO 10 (.bin .lss (.t 7) (.t 9))] false) (.cond (.t 10) .skip (.exit 0))) (.seq (.block 1 (.seq (.draw2 [ZO 13 (.fx (.mk0 1) []),ZM 14 0,ZM 15 4,ZO 16 (.iaddr 4 (.t 14) (.t 15)),ZO 17 (.faddr 2 (.t 16)),ZO 18 (.load false 1 (.t 17)),ZO 19 (.app 1 16 [(.str [])] false (.t 13) (.t 18)),ZM 20 0,ZM 21 4,ZO 22 (.iaddr 4 (.t 20) (.t 21)),ZO 23 (.faddr 3 (.t 22)),ZO 24 (.load false 1 (.t 23)),ZO 25 (.app 1 16 [(.str [])] false (.t 19) (.t 24)),ZM 5 25] [false,false,false,false,false,false,false,false,false,false,false,false,false,false]) (.seq (.seq (.region [ZO 6 (.mv (.c (.int .i64 0)))] false) (.block 2 (.loop (.seq (.seq (.region [ZM 26 6,ZM 27 5,ZO 28 (.len false (.t 27)),ZO 29 (.bin .lss (.t 26) (.t 28))] false) (.cond (.t 29) .skip (.exit 2))) (.seq (.block 3 (.region [ZM 32 3,ZM 33 5,ZM 34 6,ZO 35 (.iaddr 1 (.t 33) (.t 34)),ZO 36 (.load false 1 (.t 35)),ZO 37 (.len true (.t 36)),ZO 38 (.bin .add (.t 32) (.t 37)),ZM 3 38] false)) (.region [ZM 30 6,ZO 31 (.bin .add (.t 30) (.c (.int .i64 1))),ZM 6 31] false)))))) (.seq (.region [ZM 39 5,ZO 40 (.len false (.t 39)),ZO 41 (.bin .gtr (.t 40) (.c (.int .i64 60))),ZM 42 41,ZG 43 (.mv (.t 3)) 42 false,ZG 44 (.bin .gtr (.t 43) (.c (.int .i64 3000))) 42 false,ZO 45 (.pick (.t 42) (.c (.bool true)) (.t 44))] false) (.cond (.t 45) (.seq (.region [ZO 2 (.mv (.c (.bool false)))] false) .ret) .skip))))) (.region [ZM 11 4,ZO 12 (.bin .add (.t 11) (.c (.int .i64 1))),ZM 4 12] false)))))) (.seq (.region [ZM 46 0,ZO 47 (.len false (.t 46)),ZO 48 (.bin .leq (.t 47) (.c (.int .i64 20))),ZM 2 48] false) .ret))))
def sumB (L:List Str):Nat:=(L.map List.length).sum
def bytesL (l:List Pg):Nat:=sumB (l.flatMap Zcs)
theorem sumB_app (a b:List Str):sumB (a ++ b) = sumB a + sumB b:=by simp [sumB]
theorem sumB_step {L:List Str} {k:Nat} (h:k < L.length):sumB (L.take (k + 1)) = sumB (L.take k) + L[k].length:=by
  rw [List.take_add_one,List.getElem?_eq_getElem h,sumB_app]; simp [sumB]
theorem sumB_bound {m:Nat}:∀ L:List Str,(∀ s ∈ L,s.length ≤ m) → sumB L ≤ L.length * m
  | [],_=>by simp [sumB]
  | a :: r,h=>by
    have h1:=sumB_bound r fun s hs=>h s (List.mem_cons_of_mem _ hs)
    have h2:=h a List.mem_cons_self
    have e:sumB (a :: r) = a.length + sumB r:=by simp [sumB]
    rw [e,List.length_cons,Nat.add_mul]; omega
theorem bytesL_step {l:List Pg} {k:Nat} (h:k < l.length):bytesL (l.take (k + 1)) = bytesL (l.take k) + sumB (Zcs l[k]):=by
  unfold bytesL
  rw [List.take_add_one,List.getElem?_eq_getElem h,List.flatMap_append,sumB_app]; simp
structure FewP (l : List Pg) : Prop where
  len : l.length ≤ 20
  lines : ∀ p ∈ l, (Zcs p).length ≤ 60
  bytes : bytesL l ≤ 3000
theorem fields_len (s:Str):(Zb7 s).length ≤ s.length + 1:=by
  have h1:=fldF_count s []
  have h2:(cutF [] s).filter (fun x=>x != []) = Zb7 s:=cut_fields s []
  rw [← h2]
  exact Nat.le_trans (List.length_filter_le _ _) h1
theorem flat_len:∀ L:List Str,(L.flatMap Zb7).length ≤ sumB L + L.length
  | []=>by simp [sumB]
  | a :: r=>by
    have h1:=flat_len r
    have h2:=fields_len a
    have e:sumB (a :: r) = a.length + sumB r:=by simp [sumB]
    rw [List.flatMap_cons,List.length_append,e,List.length_cons]; omega
theorem sumB_mem {L:List Str} {s:Str} (h:s ∈ L):s.length ≤ sumB L:=by
  obtain ⟨a,b,rfl⟩:=List.append_of_mem h
  rw [sumB_app]
  have e:sumB (s :: b) = s.length + sumB b:=by simp [sumB]
  omega
theorem FewP.smal {l:List Pg} (h:FewP l):SmalP l:=by
  have hl:=h.len
  have hb:=h.bytes
  refine ⟨by omega,?_,fun p hp=>Nat.le_trans (h.lines p hp) (by decide),fun p hp s hs=>?_⟩
  · have e:Zcu l = (l.flatMap Zcs).flatMap Zb7:=by unfold Zcu Zct; rw [List.flatMap_assoc]
    have h1:=flat_len (l.flatMap Zcs)
    have h2:(l.flatMap Zcs).length ≤ l.length * 60:=by
      have:∀ r:List Pg,(∀ p ∈ r,(Zcs p).length ≤ 60) → (r.flatMap Zcs).length ≤ r.length * 60:=by
        intro r
        induction r with
        | nil=>intro _; simp
        | cons a r ih =>
          intro hr
          have i1:=ih fun p hp=>hr p (List.mem_cons_of_mem _ hp)
          have i2:=hr a List.mem_cons_self
          rw [List.flatMap_cons,List.length_append,List.length_cons,Nat.add_mul]; omega
      exact this l h.lines
    rw [e]
    unfold bytesL at hb
    omega
  · have:s.length ≤ sumB (l.flatMap Zcs):=sumB_mem (List.mem_flatMap.2 ⟨p,hp,hs⟩)
    unfold bytesL at hb
    omega
theorem few_no {h:Heap} {Z:Prop}:∃ p,View h (.bool false) p ∧ (∃ b,p = .bool b ∧ (b = true → Z)) ∧ Closed p:=⟨_,View.refl _ _,⟨false,rfl,fun h=>Bool.noConfusion h⟩,cB _⟩
theorem sp_ref56_Few (l:List Pg) (hok:rd.okU rd.okPg l):PCallS Tryz.prog 10 [.sl 4 (l.map Pg.enc)] (fun p=>∃ b,p = .bool b ∧ (b = true → FewP l)):=by
  refine PCallS_intro ?_ (by intro y hy; rw [List.mem_singleton] at hy; subst hy; exact closed_pgs _)
  have hll:l.length ≤ 1048576:=hok.1
  refine Zcf (vc:=c_pandectref56_Few) (ts:=[.t 2]) Go.Proofs.Tryz.func10 (by kernel_rfl) rfl rfl (Nat.le_of_ble_eq_true rfl) (by kernel_rfl) ?_
  unfold c_pandectref56_Few
  try dsimp only [ZM,ZO,ZN,ZG]
  refine Zbj (Zah [0] ?_)
  simp only [midQ,Zab,Zax,Zbf,Zau,Zav,Zbg,Zbh,guardOf,Zac,Zar,Zat,Zae,Zaf,Zaw,Zbp,VOp.isIaddr,QW,dok,dval,VOp.pure,VOp.simple,VOp.det,pok,pval,VA.ev,Env.get,Env.put,Env.keep,Za3,Zbi,Zaz,retQ,resV,Zbq,RS.ev,RS.ok,gd,Zbx,isBool,aggV,intV,binV,Zbk,strV,Zby,Zb1,Zbc,unV,unOk,Zb2,isInt,isStr,numOf,loV,hiV,lenV,Zap,Zbd,Zas,Za7,Za5,Zad,Zbl,Zaa,Zba,Za2,Zan,idxV,Zb3,Zbn,extV,Zbz,Zbr,Za8,mmV,PV.cells,PV.fits,overlay,PV.nth,PV.row,Zbw,Zam,Zbv,Za9,Zbo,Zbm,Zal,Za4,Zbb,Zao,Heap.get,Heap.set,Heap.del,Heap.le,HL.get,HL.set,HL.del,HL.le,Heap.push,Heap.nil,Nat.le_refl,Nat.add_eq_left,Nat.left_eq_add,Nat.succ_ne_self,Nat.one_ne_zero,Env.le,Za0,Zbt,Zak,Zbu,Zai,Zbs,Zay,Zaj,eqOk,ekOk,Zag,Za1,Za6,Zaq,AB.live,pxV,pxOk,fxV,fxOk,Zb0,Zbe,isNil,notNil,List.map,List.set,List.replicate,List.length,List.getD_cons_zero,List.getD_cons_succ,List.getD_nil,List.take,List.drop,List.take_zero,List.drop_zero,List.take_succ_cons,List.drop_succ_cons,List.append,List.cons_append,List.nil_append,Option.map,Nat.reduceEqDiff,Nat.reduceAdd,Nat.reduceLT,Nat.reduceLeDiff,Nat.reduceSub,Nat.reduceMul,reduceIte,Bool.false_eq_true,Bool.true_eq_false,ite_true,ite_false,if_true,if_false,true_and,and_true,implies_true,forall_const,ne_eq,not_false_eq_true,reduceCtorEq,BEq.rfl,beq_self_eq_true,Option.some.injEq,Nat.zero_add,Nat.add_zero,List.length_cons,List.length_nil,true_implies,imp_self,Int.reduceToNat,Int.toNat_natCast,Bool.not_false,Bool.not_true]
  refine Zbj (Zah [0,3] ?_)
  simp only [midQ,Zab,Zax,Zbf,Zau,Zav,Zbg,Zbh,guardOf,Zac,Zar,Zat,Zae,Zaf,Zaw,Zbp,VOp.isIaddr,QW,dok,dval,VOp.pure,VOp.simple,VOp.det,pok,pval,VA.ev,Env.get,Env.put,Env.keep,Za3,Zbi,Zaz,retQ,resV,Zbq,RS.ev,RS.ok,gd,Zbx,isBool,aggV,intV,binV,Zbk,strV,Zby,Zb1,Zbc,unV,unOk,Zb2,isInt,isStr,numOf,loV,hiV,lenV,Zap,Zbd,Zas,Za7,Za5,Zad,Zbl,Zaa,Zba,Za2,Zan,idxV,Zb3,Zbn,extV,Zbz,Zbr,Za8,mmV,PV.cells,PV.fits,overlay,PV.nth,PV.row,Zbw,Zam,Zbv,Za9,Zbo,Zbm,Zal,Za4,Zbb,Zao,Heap.get,Heap.set,Heap.del,Heap.le,HL.get,HL.set,HL.del,HL.le,Heap.push,Heap.nil,Nat.le_refl,Nat.add_eq_left,Nat.left_eq_add,Nat.succ_ne_self,Nat.one_ne_zero,Env.le,Za0,Zbt,Zak,Zbu,Zai,Zbs,Zay,Zaj,eqOk,ekOk,Zag,Za1,Za6,Zaq,AB.live,pxV,pxOk,fxV,fxOk,Zb0,Zbe,isNil,notNil,List.map,List.set,List.replicate,List.length,List.getD_cons_zero,List.getD_cons_succ,List.getD_nil,List.take,List.drop,List.take_zero,List.drop_zero,List.take_succ_cons,List.drop_succ_cons,List.append,List.cons_append,List.nil_append,Option.map,Nat.reduceEqDiff,Nat.reduceAdd,Nat.reduceLT,Nat.reduceLeDiff,Nat.reduceSub,Nat.reduceMul,reduceIte,Bool.false_eq_true,Bool.true_eq_false,ite_true,ite_false,if_true,if_false,true_and,and_true,implies_true,forall_const,ne_eq,not_false_eq_true,reduceCtorEq,BEq.rfl,beq_self_eq_true,Option.some.injEq,Nat.zero_add,Nat.add_zero,List.length_cons,List.length_nil,true_implies,imp_self,Int.reduceToNat,Int.toNat_natCast,Bool.not_false,Bool.not_true]
  refine Zbj ?_
  refine Zbj (Zah [0,3,4] ?_)
  simp only [midQ,Zab,Zax,Zbf,Zau,Zav,Zbg,Zbh,guardOf,Zac,Zar,Zat,Zae,Zaf,Zaw,Zbp,VOp.isIaddr,QW,dok,dval,VOp.pure,VOp.simple,VOp.det,pok,pval,VA.ev,Env.get,Env.put,Env.keep,Za3,Zbi,Zaz,retQ,resV,Zbq,RS.ev,RS.ok,gd,Zbx,isBool,aggV,intV,binV,Zbk,strV,Zby,Zb1,Zbc,unV,unOk,Zb2,isInt,isStr,numOf,loV,hiV,lenV,Zap,Zbd,Zas,Za7,Za5,Zad,Zbl,Zaa,Zba,Za2,Zan,idxV,Zb3,Zbn,extV,Zbz,Zbr,Za8,mmV,PV.cells,PV.fits,overlay,PV.nth,PV.row,Zbw,Zam,Zbv,Za9,Zbo,Zbm,Zal,Za4,Zbb,Zao,Heap.get,Heap.set,Heap.del,Heap.le,HL.get,HL.set,HL.del,HL.le,Heap.push,Heap.nil,Nat.le_refl,Nat.add_eq_left,Nat.left_eq_add,Nat.succ_ne_self,Nat.one_ne_zero,Env.le,Za0,Zbt,Zak,Zbu,Zai,Zbs,Zay,Zaj,eqOk,ekOk,Zag,Za1,Za6,Zaq,AB.live,pxV,pxOk,fxV,fxOk,Zb0,Zbe,isNil,notNil,List.map,List.set,List.replicate,List.length,List.getD_cons_zero,List.getD_cons_succ,List.getD_nil,List.take,List.drop,List.take_zero,List.drop_zero,List.take_succ_cons,List.drop_succ_cons,List.append,List.cons_append,List.nil_append,Option.map,Nat.reduceEqDiff,Nat.reduceAdd,Nat.reduceLT,Nat.reduceLeDiff,Nat.reduceSub,Nat.reduceMul,reduceIte,Bool.false_eq_true,Bool.true_eq_false,ite_true,ite_false,if_true,if_false,true_and,and_true,implies_true,forall_const,ne_eq,not_false_eq_true,reduceCtorEq,BEq.rfl,beq_self_eq_true,Option.some.injEq,Nat.zero_add,Nat.add_zero,List.length_cons,List.length_nil,true_implies,imp_self,Int.reduceToNat,Int.toNat_natCast,Bool.not_false,Bool.not_true]
  refine Zb5 ?_
  refine Zcj (σ:={ x:Nat × Nat // x.1 ≤ l.length ∧ (∀ p ∈ l.take x.1,(Zcs p).length ≤ 60) ∧ bytesL (l.take x.1) ≤ 3000 }) (fun x=>([(0,.sl 4 (l.map Pg.enc)),(3,pI (bytesL (l.take x.1.1))),(4,pI x.1.1)],⟨[],x.1.2⟩)) (fun x=>l.length - x.1.1) ⟨(0,0),Nat.zero_le _,by simp,by simp [bytesL,sumB]⟩ ?_ ?_ ?_
  · try simp only [midQ,Zab,Zax,Zbf,Zau,Zav,Zbg,Zbh,guardOf,Zac,Zar,Zat,Zae,Zaf,Zaw,Zbp,VOp.isIaddr,QW,dok,dval,VOp.pure,VOp.simple,VOp.det,pok,pval,VA.ev,Env.get,Env.put,Env.keep,Za3,Zbi,Zaz,retQ,resV,Zbq,RS.ev,RS.ok,gd,Zbx,isBool,aggV,intV,binV,Zbk,strV,Zby,Zb1,Zbc,unV,unOk,Zb2,isInt,isStr,numOf,loV,hiV,lenV,Zap,Zbd,Zas,Za7,Za5,Zad,Zbl,Zaa,Zba,Za2,Zan,idxV,Zb3,Zbn,extV,Zbz,Zbr,Za8,mmV,PV.cells,PV.fits,overlay,PV.nth,PV.row,Zbw,Zam,Zbv,Za9,Zbo,Zbm,Zal,Za4,Zbb,Zao,Heap.get,Heap.set,Heap.del,Heap.le,HL.get,HL.set,HL.del,HL.le,Heap.push,Heap.nil,Nat.le_refl,Nat.add_eq_left,Nat.left_eq_add,Nat.succ_ne_self,Nat.one_ne_zero,Env.le,Za0,Zbt,Zak,Zbu,Zai,Zbs,Zay,Zaj,eqOk,ekOk,Zag,Za1,Za6,Zaq,AB.live,pxV,pxOk,fxV,fxOk,Zb0,Zbe,isNil,notNil,List.map,List.set,List.replicate,List.length,List.getD_cons_zero,List.getD_cons_succ,List.getD_nil,List.take,List.drop,List.take_zero,List.drop_zero,List.take_succ_cons,List.drop_succ_cons,List.append,List.cons_append,List.nil_append,Option.map,Nat.reduceEqDiff,Nat.reduceAdd,Nat.reduceLT,Nat.reduceLeDiff,Nat.reduceSub,Nat.reduceMul,reduceIte,Bool.false_eq_true,Bool.true_eq_false,ite_true,ite_false,if_true,if_false,true_and,and_true,implies_true,forall_const,ne_eq,not_false_eq_true,reduceCtorEq,BEq.rfl,beq_self_eq_true,Option.some.injEq,Nat.zero_add,Nat.add_zero,List.length_cons,List.length_nil,true_implies,imp_self,Int.reduceToNat,Int.toNat_natCast,Bool.not_false,Bool.not_true,true_and,bytesL,sumB,List.take_zero,List.flatMap_nil,List.map_nil,List.sum_nil]
    all_goals (repeat' (first | rfl | trivial | omega | (simp only []; omega) | refine And.intro ?_ ?_))
  · simp only [midQ,Zab,Zax,Zbf,Zau,Zav,Zbg,Zbh,guardOf,Zac,Zar,Zat,Zae,Zaf,Zaw,Zbp,VOp.isIaddr,QW,dok,dval,VOp.pure,VOp.simple,VOp.det,pok,pval,VA.ev,Env.get,Env.put,Env.keep,Za3,Zbi,Zaz,retQ,resV,Zbq,RS.ev,RS.ok,gd,Zbx,isBool,aggV,intV,binV,Zbk,strV,Zby,Zb1,Zbc,unV,unOk,Zb2,isInt,isStr,numOf,loV,hiV,lenV,Zap,Zbd,Zas,Za7,Za5,Zad,Zbl,Zaa,Zba,Za2,Zan,idxV,Zb3,Zbn,extV,Zbz,Zbr,Za8,mmV,PV.cells,PV.fits,overlay,PV.nth,PV.row,Zbw,Zam,Zbv,Za9,Zbo,Zbm,Zal,Za4,Zbb,Zao,Heap.get,Heap.set,Heap.del,Heap.le,HL.get,HL.set,HL.del,HL.le,Heap.push,Heap.nil,Nat.le_refl,Nat.add_eq_left,Nat.left_eq_add,Nat.succ_ne_self,Nat.one_ne_zero,Env.le,Za0,Zbt,Zak,Zbu,Zai,Zbs,Zay,Zaj,eqOk,ekOk,Zag,Za1,Za6,Zaq,AB.live,pxV,pxOk,fxV,fxOk,Zb0,Zbe,isNil,notNil,List.map,List.set,List.replicate,List.length,List.getD_cons_zero,List.getD_cons_succ,List.getD_nil,List.take,List.drop,List.take_zero,List.drop_zero,List.take_succ_cons,List.drop_succ_cons,List.append,List.cons_append,List.nil_append,Option.map,Nat.reduceEqDiff,Nat.reduceAdd,Nat.reduceLT,Nat.reduceLeDiff,Nat.reduceSub,Nat.reduceMul,reduceIte,Bool.false_eq_true,Bool.true_eq_false,ite_true,ite_false,if_true,if_false,true_and,and_true,implies_true,forall_const,ne_eq,not_false_eq_true,reduceCtorEq,BEq.rfl,beq_self_eq_true,Option.some.injEq,Nat.zero_add,Nat.add_zero,List.length_cons,List.length_nil,true_implies,imp_self,Int.reduceToNat,Int.toNat_natCast,Bool.not_false,Bool.not_true,bytesL,sumB,List.take_zero,List.flatMap_nil,List.map_nil,List.sum_nil]
    try rfl
  rintro ⟨⟨k,t⟩,hk,hp60,hb3⟩
  simp only [] at hk hp60 hb3 ⊢
  refine Zbj ?_
  refine Zbj (Zah [0,3,4,10] ?_)
  simp only [midQ,Zab,Zax,Zbf,Zau,Zav,Zbg,Zbh,guardOf,Zac,Zar,Zat,Zae,Zaf,Zaw,Zbp,VOp.isIaddr,QW,dok,dval,VOp.pure,VOp.simple,VOp.det,pok,pval,VA.ev,Env.get,Env.put,Env.keep,Za3,Zbi,Zaz,retQ,resV,Zbq,RS.ev,RS.ok,gd,Zbx,isBool,aggV,intV,binV,Zbk,strV,Zby,Zb1,Zbc,unV,unOk,Zb2,isInt,isStr,numOf,loV,hiV,lenV,Zap,Zbd,Zas,Za7,Za5,Zad,Zbl,Zaa,Zba,Za2,Zan,idxV,Zb3,Zbn,extV,Zbz,Zbr,Za8,mmV,PV.cells,PV.fits,overlay,PV.nth,PV.row,Zbw,Zam,Zbv,Za9,Zbo,Zbm,Zal,Za4,Zbb,Zao,Heap.get,Heap.set,Heap.del,Heap.le,HL.get,HL.set,HL.del,HL.le,Heap.push,Heap.nil,Nat.le_refl,Nat.add_eq_left,Nat.left_eq_add,Nat.succ_ne_self,Nat.one_ne_zero,Env.le,Za0,Zbt,Zak,Zbu,Zai,Zbs,Zay,Zaj,eqOk,ekOk,Zag,Za1,Za6,Zaq,AB.live,pxV,pxOk,fxV,fxOk,Zb0,Zbe,isNil,notNil,List.map,List.set,List.replicate,List.length,List.getD_cons_zero,List.getD_cons_succ,List.getD_nil,List.take,List.drop,List.take_zero,List.drop_zero,List.take_succ_cons,List.drop_succ_cons,List.append,List.cons_append,List.nil_append,Option.map,Nat.reduceEqDiff,Nat.reduceAdd,Nat.reduceLT,Nat.reduceLeDiff,Nat.reduceSub,Nat.reduceMul,reduceIte,Bool.false_eq_true,Bool.true_eq_false,ite_true,ite_false,if_true,if_false,true_and,and_true,implies_true,forall_const,ne_eq,not_false_eq_true,reduceCtorEq,BEq.rfl,beq_self_eq_true,Option.some.injEq,Nat.zero_add,Nat.add_zero,List.length_cons,List.length_nil,true_implies,imp_self,Int.reduceToNat,Int.toNat_natCast,Bool.not_false,Bool.not_true,List.length_map]
  refine Zb6 rfl (fun h1=>?_) (fun h1=>?_)
  · simp only [decide_eq_true_eq] at h1
    have ka:k < l.length:=by omega
    have hst:=bytesL_step ka
    have hrow:(l.map Pg.enc).getD k [] = [pI l[k].number,.str l[k].head,.sl 1 (strR l[k].lines),.sl 1 (strR l[k].notes)]:=rowm ka
    obtain ⟨_,_,⟨o1,o2⟩,⟨o3,o4⟩⟩:=hok.2 _ (List.getElem_mem ka)
    have hnext:(Zcs l[k]).length ≤ 60 → ∀ p ∈ l.take (k + 1),(Zcs p).length ≤ 60:=by
      intro h p hp
      rw [List.take_add_one,List.getElem?_eq_getElem ka] at hp
      rcases List.mem_append.1 hp with h' | h'
      · exact hp60 p h'
      · simp only [Option.toList_some,List.mem_singleton] at h'; rw [h']; exact h
    have hbk:bulkB = 1048576:=rfl
    have hlp:Zcs l[k] = l[k].lines ++ l[k].notes:=rfl
    generalize l[k] = p at hst hrow o1 o2 o3 o4 hnext hlp
    generalize hA:Zcs p = A at hst hnext hlp
    have hAs:∀ s ∈ A,s.length ≤ 1048576:=fun s hs=>by
      rw [hlp] at hs
      rcases List.mem_append.1 hs with h | h
      · exact o2 s h
      · exact o4 s h
    have hAl:A.length = p.lines.length + p.notes.length:=by rw [hlp,List.length_append]
    have hsA:=sumB_bound A hAs
    have hAb:A.length * 1048576 ≤ 2097152 * 1048576:=Nat.mul_le_mul_right _ (by omega)
    generalize hB0:bytesL (l.take k) = B0 at hb3 hst ⊢
    have l1:=Zcc p.lines
    have l2:=Zcc p.notes
    have t1:=Zcz p.lines
    refine Zb8 ?_
    try simp only [midQ,Zab,Zax,Zbf,Zau,Zav,Zbg,Zbh,guardOf,Zac,Zar,Zat,Zae,Zaf,Zaw,Zbp,VOp.isIaddr,QW,dok,dval,VOp.pure,VOp.simple,VOp.det,pok,pval,VA.ev,Env.get,Env.put,Env.keep,Za3,Zbi,Zaz,retQ,resV,Zbq,RS.ev,RS.ok,gd,Zbx,isBool,aggV,intV,binV,Zbk,strV,Zby,Zb1,Zbc,unV,unOk,Zb2,isInt,isStr,numOf,loV,hiV,lenV,Zap,Zbd,Zas,Za7,Za5,Zad,Zbl,Zaa,Zba,Za2,Zan,idxV,Zb3,Zbn,extV,Zbz,Zbr,Za8,mmV,PV.cells,PV.fits,overlay,PV.nth,PV.row,Zbw,Zam,Zbv,Za9,Zbo,Zbm,Zal,Za4,Zbb,Zao,Heap.get,Heap.set,Heap.del,Heap.le,HL.get,HL.set,HL.del,HL.le,Heap.push,Heap.nil,Nat.le_refl,Nat.add_eq_left,Nat.left_eq_add,Nat.succ_ne_self,Nat.one_ne_zero,Env.le,Za0,Zbt,Zak,Zbu,Zai,Zbs,Zay,Zaj,eqOk,ekOk,Zag,Za1,Za6,Zaq,AB.live,pxV,pxOk,fxV,fxOk,Zb0,Zbe,isNil,notNil,List.map,List.set,List.replicate,List.length,List.getD_cons_zero,List.getD_cons_succ,List.getD_nil,List.take,List.drop,List.take_zero,List.drop_zero,List.take_succ_cons,List.drop_succ_cons,List.append,List.cons_append,List.nil_append,Option.map,Nat.reduceEqDiff,Nat.reduceAdd,Nat.reduceLT,Nat.reduceLeDiff,Nat.reduceSub,Nat.reduceMul,reduceIte,Bool.false_eq_true,Bool.true_eq_false,ite_true,ite_false,if_true,if_false,true_and,and_true,implies_true,forall_const,ne_eq,not_false_eq_true,reduceCtorEq,BEq.rfl,beq_self_eq_true,Option.some.injEq,Nat.zero_add,Nat.add_zero,List.length_cons,List.length_nil,true_implies,imp_self,Int.reduceToNat,Int.toNat_natCast,Bool.not_false,Bool.not_true]
    refine Zbj ?_
    refine Zb5 ?_
    refine Zbj (VW_draw2Q [0,3,4,5] ⟨[],t + 20⟩ (by simp [Heap.le,Heap.get,HL.le,HL.get]) ?_)
    simp only [midQ,Zab,Zax,Zbf,Zau,Zav,Zbg,Zbh,guardOf,Zac,Zar,Zat,Zae,Zaf,Zaw,Zbp,VOp.isIaddr,QW,dok,dval,VOp.pure,VOp.simple,VOp.det,pok,pval,VA.ev,Env.get,Env.put,Env.keep,Za3,Zbi,Zaz,retQ,resV,Zbq,RS.ev,RS.ok,gd,Zbx,isBool,aggV,intV,binV,Zbk,strV,Zby,Zb1,Zbc,unV,unOk,Zb2,isInt,isStr,numOf,loV,hiV,lenV,Zap,Zbd,Zas,Za7,Za5,Zad,Zbl,Zaa,Zba,Za2,Zan,idxV,Zb3,Zbn,extV,Zbz,Zbr,Za8,mmV,PV.cells,PV.fits,overlay,PV.nth,PV.row,Zbw,Zam,Zbv,Za9,Zbo,Zbm,Zal,Za4,Zbb,Zao,Heap.get,Heap.set,Heap.del,Heap.le,HL.get,HL.set,HL.del,HL.le,Heap.push,Heap.nil,Nat.le_refl,Nat.add_eq_left,Nat.left_eq_add,Nat.succ_ne_self,Nat.one_ne_zero,Env.le,Za0,Zbt,Zak,Zbu,Zai,Zbs,Zay,Zaj,eqOk,ekOk,Zag,Za1,Za6,Zaq,AB.live,pxV,pxOk,fxV,fxOk,Zb0,Zbe,isNil,notNil,List.map,List.set,List.replicate,List.length,List.getD_cons_zero,List.getD_cons_succ,List.getD_nil,List.take,List.drop,List.take_zero,List.drop_zero,List.take_succ_cons,List.drop_succ_cons,List.append,List.cons_append,List.nil_append,Option.map,Nat.reduceEqDiff,Nat.reduceAdd,Nat.reduceLT,Nat.reduceLeDiff,Nat.reduceSub,Nat.reduceMul,reduceIte,Bool.false_eq_true,Bool.true_eq_false,ite_true,ite_false,if_true,if_false,true_and,and_true,implies_true,forall_const,ne_eq,not_false_eq_true,reduceCtorEq,BEq.rfl,beq_self_eq_true,Option.some.injEq,Nat.zero_add,Nat.add_zero,List.length_cons,List.length_nil,true_implies,imp_self,Int.reduceToNat,Int.toNat_natCast,Bool.not_false,Bool.not_true,List.length_map,hrow,l1,l2,t1]
    refine ⟨by omega,by omega,by omega,by omega,by omega,by omega,by omega,by omega,by omega,?_⟩
    have hcat:strR p.lines ++ strR p.notes = strR A:=by rw [hlp,strR_app]
    have lA:=Zcc A
    rw [hcat]
    rw [← hAl]
    generalize strR p.lines = ZL at *
    generalize strR p.notes = ZN at *
    refine VW_freeze [(0,.sl 4 (l.map Pg.enc)),(3,pI B0),(4,pI k),(5,.sl 1 (strR A))] ⟨View.refl _ _,View.refl _ _,View.refl _ _,View.own_all (fz:=false) (by simp [Heap.get,HL.get]) (by rw [lA]),trivial⟩ ?_
    refine Zbj ?_
    obtain ⟨f,hf⟩:∃ f:Nat → Nat,∀ j,f j = B0 + sumB (A.take j):=⟨_,fun _=>rfl⟩
    have hf0:f 0 = B0:=by rw [hf]; simp [sumB]
    have hfe:f A.length = B0 + sumB A:=by rw [hf,List.take_length]
    refine Zbj (Zah [0,3,4,5,6] ?_)
    simp only [midQ,Zab,Zax,Zbf,Zau,Zav,Zbg,Zbh,guardOf,Zac,Zar,Zat,Zae,Zaf,Zaw,Zbp,VOp.isIaddr,QW,dok,dval,VOp.pure,VOp.simple,VOp.det,pok,pval,VA.ev,Env.get,Env.put,Env.keep,Za3,Zbi,Zaz,retQ,resV,Zbq,RS.ev,RS.ok,gd,Zbx,isBool,aggV,intV,binV,Zbk,strV,Zby,Zb1,Zbc,unV,unOk,Zb2,isInt,isStr,numOf,loV,hiV,lenV,Zap,Zbd,Zas,Za7,Za5,Zad,Zbl,Zaa,Zba,Za2,Zan,idxV,Zb3,Zbn,extV,Zbz,Zbr,Za8,mmV,PV.cells,PV.fits,overlay,PV.nth,PV.row,Zbw,Zam,Zbv,Za9,Zbo,Zbm,Zal,Za4,Zbb,Zao,Heap.get,Heap.set,Heap.del,Heap.le,HL.get,HL.set,HL.del,HL.le,Heap.push,Heap.nil,Nat.le_refl,Nat.add_eq_left,Nat.left_eq_add,Nat.succ_ne_self,Nat.one_ne_zero,Env.le,Za0,Zbt,Zak,Zbu,Zai,Zbs,Zay,Zaj,eqOk,ekOk,Zag,Za1,Za6,Zaq,AB.live,pxV,pxOk,fxV,fxOk,Zb0,Zbe,isNil,notNil,List.map,List.set,List.replicate,List.length,List.getD_cons_zero,List.getD_cons_succ,List.getD_nil,List.take,List.drop,List.take_zero,List.drop_zero,List.take_succ_cons,List.drop_succ_cons,List.append,List.cons_append,List.nil_append,Option.map,Nat.reduceEqDiff,Nat.reduceAdd,Nat.reduceLT,Nat.reduceLeDiff,Nat.reduceSub,Nat.reduceMul,reduceIte,Bool.false_eq_true,Bool.true_eq_false,ite_true,ite_false,if_true,if_false,true_and,and_true,implies_true,forall_const,ne_eq,not_false_eq_true,reduceCtorEq,BEq.rfl,beq_self_eq_true,Option.some.injEq,Nat.zero_add,Nat.add_zero,List.length_cons,List.length_nil,true_implies,imp_self,Int.reduceToNat,Int.toNat_natCast,Bool.not_false,Bool.not_true]
    refine Zb5 ?_
    refine Zcj (σ:={ x:Nat × Nat // x.1 ≤ A.length }) (fun x=>([(0,.sl 4 (l.map Pg.enc)),(3,pI (f x.1.1)),(4,pI k),(5,.sl 1 (strR A)),(6,pI x.1.1)],⟨[],x.1.2⟩)) (fun x=>A.length - x.1.1) ⟨(0,t + 3),Nat.zero_le _⟩ ?_ ?_ ?_
    · simp only [hf0]
      try simp only [midQ,Zab,Zax,Zbf,Zau,Zav,Zbg,Zbh,guardOf,Zac,Zar,Zat,Zae,Zaf,Zaw,Zbp,VOp.isIaddr,QW,dok,dval,VOp.pure,VOp.simple,VOp.det,pok,pval,VA.ev,Env.get,Env.put,Env.keep,Za3,Zbi,Zaz,retQ,resV,Zbq,RS.ev,RS.ok,gd,Zbx,isBool,aggV,intV,binV,Zbk,strV,Zby,Zb1,Zbc,unV,unOk,Zb2,isInt,isStr,numOf,loV,hiV,lenV,Zap,Zbd,Zas,Za7,Za5,Zad,Zbl,Zaa,Zba,Za2,Zan,idxV,Zb3,Zbn,extV,Zbz,Zbr,Za8,mmV,PV.cells,PV.fits,overlay,PV.nth,PV.row,Zbw,Zam,Zbv,Za9,Zbo,Zbm,Zal,Za4,Zbb,Zao,Heap.get,Heap.set,Heap.del,Heap.le,HL.get,HL.set,HL.del,HL.le,Heap.push,Heap.nil,Nat.le_refl,Nat.add_eq_left,Nat.left_eq_add,Nat.succ_ne_self,Nat.one_ne_zero,Env.le,Za0,Zbt,Zak,Zbu,Zai,Zbs,Zay,Zaj,eqOk,ekOk,Zag,Za1,Za6,Zaq,AB.live,pxV,pxOk,fxV,fxOk,Zb0,Zbe,isNil,notNil,List.map,List.set,List.replicate,List.length,List.getD_cons_zero,List.getD_cons_succ,List.getD_nil,List.take,List.drop,List.take_zero,List.drop_zero,List.take_succ_cons,List.drop_succ_cons,List.append,List.cons_append,List.nil_append,Option.map,Nat.reduceEqDiff,Nat.reduceAdd,Nat.reduceLT,Nat.reduceLeDiff,Nat.reduceSub,Nat.reduceMul,reduceIte,Bool.false_eq_true,Bool.true_eq_false,ite_true,ite_false,if_true,if_false,true_and,and_true,implies_true,forall_const,ne_eq,not_false_eq_true,reduceCtorEq,BEq.rfl,beq_self_eq_true,Option.some.injEq,Nat.zero_add,Nat.add_zero,List.length_cons,List.length_nil,true_implies,imp_self,Int.reduceToNat,Int.toNat_natCast,Bool.not_false,Bool.not_true,true_and]
      all_goals (repeat' (first | rfl | trivial | omega | (simp only []; omega) | refine And.intro ?_ ?_))
    · simp only [midQ,Zab,Zax,Zbf,Zau,Zav,Zbg,Zbh,guardOf,Zac,Zar,Zat,Zae,Zaf,Zaw,Zbp,VOp.isIaddr,QW,dok,dval,VOp.pure,VOp.simple,VOp.det,pok,pval,VA.ev,Env.get,Env.put,Env.keep,Za3,Zbi,Zaz,retQ,resV,Zbq,RS.ev,RS.ok,gd,Zbx,isBool,aggV,intV,binV,Zbk,strV,Zby,Zb1,Zbc,unV,unOk,Zb2,isInt,isStr,numOf,loV,hiV,lenV,Zap,Zbd,Zas,Za7,Za5,Zad,Zbl,Zaa,Zba,Za2,Zan,idxV,Zb3,Zbn,extV,Zbz,Zbr,Za8,mmV,PV.cells,PV.fits,overlay,PV.nth,PV.row,Zbw,Zam,Zbv,Za9,Zbo,Zbm,Zal,Za4,Zbb,Zao,Heap.get,Heap.set,Heap.del,Heap.le,HL.get,HL.set,HL.del,HL.le,Heap.push,Heap.nil,Nat.le_refl,Nat.add_eq_left,Nat.left_eq_add,Nat.succ_ne_self,Nat.one_ne_zero,Env.le,Za0,Zbt,Zak,Zbu,Zai,Zbs,Zay,Zaj,eqOk,ekOk,Zag,Za1,Za6,Zaq,AB.live,pxV,pxOk,fxV,fxOk,Zb0,Zbe,isNil,notNil,List.map,List.set,List.replicate,List.length,List.getD_cons_zero,List.getD_cons_succ,List.getD_nil,List.take,List.drop,List.take_zero,List.drop_zero,List.take_succ_cons,List.drop_succ_cons,List.append,List.cons_append,List.nil_append,Option.map,Nat.reduceEqDiff,Nat.reduceAdd,Nat.reduceLT,Nat.reduceLeDiff,Nat.reduceSub,Nat.reduceMul,reduceIte,Bool.false_eq_true,Bool.true_eq_false,ite_true,ite_false,if_true,if_false,true_and,and_true,implies_true,forall_const,ne_eq,not_false_eq_true,reduceCtorEq,BEq.rfl,beq_self_eq_true,Option.some.injEq,Nat.zero_add,Nat.add_zero,List.length_cons,List.length_nil,true_implies,imp_self,Int.reduceToNat,Int.toNat_natCast,Bool.not_false,Bool.not_true,hf0]
      try omega
    rintro ⟨⟨j,t2⟩,hj⟩
    simp only [] at hj ⊢
    refine Zbj ?_
    refine Zbj (Zah [0,3,4,5,6,29] ?_)
    simp only [midQ,Zab,Zax,Zbf,Zau,Zav,Zbg,Zbh,guardOf,Zac,Zar,Zat,Zae,Zaf,Zaw,Zbp,VOp.isIaddr,QW,dok,dval,VOp.pure,VOp.simple,VOp.det,pok,pval,VA.ev,Env.get,Env.put,Env.keep,Za3,Zbi,Zaz,retQ,resV,Zbq,RS.ev,RS.ok,gd,Zbx,isBool,aggV,intV,binV,Zbk,strV,Zby,Zb1,Zbc,unV,unOk,Zb2,isInt,isStr,numOf,loV,hiV,lenV,Zap,Zbd,Zas,Za7,Za5,Zad,Zbl,Zaa,Zba,Za2,Zan,idxV,Zb3,Zbn,extV,Zbz,Zbr,Za8,mmV,PV.cells,PV.fits,overlay,PV.nth,PV.row,Zbw,Zam,Zbv,Za9,Zbo,Zbm,Zal,Za4,Zbb,Zao,Heap.get,Heap.set,Heap.del,Heap.le,HL.get,HL.set,HL.del,HL.le,Heap.push,Heap.nil,Nat.le_refl,Nat.add_eq_left,Nat.left_eq_add,Nat.succ_ne_self,Nat.one_ne_zero,Env.le,Za0,Zbt,Zak,Zbu,Zai,Zbs,Zay,Zaj,eqOk,ekOk,Zag,Za1,Za6,Zaq,AB.live,pxV,pxOk,fxV,fxOk,Zb0,Zbe,isNil,notNil,List.map,List.set,List.replicate,List.length,List.getD_cons_zero,List.getD_cons_succ,List.getD_nil,List.take,List.drop,List.take_zero,List.drop_zero,List.take_succ_cons,List.drop_succ_cons,List.append,List.cons_append,List.nil_append,Option.map,Nat.reduceEqDiff,Nat.reduceAdd,Nat.reduceLT,Nat.reduceLeDiff,Nat.reduceSub,Nat.reduceMul,reduceIte,Bool.false_eq_true,Bool.true_eq_false,ite_true,ite_false,if_true,if_false,true_and,and_true,implies_true,forall_const,ne_eq,not_false_eq_true,reduceCtorEq,BEq.rfl,beq_self_eq_true,Option.some.injEq,Nat.zero_add,Nat.add_zero,List.length_cons,List.length_nil,true_implies,imp_self,Int.reduceToNat,Int.toNat_natCast,Bool.not_false,Bool.not_true,lA]
    refine Zb6 rfl (fun h2=>?_) (fun h2=>?_)
    · simp only [decide_eq_true_eq] at h2
      have ja:j < A.length:=by omega
      have hrw:(strR A).getD j [] = [PV.str A[j]]:=rowm ja
      have hsj:=sumB_step ja
      have hsb:sumB (A.take (j + 1)) ≤ sumB A:=by
        have e:sumB A = sumB (A.take (j + 1)) + sumB (A.drop (j + 1)):=by rw [← sumB_app,List.take_append_drop]
        omega
      have hfj:=hf j
      have hfs:f (j + 1) = f j + A[j].length:=by rw [hf,hf,hsj]; omega
      have hfb:f (j + 1) ≤ 3000 + 2097152 * 1048576:=by rw [hf]; omega
      generalize A[j] = a0 at hrw hfs
      refine Zb8 ?_
      try simp only [midQ,Zab,Zax,Zbf,Zau,Zav,Zbg,Zbh,guardOf,Zac,Zar,Zat,Zae,Zaf,Zaw,Zbp,VOp.isIaddr,QW,dok,dval,VOp.pure,VOp.simple,VOp.det,pok,pval,VA.ev,Env.get,Env.put,Env.keep,Za3,Zbi,Zaz,retQ,resV,Zbq,RS.ev,RS.ok,gd,Zbx,isBool,aggV,intV,binV,Zbk,strV,Zby,Zb1,Zbc,unV,unOk,Zb2,isInt,isStr,numOf,loV,hiV,lenV,Zap,Zbd,Zas,Za7,Za5,Zad,Zbl,Zaa,Zba,Za2,Zan,idxV,Zb3,Zbn,extV,Zbz,Zbr,Za8,mmV,PV.cells,PV.fits,overlay,PV.nth,PV.row,Zbw,Zam,Zbv,Za9,Zbo,Zbm,Zal,Za4,Zbb,Zao,Heap.get,Heap.set,Heap.del,Heap.le,HL.get,HL.set,HL.del,HL.le,Heap.push,Heap.nil,Nat.le_refl,Nat.add_eq_left,Nat.left_eq_add,Nat.succ_ne_self,Nat.one_ne_zero,Env.le,Za0,Zbt,Zak,Zbu,Zai,Zbs,Zay,Zaj,eqOk,ekOk,Zag,Za1,Za6,Zaq,AB.live,pxV,pxOk,fxV,fxOk,Zb0,Zbe,isNil,notNil,List.map,List.set,List.replicate,List.length,List.getD_cons_zero,List.getD_cons_succ,List.getD_nil,List.take,List.drop,List.take_zero,List.drop_zero,List.take_succ_cons,List.drop_succ_cons,List.append,List.cons_append,List.nil_append,Option.map,Nat.reduceEqDiff,Nat.reduceAdd,Nat.reduceLT,Nat.reduceLeDiff,Nat.reduceSub,Nat.reduceMul,reduceIte,Bool.false_eq_true,Bool.true_eq_false,ite_true,ite_false,if_true,if_false,true_and,and_true,implies_true,forall_const,ne_eq,not_false_eq_true,reduceCtorEq,BEq.rfl,beq_self_eq_true,Option.some.injEq,Nat.zero_add,Nat.add_zero,List.length_cons,List.length_nil,true_implies,imp_self,Int.reduceToNat,Int.toNat_natCast,Bool.not_false,Bool.not_true]
      refine Zbj ?_
      refine Zb5 ?_
      refine Zah [0,3,4,5,6] ?_
      simp only [midQ,Zab,Zax,Zbf,Zau,Zav,Zbg,Zbh,guardOf,Zac,Zar,Zat,Zae,Zaf,Zaw,Zbp,VOp.isIaddr,QW,dok,dval,VOp.pure,VOp.simple,VOp.det,pok,pval,VA.ev,Env.get,Env.put,Env.keep,Za3,Zbi,Zaz,retQ,resV,Zbq,RS.ev,RS.ok,gd,Zbx,isBool,aggV,intV,binV,Zbk,strV,Zby,Zb1,Zbc,unV,unOk,Zb2,isInt,isStr,numOf,loV,hiV,lenV,Zap,Zbd,Zas,Za7,Za5,Zad,Zbl,Zaa,Zba,Za2,Zan,idxV,Zb3,Zbn,extV,Zbz,Zbr,Za8,mmV,PV.cells,PV.fits,overlay,PV.nth,PV.row,Zbw,Zam,Zbv,Za9,Zbo,Zbm,Zal,Za4,Zbb,Zao,Heap.get,Heap.set,Heap.del,Heap.le,HL.get,HL.set,HL.del,HL.le,Heap.push,Heap.nil,Nat.le_refl,Nat.add_eq_left,Nat.left_eq_add,Nat.succ_ne_self,Nat.one_ne_zero,Env.le,Za0,Zbt,Zak,Zbu,Zai,Zbs,Zay,Zaj,eqOk,ekOk,Zag,Za1,Za6,Zaq,AB.live,pxV,pxOk,fxV,fxOk,Zb0,Zbe,isNil,notNil,List.map,List.set,List.replicate,List.length,List.getD_cons_zero,List.getD_cons_succ,List.getD_nil,List.take,List.drop,List.take_zero,List.drop_zero,List.take_succ_cons,List.drop_succ_cons,List.append,List.cons_append,List.nil_append,Option.map,Nat.reduceEqDiff,Nat.reduceAdd,Nat.reduceLT,Nat.reduceLeDiff,Nat.reduceSub,Nat.reduceMul,reduceIte,Bool.false_eq_true,Bool.true_eq_false,ite_true,ite_false,if_true,if_false,true_and,and_true,implies_true,forall_const,ne_eq,not_false_eq_true,reduceCtorEq,BEq.rfl,beq_self_eq_true,Option.some.injEq,Nat.zero_add,Nat.add_zero,List.length_cons,List.length_nil,true_implies,imp_self,Int.reduceToNat,Int.toNat_natCast,Bool.not_false,Bool.not_true,lA,hrw,w64 (n:=((f j:Nat):Int) + (a0.length:Int)) (by omega) (by omega)]
      refine ⟨by omega,?_⟩
      refine Zah [0,3,4,5,6] ?_
      simp only [midQ,Zab,Zax,Zbf,Zau,Zav,Zbg,Zbh,guardOf,Zac,Zar,Zat,Zae,Zaf,Zaw,Zbp,VOp.isIaddr,QW,dok,dval,VOp.pure,VOp.simple,VOp.det,pok,pval,VA.ev,Env.get,Env.put,Env.keep,Za3,Zbi,Zaz,retQ,resV,Zbq,RS.ev,RS.ok,gd,Zbx,isBool,aggV,intV,binV,Zbk,strV,Zby,Zb1,Zbc,unV,unOk,Zb2,isInt,isStr,numOf,loV,hiV,lenV,Zap,Zbd,Zas,Za7,Za5,Zad,Zbl,Zaa,Zba,Za2,Zan,idxV,Zb3,Zbn,extV,Zbz,Zbr,Za8,mmV,PV.cells,PV.fits,overlay,PV.nth,PV.row,Zbw,Zam,Zbv,Za9,Zbo,Zbm,Zal,Za4,Zbb,Zao,Heap.get,Heap.set,Heap.del,Heap.le,HL.get,HL.set,HL.del,HL.le,Heap.push,Heap.nil,Nat.le_refl,Nat.add_eq_left,Nat.left_eq_add,Nat.succ_ne_self,Nat.one_ne_zero,Env.le,Za0,Zbt,Zak,Zbu,Zai,Zbs,Zay,Zaj,eqOk,ekOk,Zag,Za1,Za6,Zaq,AB.live,pxV,pxOk,fxV,fxOk,Zb0,Zbe,isNil,notNil,List.map,List.set,List.replicate,List.length,List.getD_cons_zero,List.getD_cons_succ,List.getD_nil,List.take,List.drop,List.take_zero,List.drop_zero,List.take_succ_cons,List.drop_succ_cons,List.append,List.cons_append,List.nil_append,Option.map,Nat.reduceEqDiff,Nat.reduceAdd,Nat.reduceLT,Nat.reduceLeDiff,Nat.reduceSub,Nat.reduceMul,reduceIte,Bool.false_eq_true,Bool.true_eq_false,ite_true,ite_false,if_true,if_false,true_and,and_true,implies_true,forall_const,ne_eq,not_false_eq_true,reduceCtorEq,BEq.rfl,beq_self_eq_true,Option.some.injEq,Nat.zero_add,Nat.add_zero,List.length_cons,List.length_nil,true_implies,imp_self,Int.reduceToNat,Int.toNat_natCast,Bool.not_false,Bool.not_true,ad1 (a:=j) (by omega)]
      refine ⟨⟨(j + 1,t2),ja⟩,?_⟩
      have e3:((f j:Nat):Int) + (a0.length:Int) = ((f (j + 1):Nat):Int):=by omega
      simp only [midQ,Zab,Zax,Zbf,Zau,Zav,Zbg,Zbh,guardOf,Zac,Zar,Zat,Zae,Zaf,Zaw,Zbp,VOp.isIaddr,QW,dok,dval,VOp.pure,VOp.simple,VOp.det,pok,pval,VA.ev,Env.get,Env.put,Env.keep,Za3,Zbi,Zaz,retQ,resV,Zbq,RS.ev,RS.ok,gd,Zbx,isBool,aggV,intV,binV,Zbk,strV,Zby,Zb1,Zbc,unV,unOk,Zb2,isInt,isStr,numOf,loV,hiV,lenV,Zap,Zbd,Zas,Za7,Za5,Zad,Zbl,Zaa,Zba,Za2,Zan,idxV,Zb3,Zbn,extV,Zbz,Zbr,Za8,mmV,PV.cells,PV.fits,overlay,PV.nth,PV.row,Zbw,Zam,Zbv,Za9,Zbo,Zbm,Zal,Za4,Zbb,Zao,Heap.get,Heap.set,Heap.del,Heap.le,HL.get,HL.set,HL.del,HL.le,Heap.push,Heap.nil,Nat.le_refl,Nat.add_eq_left,Nat.left_eq_add,Nat.succ_ne_self,Nat.one_ne_zero,Env.le,Za0,Zbt,Zak,Zbu,Zai,Zbs,Zay,Zaj,eqOk,ekOk,Zag,Za1,Za6,Zaq,AB.live,pxV,pxOk,fxV,fxOk,Zb0,Zbe,isNil,notNil,List.map,List.set,List.replicate,List.length,List.getD_cons_zero,List.getD_cons_succ,List.getD_nil,List.take,List.drop,List.take_zero,List.drop_zero,List.take_succ_cons,List.drop_succ_cons,List.append,List.cons_append,List.nil_append,Option.map,Nat.reduceEqDiff,Nat.reduceAdd,Nat.reduceLT,Nat.reduceLeDiff,Nat.reduceSub,Nat.reduceMul,reduceIte,Bool.false_eq_true,Bool.true_eq_false,ite_true,ite_false,if_true,if_false,true_and,and_true,implies_true,forall_const,ne_eq,not_false_eq_true,reduceCtorEq,BEq.rfl,beq_self_eq_true,Option.some.injEq,Nat.zero_add,Nat.add_zero,List.length_cons,List.length_nil,true_implies,imp_self,Int.reduceToNat,Int.toNat_natCast,Bool.not_false,Bool.not_true,e3,true_and]
      omega
    simp only [decide_eq_false_iff_not] at h2
    obtain rfl:j = A.length:=by omega
    refine Zci ?_
    try simp only [midQ,Zab,Zax,Zbf,Zau,Zav,Zbg,Zbh,guardOf,Zac,Zar,Zat,Zae,Zaf,Zaw,Zbp,VOp.isIaddr,QW,dok,dval,VOp.pure,VOp.simple,VOp.det,pok,pval,VA.ev,Env.get,Env.put,Env.keep,Za3,Zbi,Zaz,retQ,resV,Zbq,RS.ev,RS.ok,gd,Zbx,isBool,aggV,intV,binV,Zbk,strV,Zby,Zb1,Zbc,unV,unOk,Zb2,isInt,isStr,numOf,loV,hiV,lenV,Zap,Zbd,Zas,Za7,Za5,Zad,Zbl,Zaa,Zba,Za2,Zan,idxV,Zb3,Zbn,extV,Zbz,Zbr,Za8,mmV,PV.cells,PV.fits,overlay,PV.nth,PV.row,Zbw,Zam,Zbv,Za9,Zbo,Zbm,Zal,Za4,Zbb,Zao,Heap.get,Heap.set,Heap.del,Heap.le,HL.get,HL.set,HL.del,HL.le,Heap.push,Heap.nil,Nat.le_refl,Nat.add_eq_left,Nat.left_eq_add,Nat.succ_ne_self,Nat.one_ne_zero,Env.le,Za0,Zbt,Zak,Zbu,Zai,Zbs,Zay,Zaj,eqOk,ekOk,Zag,Za1,Za6,Zaq,AB.live,pxV,pxOk,fxV,fxOk,Zb0,Zbe,isNil,notNil,List.map,List.set,List.replicate,List.length,List.getD_cons_zero,List.getD_cons_succ,List.getD_nil,List.take,List.drop,List.take_zero,List.drop_zero,List.take_succ_cons,List.drop_succ_cons,List.append,List.cons_append,List.nil_append,Option.map,Nat.reduceEqDiff,Nat.reduceAdd,Nat.reduceLT,Nat.reduceLeDiff,Nat.reduceSub,Nat.reduceMul,reduceIte,Bool.false_eq_true,Bool.true_eq_false,ite_true,ite_false,if_true,if_false,true_and,and_true,implies_true,forall_const,ne_eq,not_false_eq_true,reduceCtorEq,BEq.rfl,beq_self_eq_true,Option.some.injEq,Nat.zero_add,Nat.add_zero,List.length_cons,List.length_nil,true_implies,imp_self,Int.reduceToNat,Int.toNat_natCast,Bool.not_false,Bool.not_true]
    refine Zbj (VW_mid (σ:={ b:Bool // b = false → A.length ≤ 60 ∧ B0 + sumB A ≤ 3000 }) (fun b=>([(0,.sl 4 (l.map Pg.enc)),(3,pI (f A.length)),(4,pI k),(45,.bool b.1)],⟨[],t2⟩)) (Zah [0,3,4,45] ?_) (fun b=>?_))
    · by_cases h6:A.length ≤ 60
      · have e1:decide ((60:Int) < (A.length:Int)) = false:=decide_eq_false (by omega)
        simp only [midQ,Zab,Zax,Zbf,Zau,Zav,Zbg,Zbh,guardOf,Zac,Zar,Zat,Zae,Zaf,Zaw,Zbp,VOp.isIaddr,QW,dok,dval,VOp.pure,VOp.simple,VOp.det,pok,pval,VA.ev,Env.get,Env.put,Env.keep,Za3,Zbi,Zaz,retQ,resV,Zbq,RS.ev,RS.ok,gd,Zbx,isBool,aggV,intV,binV,Zbk,strV,Zby,Zb1,Zbc,unV,unOk,Zb2,isInt,isStr,numOf,loV,hiV,lenV,Zap,Zbd,Zas,Za7,Za5,Zad,Zbl,Zaa,Zba,Za2,Zan,idxV,Zb3,Zbn,extV,Zbz,Zbr,Za8,mmV,PV.cells,PV.fits,overlay,PV.nth,PV.row,Zbw,Zam,Zbv,Za9,Zbo,Zbm,Zal,Za4,Zbb,Zao,Heap.get,Heap.set,Heap.del,Heap.le,HL.get,HL.set,HL.del,HL.le,Heap.push,Heap.nil,Nat.le_refl,Nat.add_eq_left,Nat.left_eq_add,Nat.succ_ne_self,Nat.one_ne_zero,Env.le,Za0,Zbt,Zak,Zbu,Zai,Zbs,Zay,Zaj,eqOk,ekOk,Zag,Za1,Za6,Zaq,AB.live,pxV,pxOk,fxV,fxOk,Zb0,Zbe,isNil,notNil,List.map,List.set,List.replicate,List.length,List.getD_cons_zero,List.getD_cons_succ,List.getD_nil,List.take,List.drop,List.take_zero,List.drop_zero,List.take_succ_cons,List.drop_succ_cons,List.append,List.cons_append,List.nil_append,Option.map,Nat.reduceEqDiff,Nat.reduceAdd,Nat.reduceLT,Nat.reduceLeDiff,Nat.reduceSub,Nat.reduceMul,reduceIte,Bool.false_eq_true,Bool.true_eq_false,ite_true,ite_false,if_true,if_false,true_and,and_true,implies_true,forall_const,ne_eq,not_false_eq_true,reduceCtorEq,BEq.rfl,beq_self_eq_true,Option.some.injEq,Nat.zero_add,Nat.add_zero,List.length_cons,List.length_nil,true_implies,imp_self,Int.reduceToNat,Int.toNat_natCast,Bool.not_false,Bool.not_true,lA,e1]
        refine ⟨⟨decide ((3000:Int) < ((f A.length:Nat):Int)),fun h=>⟨h6,?_⟩⟩,rfl⟩
        have:=of_decide_eq_false h
        omega
      · have e1:decide ((60:Int) < (A.length:Int)) = true:=decide_eq_true (by omega)
        simp only [midQ,Zab,Zax,Zbf,Zau,Zav,Zbg,Zbh,guardOf,Zac,Zar,Zat,Zae,Zaf,Zaw,Zbp,VOp.isIaddr,QW,dok,dval,VOp.pure,VOp.simple,VOp.det,pok,pval,VA.ev,Env.get,Env.put,Env.keep,Za3,Zbi,Zaz,retQ,resV,Zbq,RS.ev,RS.ok,gd,Zbx,isBool,aggV,intV,binV,Zbk,strV,Zby,Zb1,Zbc,unV,unOk,Zb2,isInt,isStr,numOf,loV,hiV,lenV,Zap,Zbd,Zas,Za7,Za5,Zad,Zbl,Zaa,Zba,Za2,Zan,idxV,Zb3,Zbn,extV,Zbz,Zbr,Za8,mmV,PV.cells,PV.fits,overlay,PV.nth,PV.row,Zbw,Zam,Zbv,Za9,Zbo,Zbm,Zal,Za4,Zbb,Zao,Heap.get,Heap.set,Heap.del,Heap.le,HL.get,HL.set,HL.del,HL.le,Heap.push,Heap.nil,Nat.le_refl,Nat.add_eq_left,Nat.left_eq_add,Nat.succ_ne_self,Nat.one_ne_zero,Env.le,Za0,Zbt,Zak,Zbu,Zai,Zbs,Zay,Zaj,eqOk,ekOk,Zag,Za1,Za6,Zaq,AB.live,pxV,pxOk,fxV,fxOk,Zb0,Zbe,isNil,notNil,List.map,List.set,List.replicate,List.length,List.getD_cons_zero,List.getD_cons_succ,List.getD_nil,List.take,List.drop,List.take_zero,List.drop_zero,List.take_succ_cons,List.drop_succ_cons,List.append,List.cons_append,List.nil_append,Option.map,Nat.reduceEqDiff,Nat.reduceAdd,Nat.reduceLT,Nat.reduceLeDiff,Nat.reduceSub,Nat.reduceMul,reduceIte,Bool.false_eq_true,Bool.true_eq_false,ite_true,ite_false,if_true,if_false,true_and,and_true,implies_true,forall_const,ne_eq,not_false_eq_true,reduceCtorEq,BEq.rfl,beq_self_eq_true,Option.some.injEq,Nat.zero_add,Nat.add_zero,List.length_cons,List.length_nil,true_implies,imp_self,Int.reduceToNat,Int.toNat_natCast,Bool.not_false,Bool.not_true,lA,e1]
        exact ⟨⟨true,fun h=>by cases h⟩,rfl⟩
    obtain ⟨b,hb⟩:=b
    simp only []
    refine Zb6 rfl (fun h3=>?_) (fun h3=>?_)
    · refine Zbj (Zah [2] ?_)
      simp only [midQ,Zab,Zax,Zbf,Zau,Zav,Zbg,Zbh,guardOf,Zac,Zar,Zat,Zae,Zaf,Zaw,Zbp,VOp.isIaddr,QW,dok,dval,VOp.pure,VOp.simple,VOp.det,pok,pval,VA.ev,Env.get,Env.put,Env.keep,Za3,Zbi,Zaz,retQ,resV,Zbq,RS.ev,RS.ok,gd,Zbx,isBool,aggV,intV,binV,Zbk,strV,Zby,Zb1,Zbc,unV,unOk,Zb2,isInt,isStr,numOf,loV,hiV,lenV,Zap,Zbd,Zas,Za7,Za5,Zad,Zbl,Zaa,Zba,Za2,Zan,idxV,Zb3,Zbn,extV,Zbz,Zbr,Za8,mmV,PV.cells,PV.fits,overlay,PV.nth,PV.row,Zbw,Zam,Zbv,Za9,Zbo,Zbm,Zal,Za4,Zbb,Zao,Heap.get,Heap.set,Heap.del,Heap.le,HL.get,HL.set,HL.del,HL.le,Heap.push,Heap.nil,Nat.le_refl,Nat.add_eq_left,Nat.left_eq_add,Nat.succ_ne_self,Nat.one_ne_zero,Env.le,Za0,Zbt,Zak,Zbu,Zai,Zbs,Zay,Zaj,eqOk,ekOk,Zag,Za1,Za6,Zaq,AB.live,pxV,pxOk,fxV,fxOk,Zb0,Zbe,isNil,notNil,List.map,List.set,List.replicate,List.length,List.getD_cons_zero,List.getD_cons_succ,List.getD_nil,List.take,List.drop,List.take_zero,List.drop_zero,List.take_succ_cons,List.drop_succ_cons,List.append,List.cons_append,List.nil_append,Option.map,Nat.reduceEqDiff,Nat.reduceAdd,Nat.reduceLT,Nat.reduceLeDiff,Nat.reduceSub,Nat.reduceMul,reduceIte,Bool.false_eq_true,Bool.true_eq_false,ite_true,ite_false,if_true,if_false,true_and,and_true,implies_true,forall_const,ne_eq,not_false_eq_true,reduceCtorEq,BEq.rfl,beq_self_eq_true,Option.some.injEq,Nat.zero_add,Nat.add_zero,List.length_cons,List.length_nil,true_implies,imp_self,Int.reduceToNat,Int.toNat_natCast,Bool.not_false,Bool.not_true]
      refine Zcl ?_
      try simp only [midQ,Zab,Zax,Zbf,Zau,Zav,Zbg,Zbh,guardOf,Zac,Zar,Zat,Zae,Zaf,Zaw,Zbp,VOp.isIaddr,QW,dok,dval,VOp.pure,VOp.simple,VOp.det,pok,pval,VA.ev,Env.get,Env.put,Env.keep,Za3,Zbi,Zaz,retQ,resV,Zbq,RS.ev,RS.ok,gd,Zbx,isBool,aggV,intV,binV,Zbk,strV,Zby,Zb1,Zbc,unV,unOk,Zb2,isInt,isStr,numOf,loV,hiV,lenV,Zap,Zbd,Zas,Za7,Za5,Zad,Zbl,Zaa,Zba,Za2,Zan,idxV,Zb3,Zbn,extV,Zbz,Zbr,Za8,mmV,PV.cells,PV.fits,overlay,PV.nth,PV.row,Zbw,Zam,Zbv,Za9,Zbo,Zbm,Zal,Za4,Zbb,Zao,Heap.get,Heap.set,Heap.del,Heap.le,HL.get,HL.set,HL.del,HL.le,Heap.push,Heap.nil,Nat.le_refl,Nat.add_eq_left,Nat.left_eq_add,Nat.succ_ne_self,Nat.one_ne_zero,Env.le,Za0,Zbt,Zak,Zbu,Zai,Zbs,Zay,Zaj,eqOk,ekOk,Zag,Za1,Za6,Zaq,AB.live,pxV,pxOk,fxV,fxOk,Zb0,Zbe,isNil,notNil,List.map,List.set,List.replicate,List.length,List.getD_cons_zero,List.getD_cons_succ,List.getD_nil,List.take,List.drop,List.take_zero,List.drop_zero,List.take_succ_cons,List.drop_succ_cons,List.append,List.cons_append,List.nil_append,Option.map,Nat.reduceEqDiff,Nat.reduceAdd,Nat.reduceLT,Nat.reduceLeDiff,Nat.reduceSub,Nat.reduceMul,reduceIte,Bool.false_eq_true,Bool.true_eq_false,ite_true,ite_false,if_true,if_false,true_and,and_true,implies_true,forall_const,ne_eq,not_false_eq_true,reduceCtorEq,BEq.rfl,beq_self_eq_true,Option.some.injEq,Nat.zero_add,Nat.add_zero,List.length_cons,List.length_nil,true_implies,imp_self,Int.reduceToNat,Int.toNat_natCast,Bool.not_false,Bool.not_true]
      exact few_no
    obtain ⟨b1,b2⟩:=hb h3
    refine Zb8 ?_
    try simp only [midQ,Zab,Zax,Zbf,Zau,Zav,Zbg,Zbh,guardOf,Zac,Zar,Zat,Zae,Zaf,Zaw,Zbp,VOp.isIaddr,QW,dok,dval,VOp.pure,VOp.simple,VOp.det,pok,pval,VA.ev,Env.get,Env.put,Env.keep,Za3,Zbi,Zaz,retQ,resV,Zbq,RS.ev,RS.ok,gd,Zbx,isBool,aggV,intV,binV,Zbk,strV,Zby,Zb1,Zbc,unV,unOk,Zb2,isInt,isStr,numOf,loV,hiV,lenV,Zap,Zbd,Zas,Za7,Za5,Zad,Zbl,Zaa,Zba,Za2,Zan,idxV,Zb3,Zbn,extV,Zbz,Zbr,Za8,mmV,PV.cells,PV.fits,overlay,PV.nth,PV.row,Zbw,Zam,Zbv,Za9,Zbo,Zbm,Zal,Za4,Zbb,Zao,Heap.get,Heap.set,Heap.del,Heap.le,HL.get,HL.set,HL.del,HL.le,Heap.push,Heap.nil,Nat.le_refl,Nat.add_eq_left,Nat.left_eq_add,Nat.succ_ne_self,Nat.one_ne_zero,Env.le,Za0,Zbt,Zak,Zbu,Zai,Zbs,Zay,Zaj,eqOk,ekOk,Zag,Za1,Za6,Zaq,AB.live,pxV,pxOk,fxV,fxOk,Zb0,Zbe,isNil,notNil,List.map,List.set,List.replicate,List.length,List.getD_cons_zero,List.getD_cons_succ,List.getD_nil,List.take,List.drop,List.take_zero,List.drop_zero,List.take_succ_cons,List.drop_succ_cons,List.append,List.cons_append,List.nil_append,Option.map,Nat.reduceEqDiff,Nat.reduceAdd,Nat.reduceLT,Nat.reduceLeDiff,Nat.reduceSub,Nat.reduceMul,reduceIte,Bool.false_eq_true,Bool.true_eq_false,ite_true,ite_false,if_true,if_false,true_and,and_true,implies_true,forall_const,ne_eq,not_false_eq_true,reduceCtorEq,BEq.rfl,beq_self_eq_true,Option.some.injEq,Nat.zero_add,Nat.add_zero,List.length_cons,List.length_nil,true_implies,imp_self,Int.reduceToNat,Int.toNat_natCast,Bool.not_false,Bool.not_true]
    refine Zah [0,3,4] ?_
    simp only [midQ,Zab,Zax,Zbf,Zau,Zav,Zbg,Zbh,guardOf,Zac,Zar,Zat,Zae,Zaf,Zaw,Zbp,VOp.isIaddr,QW,dok,dval,VOp.pure,VOp.simple,VOp.det,pok,pval,VA.ev,Env.get,Env.put,Env.keep,Za3,Zbi,Zaz,retQ,resV,Zbq,RS.ev,RS.ok,gd,Zbx,isBool,aggV,intV,binV,Zbk,strV,Zby,Zb1,Zbc,unV,unOk,Zb2,isInt,isStr,numOf,loV,hiV,lenV,Zap,Zbd,Zas,Za7,Za5,Zad,Zbl,Zaa,Zba,Za2,Zan,idxV,Zb3,Zbn,extV,Zbz,Zbr,Za8,mmV,PV.cells,PV.fits,overlay,PV.nth,PV.row,Zbw,Zam,Zbv,Za9,Zbo,Zbm,Zal,Za4,Zbb,Zao,Heap.get,Heap.set,Heap.del,Heap.le,HL.get,HL.set,HL.del,HL.le,Heap.push,Heap.nil,Nat.le_refl,Nat.add_eq_left,Nat.left_eq_add,Nat.succ_ne_self,Nat.one_ne_zero,Env.le,Za0,Zbt,Zak,Zbu,Zai,Zbs,Zay,Zaj,eqOk,ekOk,Zag,Za1,Za6,Zaq,AB.live,pxV,pxOk,fxV,fxOk,Zb0,Zbe,isNil,notNil,List.map,List.set,List.replicate,List.length,List.getD_cons_zero,List.getD_cons_succ,List.getD_nil,List.take,List.drop,List.take_zero,List.drop_zero,List.take_succ_cons,List.drop_succ_cons,List.append,List.cons_append,List.nil_append,Option.map,Nat.reduceEqDiff,Nat.reduceAdd,Nat.reduceLT,Nat.reduceLeDiff,Nat.reduceSub,Nat.reduceMul,reduceIte,Bool.false_eq_true,Bool.true_eq_false,ite_true,ite_false,if_true,if_false,true_and,and_true,implies_true,forall_const,ne_eq,not_false_eq_true,reduceCtorEq,BEq.rfl,beq_self_eq_true,Option.some.injEq,Nat.zero_add,Nat.add_zero,List.length_cons,List.length_nil,true_implies,imp_self,Int.reduceToNat,Int.toNat_natCast,Bool.not_false,Bool.not_true,ad1 (a:=k) (by omega)]
    refine ⟨⟨(k + 1,t2),ka,hnext b1,by rw [hst]; exact b2⟩,?_⟩
    have e4:bytesL (l.take (k + 1)) = f A.length:=by rw [hst,hfe]
    simp only [e4]
    simp only [midQ,Zab,Zax,Zbf,Zau,Zav,Zbg,Zbh,guardOf,Zac,Zar,Zat,Zae,Zaf,Zaw,Zbp,VOp.isIaddr,QW,dok,dval,VOp.pure,VOp.simple,VOp.det,pok,pval,VA.ev,Env.get,Env.put,Env.keep,Za3,Zbi,Zaz,retQ,resV,Zbq,RS.ev,RS.ok,gd,Zbx,isBool,aggV,intV,binV,Zbk,strV,Zby,Zb1,Zbc,unV,unOk,Zb2,isInt,isStr,numOf,loV,hiV,lenV,Zap,Zbd,Zas,Za7,Za5,Zad,Zbl,Zaa,Zba,Za2,Zan,idxV,Zb3,Zbn,extV,Zbz,Zbr,Za8,mmV,PV.cells,PV.fits,overlay,PV.nth,PV.row,Zbw,Zam,Zbv,Za9,Zbo,Zbm,Zal,Za4,Zbb,Zao,Heap.get,Heap.set,Heap.del,Heap.le,HL.get,HL.set,HL.del,HL.le,Heap.push,Heap.nil,Nat.le_refl,Nat.add_eq_left,Nat.left_eq_add,Nat.succ_ne_self,Nat.one_ne_zero,Env.le,Za0,Zbt,Zak,Zbu,Zai,Zbs,Zay,Zaj,eqOk,ekOk,Zag,Za1,Za6,Zaq,AB.live,pxV,pxOk,fxV,fxOk,Zb0,Zbe,isNil,notNil,List.map,List.set,List.replicate,List.length,List.getD_cons_zero,List.getD_cons_succ,List.getD_nil,List.take,List.drop,List.take_zero,List.drop_zero,List.take_succ_cons,List.drop_succ_cons,List.append,List.cons_append,List.nil_append,Option.map,Nat.reduceEqDiff,Nat.reduceAdd,Nat.reduceLT,Nat.reduceLeDiff,Nat.reduceSub,Nat.reduceMul,reduceIte,Bool.false_eq_true,Bool.true_eq_false,ite_true,ite_false,if_true,if_false,true_and,and_true,implies_true,forall_const,ne_eq,not_false_eq_true,reduceCtorEq,BEq.rfl,beq_self_eq_true,Option.some.injEq,Nat.zero_add,Nat.add_zero,List.length_cons,List.length_nil,true_implies,imp_self,Int.reduceToNat,Int.toNat_natCast,Bool.not_false,Bool.not_true,true_and]
    omega
  · simp only [decide_eq_false_iff_not] at h1
    obtain rfl:k = l.length:=by omega
    rw [List.take_length] at hp60 hb3
    refine Zci ?_
    try simp only [midQ,Zab,Zax,Zbf,Zau,Zav,Zbg,Zbh,guardOf,Zac,Zar,Zat,Zae,Zaf,Zaw,Zbp,VOp.isIaddr,QW,dok,dval,VOp.pure,VOp.simple,VOp.det,pok,pval,VA.ev,Env.get,Env.put,Env.keep,Za3,Zbi,Zaz,retQ,resV,Zbq,RS.ev,RS.ok,gd,Zbx,isBool,aggV,intV,binV,Zbk,strV,Zby,Zb1,Zbc,unV,unOk,Zb2,isInt,isStr,numOf,loV,hiV,lenV,Zap,Zbd,Zas,Za7,Za5,Zad,Zbl,Zaa,Zba,Za2,Zan,idxV,Zb3,Zbn,extV,Zbz,Zbr,Za8,mmV,PV.cells,PV.fits,overlay,PV.nth,PV.row,Zbw,Zam,Zbv,Za9,Zbo,Zbm,Zal,Za4,Zbb,Zao,Heap.get,Heap.set,Heap.del,Heap.le,HL.get,HL.set,HL.del,HL.le,Heap.push,Heap.nil,Nat.le_refl,Nat.add_eq_left,Nat.left_eq_add,Nat.succ_ne_self,Nat.one_ne_zero,Env.le,Za0,Zbt,Zak,Zbu,Zai,Zbs,Zay,Zaj,eqOk,ekOk,Zag,Za1,Za6,Zaq,AB.live,pxV,pxOk,fxV,fxOk,Zb0,Zbe,isNil,notNil,List.map,List.set,List.replicate,List.length,List.getD_cons_zero,List.getD_cons_succ,List.getD_nil,List.take,List.drop,List.take_zero,List.drop_zero,List.take_succ_cons,List.drop_succ_cons,List.append,List.cons_append,List.nil_append,Option.map,Nat.reduceEqDiff,Nat.reduceAdd,Nat.reduceLT,Nat.reduceLeDiff,Nat.reduceSub,Nat.reduceMul,reduceIte,Bool.false_eq_true,Bool.true_eq_false,ite_true,ite_false,if_true,if_false,true_and,and_true,implies_true,forall_const,ne_eq,not_false_eq_true,reduceCtorEq,BEq.rfl,beq_self_eq_true,Option.some.injEq,Nat.zero_add,Nat.add_zero,List.length_cons,List.length_nil,true_implies,imp_self,Int.reduceToNat,Int.toNat_natCast,Bool.not_false,Bool.not_true]
    refine Zbj (Zah [2] ?_)
    simp only [midQ,Zab,Zax,Zbf,Zau,Zav,Zbg,Zbh,guardOf,Zac,Zar,Zat,Zae,Zaf,Zaw,Zbp,VOp.isIaddr,QW,dok,dval,VOp.pure,VOp.simple,VOp.det,pok,pval,VA.ev,Env.get,Env.put,Env.keep,Za3,Zbi,Zaz,retQ,resV,Zbq,RS.ev,RS.ok,gd,Zbx,isBool,aggV,intV,binV,Zbk,strV,Zby,Zb1,Zbc,unV,unOk,Zb2,isInt,isStr,numOf,loV,hiV,lenV,Zap,Zbd,Zas,Za7,Za5,Zad,Zbl,Zaa,Zba,Za2,Zan,idxV,Zb3,Zbn,extV,Zbz,Zbr,Za8,mmV,PV.cells,PV.fits,overlay,PV.nth,PV.row,Zbw,Zam,Zbv,Za9,Zbo,Zbm,Zal,Za4,Zbb,Zao,Heap.get,Heap.set,Heap.del,Heap.le,HL.get,HL.set,HL.del,HL.le,Heap.push,Heap.nil,Nat.le_refl,Nat.add_eq_left,Nat.left_eq_add,Nat.succ_ne_self,Nat.one_ne_zero,Env.le,Za0,Zbt,Zak,Zbu,Zai,Zbs,Zay,Zaj,eqOk,ekOk,Zag,Za1,Za6,Zaq,AB.live,pxV,pxOk,fxV,fxOk,Zb0,Zbe,isNil,notNil,List.map,List.set,List.replicate,List.length,List.getD_cons_zero,List.getD_cons_succ,List.getD_nil,List.take,List.drop,List.take_zero,List.drop_zero,List.take_succ_cons,List.drop_succ_cons,List.append,List.cons_append,List.nil_append,Option.map,Nat.reduceEqDiff,Nat.reduceAdd,Nat.reduceLT,Nat.reduceLeDiff,Nat.reduceSub,Nat.reduceMul,reduceIte,Bool.false_eq_true,Bool.true_eq_false,ite_true,ite_false,if_true,if_false,true_and,and_true,implies_true,forall_const,ne_eq,not_false_eq_true,reduceCtorEq,BEq.rfl,beq_self_eq_true,Option.some.injEq,Nat.zero_add,Nat.add_zero,List.length_cons,List.length_nil,true_implies,imp_self,Int.reduceToNat,Int.toNat_natCast,Bool.not_false,Bool.not_true,List.length_map]
    refine Zcl ?_
    try simp only [midQ,Zab,Zax,Zbf,Zau,Zav,Zbg,Zbh,guardOf,Zac,Zar,Zat,Zae,Zaf,Zaw,Zbp,VOp.isIaddr,QW,dok,dval,VOp.pure,VOp.simple,VOp.det,pok,pval,VA.ev,Env.get,Env.put,Env.keep,Za3,Zbi,Zaz,retQ,resV,Zbq,RS.ev,RS.ok,gd,Zbx,isBool,aggV,intV,binV,Zbk,strV,Zby,Zb1,Zbc,unV,unOk,Zb2,isInt,isStr,numOf,loV,hiV,lenV,Zap,Zbd,Zas,Za7,Za5,Zad,Zbl,Zaa,Zba,Za2,Zan,idxV,Zb3,Zbn,extV,Zbz,Zbr,Za8,mmV,PV.cells,PV.fits,overlay,PV.nth,PV.row,Zbw,Zam,Zbv,Za9,Zbo,Zbm,Zal,Za4,Zbb,Zao,Heap.get,Heap.set,Heap.del,Heap.le,HL.get,HL.set,HL.del,HL.le,Heap.push,Heap.nil,Nat.le_refl,Nat.add_eq_left,Nat.left_eq_add,Nat.succ_ne_self,Nat.one_ne_zero,Env.le,Za0,Zbt,Zak,Zbu,Zai,Zbs,Zay,Zaj,eqOk,ekOk,Zag,Za1,Za6,Zaq,AB.live,pxV,pxOk,fxV,fxOk,Zb0,Zbe,isNil,notNil,List.map,List.set,List.replicate,List.length,List.getD_cons_zero,List.getD_cons_succ,List.getD_nil,List.take,List.drop,List.take_zero,List.drop_zero,List.take_succ_cons,List.drop_succ_cons,List.append,List.cons_append,List.nil_append,Option.map,Nat.reduceEqDiff,Nat.reduceAdd,Nat.reduceLT,Nat.reduceLeDiff,Nat.reduceSub,Nat.reduceMul,reduceIte,Bool.false_eq_true,Bool.true_eq_false,ite_true,ite_false,if_true,if_false,true_and,and_true,implies_true,forall_const,ne_eq,not_false_eq_true,reduceCtorEq,BEq.rfl,beq_self_eq_true,Option.some.injEq,Nat.zero_add,Nat.add_zero,List.length_cons,List.length_nil,true_implies,imp_self,Int.reduceToNat,Int.toNat_natCast,Bool.not_false,Bool.not_true]
    refine ⟨_,View.refl _ _,⟨_,rfl,fun h=>⟨?_,hp60,hb3⟩⟩,cB _⟩
    have h':(l.length:Int) ≤ 20:=by simpa using h
    omega
end Go.Proofs.YtjmekckcffckoabGreatDoor.w
namespace Go.Proofs.YtjmekckcffckoabGreatDoor.w
open Go Go.VM
set_option maxRecDepth 20000
set_option maxHeartbeats 0
set_option pp.deepTerms false
def c_pandectlaw56_awake:VC:=(.seq (.region [ZO 0 (.mv (.c (.bool false)))] false) (.seq (.region [ZO 3 (.bslice 1 2 [(.int .i64 0)] [(0,(.c (.int .i64 1))),(1,(.c (.int .i64 3)))]),ZO 4 (.build [(.str []),.nilsl] [(0,(1,(.c (.str [116,97,120])))),(1,(1,(.t 3)))]),ZO 5 (.bslice 2 1 [(.str []),.nilsl] [(0,(.t 4))]),ZO 6 (.call 24 [(.c (.int .i64 14)),(.t 5)]),ZM 1 6] false) (.seq (.region [ZO 7 (.bslice 1 1 [(.str [])] [(0,(.c (.str [40,116,97,120,44,32,111,102,32,116,97,120])))]),ZO 8 (.build [(.int .i64 0),(.str []),.nilsl,.nilsl] [(0,(1,(.c (.int .i64 3)))),(2,(1,(.t 7)))]),ZO 9 (.bslice 4 1 [(.int .i64 0),(.str []),.nilsl,.nilsl] [(0,(.t 8))]),ZO 10 (.call 12 [(.t 9)]),ZM 2 10] false) (.seq (.seq (.region [ZM 11 1,ZO 12 (.len false (.t 11)),ZO 13 (.bin .neq (.t 12) (.c (.int .i64 1))),ZM 14 13,ZG 15 (.mv (.t 2)) 14 false,ZG 16 (.len false (.t 15)) 14 false,ZG 17 (.bin .neq (.t 16) (.c (.int .i64 2))) 14 false,ZO 18 (.pick (.t 14) (.c (.bool true)) (.t 17))] false) (.cond (.t 18) (.seq (.region [ZO 0 (.mv (.c (.bool false)))] false) .ret) .skip)) (.seq (.region [ZO 19 (.bslice 1 7 [(.int .i64 0)] [(0,(.c (.int .i64 5))),(1,(.c (.int .i64 1))),(2,(.c (.int .i64 2))),(3,(.c (.int .i64 3))),(4,(.c (.int .i64 5))),(5,(.c (.int .i64 7))),(6,(.c (.int .i64 8)))]),ZO 20 (.call 8 [(.t 19)]),ZO 21 (.bin .eql (.t 20) (.c (.str [49,32,116,111,32,51,44,32,53,44,32,55,44,32,56]))),ZM 22 21,ZG 23 (.mv (.t 1)) 22 true,ZG 24 (.iaddr 1 (.t 23) (.c (.int .i64 0))) 22 true,ZG 25 (.load false 1 (.t 24)) 22 true,ZG 26 (.bin .eql (.t 25) (.c (.str [116,97,120,32,46,46,46,46,46,32,49,44,32,51]))) 22 true,ZO 27 (.pick (.t 22) (.t 26) (.c (.bool false))),ZM 28 27,ZG 29 (.mv (.t 2)) 28 true,ZG 30 (.iaddr 2 (.t 29) (.c (.int .i64 1))) 28 true,ZG 31 (.faddr 0 (.t 30)) 28 true,ZG 32 (.load false 1 (.t 31)) 28 true,ZG 33 (.bin .eql (.t 32) (.c (.str [116,97,120]))) 28 true,ZO 34 (.pick (.t 28) (.t 33) (.c (.bool false))),ZM 35 34,ZG 36 (.mv (.t 2)) 35 true,ZG 37 (.iaddr 2 (.t 36) (.c (.int .i64 1))) 35 true,ZG 38 (.faddr 1 (.t 37)) 35 true,ZG 39 (.load false 1 (.t 38)) 35 true,ZG 40 (.len false (.t 39)) 35 true,ZG 41 (.bin .eql (.t 40) (.c (.int .i64 1))) 35 true,ZO 42 (.pick (.t 35) (.t 41) (.c (.bool false))),ZM 43 42,ZG 44 (.mv (.t 2)) 43 true,ZG 45 (.iaddr 2 (.t 44) (.c (.int .i64 1))) 43 true,ZG 46 (.faddr 1 (.t 45)) 43 true,ZG 47 (.load false 1 (.t 46)) 43 true,ZG 48 (.iaddr 1 (.t 47) (.c (.int .i64 0))) 43 true,ZG 49 (.load false 1 (.t 48)) 43 true,ZG 50 (.bin .eql (.t 49) (.c (.int .i64 3))) 43 true,ZO 51 (.pick (.t 43) (.t 50) (.c (.bool false))),ZM 0 51] false) .ret)))))
def taxT:Str:=[116,97,120]
def exE:List (Str × List Int):=[(taxT,[1,3])]
def exP:List Pg:=[⟨3,[],[[40,116,97,120,44,32,111,102,32,116,97,120]],[]⟩]
theorem ex_r2:rangesS [1,3] = [49,44,32,51]:=by
  have h:Zck [1,3] = [1,3]:=onceI_self (by decide)
  have h5:Lib.join (partsI [1,3]) sepT = [49,44,32,51]:=by kernel_rfl
  unfold rangesS; rw [h,h5]
theorem ex_line:exE.map (lineS 14) = [[116,97,120,32,46,46,46,46,46,32,49,44,32,51]]:=by
  have h5:taxT ++ [32] ++ Lib.repeatL [46] (max (max (min 14 200) 0 - (taxT.length:Int) - (([49,44,32,51]:Str).length:Int) - 2) 2).toNat ++ [32] ++ [49,44,32,51] = [116,97,120,32,46,46,46,46,46,32,49,44,32,51]:=by kernel_rfl
  simp only [exE,List.map_cons,List.map_nil,lineS,widthN,ex_r2]
  rw [h5]
theorem ex_ranges:rangesS [5,1,2,3,5,7,8] = [49,32,116,111,32,51,44,32,53,44,32,55,44,32,56]:=by
  have h1:Zck [5,1,2,3,5,7,8] = Zck [1,2,3,5,7,8]:=onceI_ext fun x=>by simp; omega
  have h2:Zck [1,2,3,5,7,8] = [1,2,3,5,7,8]:=onceI_self (by decide)
  have h5:Lib.join (partsI [1,2,3,5,7,8]) sepT = [49,32,116,111,32,51,44,32,53,44,32,55,44,32,56]:=by kernel_rfl
  unfold rangesS; rw [h1,h2,h5]
theorem ex_keys:keysS exP = [[111,102],taxT]:=by
  have h:(onS (occL exP) []).map (·.1) = [taxT,[111,102]]:=by kernel_rfl
  unfold keysS; rw [h]
  have h2:¬ leB taxT [111,102] = true:=by decide
  simp [List.mergeSort,List.MergeSort.Internal.splitInTwo,List.merge,h2]
theorem ex_index:indexS exP = [([111,102],[3]),(taxT,[3])]:=by
  have h1:Zcr exP [111,102] = [3]:=by kernel_rfl
  have h2:Zcr exP taxT = [3,3]:=by kernel_rfl
  have h3:Zck [3,3] = Zck [3]:=onceI_ext fun x=>by simp
  have h4:Zck [3] = [3]:=onceI_self (by decide)
  unfold indexS
  rw [ex_keys]
  simp only [List.map_cons,List.map_nil,h1,h2,h3,h4]
theorem ex_smal:SmalP exP:=by
  refine ⟨by decide,by decide,by decide,by decide⟩
theorem sp_awake:Zcq Tryz.prog 7 [] (.bool true):=by
  have i1:∀ x:Int,0 ≤ x → x ≤ 100 → i64 x:=fun x h1 h2=>i64_iff.2 (by omega)
  have A:=sp_concordance_Format 14 exE (i1 _ (by decide) (by decide)) (by decide) (fun e he=>by
    simp only [exE,List.mem_singleton] at he
    subst he
    refine ⟨by decide,by decide,fun x hx=>?_⟩
    simp only [List.mem_cons,List.not_mem_nil,or_false] at hx
    rcases hx with rfl | rfl <;> exact i1 _ (by decide) (by decide))
  have B:=Zcy exP ex_smal
  have C:=Zcw [5,1,2,3,5,7,8] (by decide) (fun x hx=>by
    simp only [List.mem_cons,List.not_mem_nil,or_false] at hx
    rcases hx with rfl | rfl | rfl | rfl | rfl | rfl | rfl <;> exact i1 _ (by decide) (by decide))
  rw [ex_line] at A
  rw [ex_index] at B
  rw [ex_ranges] at C
  have A':Zcq Tryz.prog 24 [pI 14,.sl 2 (exE.map encEn)] (.sl 1 [[.str [116,97,120,32,46,46,46,46,46,32,49,44,32,51]]]):=A
  have B':Zcq Tryz.prog 12 [.sl 4 (exP.map Pg.enc)] (.sl 2 [[.str [111,102],.sl 1 [[pI 3]]],[.str [116,97,120],.sl 1 [[pI 3]]]]):=B
  refine Zb9 ?_ (cB _) (by simp only [ClosedL,List.mem_cons,List.not_mem_nil,or_false,forall_eq_or_imp,forall_eq,false_implies,implies_true]; repeat' (first  | exact cB _ | refine And.intro ?_ ?_))
  refine Zcf (vc:=c_pandectlaw56_awake) (ts:=[.t 0]) Go.Proofs.Tryz.func7 (by kernel_rfl) rfl rfl (Nat.le_of_ble_eq_true rfl) (by kernel_rfl) ?_
  unfold c_pandectlaw56_awake
  try dsimp only [ZM,ZO,ZN,ZG]
  refine Zbj (Zah [] ?_)
  simp only [Zab,Zax,Zbh,pok,pval,VA.ev,Env.put,Env.keep,Za3,Zbi,Heap.nil,true_and]
  refine Zbj (Zah [1] ?_)
  simp only [Zab,Zax,Zbh,pok,pval,VA.ev,Env.get,Env.put,Env.keep,Zbi,Zbr,Za8,PV.cells,PV.fits,overlay,Heap.push,Nat.le_refl,Zay,Zaj,List.map,List.set,List.replicate,List.length,List.take,List.drop,List.take_succ_cons,List.drop_succ_cons,List.cons_append,List.nil_append,Nat.reduceEqDiff,Nat.reduceAdd,Nat.reduceLT,Nat.reduceLeDiff,ite_true,ite_false,true_and,and_true,BEq.rfl,Nat.zero_add,List.length_cons]
  refine ACall_f [pI 14,.sl 2 (exE.map encEn)] ⟨View.refl _ _,?_,trivial⟩ (Zcg A' ?_)
  · refine View.ownV (fz:=false) (es:=[[.str [116,97,120],.own 0 0 2]]) rfl (by decide) rfl (fun i hi=>?_) (fun i j hi hj=>?_)
    · obtain rfl:i = 0:=by omega
      rfl
    · obtain rfl:i = 0:=by omega
      obtain rfl | rfl:j = 0 ∨ j = 1:=by omega
      · exact View.refl _ _
      · exact View.own_all (fz:=false) (es:=[[pI 1],[pI 3]]) rfl rfl
  try simp only []
  refine Zbj (Zah [1,2] ?_)
  simp only [Zab,Zax,Zbh,pok,pval,VA.ev,Env.get,Env.put,Env.keep,Zbi,Zbr,Za8,PV.cells,PV.fits,overlay,Heap.push,Nat.succ_ne_self,Zay,Zaj,List.map,List.set,List.replicate,List.length,List.take,List.drop,List.take_succ_cons,List.drop_succ_cons,List.cons_append,List.nil_append,Nat.reduceEqDiff,Nat.reduceAdd,Nat.reduceLT,Nat.reduceLeDiff,ite_true,ite_false,true_and,and_true,BEq.rfl,Nat.zero_add,List.length_cons]
  refine ACall_f [.sl 4 (exP.map Pg.enc)] ⟨?_,trivial⟩ (Zcg B' ?_)
  · refine View.ownV (fz:=false) (es:=[[pI 3,.str [],.own 2 0 1,.nilsl]]) rfl (by decide) rfl (fun i hi=>?_) (fun i j hi hj=>?_)
    · obtain rfl:i = 0:=by omega
      rfl
    · obtain rfl:i = 0:=by omega
      obtain rfl | rfl | rfl | rfl:j = 0 ∨ j = 1 ∨ j = 2 ∨ j = 3:=by omega
      · exact View.refl _ _
      · exact View.refl _ _
      · exact View.own_all (fz:=false) (es:=[[.str [40,116,97,120,44,32,111,102,32,116,97,120]]]) rfl rfl
      · exact View.nil _ _
  try simp only []
  refine Zbj ?_
  have n1:(((1:Nat):Int) != 1) = false:=by decide
  have n2:(((2:Nat):Int) != 2) = false:=by decide
  have n3:(((1:Nat):Int) == 1) = true:=by decide
  refine Zbj (Zah [1,2,18] ?_)
  simp only [Zab,Zax,Zbf,Zbh,pok,pval,VA.ev,Env.get,Env.put,Env.keep,Zbi,Zbx,isBool,intV,binV,Zbk,lenV,Zbn,Nat.succ_ne_self,List.length,Nat.reduceEqDiff,Nat.reduceAdd,Bool.false_eq_true,ite_true,ite_false,true_and,Nat.zero_add,n1,n2,n3]
  refine Zb6 rfl (fun h1=>?_) (fun h1=>?_)
  · cases h1
  refine Zb8 ?_
  try simp only [Zbi]
  refine Zbj (Zah [0] ?_)
  simp only [Zax,Zbh,pok,pval,VA.ev,Env.get,Env.put,Env.keep,Zbi,intV,binV,Zbk,strV,PV.cells,PV.fits,Heap.push,Zay,Zaj,List.map,List.set,List.replicate,Nat.reduceEqDiff,Nat.reduceAdd,Nat.reduceLT,ite_true,ite_false,true_and,and_true,BEq.rfl]
  refine ACall_f [.sl 1 ([5,1,2,3,5,7,8].map fun x=>[pI x])] ⟨?_,trivial⟩ (Zcg C ?_)
  · exact View.own_all (fz:=false) rfl rfl
  try simp only [Zab,Zax,Zbf,Zbh,pok,pval,VA.ev,Env.get,Env.put,Zbx,isBool,aggV,intV,binV,Zbk,strV,isInt,numOf,lenV,Za7,Za5,Zad,Zbl,Za2,Zan,Zbn,PV.nth,PV.row,Nat.le_refl,Nat.succ_ne_self,List.length,List.getD_cons_zero,List.getD_cons_succ,List.take,List.drop,List.take_succ_cons,Nat.reduceEqDiff,Nat.reduceAdd,Nat.reduceLeDiff,Bool.false_eq_true,ite_true,ite_false,true_and,and_true,implies_true,reduceCtorEq,BEq.rfl,Nat.zero_add,List.length_cons,Int.reduceToNat,n1,n2,n3]
  refine ⟨by decide,by decide,by decide,by decide,by decide,?_⟩
  refine Zcl ?_
  try simp only [Env.get,retQ,resV,Zbq,RS.ev,RS.ok,ite_true,true_and,and_true]
  exact View.refl _ _
end Go.Proofs.YtjmekckcffckoabGreatDoor.w
namespace Go.Proofs.YtjmekckcffckoabGreatDoor.w
open Go Go.VM
set_option maxRecDepth 20000
set_option maxHeartbeats 0
set_option pp.deepTerms false
def Zcp:VC:=(.seq (.region [ZO 4 (.mv (.c (.bool false)))] false) (.seq (.seq (.region [ZM 5 0,ZO 6 (.call 10 [(.t 5)]),ZO 7 (.un .not (.t 6)),ZM 8 7,ZG 9 (.mv (.t 1)) 8 false,ZG 10 (.len true (.t 9)) 8 false,ZG 11 (.bin .gtr (.t 10) (.c (.int .i64 100))) 8 false,ZO 12 (.pick (.t 8) (.c (.bool true)) (.t 11))] false) (.cond (.t 12) (.seq (.region [ZO 13 (.call 7 []),ZM 4 13] false) .ret) .skip)) (.seq (.region [ZM 14 0,ZO 15 (.call 12 [(.t 14)]),ZM 16 0,ZO 17 (.call 13 [(.t 16)]),ZO 18 (.call 11 [(.t 15),(.t 17)]),ZM 19 18,ZG 20 (.mv (.t 1)) 19 true,ZG 21 (.mv (.t 0)) 19 true,ZG 22 (.call 15 [(.t 20),(.t 21)]) 19 true,ZG 23 (.mv (.t 1)) 19 true,ZG 24 (.mv (.t 0)) 19 true,ZG 25 (.call 16 [(.t 23),(.t 24)]) 19 true,ZG 26 (.call 14 [(.t 22),(.t 25)]) 19 true,ZO 27 (.pick (.t 19) (.t 26) (.c (.bool false))),ZM 28 27,ZG 29 (.call 7 []) 28 true,ZO 30 (.pick (.t 28) (.t 29) (.c (.bool false))),ZM 4 30] false) .ret)))
theorem law_ConcordanceIndex (l:List Pg) (s:Str) (hok:rd.okU rd.okPg l) (hs:s.length ≤ bulkB):Zcq Tryz.prog 4 [.sl 4 (l.map Pg.enc),.str s] (.bool true):=by
  refine Zb9 ?_ (cB _) (by intro y hy; simp only [List.mem_cons,List.not_mem_nil,or_false] at hy; rcases hy with rfl | rfl; exact closed_pgs _; exact cS _)
  have F:=sp_ref56_Few l hok
  have A:=sp_awake
  refine Zcf (vc:=Zcp) (ts:=[.t 4]) Go.Proofs.Tryz.func4 (by kernel_rfl) rfl rfl (Nat.le_of_ble_eq_true rfl) (by kernel_rfl) ?_
  unfold Zcp
  try dsimp only [ZM,ZO,ZN,ZG]
  refine Zbj (Zah [0,1] ?_)
  simp only [midQ,Zab,Zax,Zbf,Zau,Zav,Zbg,Zbh,guardOf,Zac,Zar,Zat,Zae,Zaf,Zaw,Zbp,VOp.isIaddr,QW,dok,dval,VOp.pure,VOp.simple,VOp.det,pok,pval,VA.ev,Env.get,Env.put,Env.keep,Za3,Zbi,Zaz,retQ,resV,Zbq,RS.ev,RS.ok,gd,Zbx,isBool,aggV,intV,binV,Zbk,strV,Zby,Zb1,Zbc,unV,unOk,Zb2,isInt,isStr,numOf,loV,hiV,lenV,Zap,Zbd,Zas,Za7,Za5,Zad,Zbl,Zaa,Zba,Za2,Zan,idxV,Zb3,Zbn,extV,Zbz,Zbr,Za8,mmV,PV.cells,PV.fits,overlay,PV.nth,PV.row,Zbw,Zam,Zbv,Za9,Zbo,Zbm,Zal,Za4,Zbb,Zao,Heap.get,Heap.set,Heap.del,Heap.le,HL.get,HL.set,HL.del,HL.le,Heap.push,Heap.nil,Nat.le_refl,Nat.add_eq_left,Nat.left_eq_add,Nat.succ_ne_self,Nat.one_ne_zero,Env.le,Za0,Zbt,Zak,Zbu,Zai,Zbs,Zay,Zaj,eqOk,ekOk,Zag,Za1,Za6,Zaq,AB.live,pxV,pxOk,fxV,fxOk,Zb0,Zbe,isNil,notNil,List.map,List.set,List.replicate,List.length,List.getD_cons_zero,List.getD_cons_succ,List.getD_nil,List.take,List.drop,List.take_zero,List.drop_zero,List.take_succ_cons,List.drop_succ_cons,List.append,List.cons_append,List.nil_append,Option.map,Nat.reduceEqDiff,Nat.reduceAdd,Nat.reduceLT,Nat.reduceLeDiff,Nat.reduceSub,Nat.reduceMul,reduceIte,Bool.false_eq_true,Bool.true_eq_false,ite_true,ite_false,if_true,if_false,true_and,and_true,implies_true,forall_const,ne_eq,not_false_eq_true,reduceCtorEq,BEq.rfl,beq_self_eq_true,Option.some.injEq,Nat.zero_add,Nat.add_zero,List.length_cons,List.length_nil,true_implies,imp_self,Int.reduceToNat,Int.toNat_natCast,Bool.not_false,Bool.not_true]
  refine Zbj ?_
  refine Zbj (VW_mid (σ:={ b:Bool // b = false → FewP l }) (fun b=>([(0,.sl 4 (l.map Pg.enc)),(1,.str s),(12,.bool b.1)],⟨[],0⟩)) (Zah [0,1,12] ?_) (fun b=>?_))
  · simp only [midQ,Zab,Zax,Zbf,Zau,Zav,Zbg,Zbh,guardOf,Zac,Zar,Zat,Zae,Zaf,Zaw,Zbp,VOp.isIaddr,QW,dok,dval,VOp.pure,VOp.simple,VOp.det,pok,pval,VA.ev,Env.get,Env.put,Env.keep,Za3,Zbi,Zaz,retQ,resV,Zbq,RS.ev,RS.ok,gd,Zbx,isBool,aggV,intV,binV,Zbk,strV,Zby,Zb1,Zbc,unV,unOk,Zb2,isInt,isStr,numOf,loV,hiV,lenV,Zap,Zbd,Zas,Za7,Za5,Zad,Zbl,Zaa,Zba,Za2,Zan,idxV,Zb3,Zbn,extV,Zbz,Zbr,Za8,mmV,PV.cells,PV.fits,overlay,PV.nth,PV.row,Zbw,Zam,Zbv,Za9,Zbo,Zbm,Zal,Za4,Zbb,Zao,Heap.get,Heap.set,Heap.del,Heap.le,HL.get,HL.set,HL.del,HL.le,Heap.push,Heap.nil,Nat.le_refl,Nat.add_eq_left,Nat.left_eq_add,Nat.succ_ne_self,Nat.one_ne_zero,Env.le,Za0,Zbt,Zak,Zbu,Zai,Zbs,Zay,Zaj,eqOk,ekOk,Zag,Za1,Za6,Zaq,AB.live,pxV,pxOk,fxV,fxOk,Zb0,Zbe,isNil,notNil,List.map,List.set,List.replicate,List.length,List.getD_cons_zero,List.getD_cons_succ,List.getD_nil,List.take,List.drop,List.take_zero,List.drop_zero,List.take_succ_cons,List.drop_succ_cons,List.append,List.cons_append,List.nil_append,Option.map,Nat.reduceEqDiff,Nat.reduceAdd,Nat.reduceLT,Nat.reduceLeDiff,Nat.reduceSub,Nat.reduceMul,reduceIte,Bool.false_eq_true,Bool.true_eq_false,ite_true,ite_false,if_true,if_false,true_and,and_true,implies_true,forall_const,ne_eq,not_false_eq_true,reduceCtorEq,BEq.rfl,beq_self_eq_true,Option.some.injEq,Nat.zero_add,Nat.add_zero,List.length_cons,List.length_nil,true_implies,imp_self,Int.reduceToNat,Int.toNat_natCast,Bool.not_false,Bool.not_true]
    refine ACall_ps F ?_
    rintro p ⟨b,rfl,hb⟩
    cases b with
    | false =>
      try simp only [midQ,Zab,Zax,Zbf,Zau,Zav,Zbg,Zbh,guardOf,Zac,Zar,Zat,Zae,Zaf,Zaw,Zbp,VOp.isIaddr,QW,dok,dval,VOp.pure,VOp.simple,VOp.det,pok,pval,VA.ev,Env.get,Env.put,Env.keep,Za3,Zbi,Zaz,retQ,resV,Zbq,RS.ev,RS.ok,gd,Zbx,isBool,aggV,intV,binV,Zbk,strV,Zby,Zb1,Zbc,unV,unOk,Zb2,isInt,isStr,numOf,loV,hiV,lenV,Zap,Zbd,Zas,Za7,Za5,Zad,Zbl,Zaa,Zba,Za2,Zan,idxV,Zb3,Zbn,extV,Zbz,Zbr,Za8,mmV,PV.cells,PV.fits,overlay,PV.nth,PV.row,Zbw,Zam,Zbv,Za9,Zbo,Zbm,Zal,Za4,Zbb,Zao,Heap.get,Heap.set,Heap.del,Heap.le,HL.get,HL.set,HL.del,HL.le,Heap.push,Heap.nil,Nat.le_refl,Nat.add_eq_left,Nat.left_eq_add,Nat.succ_ne_self,Nat.one_ne_zero,Env.le,Za0,Zbt,Zak,Zbu,Zai,Zbs,Zay,Zaj,eqOk,ekOk,Zag,Za1,Za6,Zaq,AB.live,pxV,pxOk,fxV,fxOk,Zb0,Zbe,isNil,notNil,List.map,List.set,List.replicate,List.length,List.getD_cons_zero,List.getD_cons_succ,List.getD_nil,List.take,List.drop,List.take_zero,List.drop_zero,List.take_succ_cons,List.drop_succ_cons,List.append,List.cons_append,List.nil_append,Option.map,Nat.reduceEqDiff,Nat.reduceAdd,Nat.reduceLT,Nat.reduceLeDiff,Nat.reduceSub,Nat.reduceMul,reduceIte,Bool.false_eq_true,Bool.true_eq_false,ite_true,ite_false,if_true,if_false,true_and,and_true,implies_true,forall_const,ne_eq,not_false_eq_true,reduceCtorEq,BEq.rfl,beq_self_eq_true,Option.some.injEq,Nat.zero_add,Nat.add_zero,List.length_cons,List.length_nil,true_implies,imp_self,Int.reduceToNat,Int.toNat_natCast,Bool.not_false,Bool.not_true]
      exact ⟨⟨true,fun h=>by cases h⟩,by first | trivial | rfl⟩
    | true =>
      try simp only [midQ,Zab,Zax,Zbf,Zau,Zav,Zbg,Zbh,guardOf,Zac,Zar,Zat,Zae,Zaf,Zaw,Zbp,VOp.isIaddr,QW,dok,dval,VOp.pure,VOp.simple,VOp.det,pok,pval,VA.ev,Env.get,Env.put,Env.keep,Za3,Zbi,Zaz,retQ,resV,Zbq,RS.ev,RS.ok,gd,Zbx,isBool,aggV,intV,binV,Zbk,strV,Zby,Zb1,Zbc,unV,unOk,Zb2,isInt,isStr,numOf,loV,hiV,lenV,Zap,Zbd,Zas,Za7,Za5,Zad,Zbl,Zaa,Zba,Za2,Zan,idxV,Zb3,Zbn,extV,Zbz,Zbr,Za8,mmV,PV.cells,PV.fits,overlay,PV.nth,PV.row,Zbw,Zam,Zbv,Za9,Zbo,Zbm,Zal,Za4,Zbb,Zao,Heap.get,Heap.set,Heap.del,Heap.le,HL.get,HL.set,HL.del,HL.le,Heap.push,Heap.nil,Nat.le_refl,Nat.add_eq_left,Nat.left_eq_add,Nat.succ_ne_self,Nat.one_ne_zero,Env.le,Za0,Zbt,Zak,Zbu,Zai,Zbs,Zay,Zaj,eqOk,ekOk,Zag,Za1,Za6,Zaq,AB.live,pxV,pxOk,fxV,fxOk,Zb0,Zbe,isNil,notNil,List.map,List.set,List.replicate,List.length,List.getD_cons_zero,List.getD_cons_succ,List.getD_nil,List.take,List.drop,List.take_zero,List.drop_zero,List.take_succ_cons,List.drop_succ_cons,List.append,List.cons_append,List.nil_append,Option.map,Nat.reduceEqDiff,Nat.reduceAdd,Nat.reduceLT,Nat.reduceLeDiff,Nat.reduceSub,Nat.reduceMul,reduceIte,Bool.false_eq_true,Bool.true_eq_false,ite_true,ite_false,if_true,if_false,true_and,and_true,implies_true,forall_const,ne_eq,not_false_eq_true,reduceCtorEq,BEq.rfl,beq_self_eq_true,Option.some.injEq,Nat.zero_add,Nat.add_zero,List.length_cons,List.length_nil,true_implies,imp_self,Int.reduceToNat,Int.toNat_natCast,Bool.not_false,Bool.not_true]
      exact ⟨⟨_,fun _=>hb rfl⟩,by first | trivial | rfl⟩
  obtain ⟨b,hb⟩:=b
  simp only []
  refine Zb6 rfl (fun h1=>?_) (fun h1=>?_)
  · refine Zbj (Zah [4] ?_)
    simp only [midQ,Zab,Zax,Zbf,Zau,Zav,Zbg,Zbh,guardOf,Zac,Zar,Zat,Zae,Zaf,Zaw,Zbp,VOp.isIaddr,QW,dok,dval,VOp.pure,VOp.simple,VOp.det,pok,pval,VA.ev,Env.get,Env.put,Env.keep,Za3,Zbi,Zaz,retQ,resV,Zbq,RS.ev,RS.ok,gd,Zbx,isBool,aggV,intV,binV,Zbk,strV,Zby,Zb1,Zbc,unV,unOk,Zb2,isInt,isStr,numOf,loV,hiV,lenV,Zap,Zbd,Zas,Za7,Za5,Zad,Zbl,Zaa,Zba,Za2,Zan,idxV,Zb3,Zbn,extV,Zbz,Zbr,Za8,mmV,PV.cells,PV.fits,overlay,PV.nth,PV.row,Zbw,Zam,Zbv,Za9,Zbo,Zbm,Zal,Za4,Zbb,Zao,Heap.get,Heap.set,Heap.del,Heap.le,HL.get,HL.set,HL.del,HL.le,Heap.push,Heap.nil,Nat.le_refl,Nat.add_eq_left,Nat.left_eq_add,Nat.succ_ne_self,Nat.one_ne_zero,Env.le,Za0,Zbt,Zak,Zbu,Zai,Zbs,Zay,Zaj,eqOk,ekOk,Zag,Za1,Za6,Zaq,AB.live,pxV,pxOk,fxV,fxOk,Zb0,Zbe,isNil,notNil,List.map,List.set,List.replicate,List.length,List.getD_cons_zero,List.getD_cons_succ,List.getD_nil,List.take,List.drop,List.take_zero,List.drop_zero,List.take_succ_cons,List.drop_succ_cons,List.append,List.cons_append,List.nil_append,Option.map,Nat.reduceEqDiff,Nat.reduceAdd,Nat.reduceLT,Nat.reduceLeDiff,Nat.reduceSub,Nat.reduceMul,reduceIte,Bool.false_eq_true,Bool.true_eq_false,ite_true,ite_false,if_true,if_false,true_and,and_true,implies_true,forall_const,ne_eq,not_false_eq_true,reduceCtorEq,BEq.rfl,beq_self_eq_true,Option.some.injEq,Nat.zero_add,Nat.add_zero,List.length_cons,List.length_nil,true_implies,imp_self,Int.reduceToNat,Int.toNat_natCast,Bool.not_false,Bool.not_true]
    refine Zcg A ?_
    try simp only [midQ,Zab,Zax,Zbf,Zau,Zav,Zbg,Zbh,guardOf,Zac,Zar,Zat,Zae,Zaf,Zaw,Zbp,VOp.isIaddr,QW,dok,dval,VOp.pure,VOp.simple,VOp.det,pok,pval,VA.ev,Env.get,Env.put,Env.keep,Za3,Zbi,Zaz,retQ,resV,Zbq,RS.ev,RS.ok,gd,Zbx,isBool,aggV,intV,binV,Zbk,strV,Zby,Zb1,Zbc,unV,unOk,Zb2,isInt,isStr,numOf,loV,hiV,lenV,Zap,Zbd,Zas,Za7,Za5,Zad,Zbl,Zaa,Zba,Za2,Zan,idxV,Zb3,Zbn,extV,Zbz,Zbr,Za8,mmV,PV.cells,PV.fits,overlay,PV.nth,PV.row,Zbw,Zam,Zbv,Za9,Zbo,Zbm,Zal,Za4,Zbb,Zao,Heap.get,Heap.set,Heap.del,Heap.le,HL.get,HL.set,HL.del,HL.le,Heap.push,Heap.nil,Nat.le_refl,Nat.add_eq_left,Nat.left_eq_add,Nat.succ_ne_self,Nat.one_ne_zero,Env.le,Za0,Zbt,Zak,Zbu,Zai,Zbs,Zay,Zaj,eqOk,ekOk,Zag,Za1,Za6,Zaq,AB.live,pxV,pxOk,fxV,fxOk,Zb0,Zbe,isNil,notNil,List.map,List.set,List.replicate,List.length,List.getD_cons_zero,List.getD_cons_succ,List.getD_nil,List.take,List.drop,List.take_zero,List.drop_zero,List.take_succ_cons,List.drop_succ_cons,List.append,List.cons_append,List.nil_append,Option.map,Nat.reduceEqDiff,Nat.reduceAdd,Nat.reduceLT,Nat.reduceLeDiff,Nat.reduceSub,Nat.reduceMul,reduceIte,Bool.false_eq_true,Bool.true_eq_false,ite_true,ite_false,if_true,if_false,true_and,and_true,implies_true,forall_const,ne_eq,not_false_eq_true,reduceCtorEq,BEq.rfl,beq_self_eq_true,Option.some.injEq,Nat.zero_add,Nat.add_zero,List.length_cons,List.length_nil,true_implies,imp_self,Int.reduceToNat,Int.toNat_natCast,Bool.not_false,Bool.not_true]
    refine Zcl ?_
    try simp only [midQ,Zab,Zax,Zbf,Zau,Zav,Zbg,Zbh,guardOf,Zac,Zar,Zat,Zae,Zaf,Zaw,Zbp,VOp.isIaddr,QW,dok,dval,VOp.pure,VOp.simple,VOp.det,pok,pval,VA.ev,Env.get,Env.put,Env.keep,Za3,Zbi,Zaz,retQ,resV,Zbq,RS.ev,RS.ok,gd,Zbx,isBool,aggV,intV,binV,Zbk,strV,Zby,Zb1,Zbc,unV,unOk,Zb2,isInt,isStr,numOf,loV,hiV,lenV,Zap,Zbd,Zas,Za7,Za5,Zad,Zbl,Zaa,Zba,Za2,Zan,idxV,Zb3,Zbn,extV,Zbz,Zbr,Za8,mmV,PV.cells,PV.fits,overlay,PV.nth,PV.row,Zbw,Zam,Zbv,Za9,Zbo,Zbm,Zal,Za4,Zbb,Zao,Heap.get,Heap.set,Heap.del,Heap.le,HL.get,HL.set,HL.del,HL.le,Heap.push,Heap.nil,Nat.le_refl,Nat.add_eq_left,Nat.left_eq_add,Nat.succ_ne_self,Nat.one_ne_zero,Env.le,Za0,Zbt,Zak,Zbu,Zai,Zbs,Zay,Zaj,eqOk,ekOk,Zag,Za1,Za6,Zaq,AB.live,pxV,pxOk,fxV,fxOk,Zb0,Zbe,isNil,notNil,List.map,List.set,List.replicate,List.length,List.getD_cons_zero,List.getD_cons_succ,List.getD_nil,List.take,List.drop,List.take_zero,List.drop_zero,List.take_succ_cons,List.drop_succ_cons,List.append,List.cons_append,List.nil_append,Option.map,Nat.reduceEqDiff,Nat.reduceAdd,Nat.reduceLT,Nat.reduceLeDiff,Nat.reduceSub,Nat.reduceMul,reduceIte,Bool.false_eq_true,Bool.true_eq_false,ite_true,ite_false,if_true,if_false,true_and,and_true,implies_true,forall_const,ne_eq,not_false_eq_true,reduceCtorEq,BEq.rfl,beq_self_eq_true,Option.some.injEq,Nat.zero_add,Nat.add_zero,List.length_cons,List.length_nil,true_implies,imp_self,Int.reduceToNat,Int.toNat_natCast,Bool.not_false,Bool.not_true]
    exact View.refl _ _
  have hF:=hb h1
  have hS:=hF.smal
  have I1:=Zcy l hS
  have I2:=sp_ref56_Words l hS
  rw [indexR_eq] at I2
  have hkl:=keysS_len l
  have hol:=occL_len l
  have hww:=hS.words
  have I3:=sp_ref56_Same (indexS l) (by unfold indexS; rw [List.length_map]; omega) (fun e he=>by
    unfold indexS at he
    obtain ⟨k,_,rfl⟩:=List.mem_map.1 he
    have h1:=onceI_len (Zcr l k)
    have h2:=pagesS_len l k
    show (Zck (Zcr l k)).length ≤ _
    omega)
  have I4:=sp_concordance_Find s l hS
  rw [findP_eq] at I4
  have I5:=sp_ref56_Find s l hS
  rw [findR_eq] at I5
  have I6:=sp_ref56_Ints (Zck (Zcr l s)) (by
    have h1:=onceI_len (Zcr l s)
    have h2:=pagesS_len l s
    omega)
  have I4':Zcq Tryz.prog 15 [.str s,.sl 4 (l.map Pg.enc)] (.sl 1 (encI (Zck (Zcr l s)))):=I4
  generalize indexS l = I at I1 I2 I3
  generalize Zck (Zcr l s) = O at I4' I5 I6
  refine Zb8 ?_
  try simp only [midQ,Zab,Zax,Zbf,Zau,Zav,Zbg,Zbh,guardOf,Zac,Zar,Zat,Zae,Zaf,Zaw,Zbp,VOp.isIaddr,QW,dok,dval,VOp.pure,VOp.simple,VOp.det,pok,pval,VA.ev,Env.get,Env.put,Env.keep,Za3,Zbi,Zaz,retQ,resV,Zbq,RS.ev,RS.ok,gd,Zbx,isBool,aggV,intV,binV,Zbk,strV,Zby,Zb1,Zbc,unV,unOk,Zb2,isInt,isStr,numOf,loV,hiV,lenV,Zap,Zbd,Zas,Za7,Za5,Zad,Zbl,Zaa,Zba,Za2,Zan,idxV,Zb3,Zbn,extV,Zbz,Zbr,Za8,mmV,PV.cells,PV.fits,overlay,PV.nth,PV.row,Zbw,Zam,Zbv,Za9,Zbo,Zbm,Zal,Za4,Zbb,Zao,Heap.get,Heap.set,Heap.del,Heap.le,HL.get,HL.set,HL.del,HL.le,Heap.push,Heap.nil,Nat.le_refl,Nat.add_eq_left,Nat.left_eq_add,Nat.succ_ne_self,Nat.one_ne_zero,Env.le,Za0,Zbt,Zak,Zbu,Zai,Zbs,Zay,Zaj,eqOk,ekOk,Zag,Za1,Za6,Zaq,AB.live,pxV,pxOk,fxV,fxOk,Zb0,Zbe,isNil,notNil,List.map,List.set,List.replicate,List.length,List.getD_cons_zero,List.getD_cons_succ,List.getD_nil,List.take,List.drop,List.take_zero,List.drop_zero,List.take_succ_cons,List.drop_succ_cons,List.append,List.cons_append,List.nil_append,Option.map,Nat.reduceEqDiff,Nat.reduceAdd,Nat.reduceLT,Nat.reduceLeDiff,Nat.reduceSub,Nat.reduceMul,reduceIte,Bool.false_eq_true,Bool.true_eq_false,ite_true,ite_false,if_true,if_false,true_and,and_true,implies_true,forall_const,ne_eq,not_false_eq_true,reduceCtorEq,BEq.rfl,beq_self_eq_true,Option.some.injEq,Nat.zero_add,Nat.add_zero,List.length_cons,List.length_nil,true_implies,imp_self,Int.reduceToNat,Int.toNat_natCast,Bool.not_false,Bool.not_true]
  refine Zbj (Zah [4] ?_)
  simp only [midQ,Zab,Zax,Zbf,Zau,Zav,Zbg,Zbh,guardOf,Zac,Zar,Zat,Zae,Zaf,Zaw,Zbp,VOp.isIaddr,QW,dok,dval,VOp.pure,VOp.simple,VOp.det,pok,pval,VA.ev,Env.get,Env.put,Env.keep,Za3,Zbi,Zaz,retQ,resV,Zbq,RS.ev,RS.ok,gd,Zbx,isBool,aggV,intV,binV,Zbk,strV,Zby,Zb1,Zbc,unV,unOk,Zb2,isInt,isStr,numOf,loV,hiV,lenV,Zap,Zbd,Zas,Za7,Za5,Zad,Zbl,Zaa,Zba,Za2,Zan,idxV,Zb3,Zbn,extV,Zbz,Zbr,Za8,mmV,PV.cells,PV.fits,overlay,PV.nth,PV.row,Zbw,Zam,Zbv,Za9,Zbo,Zbm,Zal,Za4,Zbb,Zao,Heap.get,Heap.set,Heap.del,Heap.le,HL.get,HL.set,HL.del,HL.le,Heap.push,Heap.nil,Nat.le_refl,Nat.add_eq_left,Nat.left_eq_add,Nat.succ_ne_self,Nat.one_ne_zero,Env.le,Za0,Zbt,Zak,Zbu,Zai,Zbs,Zay,Zaj,eqOk,ekOk,Zag,Za1,Za6,Zaq,AB.live,pxV,pxOk,fxV,fxOk,Zb0,Zbe,isNil,notNil,List.map,List.set,List.replicate,List.length,List.getD_cons_zero,List.getD_cons_succ,List.getD_nil,List.take,List.drop,List.take_zero,List.drop_zero,List.take_succ_cons,List.drop_succ_cons,List.append,List.cons_append,List.nil_append,Option.map,Nat.reduceEqDiff,Nat.reduceAdd,Nat.reduceLT,Nat.reduceLeDiff,Nat.reduceSub,Nat.reduceMul,reduceIte,Bool.false_eq_true,Bool.true_eq_false,ite_true,ite_false,if_true,if_false,true_and,and_true,implies_true,forall_const,ne_eq,not_false_eq_true,reduceCtorEq,BEq.rfl,beq_self_eq_true,Option.some.injEq,Nat.zero_add,Nat.add_zero,List.length_cons,List.length_nil,true_implies,imp_self,Int.reduceToNat,Int.toNat_natCast,Bool.not_false,Bool.not_true]
  refine Zcg I1 ?_
  try simp only [midQ,Zab,Zax,Zbf,Zau,Zav,Zbg,Zbh,guardOf,Zac,Zar,Zat,Zae,Zaf,Zaw,Zbp,VOp.isIaddr,QW,dok,dval,VOp.pure,VOp.simple,VOp.det,pok,pval,VA.ev,Env.get,Env.put,Env.keep,Za3,Zbi,Zaz,retQ,resV,Zbq,RS.ev,RS.ok,gd,Zbx,isBool,aggV,intV,binV,Zbk,strV,Zby,Zb1,Zbc,unV,unOk,Zb2,isInt,isStr,numOf,loV,hiV,lenV,Zap,Zbd,Zas,Za7,Za5,Zad,Zbl,Zaa,Zba,Za2,Zan,idxV,Zb3,Zbn,extV,Zbz,Zbr,Za8,mmV,PV.cells,PV.fits,overlay,PV.nth,PV.row,Zbw,Zam,Zbv,Za9,Zbo,Zbm,Zal,Za4,Zbb,Zao,Heap.get,Heap.set,Heap.del,Heap.le,HL.get,HL.set,HL.del,HL.le,Heap.push,Heap.nil,Nat.le_refl,Nat.add_eq_left,Nat.left_eq_add,Nat.succ_ne_self,Nat.one_ne_zero,Env.le,Za0,Zbt,Zak,Zbu,Zai,Zbs,Zay,Zaj,eqOk,ekOk,Zag,Za1,Za6,Zaq,AB.live,pxV,pxOk,fxV,fxOk,Zb0,Zbe,isNil,notNil,List.map,List.set,List.replicate,List.length,List.getD_cons_zero,List.getD_cons_succ,List.getD_nil,List.take,List.drop,List.take_zero,List.drop_zero,List.take_succ_cons,List.drop_succ_cons,List.append,List.cons_append,List.nil_append,Option.map,Nat.reduceEqDiff,Nat.reduceAdd,Nat.reduceLT,Nat.reduceLeDiff,Nat.reduceSub,Nat.reduceMul,reduceIte,Bool.false_eq_true,Bool.true_eq_false,ite_true,ite_false,if_true,if_false,true_and,and_true,implies_true,forall_const,ne_eq,not_false_eq_true,reduceCtorEq,BEq.rfl,beq_self_eq_true,Option.some.injEq,Nat.zero_add,Nat.add_zero,List.length_cons,List.length_nil,true_implies,imp_self,Int.reduceToNat,Int.toNat_natCast,Bool.not_false,Bool.not_true]
  refine Zcg I2 ?_
  try simp only [midQ,Zab,Zax,Zbf,Zau,Zav,Zbg,Zbh,guardOf,Zac,Zar,Zat,Zae,Zaf,Zaw,Zbp,VOp.isIaddr,QW,dok,dval,VOp.pure,VOp.simple,VOp.det,pok,pval,VA.ev,Env.get,Env.put,Env.keep,Za3,Zbi,Zaz,retQ,resV,Zbq,RS.ev,RS.ok,gd,Zbx,isBool,aggV,intV,binV,Zbk,strV,Zby,Zb1,Zbc,unV,unOk,Zb2,isInt,isStr,numOf,loV,hiV,lenV,Zap,Zbd,Zas,Za7,Za5,Zad,Zbl,Zaa,Zba,Za2,Zan,idxV,Zb3,Zbn,extV,Zbz,Zbr,Za8,mmV,PV.cells,PV.fits,overlay,PV.nth,PV.row,Zbw,Zam,Zbv,Za9,Zbo,Zbm,Zal,Za4,Zbb,Zao,Heap.get,Heap.set,Heap.del,Heap.le,HL.get,HL.set,HL.del,HL.le,Heap.push,Heap.nil,Nat.le_refl,Nat.add_eq_left,Nat.left_eq_add,Nat.succ_ne_self,Nat.one_ne_zero,Env.le,Za0,Zbt,Zak,Zbu,Zai,Zbs,Zay,Zaj,eqOk,ekOk,Zag,Za1,Za6,Zaq,AB.live,pxV,pxOk,fxV,fxOk,Zb0,Zbe,isNil,notNil,List.map,List.set,List.replicate,List.length,List.getD_cons_zero,List.getD_cons_succ,List.getD_nil,List.take,List.drop,List.take_zero,List.drop_zero,List.take_succ_cons,List.drop_succ_cons,List.append,List.cons_append,List.nil_append,Option.map,Nat.reduceEqDiff,Nat.reduceAdd,Nat.reduceLT,Nat.reduceLeDiff,Nat.reduceSub,Nat.reduceMul,reduceIte,Bool.false_eq_true,Bool.true_eq_false,ite_true,ite_false,if_true,if_false,true_and,and_true,implies_true,forall_const,ne_eq,not_false_eq_true,reduceCtorEq,BEq.rfl,beq_self_eq_true,Option.some.injEq,Nat.zero_add,Nat.add_zero,List.length_cons,List.length_nil,true_implies,imp_self,Int.reduceToNat,Int.toNat_natCast,Bool.not_false,Bool.not_true]
  refine Zcg I3 ?_
  try simp only [midQ,Zab,Zax,Zbf,Zau,Zav,Zbg,Zbh,guardOf,Zac,Zar,Zat,Zae,Zaf,Zaw,Zbp,VOp.isIaddr,QW,dok,dval,VOp.pure,VOp.simple,VOp.det,pok,pval,VA.ev,Env.get,Env.put,Env.keep,Za3,Zbi,Zaz,retQ,resV,Zbq,RS.ev,RS.ok,gd,Zbx,isBool,aggV,intV,binV,Zbk,strV,Zby,Zb1,Zbc,unV,unOk,Zb2,isInt,isStr,numOf,loV,hiV,lenV,Zap,Zbd,Zas,Za7,Za5,Zad,Zbl,Zaa,Zba,Za2,Zan,idxV,Zb3,Zbn,extV,Zbz,Zbr,Za8,mmV,PV.cells,PV.fits,overlay,PV.nth,PV.row,Zbw,Zam,Zbv,Za9,Zbo,Zbm,Zal,Za4,Zbb,Zao,Heap.get,Heap.set,Heap.del,Heap.le,HL.get,HL.set,HL.del,HL.le,Heap.push,Heap.nil,Nat.le_refl,Nat.add_eq_left,Nat.left_eq_add,Nat.succ_ne_self,Nat.one_ne_zero,Env.le,Za0,Zbt,Zak,Zbu,Zai,Zbs,Zay,Zaj,eqOk,ekOk,Zag,Za1,Za6,Zaq,AB.live,pxV,pxOk,fxV,fxOk,Zb0,Zbe,isNil,notNil,List.map,List.set,List.replicate,List.length,List.getD_cons_zero,List.getD_cons_succ,List.getD_nil,List.take,List.drop,List.take_zero,List.drop_zero,List.take_succ_cons,List.drop_succ_cons,List.append,List.cons_append,List.nil_append,Option.map,Nat.reduceEqDiff,Nat.reduceAdd,Nat.reduceLT,Nat.reduceLeDiff,Nat.reduceSub,Nat.reduceMul,reduceIte,Bool.false_eq_true,Bool.true_eq_false,ite_true,ite_false,if_true,if_false,true_and,and_true,implies_true,forall_const,ne_eq,not_false_eq_true,reduceCtorEq,BEq.rfl,beq_self_eq_true,Option.some.injEq,Nat.zero_add,Nat.add_zero,List.length_cons,List.length_nil,true_implies,imp_self,Int.reduceToNat,Int.toNat_natCast,Bool.not_false,Bool.not_true]
  refine Zcg I4' ?_
  try simp only [midQ,Zab,Zax,Zbf,Zau,Zav,Zbg,Zbh,guardOf,Zac,Zar,Zat,Zae,Zaf,Zaw,Zbp,VOp.isIaddr,QW,dok,dval,VOp.pure,VOp.simple,VOp.det,pok,pval,VA.ev,Env.get,Env.put,Env.keep,Za3,Zbi,Zaz,retQ,resV,Zbq,RS.ev,RS.ok,gd,Zbx,isBool,aggV,intV,binV,Zbk,strV,Zby,Zb1,Zbc,unV,unOk,Zb2,isInt,isStr,numOf,loV,hiV,lenV,Zap,Zbd,Zas,Za7,Za5,Zad,Zbl,Zaa,Zba,Za2,Zan,idxV,Zb3,Zbn,extV,Zbz,Zbr,Za8,mmV,PV.cells,PV.fits,overlay,PV.nth,PV.row,Zbw,Zam,Zbv,Za9,Zbo,Zbm,Zal,Za4,Zbb,Zao,Heap.get,Heap.set,Heap.del,Heap.le,HL.get,HL.set,HL.del,HL.le,Heap.push,Heap.nil,Nat.le_refl,Nat.add_eq_left,Nat.left_eq_add,Nat.succ_ne_self,Nat.one_ne_zero,Env.le,Za0,Zbt,Zak,Zbu,Zai,Zbs,Zay,Zaj,eqOk,ekOk,Zag,Za1,Za6,Zaq,AB.live,pxV,pxOk,fxV,fxOk,Zb0,Zbe,isNil,notNil,List.map,List.set,List.replicate,List.length,List.getD_cons_zero,List.getD_cons_succ,List.getD_nil,List.take,List.drop,List.take_zero,List.drop_zero,List.take_succ_cons,List.drop_succ_cons,List.append,List.cons_append,List.nil_append,Option.map,Nat.reduceEqDiff,Nat.reduceAdd,Nat.reduceLT,Nat.reduceLeDiff,Nat.reduceSub,Nat.reduceMul,reduceIte,Bool.false_eq_true,Bool.true_eq_false,ite_true,ite_false,if_true,if_false,true_and,and_true,implies_true,forall_const,ne_eq,not_false_eq_true,reduceCtorEq,BEq.rfl,beq_self_eq_true,Option.some.injEq,Nat.zero_add,Nat.add_zero,List.length_cons,List.length_nil,true_implies,imp_self,Int.reduceToNat,Int.toNat_natCast,Bool.not_false,Bool.not_true]
  refine Zcg I5 ?_
  try simp only [midQ,Zab,Zax,Zbf,Zau,Zav,Zbg,Zbh,guardOf,Zac,Zar,Zat,Zae,Zaf,Zaw,Zbp,VOp.isIaddr,QW,dok,dval,VOp.pure,VOp.simple,VOp.det,pok,pval,VA.ev,Env.get,Env.put,Env.keep,Za3,Zbi,Zaz,retQ,resV,Zbq,RS.ev,RS.ok,gd,Zbx,isBool,aggV,intV,binV,Zbk,strV,Zby,Zb1,Zbc,unV,unOk,Zb2,isInt,isStr,numOf,loV,hiV,lenV,Zap,Zbd,Zas,Za7,Za5,Zad,Zbl,Zaa,Zba,Za2,Zan,idxV,Zb3,Zbn,extV,Zbz,Zbr,Za8,mmV,PV.cells,PV.fits,overlay,PV.nth,PV.row,Zbw,Zam,Zbv,Za9,Zbo,Zbm,Zal,Za4,Zbb,Zao,Heap.get,Heap.set,Heap.del,Heap.le,HL.get,HL.set,HL.del,HL.le,Heap.push,Heap.nil,Nat.le_refl,Nat.add_eq_left,Nat.left_eq_add,Nat.succ_ne_self,Nat.one_ne_zero,Env.le,Za0,Zbt,Zak,Zbu,Zai,Zbs,Zay,Zaj,eqOk,ekOk,Zag,Za1,Za6,Zaq,AB.live,pxV,pxOk,fxV,fxOk,Zb0,Zbe,isNil,notNil,List.map,List.set,List.replicate,List.length,List.getD_cons_zero,List.getD_cons_succ,List.getD_nil,List.take,List.drop,List.take_zero,List.drop_zero,List.take_succ_cons,List.drop_succ_cons,List.append,List.cons_append,List.nil_append,Option.map,Nat.reduceEqDiff,Nat.reduceAdd,Nat.reduceLT,Nat.reduceLeDiff,Nat.reduceSub,Nat.reduceMul,reduceIte,Bool.false_eq_true,Bool.true_eq_false,ite_true,ite_false,if_true,if_false,true_and,and_true,implies_true,forall_const,ne_eq,not_false_eq_true,reduceCtorEq,BEq.rfl,beq_self_eq_true,Option.some.injEq,Nat.zero_add,Nat.add_zero,List.length_cons,List.length_nil,true_implies,imp_self,Int.reduceToNat,Int.toNat_natCast,Bool.not_false,Bool.not_true]
  refine Zcg I6 ?_
  try simp only [midQ,Zab,Zax,Zbf,Zau,Zav,Zbg,Zbh,guardOf,Zac,Zar,Zat,Zae,Zaf,Zaw,Zbp,VOp.isIaddr,QW,dok,dval,VOp.pure,VOp.simple,VOp.det,pok,pval,VA.ev,Env.get,Env.put,Env.keep,Za3,Zbi,Zaz,retQ,resV,Zbq,RS.ev,RS.ok,gd,Zbx,isBool,aggV,intV,binV,Zbk,strV,Zby,Zb1,Zbc,unV,unOk,Zb2,isInt,isStr,numOf,loV,hiV,lenV,Zap,Zbd,Zas,Za7,Za5,Zad,Zbl,Zaa,Zba,Za2,Zan,idxV,Zb3,Zbn,extV,Zbz,Zbr,Za8,mmV,PV.cells,PV.fits,overlay,PV.nth,PV.row,Zbw,Zam,Zbv,Za9,Zbo,Zbm,Zal,Za4,Zbb,Zao,Heap.get,Heap.set,Heap.del,Heap.le,HL.get,HL.set,HL.del,HL.le,Heap.push,Heap.nil,Nat.le_refl,Nat.add_eq_left,Nat.left_eq_add,Nat.succ_ne_self,Nat.one_ne_zero,Env.le,Za0,Zbt,Zak,Zbu,Zai,Zbs,Zay,Zaj,eqOk,ekOk,Zag,Za1,Za6,Zaq,AB.live,pxV,pxOk,fxV,fxOk,Zb0,Zbe,isNil,notNil,List.map,List.set,List.replicate,List.length,List.getD_cons_zero,List.getD_cons_succ,List.getD_nil,List.take,List.drop,List.take_zero,List.drop_zero,List.take_succ_cons,List.drop_succ_cons,List.append,List.cons_append,List.nil_append,Option.map,Nat.reduceEqDiff,Nat.reduceAdd,Nat.reduceLT,Nat.reduceLeDiff,Nat.reduceSub,Nat.reduceMul,reduceIte,Bool.false_eq_true,Bool.true_eq_false,ite_true,ite_false,if_true,if_false,true_and,and_true,implies_true,forall_const,ne_eq,not_false_eq_true,reduceCtorEq,BEq.rfl,beq_self_eq_true,Option.some.injEq,Nat.zero_add,Nat.add_zero,List.length_cons,List.length_nil,true_implies,imp_self,Int.reduceToNat,Int.toNat_natCast,Bool.not_false,Bool.not_true]
  refine Zcg A ?_
  try simp only [midQ,Zab,Zax,Zbf,Zau,Zav,Zbg,Zbh,guardOf,Zac,Zar,Zat,Zae,Zaf,Zaw,Zbp,VOp.isIaddr,QW,dok,dval,VOp.pure,VOp.simple,VOp.det,pok,pval,VA.ev,Env.get,Env.put,Env.keep,Za3,Zbi,Zaz,retQ,resV,Zbq,RS.ev,RS.ok,gd,Zbx,isBool,aggV,intV,binV,Zbk,strV,Zby,Zb1,Zbc,unV,unOk,Zb2,isInt,isStr,numOf,loV,hiV,lenV,Zap,Zbd,Zas,Za7,Za5,Zad,Zbl,Zaa,Zba,Za2,Zan,idxV,Zb3,Zbn,extV,Zbz,Zbr,Za8,mmV,PV.cells,PV.fits,overlay,PV.nth,PV.row,Zbw,Zam,Zbv,Za9,Zbo,Zbm,Zal,Za4,Zbb,Zao,Heap.get,Heap.set,Heap.del,Heap.le,HL.get,HL.set,HL.del,HL.le,Heap.push,Heap.nil,Nat.le_refl,Nat.add_eq_left,Nat.left_eq_add,Nat.succ_ne_self,Nat.one_ne_zero,Env.le,Za0,Zbt,Zak,Zbu,Zai,Zbs,Zay,Zaj,eqOk,ekOk,Zag,Za1,Za6,Zaq,AB.live,pxV,pxOk,fxV,fxOk,Zb0,Zbe,isNil,notNil,List.map,List.set,List.replicate,List.length,List.getD_cons_zero,List.getD_cons_succ,List.getD_nil,List.take,List.drop,List.take_zero,List.drop_zero,List.take_succ_cons,List.drop_succ_cons,List.append,List.cons_append,List.nil_append,Option.map,Nat.reduceEqDiff,Nat.reduceAdd,Nat.reduceLT,Nat.reduceLeDiff,Nat.reduceSub,Nat.reduceMul,reduceIte,Bool.false_eq_true,Bool.true_eq_false,ite_true,ite_false,if_true,if_false,true_and,and_true,implies_true,forall_const,ne_eq,not_false_eq_true,reduceCtorEq,BEq.rfl,beq_self_eq_true,Option.some.injEq,Nat.zero_add,Nat.add_zero,List.length_cons,List.length_nil,true_implies,imp_self,Int.reduceToNat,Int.toNat_natCast,Bool.not_false,Bool.not_true]
  refine Zcl ?_
  try simp only [midQ,Zab,Zax,Zbf,Zau,Zav,Zbg,Zbh,guardOf,Zac,Zar,Zat,Zae,Zaf,Zaw,Zbp,VOp.isIaddr,QW,dok,dval,VOp.pure,VOp.simple,VOp.det,pok,pval,VA.ev,Env.get,Env.put,Env.keep,Za3,Zbi,Zaz,retQ,resV,Zbq,RS.ev,RS.ok,gd,Zbx,isBool,aggV,intV,binV,Zbk,strV,Zby,Zb1,Zbc,unV,unOk,Zb2,isInt,isStr,numOf,loV,hiV,lenV,Zap,Zbd,Zas,Za7,Za5,Zad,Zbl,Zaa,Zba,Za2,Zan,idxV,Zb3,Zbn,extV,Zbz,Zbr,Za8,mmV,PV.cells,PV.fits,overlay,PV.nth,PV.row,Zbw,Zam,Zbv,Za9,Zbo,Zbm,Zal,Za4,Zbb,Zao,Heap.get,Heap.set,Heap.del,Heap.le,HL.get,HL.set,HL.del,HL.le,Heap.push,Heap.nil,Nat.le_refl,Nat.add_eq_left,Nat.left_eq_add,Nat.succ_ne_self,Nat.one_ne_zero,Env.le,Za0,Zbt,Zak,Zbu,Zai,Zbs,Zay,Zaj,eqOk,ekOk,Zag,Za1,Za6,Zaq,AB.live,pxV,pxOk,fxV,fxOk,Zb0,Zbe,isNil,notNil,List.map,List.set,List.replicate,List.length,List.getD_cons_zero,List.getD_cons_succ,List.getD_nil,List.take,List.drop,List.take_zero,List.drop_zero,List.take_succ_cons,List.drop_succ_cons,List.append,List.cons_append,List.nil_append,Option.map,Nat.reduceEqDiff,Nat.reduceAdd,Nat.reduceLT,Nat.reduceLeDiff,Nat.reduceSub,Nat.reduceMul,reduceIte,Bool.false_eq_true,Bool.true_eq_false,ite_true,ite_false,if_true,if_false,true_and,and_true,implies_true,forall_const,ne_eq,not_false_eq_true,reduceCtorEq,BEq.rfl,beq_self_eq_true,Option.some.injEq,Nat.zero_add,Nat.add_zero,List.length_cons,List.length_nil,true_implies,imp_self,Int.reduceToNat,Int.toNat_natCast,Bool.not_false,Bool.not_true]
  exact View.refl _ _
end Go.Proofs.YtjmekckcffckoabGreatDoor.w
namespace Go.Proofs.YtjmekckcffckoabGreatDoor.w
open Go Go.VM
theorem known_tab (b:Nat) (l:List Value) (h:known.lookup b = some l):b = 1 ∧ l = Lib.pow10Tab.map fun z=>Value.int .u64 z:=by
  have e:known = [(1,Lib.pow10Tab.map fun z=>Value.int .u64 z)]:=by kernel_rfl
  rw [e] at h
  simp only [List.lookup] at h
  split at h
  · rename_i hb
    simp only [Option.some.injEq] at h
    exact ⟨by simpa using hb,h.symm⟩
  · cases h
theorem knownW_of {W : World} {rest : List (String × DataW Unit)} (h : laidMetH Tryz.prog rest W) (hf : rest.filter (fun x => x.1 == "internal/strconv.uint64pow10") = [("internal/strconv.uint64pow10", Lib.tabData .u64 Lib.pow10Tab)]) (hn : (rest.filter fun x => x.2.handleName?.isNone) = rest) : KnownW W := by
  have h1:=(laidMetH_iff.1 h).1
  rw [hn] at h1
  have h2 := h1.filter (fun x => x.1 == "internal/strconv.uint64pow10")
  rw [hf] at h2
  have hg : Tryz.prog.globalNamed "internal/strconv.uint64pow10" = some 1 := by kernel_rfl
  have tab:=Lib.tabIs_of_head (P:=Tryz.prog) (t:=226) (e:=175) (n:=20) hg (by kernel_rfl) Tryz.underlying226 Tryz.underlying175 (by kernel_rfl) (by kernel_rfl) h2
  intro b l hl
  obtain ⟨rfl,rfl⟩:=known_tab b l hl
  refine ⟨?_,fun v hv=>?_⟩
  · unfold Lib.TabIs World.var? at tab
    rw [hg] at tab
    simp only [Option.bind_some] at tab
    split at tab
    · rename_i c t fr hh
      simp only [Option.some.injEq] at tab
      exact ⟨t,fr,by rw [hh,tab]⟩
    · cases tab
  · obtain ⟨z,_,rfl⟩:=List.mem_map.1 hv
    rfl
end Go.Proofs.YtjmekckcffckoabGreatDoor.w
namespace Go.Proofs.YtjmekckcffckoabGreatDoor.w
open Go Go.VM
theorem bulk_part {H:Type} {d:DataW H}:∀ {l:List (DataW H)},d ∈ l → Rows.uptoBulk d ≤ Rows.uptoBulkAll l
  | x :: r,h=>by
    simp only [Rows.uptoBulkAll]
    rcases List.mem_cons.1 h with e | e
    · subst e; omega
    · have:=bulk_part e; omega
theorem bulk_one {H:Type} (d:DataW H):1 ≤ Rows.uptoBulk d:=by
  cases d with
  | lit l=>cases l <;> simp [Rows.uptoBulk]
  | nil=>simp [Rows.uptoBulk]
  | ptr d=>simp [Rows.uptoBulk]
  | slice elems spare=>simp [Rows.uptoBulk]
  | agg parts=>simp [Rows.uptoBulk]
  | iface t d=>simp [Rows.uptoBulk]
  | map entries=>simp [Rows.uptoBulk]
  | held h=>simp [Rows.uptoBulk]
theorem bulk_len {H:Type}:∀ l:List (DataW H),l.length ≤ Rows.uptoBulkAll l
  | []=>by simp [Rows.uptoBulkAll]
  | x :: r=>by have:=bulk_one x; have:=bulk_len r; simp only [Rows.uptoBulkAll,List.length_cons]; omega
theorem bulky {H:Type}:Bulky (Rows.uptoBulk (H:=H)) :=
  ⟨fun s=>by simp only [Rows.uptoBulk]; omega,fun es sp=>by have:=bulk_len es; simp only [Rows.uptoBulk]; omega,fun es sp d h=>by have:=bulk_part h; simp only [Rows.uptoBulk]; omega,fun ps d h=>by have:=bulk_part h; simp only [Rows.uptoBulk]; omega⟩
theorem bulk_bound {H:Type} {l:List (DataW H)} (h:Rows.uptoSmall H (l ++ []) = true):∀ d ∈ l,Rows.uptoBulk d ≤ bulkB:=fun d hd=>by
  rw [List.append_nil] at h
  have h1:Rows.uptoBulkAll l ≤ 1048576:=of_decide_eq_true h
  exact Nat.le_trans (bulk_part hd) h1
end Go.Proofs.YtjmekckcffckoabGreatDoor.w
