import Derived.Test.YtjmekckcffckoabGreatDoorRdU
import Derived.Test.YtjmekckcffckoabGreatDoorVmT
import Derived.Test.YtjmekckcffckoabGreatDoorK6
import Derived.Test.YtjmekckcffckoabGreatDoorR3
set_option linter.all false
namespace Go.Proofs.YtjmekckcffckoabGreatDoor.w
open Go Go.VM
set_option maxRecDepth 20000
set_option maxHeartbeats 0
set_option pp.deepTerms false
def c_pandectref56_Few:VC:=(.seq (.region [ZO 2 (.mv (.c (.bool false)))] false) (.seq (.region [ZO 3 (.mv (.c (.int .i64 0)))] false) (.seq (.seq (.region [ZO 4 (.mv (.c (.int .i64 0)))] false) (.block 0 (.loop (.seq (.seq (.region [ZM 7 4,ZM 8 0,ZO 9 (.len false (.t 8)),ZO 10 (.bin .lss (.t 7) (.t 9))] false) (.cond (.t 10) .skip (.exit 0))) (.seq (.block 1 (.seq (.draw2 [ZO 13 (.fx (.mk0 1) []),ZM 14 0,ZM 15 4,ZO 16 (.iaddr 4 (.t 14) (.t 15)),ZO 17 (.faddr 2 (.t 16)),ZO 18 (.load false 1 (.t 17)),ZO 19 (.app 1 16 [(.str [])] false (.t 13) (.t 18)),ZM 20 0,ZM 21 4,ZO 22 (.iaddr 4 (.t 20) (.t 21)),ZO 23 (.faddr 3 (.t 22)),ZO 24 (.load false 1 (.t 23)),ZO 25 (.app 1 16 [(.str [])] false (.t 19) (.t 24)),ZM 5 25] [false,false,false,false,false,false,false,false,false,false,false,false,false,false]) (.seq (.seq (.region [ZO 6 (.mv (.c (.int .i64 0)))] false) (.block 2 (.loop (.seq (.seq (.region [ZM 26 6,ZM 27 5,ZO 28 (.len false (.t 27)),ZO 29 (.bin .lss (.t 26) (.t 28))] false) (.cond (.t 29) .skip (.exit 2))) (.seq (.block 3 (.region [ZM 32 3,ZM 33 5,ZM 34 6,ZO 35 (.iaddr 1 (.t 33) (.t 34)),ZO 36 (.load false 1 (.t 35)),ZO 37 (.len true (.t 36)),ZO 38 (.bin .add (.t 32) (.t 37)),ZM 3 38] false)) (.region [ZM 30 6,ZO 31 (.bin .add (.t 30) (.c (.int .i64 1))),ZM 6 31] false)))))) (.seq (.region [ZM 39 5,ZO 40 (.len false (.t 39)),ZO 41 (.bin .gtr (.t 40) (.c (.int .i64 60))),ZM 42 41,ZG 43 (.mv (.t 3)) 42 false,ZG 44 (.bin .gtr (.t 43) (.c (.int .i64 3000))) 42 false,ZO 45 (.pick (.t 42) (.c (.bool true)) (.t 44))] false) (.cond (.t 45) (.seq (.region [ZO 2 (.mv (.c (.bool false)))] false) .ret) .skip))))) (.region [ZM 11 4,ZO 12 (.bin .add (.t 11) (.c (.int .i64 1))),ZM 4 12] false)))))) (.seq (.region [ZM 46 0,ZO 47 (.len false (.t 46)),ZO 48 (.bin .leq (.t 47) (.c (.int .i64 20))),ZM 2 48] false) .ret))))
def sumB (L:List Str):Nat:=(L.map List.length).sum
def bytesL (l:List Pg):Nat:=sumB (l.flatMap Zcs)
theorem sumB_app (a b:List Str):sumB (a ++ b) = sumB a + sumB b:=by simp [sumB]
theorem sumB_step {L:List Str} {k:Nat} (h:k < L.length):sumB (L.take (k + 1)) = sumB (L.take k) + L[k].length:=by
  rw [List.take_add_one,List.getElem?_eq_getElem h,sumB_app]; simp [sumB]
theorem sumB_bound {m:Nat}:∀ L:List Str,(∀ s ∈ L,s.length ≤ m) → sumB L ≤ L.length * m
  | [],_=>by simp [sumB]
  | a :: r,h=>by
    have h1:=sumB_bound r fun s hs=>h s (List.mem_cons_of_mem _ hs)
    have h2:=h a List.mem_cons_self
    have e:sumB (a :: r) = a.length + sumB r:=by simp [sumB]
    rw [e,List.length_cons,Nat.add_mul]; omega
theorem bytesL_step {l:List Pg} {k:Nat} (h:k < l.length):bytesL (l.take (k + 1)) = bytesL (l.take k) + sumB (Zcs l[k]):=by
  unfold bytesL
  rw [List.take_add_one,List.getElem?_eq_getElem h,List.flatMap_append,sumB_app]; simp
structure FewP (l : List Pg) : Prop where
  len : l.length ≤ 20
  lines : ∀ p ∈ l, (Zcs p).length ≤ 60
  bytes : bytesL l ≤ 3000
theorem fields_len (s:Str):(Zb9 s).length ≤ s.length + 1:=by
  have h1:=fldF_count s []
  have h2:(cutF [] s).filter (fun x=>x != []) = Zb9 s:=cut_fields s []
  rw [← h2]
  exact Nat.le_trans (List.length_filter_le _ _) h1
theorem flat_len:∀ L:List Str,(L.flatMap Zb9).length ≤ sumB L + L.length
  | []=>by simp [sumB]
  | a :: r=>by
    have h1:=flat_len r
    have h2:=fields_len a
    have e:sumB (a :: r) = a.length + sumB r:=by simp [sumB]
    rw [List.flatMap_cons,List.length_append,e,List.length_cons]; omega
theorem sumB_mem {L:List Str} {s:Str} (h:s ∈ L):s.length ≤ sumB L:=by
  obtain ⟨a,b,rfl⟩:=List.append_of_mem h
  rw [sumB_app]
  have e:sumB (s :: b) = s.length + sumB b:=by simp [sumB]
  omega
theorem FewP.smal {l:List Pg} (h:FewP l):SmalP l:=by
  have hl:=h.len
  have hb:=h.bytes
  refine ⟨by omega,?_,fun p hp=>Nat.le_trans (h.lines p hp) (by decide),fun p hp s hs=>?_⟩
  · have e:Zcp l = (l.flatMap Zcs).flatMap Zb9:=by unfold Zcp Zcz; rw [List.flatMap_assoc]
    have h1:=flat_len (l.flatMap Zcs)
    have h2:(l.flatMap Zcs).length ≤ l.length * 60:=by
      have:∀ r:List Pg,(∀ p ∈ r,(Zcs p).length ≤ 60) → (r.flatMap Zcs).length ≤ r.length * 60:=by
        intro r
        induction r with
        | nil=>intro _; simp
        | cons a r ih =>
          intro hr
          have i1:=ih fun p hp=>hr p (List.mem_cons_of_mem _ hp)
          have i2:=hr a List.mem_cons_self
          rw [List.flatMap_cons,List.length_append,List.length_cons,Nat.add_mul]; omega
      exact this l h.lines
    rw [e]
    unfold bytesL at hb
    omega
  · have:s.length ≤ sumB (l.flatMap Zcs):=sumB_mem (List.mem_flatMap.2 ⟨p,hp,hs⟩)
    unfold bytesL at hb
    omega
theorem few_no {h:Heap} {Z:Prop}:∃ p,View h (.bool false) p ∧ (∃ b,p = .bool b ∧ (b = true → Z)) ∧ Closed p:=⟨_,View.refl _ _,⟨false,rfl,fun h=>Bool.noConfusion h⟩,cB _⟩
theorem sp_ref56_Few (l:List Pg) (hok:rd.okU rd.okPg l):PCallS Tryz.prog 10 [.sl 4 (l.map Pg.enc)] (fun p=>∃ b,p = .bool b ∧ (b = true → FewP l)):=by
  refine PCallS_intro ?_ (by intro y hy; rw [List.mem_singleton] at hy; subst hy; exact closed_pgs _)
  have hll:l.length ≤ 1048576:=hok.1
  refine Zct (vc:=c_pandectref56_Few) (ts:=[.t 2]) Go.Proofs.Tryz.func10 (by kernel_rfl) rfl rfl (Nat.le_of_ble_eq_true rfl) (by kernel_rfl) ?_
  unfold c_pandectref56_Few
  try dsimp only [ZM,ZO,ZN,ZG]
  refine Za1 (Zac [0] ?_)
  simp only [midQ,Zaa,Zai,Zbi,Zav,Zaw,Zbj,Zay,guardOf,Zad,Zas,Zau,Zaf,Zah,Zax,Zbp,VOp.isIaddr,QW,dok,dval,VOp.pure,VOp.simple,VOp.det,pok,pval,VA.ev,Env.get,Env.put,Env.keep,Za7,Zaz,Za2,retQ,resV,Zbq,RS.ev,RS.ok,gd,Zbx,isBool,aggV,intV,binV,Zbk,strV,Zby,Zb1,Zbf,unV,unOk,Zb2,isInt,isStr,numOf,loV,hiV,lenV,Zaq,Zbg,Zat,Zbb,Za9,Zae,Zbl,Zab,Zbd,Za6,Zao,idxV,Zb3,Zbn,extV,Zbz,Zbr,Zbc,mmV,PV.cells,PV.fits,overlay,PV.nth,PV.row,Zbw,Zan,Zbv,Za8,Zbo,Zbm,Zak,Za5,Zbe,Zap,Heap.get,Heap.set,Heap.del,Heap.le,HL.get,HL.set,HL.del,HL.le,Heap.push,Heap.nil,Nat.le_refl,Nat.add_eq_left,Nat.left_eq_add,Nat.succ_ne_self,Nat.one_ne_zero,Env.le,Za3,Zbt,Zam,Zbu,Zaj,Zbs,Za0,Zal,eqOk,ekOk,Zag,Za4,Zba,Zar,AB.live,pxV,pxOk,fxV,fxOk,Zb0,Zbh,isNil,notNil,List.map,List.set,List.replicate,List.length,List.getD_cons_zero,List.getD_cons_succ,List.getD_nil,List.take,List.drop,List.take_zero,List.drop_zero,List.take_succ_cons,List.drop_succ_cons,List.append,List.cons_append,List.nil_append,Option.map,Nat.reduceEqDiff,Nat.reduceAdd,Nat.reduceLT,Nat.reduceLeDiff,Nat.reduceSub,Nat.reduceMul,reduceIte,Bool.false_eq_true,Bool.true_eq_false,ite_true,ite_false,if_true,if_false,true_and,and_true,implies_true,forall_const,ne_eq,not_false_eq_true,reduceCtorEq,BEq.rfl,beq_self_eq_true,Option.some.injEq,Nat.zero_add,Nat.add_zero,List.length_cons,List.length_nil,true_implies,imp_self,Int.reduceToNat,Int.toNat_natCast,Bool.not_false,Bool.not_true]
  refine Za1 (Zac [0,3] ?_)
  simp only [midQ,Zaa,Zai,Zbi,Zav,Zaw,Zbj,Zay,guardOf,Zad,Zas,Zau,Zaf,Zah,Zax,Zbp,VOp.isIaddr,QW,dok,dval,VOp.pure,VOp.simple,VOp.det,pok,pval,VA.ev,Env.get,Env.put,Env.keep,Za7,Zaz,Za2,retQ,resV,Zbq,RS.ev,RS.ok,gd,Zbx,isBool,aggV,intV,binV,Zbk,strV,Zby,Zb1,Zbf,unV,unOk,Zb2,isInt,isStr,numOf,loV,hiV,lenV,Zaq,Zbg,Zat,Zbb,Za9,Zae,Zbl,Zab,Zbd,Za6,Zao,idxV,Zb3,Zbn,extV,Zbz,Zbr,Zbc,mmV,PV.cells,PV.fits,overlay,PV.nth,PV.row,Zbw,Zan,Zbv,Za8,Zbo,Zbm,Zak,Za5,Zbe,Zap,Heap.get,Heap.set,Heap.del,Heap.le,HL.get,HL.set,HL.del,HL.le,Heap.push,Heap.nil,Nat.le_refl,Nat.add_eq_left,Nat.left_eq_add,Nat.succ_ne_self,Nat.one_ne_zero,Env.le,Za3,Zbt,Zam,Zbu,Zaj,Zbs,Za0,Zal,eqOk,ekOk,Zag,Za4,Zba,Zar,AB.live,pxV,pxOk,fxV,fxOk,Zb0,Zbh,isNil,notNil,List.map,List.set,List.replicate,List.length,List.getD_cons_zero,List.getD_cons_succ,List.getD_nil,List.take,List.drop,List.take_zero,List.drop_zero,List.take_succ_cons,List.drop_succ_cons,List.append,List.cons_append,List.nil_append,Option.map,Nat.reduceEqDiff,Nat.reduceAdd,Nat.reduceLT,Nat.reduceLeDiff,Nat.reduceSub,Nat.reduceMul,reduceIte,Bool.false_eq_true,Bool.true_eq_false,ite_true,ite_false,if_true,if_false,true_and,and_true,implies_true,forall_const,ne_eq,not_false_eq_true,reduceCtorEq,BEq.rfl,beq_self_eq_true,Option.some.injEq,Nat.zero_add,Nat.add_zero,List.length_cons,List.length_nil,true_implies,imp_self,Int.reduceToNat,Int.toNat_natCast,Bool.not_false,Bool.not_true]
  refine Za1 ?_
  refine Za1 (Zac [0,3,4] ?_)
  simp only [midQ,Zaa,Zai,Zbi,Zav,Zaw,Zbj,Zay,guardOf,Zad,Zas,Zau,Zaf,Zah,Zax,Zbp,VOp.isIaddr,QW,dok,dval,VOp.pure,VOp.simple,VOp.det,pok,pval,VA.ev,Env.get,Env.put,Env.keep,Za7,Zaz,Za2,retQ,resV,Zbq,RS.ev,RS.ok,gd,Zbx,isBool,aggV,intV,binV,Zbk,strV,Zby,Zb1,Zbf,unV,unOk,Zb2,isInt,isStr,numOf,loV,hiV,lenV,Zaq,Zbg,Zat,Zbb,Za9,Zae,Zbl,Zab,Zbd,Za6,Zao,idxV,Zb3,Zbn,extV,Zbz,Zbr,Zbc,mmV,PV.cells,PV.fits,overlay,PV.nth,PV.row,Zbw,Zan,Zbv,Za8,Zbo,Zbm,Zak,Za5,Zbe,Zap,Heap.get,Heap.set,Heap.del,Heap.le,HL.get,HL.set,HL.del,HL.le,Heap.push,Heap.nil,Nat.le_refl,Nat.add_eq_left,Nat.left_eq_add,Nat.succ_ne_self,Nat.one_ne_zero,Env.le,Za3,Zbt,Zam,Zbu,Zaj,Zbs,Za0,Zal,eqOk,ekOk,Zag,Za4,Zba,Zar,AB.live,pxV,pxOk,fxV,fxOk,Zb0,Zbh,isNil,notNil,List.map,List.set,List.replicate,List.length,List.getD_cons_zero,List.getD_cons_succ,List.getD_nil,List.take,List.drop,List.take_zero,List.drop_zero,List.take_succ_cons,List.drop_succ_cons,List.append,List.cons_append,List.nil_append,Option.map,Nat.reduceEqDiff,Nat.reduceAdd,Nat.reduceLT,Nat.reduceLeDiff,Nat.reduceSub,Nat.reduceMul,reduceIte,Bool.false_eq_true,Bool.true_eq_false,ite_true,ite_false,if_true,if_false,true_and,and_true,implies_true,forall_const,ne_eq,not_false_eq_true,reduceCtorEq,BEq.rfl,beq_self_eq_true,Option.some.injEq,Nat.zero_add,Nat.add_zero,List.length_cons,List.length_nil,true_implies,imp_self,Int.reduceToNat,Int.toNat_natCast,Bool.not_false,Bool.not_true]
  refine Zb5 ?_
  refine Zcm (σ:={ x:Nat × Nat // x.1 ≤ l.length ∧ (∀ p ∈ l.take x.1,(Zcs p).length ≤ 60) ∧ bytesL (l.take x.1) ≤ 3000 }) (fun x=>([(0,.sl 4 (l.map Pg.enc)),(3,pI (bytesL (l.take x.1.1))),(4,pI x.1.1)],⟨[],x.1.2⟩)) (fun x=>l.length - x.1.1) ⟨(0,0),Nat.zero_le _,by simp,by simp [bytesL,sumB]⟩ ?_ ?_ ?_
  · try simp only [midQ,Zaa,Zai,Zbi,Zav,Zaw,Zbj,Zay,guardOf,Zad,Zas,Zau,Zaf,Zah,Zax,Zbp,VOp.isIaddr,QW,dok,dval,VOp.pure,VOp.simple,VOp.det,pok,pval,VA.ev,Env.get,Env.put,Env.keep,Za7,Zaz,Za2,retQ,resV,Zbq,RS.ev,RS.ok,gd,Zbx,isBool,aggV,intV,binV,Zbk,strV,Zby,Zb1,Zbf,unV,unOk,Zb2,isInt,isStr,numOf,loV,hiV,lenV,Zaq,Zbg,Zat,Zbb,Za9,Zae,Zbl,Zab,Zbd,Za6,Zao,idxV,Zb3,Zbn,extV,Zbz,Zbr,Zbc,mmV,PV.cells,PV.fits,overlay,PV.nth,PV.row,Zbw,Zan,Zbv,Za8,Zbo,Zbm,Zak,Za5,Zbe,Zap,Heap.get,Heap.set,Heap.del,Heap.le,HL.get,HL.set,HL.del,HL.le,Heap.push,Heap.nil,Nat.le_refl,Nat.add_eq_left,Nat.left_eq_add,Nat.succ_ne_self,Nat.one_ne_zero,Env.le,Za3,Zbt,Zam,Zbu,Zaj,Zbs,Za0,Zal,eqOk,ekOk,Zag,Za4,Zba,Zar,AB.live,pxV,pxOk,fxV,fxOk,Zb0,Zbh,isNil,notNil,List.map,List.set,List.replicate,List.length,List.getD_cons_zero,List.getD_cons_succ,List.getD_nil,List.take,List.drop,List.take_zero,List.drop_zero,List.take_succ_cons,List.drop_succ_cons,List.append,List.cons_append,List.nil_append,Option.map,Nat.reduceEqDiff,Nat.reduceAdd,Nat.reduceLT,Nat.reduceLeDiff,Nat.reduceSub,Nat.reduceMul,reduceIte,Bool.false_eq_true,Bool.true_eq_false,ite_true,ite_false,if_true,if_false,true_and,and_true,implies_true,forall_const,ne_eq,not_false_eq_true,reduceCtorEq,BEq.rfl,beq_self_eq_true,Option.some.injEq,Nat.zero_add,Nat.add_zero,List.length_cons,List.length_nil,true_implies,imp_self,Int.reduceToNat,Int.toNat_natCast,Bool.not_false,Bool.not_true,true_and,bytesL,sumB,List.take_zero,List.flatMap_nil,List.map_nil,List.sum_nil]
    all_goals (repeat' (first | rfl | trivial | omega | (simp only []; omega) | refine And.intro ?_ ?_))
  · simp only [midQ,Zaa,Zai,Zbi,Zav,Zaw,Zbj,Zay,guardOf,Zad,Zas,Zau,Zaf,Zah,Zax,Zbp,VOp.isIaddr,QW,dok,dval,VOp.pure,VOp.simple,VOp.det,pok,pval,VA.ev,Env.get,Env.put,Env.keep,Za7,Zaz,Za2,retQ,resV,Zbq,RS.ev,RS.ok,gd,Zbx,isBool,aggV,intV,binV,Zbk,strV,Zby,Zb1,Zbf,unV,unOk,Zb2,isInt,isStr,numOf,loV,hiV,lenV,Zaq,Zbg,Zat,Zbb,Za9,Zae,Zbl,Zab,Zbd,Za6,Zao,idxV,Zb3,Zbn,extV,Zbz,Zbr,Zbc,mmV,PV.cells,PV.fits,overlay,PV.nth,PV.row,Zbw,Zan,Zbv,Za8,Zbo,Zbm,Zak,Za5,Zbe,Zap,Heap.get,Heap.set,Heap.del,Heap.le,HL.get,HL.set,HL.del,HL.le,Heap.push,Heap.nil,Nat.le_refl,Nat.add_eq_left,Nat.left_eq_add,Nat.succ_ne_self,Nat.one_ne_zero,Env.le,Za3,Zbt,Zam,Zbu,Zaj,Zbs,Za0,Zal,eqOk,ekOk,Zag,Za4,Zba,Zar,AB.live,pxV,pxOk,fxV,fxOk,Zb0,Zbh,isNil,notNil,List.map,List.set,List.replicate,List.length,List.getD_cons_zero,List.getD_cons_succ,List.getD_nil,List.take,List.drop,List.take_zero,List.drop_zero,List.take_succ_cons,List.drop_succ_cons,List.append,List.cons_append,List.nil_append,Option.map,Nat.reduceEqDiff,Nat.reduceAdd,Nat.reduceLT,Nat.reduceLeDiff,Nat.reduceSub,Nat.reduceMul,reduceIte,Bool.false_eq_true,Bool.true_eq_false,ite_true,ite_false,if_true,if_false,true_and,and_true,implies_true,forall_const,ne_eq,not_false_eq_true,reduceCtorEq,BEq.rfl,beq_self_eq_true,Option.some.injEq,Nat.zero_add,Nat.add_zero,List.length_cons,List.length_nil,true_implies,imp_self,Int.reduceToNat,Int.toNat_natCast,Bool.not_false,Bool.not_true,bytesL,sumB,List.take_zero,List.flatMap_nil,List.map_nil,List.sum_nil]
    try rfl
  rintro ⟨⟨k,t⟩,hk,hp60,hb3⟩
  simp only [] at hk hp60 hb3 ⊢
  refine Za1 ?_
  refine Za1 (Zac [0,3,4,10] ?_)
  simp only [midQ,Zaa,Zai,Zbi,Zav,Zaw,Zbj,Zay,guardOf,Zad,Zas,Zau,Zaf,Zah,Zax,Zbp,VOp.isIaddr,QW,dok,dval,VOp.pure,VOp.simple,VOp.det,pok,pval,VA.ev,Env.get,Env.put,Env.keep,Za7,Zaz,Za2,retQ,resV,Zbq,RS.ev,RS.ok,gd,Zbx,isBool,aggV,intV,binV,Zbk,strV,Zby,Zb1,Zbf,unV,unOk,Zb2,isInt,isStr,numOf,loV,hiV,lenV,Zaq,Zbg,Zat,Zbb,Za9,Zae,Zbl,Zab,Zbd,Za6,Zao,idxV,Zb3,Zbn,extV,Zbz,Zbr,Zbc,mmV,PV.cells,PV.fits,overlay,PV.nth,PV.row,Zbw,Zan,Zbv,Za8,Zbo,Zbm,Zak,Za5,Zbe,Zap,Heap.get,Heap.set,Heap.del,Heap.le,HL.get,HL.set,HL.del,HL.le,Heap.push,Heap.nil,Nat.le_refl,Nat.add_eq_left,Nat.left_eq_add,Nat.succ_ne_self,Nat.one_ne_zero,Env.le,Za3,Zbt,Zam,Zbu,Zaj,Zbs,Za0,Zal,eqOk,ekOk,Zag,Za4,Zba,Zar,AB.live,pxV,pxOk,fxV,fxOk,Zb0,Zbh,isNil,notNil,List.map,List.set,List.replicate,List.length,List.getD_cons_zero,List.getD_cons_succ,List.getD_nil,List.take,List.drop,List.take_zero,List.drop_zero,List.take_succ_cons,List.drop_succ_cons,List.append,List.cons_append,List.nil_append,Option.map,Nat.reduceEqDiff,Nat.reduceAdd,Nat.reduceLT,Nat.reduceLeDiff,Nat.reduceSub,Nat.reduceMul,reduceIte,Bool.false_eq_true,Bool.true_eq_false,ite_true,ite_false,if_true,if_false,true_and,and_true,implies_true,forall_const,ne_eq,not_false_eq_true,reduceCtorEq,BEq.rfl,beq_self_eq_true,Option.some.injEq,Nat.zero_add,Nat.add_zero,List.length_cons,List.length_nil,true_implies,imp_self,Int.reduceToNat,Int.toNat_natCast,Bool.not_false,Bool.not_true,List.length_map]
  refine Zca rfl (fun h1=>?_) (fun h1=>?_)
  · simp only [decide_eq_true_eq] at h1
    have ka:k < l.length:=by omega
    have hst:=bytesL_step ka
    have hrow:(l.map Pg.enc).getD k [] = [pI l[k].number,.str l[k].head,.sl 1 (strR l[k].lines),.sl 1 (strR l[k].notes)]:=rowm ka
    obtain ⟨_,_,⟨o1,o2⟩,⟨o3,o4⟩⟩:=hok.2 _ (List.getElem_mem ka)
    have hnext:(Zcs l[k]).length ≤ 60 → ∀ p ∈ l.take (k + 1),(Zcs p).length ≤ 60:=by
      intro h p hp
      rw [List.take_add_one,List.getElem?_eq_getElem ka] at hp
      rcases List.mem_append.1 hp with h' | h'
      · exact hp60 p h'
      · simp only [Option.toList_some,List.mem_singleton] at h'; rw [h']; exact h
    have hbk:bulkB = 1048576:=rfl
    have hlp:Zcs l[k] = l[k].lines ++ l[k].notes:=rfl
    generalize l[k] = p at hst hrow o1 o2 o3 o4 hnext hlp
    generalize hA:Zcs p = A at hst hnext hlp
    have hAs:∀ s ∈ A,s.length ≤ 1048576:=fun s hs=>by
      rw [hlp] at hs
      rcases List.mem_append.1 hs with h | h
      · exact o2 s h
      · exact o4 s h
    have hAl:A.length = p.lines.length + p.notes.length:=by rw [hlp,List.length_append]
    have hsA:=sumB_bound A hAs
    have hAb:A.length * 1048576 ≤ 2097152 * 1048576:=Nat.mul_le_mul_right _ (by omega)
    generalize hB0:bytesL (l.take k) = B0 at hb3 hst ⊢
    have l1:=Zcg p.lines
    have l2:=Zcg p.notes
    have t1:=strR_take p.lines
    refine Zcb ?_
    try simp only [midQ,Zaa,Zai,Zbi,Zav,Zaw,Zbj,Zay,guardOf,Zad,Zas,Zau,Zaf,Zah,Zax,Zbp,VOp.isIaddr,QW,dok,dval,VOp.pure,VOp.simple,VOp.det,pok,pval,VA.ev,Env.get,Env.put,Env.keep,Za7,Zaz,Za2,retQ,resV,Zbq,RS.ev,RS.ok,gd,Zbx,isBool,aggV,intV,binV,Zbk,strV,Zby,Zb1,Zbf,unV,unOk,Zb2,isInt,isStr,numOf,loV,hiV,lenV,Zaq,Zbg,Zat,Zbb,Za9,Zae,Zbl,Zab,Zbd,Za6,Zao,idxV,Zb3,Zbn,extV,Zbz,Zbr,Zbc,mmV,PV.cells,PV.fits,overlay,PV.nth,PV.row,Zbw,Zan,Zbv,Za8,Zbo,Zbm,Zak,Za5,Zbe,Zap,Heap.get,Heap.set,Heap.del,Heap.le,HL.get,HL.set,HL.del,HL.le,Heap.push,Heap.nil,Nat.le_refl,Nat.add_eq_left,Nat.left_eq_add,Nat.succ_ne_self,Nat.one_ne_zero,Env.le,Za3,Zbt,Zam,Zbu,Zaj,Zbs,Za0,Zal,eqOk,ekOk,Zag,Za4,Zba,Zar,AB.live,pxV,pxOk,fxV,fxOk,Zb0,Zbh,isNil,notNil,List.map,List.set,List.replicate,List.length,List.getD_cons_zero,List.getD_cons_succ,List.getD_nil,List.take,List.drop,List.take_zero,List.drop_zero,List.take_succ_cons,List.drop_succ_cons,List.append,List.cons_append,List.nil_append,Option.map,Nat.reduceEqDiff,Nat.reduceAdd,Nat.reduceLT,Nat.reduceLeDiff,Nat.reduceSub,Nat.reduceMul,reduceIte,Bool.false_eq_true,Bool.true_eq_false,ite_true,ite_false,if_true,if_false,true_and,and_true,implies_true,forall_const,ne_eq,not_false_eq_true,reduceCtorEq,BEq.rfl,beq_self_eq_true,Option.some.injEq,Nat.zero_add,Nat.add_zero,List.length_cons,List.length_nil,true_implies,imp_self,Int.reduceToNat,Int.toNat_natCast,Bool.not_false,Bool.not_true]
    refine Za1 ?_
    refine Zb5 ?_
    refine Za1 (VW_draw2Q [0,3,4,5] ⟨[],t + 20⟩ (by simp [Heap.le,Heap.get,HL.le,HL.get]) ?_)
    simp only [midQ,Zaa,Zai,Zbi,Zav,Zaw,Zbj,Zay,guardOf,Zad,Zas,Zau,Zaf,Zah,Zax,Zbp,VOp.isIaddr,QW,dok,dval,VOp.pure,VOp.simple,VOp.det,pok,pval,VA.ev,Env.get,Env.put,Env.keep,Za7,Zaz,Za2,retQ,resV,Zbq,RS.ev,RS.ok,gd,Zbx,isBool,aggV,intV,binV,Zbk,strV,Zby,Zb1,Zbf,unV,unOk,Zb2,isInt,isStr,numOf,loV,hiV,lenV,Zaq,Zbg,Zat,Zbb,Za9,Zae,Zbl,Zab,Zbd,Za6,Zao,idxV,Zb3,Zbn,extV,Zbz,Zbr,Zbc,mmV,PV.cells,PV.fits,overlay,PV.nth,PV.row,Zbw,Zan,Zbv,Za8,Zbo,Zbm,Zak,Za5,Zbe,Zap,Heap.get,Heap.set,Heap.del,Heap.le,HL.get,HL.set,HL.del,HL.le,Heap.push,Heap.nil,Nat.le_refl,Nat.add_eq_left,Nat.left_eq_add,Nat.succ_ne_self,Nat.one_ne_zero,Env.le,Za3,Zbt,Zam,Zbu,Zaj,Zbs,Za0,Zal,eqOk,ekOk,Zag,Za4,Zba,Zar,AB.live,pxV,pxOk,fxV,fxOk,Zb0,Zbh,isNil,notNil,List.map,List.set,List.replicate,List.length,List.getD_cons_zero,List.getD_cons_succ,List.getD_nil,List.take,List.drop,List.take_zero,List.drop_zero,List.take_succ_cons,List.drop_succ_cons,List.append,List.cons_append,List.nil_append,Option.map,Nat.reduceEqDiff,Nat.reduceAdd,Nat.reduceLT,Nat.reduceLeDiff,Nat.reduceSub,Nat.reduceMul,reduceIte,Bool.false_eq_true,Bool.true_eq_false,ite_true,ite_false,if_true,if_false,true_and,and_true,implies_true,forall_const,ne_eq,not_false_eq_true,reduceCtorEq,BEq.rfl,beq_self_eq_true,Option.some.injEq,Nat.zero_add,Nat.add_zero,List.length_cons,List.length_nil,true_implies,imp_self,Int.reduceToNat,Int.toNat_natCast,Bool.not_false,Bool.not_true,List.length_map,hrow,l1,l2,t1]
    refine ⟨by omega,by omega,by omega,by omega,by omega,by omega,by omega,by omega,by omega,?_⟩
    have hcat:strR p.lines ++ strR p.notes = strR A:=by rw [hlp,strR_app]
    have lA:=Zcg A
    rw [hcat]
    rw [← hAl]
    generalize strR p.lines = ZL at *
    generalize strR p.notes = ZN at *
    refine VW_freeze [(0,.sl 4 (l.map Pg.enc)),(3,pI B0),(4,pI k),(5,.sl 1 (strR A))] ⟨View.refl _ _,View.refl _ _,View.refl _ _,View.own_all (fz:=false) (by simp [Heap.get,HL.get]) (by rw [lA]),trivial⟩ ?_
    refine Za1 ?_
    obtain ⟨f,hf⟩:∃ f:Nat → Nat,∀ j,f j = B0 + sumB (A.take j):=⟨_,fun _=>rfl⟩
    have hf0:f 0 = B0:=by rw [hf]; simp [sumB]
    have hfe:f A.length = B0 + sumB A:=by rw [hf,List.take_length]
    refine Za1 (Zac [0,3,4,5,6] ?_)
    simp only [midQ,Zaa,Zai,Zbi,Zav,Zaw,Zbj,Zay,guardOf,Zad,Zas,Zau,Zaf,Zah,Zax,Zbp,VOp.isIaddr,QW,dok,dval,VOp.pure,VOp.simple,VOp.det,pok,pval,VA.ev,Env.get,Env.put,Env.keep,Za7,Zaz,Za2,retQ,resV,Zbq,RS.ev,RS.ok,gd,Zbx,isBool,aggV,intV,binV,Zbk,strV,Zby,Zb1,Zbf,unV,unOk,Zb2,isInt,isStr,numOf,loV,hiV,lenV,Zaq,Zbg,Zat,Zbb,Za9,Zae,Zbl,Zab,Zbd,Za6,Zao,idxV,Zb3,Zbn,extV,Zbz,Zbr,Zbc,mmV,PV.cells,PV.fits,overlay,PV.nth,PV.row,Zbw,Zan,Zbv,Za8,Zbo,Zbm,Zak,Za5,Zbe,Zap,Heap.get,Heap.set,Heap.del,Heap.le,HL.get,HL.set,HL.del,HL.le,Heap.push,Heap.nil,Nat.le_refl,Nat.add_eq_left,Nat.left_eq_add,Nat.succ_ne_self,Nat.one_ne_zero,Env.le,Za3,Zbt,Zam,Zbu,Zaj,Zbs,Za0,Zal,eqOk,ekOk,Zag,Za4,Zba,Zar,AB.live,pxV,pxOk,fxV,fxOk,Zb0,Zbh,isNil,notNil,List.map,List.set,List.replicate,List.length,List.getD_cons_zero,List.getD_cons_succ,List.getD_nil,List.take,List.drop,List.take_zero,List.drop_zero,List.take_succ_cons,List.drop_succ_cons,List.append,List.cons_append,List.nil_append,Option.map,Nat.reduceEqDiff,Nat.reduceAdd,Nat.reduceLT,Nat.reduceLeDiff,Nat.reduceSub,Nat.reduceMul,reduceIte,Bool.false_eq_true,Bool.true_eq_false,ite_true,ite_false,if_true,if_false,true_and,and_true,implies_true,forall_const,ne_eq,not_false_eq_true,reduceCtorEq,BEq.rfl,beq_self_eq_true,Option.some.injEq,Nat.zero_add,Nat.add_zero,List.length_cons,List.length_nil,true_implies,imp_self,Int.reduceToNat,Int.toNat_natCast,Bool.not_false,Bool.not_true]
    refine Zb5 ?_
    refine Zcm (σ:={ x:Nat × Nat // x.1 ≤ A.length }) (fun x=>([(0,.sl 4 (l.map Pg.enc)),(3,pI (f x.1.1)),(4,pI k),(5,.sl 1 (strR A)),(6,pI x.1.1)],⟨[],x.1.2⟩)) (fun x=>A.length - x.1.1) ⟨(0,t + 3),Nat.zero_le _⟩ ?_ ?_ ?_
    · simp only [hf0]
      try simp only [midQ,Zaa,Zai,Zbi,Zav,Zaw,Zbj,Zay,guardOf,Zad,Zas,Zau,Zaf,Zah,Zax,Zbp,VOp.isIaddr,QW,dok,dval,VOp.pure,VOp.simple,VOp.det,pok,pval,VA.ev,Env.get,Env.put,Env.keep,Za7,Zaz,Za2,retQ,resV,Zbq,RS.ev,RS.ok,gd,Zbx,isBool,aggV,intV,binV,Zbk,strV,Zby,Zb1,Zbf,unV,unOk,Zb2,isInt,isStr,numOf,loV,hiV,lenV,Zaq,Zbg,Zat,Zbb,Za9,Zae,Zbl,Zab,Zbd,Za6,Zao,idxV,Zb3,Zbn,extV,Zbz,Zbr,Zbc,mmV,PV.cells,PV.fits,overlay,PV.nth,PV.row,Zbw,Zan,Zbv,Za8,Zbo,Zbm,Zak,Za5,Zbe,Zap,Heap.get,Heap.set,Heap.del,Heap.le,HL.get,HL.set,HL.del,HL.le,Heap.push,Heap.nil,Nat.le_refl,Nat.add_eq_left,Nat.left_eq_add,Nat.succ_ne_self,Nat.one_ne_zero,Env.le,Za3,Zbt,Zam,Zbu,Zaj,Zbs,Za0,Zal,eqOk,ekOk,Zag,Za4,Zba,Zar,AB.live,pxV,pxOk,fxV,fxOk,Zb0,Zbh,isNil,notNil,List.map,List.set,List.replicate,List.length,List.getD_cons_zero,List.getD_cons_succ,List.getD_nil,List.take,List.drop,List.take_zero,List.drop_zero,List.take_succ_cons,List.drop_succ_cons,List.append,List.cons_append,List.nil_append,Option.map,Nat.reduceEqDiff,Nat.reduceAdd,Nat.reduceLT,Nat.reduceLeDiff,Nat.reduceSub,Nat.reduceMul,reduceIte,Bool.false_eq_true,Bool.true_eq_false,ite_true,ite_false,if_true,if_false,true_and,and_true,implies_true,forall_const,ne_eq,not_false_eq_true,reduceCtorEq,BEq.rfl,beq_self_eq_true,Option.some.injEq,Nat.zero_add,Nat.add_zero,List.length_cons,List.length_nil,true_implies,imp_self,Int.reduceToNat,Int.toNat_natCast,Bool.not_false,Bool.not_true,true_and]
      all_goals (repeat' (first | rfl | trivial | omega | (simp only []; omega) | refine And.intro ?_ ?_))
    · simp only [midQ,Zaa,Zai,Zbi,Zav,Zaw,Zbj,Zay,guardOf,Zad,Zas,Zau,Zaf,Zah,Zax,Zbp,VOp.isIaddr,QW,dok,dval,VOp.pure,VOp.simple,VOp.det,pok,pval,VA.ev,Env.get,Env.put,Env.keep,Za7,Zaz,Za2,retQ,resV,Zbq,RS.ev,RS.ok,gd,Zbx,isBool,aggV,intV,binV,Zbk,strV,Zby,Zb1,Zbf,unV,unOk,Zb2,isInt,isStr,numOf,loV,hiV,lenV,Zaq,Zbg,Zat,Zbb,Za9,Zae,Zbl,Zab,Zbd,Za6,Zao,idxV,Zb3,Zbn,extV,Zbz,Zbr,Zbc,mmV,PV.cells,PV.fits,overlay,PV.nth,PV.row,Zbw,Zan,Zbv,Za8,Zbo,Zbm,Zak,Za5,Zbe,Zap,Heap.get,Heap.set,Heap.del,Heap.le,HL.get,HL.set,HL.del,HL.le,Heap.push,Heap.nil,Nat.le_refl,Nat.add_eq_left,Nat.left_eq_add,Nat.succ_ne_self,Nat.one_ne_zero,Env.le,Za3,Zbt,Zam,Zbu,Zaj,Zbs,Za0,Zal,eqOk,ekOk,Zag,Za4,Zba,Zar,AB.live,pxV,pxOk,fxV,fxOk,Zb0,Zbh,isNil,notNil,List.map,List.set,List.replicate,List.length,List.getD_cons_zero,List.getD_cons_succ,List.getD_nil,List.take,List.drop,List.take_zero,List.drop_zero,List.take_succ_cons,List.drop_succ_cons,List.append,List.cons_append,List.nil_append,Option.map,Nat.reduceEqDiff,Nat.reduceAdd,Nat.reduceLT,Nat.reduceLeDiff,Nat.reduceSub,Nat.reduceMul,reduceIte,Bool.false_eq_true,Bool.true_eq_false,ite_true,ite_false,if_true,if_false,true_and,and_true,implies_true,forall_const,ne_eq,not_false_eq_true,reduceCtorEq,BEq.rfl,beq_self_eq_true,Option.some.injEq,Nat.zero_add,Nat.add_zero,List.length_cons,List.length_nil,true_implies,imp_self,Int.reduceToNat,Int.toNat_natCast,Bool.not_false,Bool.not_true,hf0]
      try omega
    rintro ⟨⟨j,t2⟩,hj⟩
    simp only [] at hj ⊢
    refine Za1 ?_
    refine Za1 (Zac [0,3,4,5,6,29] ?_)
    simp only [midQ,Zaa,Zai,Zbi,Zav,Zaw,Zbj,Zay,guardOf,Zad,Zas,Zau,Zaf,Zah,Zax,Zbp,VOp.isIaddr,QW,dok,dval,VOp.pure,VOp.simple,VOp.det,pok,pval,VA.ev,Env.get,Env.put,Env.keep,Za7,Zaz,Za2,retQ,resV,Zbq,RS.ev,RS.ok,gd,Zbx,isBool,aggV,intV,binV,Zbk,strV,Zby,Zb1,Zbf,unV,unOk,Zb2,isInt,isStr,numOf,loV,hiV,lenV,Zaq,Zbg,Zat,Zbb,Za9,Zae,Zbl,Zab,Zbd,Za6,Zao,idxV,Zb3,Zbn,extV,Zbz,Zbr,Zbc,mmV,PV.cells,PV.fits,overlay,PV.nth,PV.row,Zbw,Zan,Zbv,Za8,Zbo,Zbm,Zak,Za5,Zbe,Zap,Heap.get,Heap.set,Heap.del,Heap.le,HL.get,HL.set,HL.del,HL.le,Heap.push,Heap.nil,Nat.le_refl,Nat.add_eq_left,Nat.left_eq_add,Nat.succ_ne_self,Nat.one_ne_zero,Env.le,Za3,Zbt,Zam,Zbu,Zaj,Zbs,Za0,Zal,eqOk,ekOk,Zag,Za4,Zba,Zar,AB.live,pxV,pxOk,fxV,fxOk,Zb0,Zbh,isNil,notNil,List.map,List.set,List.replicate,List.length,List.getD_cons_zero,List.getD_cons_succ,List.getD_nil,List.take,List.drop,List.take_zero,List.drop_zero,List.take_succ_cons,List.drop_succ_cons,List.append,List.cons_append,List.nil_append,Option.map,Nat.reduceEqDiff,Nat.reduceAdd,Nat.reduceLT,Nat.reduceLeDiff,Nat.reduceSub,Nat.reduceMul,reduceIte,Bool.false_eq_true,Bool.true_eq_false,ite_true,ite_false,if_true,if_false,true_and,and_true,implies_true,forall_const,ne_eq,not_false_eq_true,reduceCtorEq,BEq.rfl,beq_self_eq_true,Option.some.injEq,Nat.zero_add,Nat.add_zero,List.length_cons,List.length_nil,true_implies,imp_self,Int.reduceToNat,Int.toNat_natCast,Bool.not_false,Bool.not_true,lA]
    refine Zca rfl (fun h2=>?_) (fun h2=>?_)
    · simp only [decide_eq_true_eq] at h2
      have ja:j < A.length:=by omega
      have hrw:(strR A).getD j [] = [PV.str A[j]]:=rowm ja
      have hsj:=sumB_step ja
      have hsb:sumB (A.take (j + 1)) ≤ sumB A:=by
        have e:sumB A = sumB (A.take (j + 1)) + sumB (A.drop (j + 1)):=by rw [← sumB_app,List.take_append_drop]
        omega
      have hfj:=hf j
      have hfs:f (j + 1) = f j + A[j].length:=by rw [hf,hf,hsj]; omega
      have hfb:f (j + 1) ≤ 3000 + 2097152 * 1048576:=by rw [hf]; omega
      generalize A[j] = a0 at hrw hfs
      refine Zcb ?_
      try simp only [midQ,Zaa,Zai,Zbi,Zav,Zaw,Zbj,Zay,guardOf,Zad,Zas,Zau,Zaf,Zah,Zax,Zbp,VOp.isIaddr,QW,dok,dval,VOp.pure,VOp.simple,VOp.det,pok,pval,VA.ev,Env.get,Env.put,Env.keep,Za7,Zaz,Za2,retQ,resV,Zbq,RS.ev,RS.ok,gd,Zbx,isBool,aggV,intV,binV,Zbk,strV,Zby,Zb1,Zbf,unV,unOk,Zb2,isInt,isStr,numOf,loV,hiV,lenV,Zaq,Zbg,Zat,Zbb,Za9,Zae,Zbl,Zab,Zbd,Za6,Zao,idxV,Zb3,Zbn,extV,Zbz,Zbr,Zbc,mmV,PV.cells,PV.fits,overlay,PV.nth,PV.row,Zbw,Zan,Zbv,Za8,Zbo,Zbm,Zak,Za5,Zbe,Zap,Heap.get,Heap.set,Heap.del,Heap.le,HL.get,HL.set,HL.del,HL.le,Heap.push,Heap.nil,Nat.le_refl,Nat.add_eq_left,Nat.left_eq_add,Nat.succ_ne_self,Nat.one_ne_zero,Env.le,Za3,Zbt,Zam,Zbu,Zaj,Zbs,Za0,Zal,eqOk,ekOk,Zag,Za4,Zba,Zar,AB.live,pxV,pxOk,fxV,fxOk,Zb0,Zbh,isNil,notNil,List.map,List.set,List.replicate,List.length,List.getD_cons_zero,List.getD_cons_succ,List.getD_nil,List.take,List.drop,List.take_zero,List.drop_zero,List.take_succ_cons,List.drop_succ_cons,List.append,List.cons_append,List.nil_append,Option.map,Nat.reduceEqDiff,Nat.reduceAdd,Nat.reduceLT,Nat.reduceLeDiff,Nat.reduceSub,Nat.reduceMul,reduceIte,Bool.false_eq_true,Bool.true_eq_false,ite_true,ite_false,if_true,if_false,true_and,and_true,implies_true,forall_const,ne_eq,not_false_eq_true,reduceCtorEq,BEq.rfl,beq_self_eq_true,Option.some.injEq,Nat.zero_add,Nat.add_zero,List.length_cons,List.length_nil,true_implies,imp_self,Int.reduceToNat,Int.toNat_natCast,Bool.not_false,Bool.not_true]
      refine Za1 ?_
      refine Zb5 ?_
      refine Zac [0,3,4,5,6] ?_
      simp only [midQ,Zaa,Zai,Zbi,Zav,Zaw,Zbj,Zay,guardOf,Zad,Zas,Zau,Zaf,Zah,Zax,Zbp,VOp.isIaddr,QW,dok,dval,VOp.pure,VOp.simple,VOp.det,pok,pval,VA.ev,Env.get,Env.put,Env.keep,Za7,Zaz,Za2,retQ,resV,Zbq,RS.ev,RS.ok,gd,Zbx,isBool,aggV,intV,binV,Zbk,strV,Zby,Zb1,Zbf,unV,unOk,Zb2,isInt,isStr,numOf,loV,hiV,lenV,Zaq,Zbg,Zat,Zbb,Za9,Zae,Zbl,Zab,Zbd,Za6,Zao,idxV,Zb3,Zbn,extV,Zbz,Zbr,Zbc,mmV,PV.cells,PV.fits,overlay,PV.nth,PV.row,Zbw,Zan,Zbv,Za8,Zbo,Zbm,Zak,Za5,Zbe,Zap,Heap.get,Heap.set,Heap.del,Heap.le,HL.get,HL.set,HL.del,HL.le,Heap.push,Heap.nil,Nat.le_refl,Nat.add_eq_left,Nat.left_eq_add,Nat.succ_ne_self,Nat.one_ne_zero,Env.le,Za3,Zbt,Zam,Zbu,Zaj,Zbs,Za0,Zal,eqOk,ekOk,Zag,Za4,Zba,Zar,AB.live,pxV,pxOk,fxV,fxOk,Zb0,Zbh,isNil,notNil,List.map,List.set,List.replicate,List.length,List.getD_cons_zero,List.getD_cons_succ,List.getD_nil,List.take,List.drop,List.take_zero,List.drop_zero,List.take_succ_cons,List.drop_succ_cons,List.append,List.cons_append,List.nil_append,Option.map,Nat.reduceEqDiff,Nat.reduceAdd,Nat.reduceLT,Nat.reduceLeDiff,Nat.reduceSub,Nat.reduceMul,reduceIte,Bool.false_eq_true,Bool.true_eq_false,ite_true,ite_false,if_true,if_false,true_and,and_true,implies_true,forall_const,ne_eq,not_false_eq_true,reduceCtorEq,BEq.rfl,beq_self_eq_true,Option.some.injEq,Nat.zero_add,Nat.add_zero,List.length_cons,List.length_nil,true_implies,imp_self,Int.reduceToNat,Int.toNat_natCast,Bool.not_false,Bool.not_true,lA,hrw,w64 (n:=((f j:Nat):Int) + (a0.length:Int)) (by omega) (by omega)]
      refine ⟨by omega,?_⟩
      refine Zac [0,3,4,5,6] ?_
      simp only [midQ,Zaa,Zai,Zbi,Zav,Zaw,Zbj,Zay,guardOf,Zad,Zas,Zau,Zaf,Zah,Zax,Zbp,VOp.isIaddr,QW,dok,dval,VOp.pure,VOp.simple,VOp.det,pok,pval,VA.ev,Env.get,Env.put,Env.keep,Za7,Zaz,Za2,retQ,resV,Zbq,RS.ev,RS.ok,gd,Zbx,isBool,aggV,intV,binV,Zbk,strV,Zby,Zb1,Zbf,unV,unOk,Zb2,isInt,isStr,numOf,loV,hiV,lenV,Zaq,Zbg,Zat,Zbb,Za9,Zae,Zbl,Zab,Zbd,Za6,Zao,idxV,Zb3,Zbn,extV,Zbz,Zbr,Zbc,mmV,PV.cells,PV.fits,overlay,PV.nth,PV.row,Zbw,Zan,Zbv,Za8,Zbo,Zbm,Zak,Za5,Zbe,Zap,Heap.get,Heap.set,Heap.del,Heap.le,HL.get,HL.set,HL.del,HL.le,Heap.push,Heap.nil,Nat.le_refl,Nat.add_eq_left,Nat.left_eq_add,Nat.succ_ne_self,Nat.one_ne_zero,Env.le,Za3,Zbt,Zam,Zbu,Zaj,Zbs,Za0,Zal,eqOk,ekOk,Zag,Za4,Zba,Zar,AB.live,pxV,pxOk,fxV,fxOk,Zb0,Zbh,isNil,notNil,List.map,List.set,List.replicate,List.length,List.getD_cons_zero,List.getD_cons_succ,List.getD_nil,List.take,List.drop,List.take_zero,List.drop_zero,List.take_succ_cons,List.drop_succ_cons,List.append,List.cons_append,List.nil_append,Option.map,Nat.reduceEqDiff,Nat.reduceAdd,Nat.reduceLT,Nat.reduceLeDiff,Nat.reduceSub,Nat.reduceMul,reduceIte,Bool.false_eq_true,Bool.true_eq_false,ite_true,ite_false,if_true,if_false,true_and,and_true,implies_true,forall_const,ne_eq,not_false_eq_true,reduceCtorEq,BEq.rfl,beq_self_eq_true,Option.some.injEq,Nat.zero_add,Nat.add_zero,List.length_cons,List.length_nil,true_implies,imp_self,Int.reduceToNat,Int.toNat_natCast,Bool.not_false,Bool.not_true,ad1 (a:=j) (by omega)]
      refine ⟨⟨(j + 1,t2),ja⟩,?_⟩
      have e3:((f j:Nat):Int) + (a0.length:Int) = ((f (j + 1):Nat):Int):=by omega
      simp only [midQ,Zaa,Zai,Zbi,Zav,Zaw,Zbj,Zay,guardOf,Zad,Zas,Zau,Zaf,Zah,Zax,Zbp,VOp.isIaddr,QW,dok,dval,VOp.pure,VOp.simple,VOp.det,pok,pval,VA.ev,Env.get,Env.put,Env.keep,Za7,Zaz,Za2,retQ,resV,Zbq,RS.ev,RS.ok,gd,Zbx,isBool,aggV,intV,binV,Zbk,strV,Zby,Zb1,Zbf,unV,unOk,Zb2,isInt,isStr,numOf,loV,hiV,lenV,Zaq,Zbg,Zat,Zbb,Za9,Zae,Zbl,Zab,Zbd,Za6,Zao,idxV,Zb3,Zbn,extV,Zbz,Zbr,Zbc,mmV,PV.cells,PV.fits,overlay,PV.nth,PV.row,Zbw,Zan,Zbv,Za8,Zbo,Zbm,Zak,Za5,Zbe,Zap,Heap.get,Heap.set,Heap.del,Heap.le,HL.get,HL.set,HL.del,HL.le,Heap.push,Heap.nil,Nat.le_refl,Nat.add_eq_left,Nat.left_eq_add,Nat.succ_ne_self,Nat.one_ne_zero,Env.le,Za3,Zbt,Zam,Zbu,Zaj,Zbs,Za0,Zal,eqOk,ekOk,Zag,Za4,Zba,Zar,AB.live,pxV,pxOk,fxV,fxOk,Zb0,Zbh,isNil,notNil,List.map,List.set,List.replicate,List.length,List.getD_cons_zero,List.getD_cons_succ,List.getD_nil,List.take,List.drop,List.take_zero,List.drop_zero,List.take_succ_cons,List.drop_succ_cons,List.append,List.cons_append,List.nil_append,Option.map,Nat.reduceEqDiff,Nat.reduceAdd,Nat.reduceLT,Nat.reduceLeDiff,Nat.reduceSub,Nat.reduceMul,reduceIte,Bool.false_eq_true,Bool.true_eq_false,ite_true,ite_false,if_true,if_false,true_and,and_true,implies_true,forall_const,ne_eq,not_false_eq_true,reduceCtorEq,BEq.rfl,beq_self_eq_true,Option.some.injEq,Nat.zero_add,Nat.add_zero,List.length_cons,List.length_nil,true_implies,imp_self,Int.reduceToNat,Int.toNat_natCast,Bool.not_false,Bool.not_true,e3,true_and]
      omega
    simp only [decide_eq_false_iff_not] at h2
    obtain rfl:j = A.length:=by omega
    refine Zck ?_
    try simp only [midQ,Zaa,Zai,Zbi,Zav,Zaw,Zbj,Zay,guardOf,Zad,Zas,Zau,Zaf,Zah,Zax,Zbp,VOp.isIaddr,QW,dok,dval,VOp.pure,VOp.simple,VOp.det,pok,pval,VA.ev,Env.get,Env.put,Env.keep,Za7,Zaz,Za2,retQ,resV,Zbq,RS.ev,RS.ok,gd,Zbx,isBool,aggV,intV,binV,Zbk,strV,Zby,Zb1,Zbf,unV,unOk,Zb2,isInt,isStr,numOf,loV,hiV,lenV,Zaq,Zbg,Zat,Zbb,Za9,Zae,Zbl,Zab,Zbd,Za6,Zao,idxV,Zb3,Zbn,extV,Zbz,Zbr,Zbc,mmV,PV.cells,PV.fits,overlay,PV.nth,PV.row,Zbw,Zan,Zbv,Za8,Zbo,Zbm,Zak,Za5,Zbe,Zap,Heap.get,Heap.set,Heap.del,Heap.le,HL.get,HL.set,HL.del,HL.le,Heap.push,Heap.nil,Nat.le_refl,Nat.add_eq_left,Nat.left_eq_add,Nat.succ_ne_self,Nat.one_ne_zero,Env.le,Za3,Zbt,Zam,Zbu,Zaj,Zbs,Za0,Zal,eqOk,ekOk,Zag,Za4,Zba,Zar,AB.live,pxV,pxOk,fxV,fxOk,Zb0,Zbh,isNil,notNil,List.map,List.set,List.replicate,List.length,List.getD_cons_zero,List.getD_cons_succ,List.getD_nil,List.take,List.drop,List.take_zero,List.drop_zero,List.take_succ_cons,List.drop_succ_cons,List.append,List.cons_append,List.nil_append,Option.map,Nat.reduceEqDiff,Nat.reduceAdd,Nat.reduceLT,Nat.reduceLeDiff,Nat.reduceSub,Nat.reduceMul,reduceIte,Bool.false_eq_true,Bool.true_eq_false,ite_true,ite_false,if_true,if_false,true_and,and_true,implies_true,forall_const,ne_eq,not_false_eq_true,reduceCtorEq,BEq.rfl,beq_self_eq_true,Option.some.injEq,Nat.zero_add,Nat.add_zero,List.length_cons,List.length_nil,true_implies,imp_self,Int.reduceToNat,Int.toNat_natCast,Bool.not_false,Bool.not_true]
    refine Za1 (VW_mid (σ:={ b:Bool // b = false → A.length ≤ 60 ∧ B0 + sumB A ≤ 3000 }) (fun b=>([(0,.sl 4 (l.map Pg.enc)),(3,pI (f A.length)),(4,pI k),(45,.bool b.1)],⟨[],t2⟩)) (Zac [0,3,4,45] ?_) (fun b=>?_))
    · by_cases h6:A.length ≤ 60
      · have e1:decide ((60:Int) < (A.length:Int)) = false:=decide_eq_false (by omega)
        simp only [midQ,Zaa,Zai,Zbi,Zav,Zaw,Zbj,Zay,guardOf,Zad,Zas,Zau,Zaf,Zah,Zax,Zbp,VOp.isIaddr,QW,dok,dval,VOp.pure,VOp.simple,VOp.det,pok,pval,VA.ev,Env.get,Env.put,Env.keep,Za7,Zaz,Za2,retQ,resV,Zbq,RS.ev,RS.ok,gd,Zbx,isBool,aggV,intV,binV,Zbk,strV,Zby,Zb1,Zbf,unV,unOk,Zb2,isInt,isStr,numOf,loV,hiV,lenV,Zaq,Zbg,Zat,Zbb,Za9,Zae,Zbl,Zab,Zbd,Za6,Zao,idxV,Zb3,Zbn,extV,Zbz,Zbr,Zbc,mmV,PV.cells,PV.fits,overlay,PV.nth,PV.row,Zbw,Zan,Zbv,Za8,Zbo,Zbm,Zak,Za5,Zbe,Zap,Heap.get,Heap.set,Heap.del,Heap.le,HL.get,HL.set,HL.del,HL.le,Heap.push,Heap.nil,Nat.le_refl,Nat.add_eq_left,Nat.left_eq_add,Nat.succ_ne_self,Nat.one_ne_zero,Env.le,Za3,Zbt,Zam,Zbu,Zaj,Zbs,Za0,Zal,eqOk,ekOk,Zag,Za4,Zba,Zar,AB.live,pxV,pxOk,fxV,fxOk,Zb0,Zbh,isNil,notNil,List.map,List.set,List.replicate,List.length,List.getD_cons_zero,List.getD_cons_succ,List.getD_nil,List.take,List.drop,List.take_zero,List.drop_zero,List.take_succ_cons,List.drop_succ_cons,List.append,List.cons_append,List.nil_append,Option.map,Nat.reduceEqDiff,Nat.reduceAdd,Nat.reduceLT,Nat.reduceLeDiff,Nat.reduceSub,Nat.reduceMul,reduceIte,Bool.false_eq_true,Bool.true_eq_false,ite_true,ite_false,if_true,if_false,true_and,and_true,implies_true,forall_const,ne_eq,not_false_eq_true,reduceCtorEq,BEq.rfl,beq_self_eq_true,Option.some.injEq,Nat.zero_add,Nat.add_zero,List.length_cons,List.length_nil,true_implies,imp_self,Int.reduceToNat,Int.toNat_natCast,Bool.not_false,Bool.not_true,lA,e1]
        refine ⟨⟨decide ((3000:Int) < ((f A.length:Nat):Int)),fun h=>⟨h6,?_⟩⟩,rfl⟩
        have:=of_decide_eq_false h
        omega
      · have e1:decide ((60:Int) < (A.length:Int)) = true:=decide_eq_true (by omega)
        simp only [midQ,Zaa,Zai,Zbi,Zav,Zaw,Zbj,Zay,guardOf,Zad,Zas,Zau,Zaf,Zah,Zax,Zbp,VOp.isIaddr,QW,dok,dval,VOp.pure,VOp.simple,VOp.det,pok,pval,VA.ev,Env.get,Env.put,Env.keep,Za7,Zaz,Za2,retQ,resV,Zbq,RS.ev,RS.ok,gd,Zbx,isBool,aggV,intV,binV,Zbk,strV,Zby,Zb1,Zbf,unV,unOk,Zb2,isInt,isStr,numOf,loV,hiV,lenV,Zaq,Zbg,Zat,Zbb,Za9,Zae,Zbl,Zab,Zbd,Za6,Zao,idxV,Zb3,Zbn,extV,Zbz,Zbr,Zbc,mmV,PV.cells,PV.fits,overlay,PV.nth,PV.row,Zbw,Zan,Zbv,Za8,Zbo,Zbm,Zak,Za5,Zbe,Zap,Heap.get,Heap.set,Heap.del,Heap.le,HL.get,HL.set,HL.del,HL.le,Heap.push,Heap.nil,Nat.le_refl,Nat.add_eq_left,Nat.left_eq_add,Nat.succ_ne_self,Nat.one_ne_zero,Env.le,Za3,Zbt,Zam,Zbu,Zaj,Zbs,Za0,Zal,eqOk,ekOk,Zag,Za4,Zba,Zar,AB.live,pxV,pxOk,fxV,fxOk,Zb0,Zbh,isNil,notNil,List.map,List.set,List.replicate,List.length,List.getD_cons_zero,List.getD_cons_succ,List.getD_nil,List.take,List.drop,List.take_zero,List.drop_zero,List.take_succ_cons,List.drop_succ_cons,List.append,List.cons_append,List.nil_append,Option.map,Nat.reduceEqDiff,Nat.reduceAdd,Nat.reduceLT,Nat.reduceLeDiff,Nat.reduceSub,Nat.reduceMul,reduceIte,Bool.false_eq_true,Bool.true_eq_false,ite_true,ite_false,if_true,if_false,true_and,and_true,implies_true,forall_const,ne_eq,not_false_eq_true,reduceCtorEq,BEq.rfl,beq_self_eq_true,Option.some.injEq,Nat.zero_add,Nat.add_zero,List.length_cons,List.length_nil,true_implies,imp_self,Int.reduceToNat,Int.toNat_natCast,Bool.not_false,Bool.not_true,lA,e1]
        exact ⟨⟨true,fun h=>by cases h⟩,rfl⟩
    obtain ⟨b,hb⟩:=b
    simp only []
    refine Zca rfl (fun h3=>?_) (fun h3=>?_)
    · refine Za1 (Zac [2] ?_)
      simp only [midQ,Zaa,Zai,Zbi,Zav,Zaw,Zbj,Zay,guardOf,Zad,Zas,Zau,Zaf,Zah,Zax,Zbp,VOp.isIaddr,QW,dok,dval,VOp.pure,VOp.simple,VOp.det,pok,pval,VA.ev,Env.get,Env.put,Env.keep,Za7,Zaz,Za2,retQ,resV,Zbq,RS.ev,RS.ok,gd,Zbx,isBool,aggV,intV,binV,Zbk,strV,Zby,Zb1,Zbf,unV,unOk,Zb2,isInt,isStr,numOf,loV,hiV,lenV,Zaq,Zbg,Zat,Zbb,Za9,Zae,Zbl,Zab,Zbd,Za6,Zao,idxV,Zb3,Zbn,extV,Zbz,Zbr,Zbc,mmV,PV.cells,PV.fits,overlay,PV.nth,PV.row,Zbw,Zan,Zbv,Za8,Zbo,Zbm,Zak,Za5,Zbe,Zap,Heap.get,Heap.set,Heap.del,Heap.le,HL.get,HL.set,HL.del,HL.le,Heap.push,Heap.nil,Nat.le_refl,Nat.add_eq_left,Nat.left_eq_add,Nat.succ_ne_self,Nat.one_ne_zero,Env.le,Za3,Zbt,Zam,Zbu,Zaj,Zbs,Za0,Zal,eqOk,ekOk,Zag,Za4,Zba,Zar,AB.live,pxV,pxOk,fxV,fxOk,Zb0,Zbh,isNil,notNil,List.map,List.set,List.replicate,List.length,List.getD_cons_zero,List.getD_cons_succ,List.getD_nil,List.take,List.drop,List.take_zero,List.drop_zero,List.take_succ_cons,List.drop_succ_cons,List.append,List.cons_append,List.nil_append,Option.map,Nat.reduceEqDiff,Nat.reduceAdd,Nat.reduceLT,Nat.reduceLeDiff,Nat.reduceSub,Nat.reduceMul,reduceIte,Bool.false_eq_true,Bool.true_eq_false,ite_true,ite_false,if_true,if_false,true_and,and_true,implies_true,forall_const,ne_eq,not_false_eq_true,reduceCtorEq,BEq.rfl,beq_self_eq_true,Option.some.injEq,Nat.zero_add,Nat.add_zero,List.length_cons,List.length_nil,true_implies,imp_self,Int.reduceToNat,Int.toNat_natCast,Bool.not_false,Bool.not_true]
      refine VW_ret ?_
      try simp only [midQ,Zaa,Zai,Zbi,Zav,Zaw,Zbj,Zay,guardOf,Zad,Zas,Zau,Zaf,Zah,Zax,Zbp,VOp.isIaddr,QW,dok,dval,VOp.pure,VOp.simple,VOp.det,pok,pval,VA.ev,Env.get,Env.put,Env.keep,Za7,Zaz,Za2,retQ,resV,Zbq,RS.ev,RS.ok,gd,Zbx,isBool,aggV,intV,binV,Zbk,strV,Zby,Zb1,Zbf,unV,unOk,Zb2,isInt,isStr,numOf,loV,hiV,lenV,Zaq,Zbg,Zat,Zbb,Za9,Zae,Zbl,Zab,Zbd,Za6,Zao,idxV,Zb3,Zbn,extV,Zbz,Zbr,Zbc,mmV,PV.cells,PV.fits,overlay,PV.nth,PV.row,Zbw,Zan,Zbv,Za8,Zbo,Zbm,Zak,Za5,Zbe,Zap,Heap.get,Heap.set,Heap.del,Heap.le,HL.get,HL.set,HL.del,HL.le,Heap.push,Heap.nil,Nat.le_refl,Nat.add_eq_left,Nat.left_eq_add,Nat.succ_ne_self,Nat.one_ne_zero,Env.le,Za3,Zbt,Zam,Zbu,Zaj,Zbs,Za0,Zal,eqOk,ekOk,Zag,Za4,Zba,Zar,AB.live,pxV,pxOk,fxV,fxOk,Zb0,Zbh,isNil,notNil,List.map,List.set,List.replicate,List.length,List.getD_cons_zero,List.getD_cons_succ,List.getD_nil,List.take,List.drop,List.take_zero,List.drop_zero,List.take_succ_cons,List.drop_succ_cons,List.append,List.cons_append,List.nil_append,Option.map,Nat.reduceEqDiff,Nat.reduceAdd,Nat.reduceLT,Nat.reduceLeDiff,Nat.reduceSub,Nat.reduceMul,reduceIte,Bool.false_eq_true,Bool.true_eq_false,ite_true,ite_false,if_true,if_false,true_and,and_true,implies_true,forall_const,ne_eq,not_false_eq_true,reduceCtorEq,BEq.rfl,beq_self_eq_true,Option.some.injEq,Nat.zero_add,Nat.add_zero,List.length_cons,List.length_nil,true_implies,imp_self,Int.reduceToNat,Int.toNat_natCast,Bool.not_false,Bool.not_true]
      exact few_no
    obtain ⟨b1,b2⟩:=hb h3
    refine Zcb ?_
    try simp only [midQ,Zaa,Zai,Zbi,Zav,Zaw,Zbj,Zay,guardOf,Zad,Zas,Zau,Zaf,Zah,Zax,Zbp,VOp.isIaddr,QW,dok,dval,VOp.pure,VOp.simple,VOp.det,pok,pval,VA.ev,Env.get,Env.put,Env.keep,Za7,Zaz,Za2,retQ,resV,Zbq,RS.ev,RS.ok,gd,Zbx,isBool,aggV,intV,binV,Zbk,strV,Zby,Zb1,Zbf,unV,unOk,Zb2,isInt,isStr,numOf,loV,hiV,lenV,Zaq,Zbg,Zat,Zbb,Za9,Zae,Zbl,Zab,Zbd,Za6,Zao,idxV,Zb3,Zbn,extV,Zbz,Zbr,Zbc,mmV,PV.cells,PV.fits,overlay,PV.nth,PV.row,Zbw,Zan,Zbv,Za8,Zbo,Zbm,Zak,Za5,Zbe,Zap,Heap.get,Heap.set,Heap.del,Heap.le,HL.get,HL.set,HL.del,HL.le,Heap.push,Heap.nil,Nat.le_refl,Nat.add_eq_left,Nat.left_eq_add,Nat.succ_ne_self,Nat.one_ne_zero,Env.le,Za3,Zbt,Zam,Zbu,Zaj,Zbs,Za0,Zal,eqOk,ekOk,Zag,Za4,Zba,Zar,AB.live,pxV,pxOk,fxV,fxOk,Zb0,Zbh,isNil,notNil,List.map,List.set,List.replicate,List.length,List.getD_cons_zero,List.getD_cons_succ,List.getD_nil,List.take,List.drop,List.take_zero,List.drop_zero,List.take_succ_cons,List.drop_succ_cons,List.append,List.cons_append,List.nil_append,Option.map,Nat.reduceEqDiff,Nat.reduceAdd,Nat.reduceLT,Nat.reduceLeDiff,Nat.reduceSub,Nat.reduceMul,reduceIte,Bool.false_eq_true,Bool.true_eq_false,ite_true,ite_false,if_true,if_false,true_and,and_true,implies_true,forall_const,ne_eq,not_false_eq_true,reduceCtorEq,BEq.rfl,beq_self_eq_true,Option.some.injEq,Nat.zero_add,Nat.add_zero,List.length_cons,List.length_nil,true_implies,imp_self,Int.reduceToNat,Int.toNat_natCast,Bool.not_false,Bool.not_true]
    refine Zac [0,3,4] ?_
    simp only [midQ,Zaa,Zai,Zbi,Zav,Zaw,Zbj,Zay,guardOf,Zad,Zas,Zau,Zaf,Zah,Zax,Zbp,VOp.isIaddr,QW,dok,dval,VOp.pure,VOp.simple,VOp.det,pok,pval,VA.ev,Env.get,Env.put,Env.keep,Za7,Zaz,Za2,retQ,resV,Zbq,RS.ev,RS.ok,gd,Zbx,isBool,aggV,intV,binV,Zbk,strV,Zby,Zb1,Zbf,unV,unOk,Zb2,isInt,isStr,numOf,loV,hiV,lenV,Zaq,Zbg,Zat,Zbb,Za9,Zae,Zbl,Zab,Zbd,Za6,Zao,idxV,Zb3,Zbn,extV,Zbz,Zbr,Zbc,mmV,PV.cells,PV.fits,overlay,PV.nth,PV.row,Zbw,Zan,Zbv,Za8,Zbo,Zbm,Zak,Za5,Zbe,Zap,Heap.get,Heap.set,Heap.del,Heap.le,HL.get,HL.set,HL.del,HL.le,Heap.push,Heap.nil,Nat.le_refl,Nat.add_eq_left,Nat.left_eq_add,Nat.succ_ne_self,Nat.one_ne_zero,Env.le,Za3,Zbt,Zam,Zbu,Zaj,Zbs,Za0,Zal,eqOk,ekOk,Zag,Za4,Zba,Zar,AB.live,pxV,pxOk,fxV,fxOk,Zb0,Zbh,isNil,notNil,List.map,List.set,List.replicate,List.length,List.getD_cons_zero,List.getD_cons_succ,List.getD_nil,List.take,List.drop,List.take_zero,List.drop_zero,List.take_succ_cons,List.drop_succ_cons,List.append,List.cons_append,List.nil_append,Option.map,Nat.reduceEqDiff,Nat.reduceAdd,Nat.reduceLT,Nat.reduceLeDiff,Nat.reduceSub,Nat.reduceMul,reduceIte,Bool.false_eq_true,Bool.true_eq_false,ite_true,ite_false,if_true,if_false,true_and,and_true,implies_true,forall_const,ne_eq,not_false_eq_true,reduceCtorEq,BEq.rfl,beq_self_eq_true,Option.some.injEq,Nat.zero_add,Nat.add_zero,List.length_cons,List.length_nil,true_implies,imp_self,Int.reduceToNat,Int.toNat_natCast,Bool.not_false,Bool.not_true,ad1 (a:=k) (by omega)]
    refine ⟨⟨(k + 1,t2),ka,hnext b1,by rw [hst]; exact b2⟩,?_⟩
    have e4:bytesL (l.take (k + 1)) = f A.length:=by rw [hst,hfe]
    simp only [e4]
    simp only [midQ,Zaa,Zai,Zbi,Zav,Zaw,Zbj,Zay,guardOf,Zad,Zas,Zau,Zaf,Zah,Zax,Zbp,VOp.isIaddr,QW,dok,dval,VOp.pure,VOp.simple,VOp.det,pok,pval,VA.ev,Env.get,Env.put,Env.keep,Za7,Zaz,Za2,retQ,resV,Zbq,RS.ev,RS.ok,gd,Zbx,isBool,aggV,intV,binV,Zbk,strV,Zby,Zb1,Zbf,unV,unOk,Zb2,isInt,isStr,numOf,loV,hiV,lenV,Zaq,Zbg,Zat,Zbb,Za9,Zae,Zbl,Zab,Zbd,Za6,Zao,idxV,Zb3,Zbn,extV,Zbz,Zbr,Zbc,mmV,PV.cells,PV.fits,overlay,PV.nth,PV.row,Zbw,Zan,Zbv,Za8,Zbo,Zbm,Zak,Za5,Zbe,Zap,Heap.get,Heap.set,Heap.del,Heap.le,HL.get,HL.set,HL.del,HL.le,Heap.push,Heap.nil,Nat.le_refl,Nat.add_eq_left,Nat.left_eq_add,Nat.succ_ne_self,Nat.one_ne_zero,Env.le,Za3,Zbt,Zam,Zbu,Zaj,Zbs,Za0,Zal,eqOk,ekOk,Zag,Za4,Zba,Zar,AB.live,pxV,pxOk,fxV,fxOk,Zb0,Zbh,isNil,notNil,List.map,List.set,List.replicate,List.length,List.getD_cons_zero,List.getD_cons_succ,List.getD_nil,List.take,List.drop,List.take_zero,List.drop_zero,List.take_succ_cons,List.drop_succ_cons,List.append,List.cons_append,List.nil_append,Option.map,Nat.reduceEqDiff,Nat.reduceAdd,Nat.reduceLT,Nat.reduceLeDiff,Nat.reduceSub,Nat.reduceMul,reduceIte,Bool.false_eq_true,Bool.true_eq_false,ite_true,ite_false,if_true,if_false,true_and,and_true,implies_true,forall_const,ne_eq,not_false_eq_true,reduceCtorEq,BEq.rfl,beq_self_eq_true,Option.some.injEq,Nat.zero_add,Nat.add_zero,List.length_cons,List.length_nil,true_implies,imp_self,Int.reduceToNat,Int.toNat_natCast,Bool.not_false,Bool.not_true,true_and]
    omega
  · simp only [decide_eq_false_iff_not] at h1
    obtain rfl:k = l.length:=by omega
    rw [List.take_length] at hp60 hb3
    refine Zck ?_
    try simp only [midQ,Zaa,Zai,Zbi,Zav,Zaw,Zbj,Zay,guardOf,Zad,Zas,Zau,Zaf,Zah,Zax,Zbp,VOp.isIaddr,QW,dok,dval,VOp.pure,VOp.simple,VOp.det,pok,pval,VA.ev,Env.get,Env.put,Env.keep,Za7,Zaz,Za2,retQ,resV,Zbq,RS.ev,RS.ok,gd,Zbx,isBool,aggV,intV,binV,Zbk,strV,Zby,Zb1,Zbf,unV,unOk,Zb2,isInt,isStr,numOf,loV,hiV,lenV,Zaq,Zbg,Zat,Zbb,Za9,Zae,Zbl,Zab,Zbd,Za6,Zao,idxV,Zb3,Zbn,extV,Zbz,Zbr,Zbc,mmV,PV.cells,PV.fits,overlay,PV.nth,PV.row,Zbw,Zan,Zbv,Za8,Zbo,Zbm,Zak,Za5,Zbe,Zap,Heap.get,Heap.set,Heap.del,Heap.le,HL.get,HL.set,HL.del,HL.le,Heap.push,Heap.nil,Nat.le_refl,Nat.add_eq_left,Nat.left_eq_add,Nat.succ_ne_self,Nat.one_ne_zero,Env.le,Za3,Zbt,Zam,Zbu,Zaj,Zbs,Za0,Zal,eqOk,ekOk,Zag,Za4,Zba,Zar,AB.live,pxV,pxOk,fxV,fxOk,Zb0,Zbh,isNil,notNil,List.map,List.set,List.replicate,List.length,List.getD_cons_zero,List.getD_cons_succ,List.getD_nil,List.take,List.drop,List.take_zero,List.drop_zero,List.take_succ_cons,List.drop_succ_cons,List.append,List.cons_append,List.nil_append,Option.map,Nat.reduceEqDiff,Nat.reduceAdd,Nat.reduceLT,Nat.reduceLeDiff,Nat.reduceSub,Nat.reduceMul,reduceIte,Bool.false_eq_true,Bool.true_eq_false,ite_true,ite_false,if_true,if_false,true_and,and_true,implies_true,forall_const,ne_eq,not_false_eq_true,reduceCtorEq,BEq.rfl,beq_self_eq_true,Option.some.injEq,Nat.zero_add,Nat.add_zero,List.length_cons,List.length_nil,true_implies,imp_self,Int.reduceToNat,Int.toNat_natCast,Bool.not_false,Bool.not_true]
    refine Za1 (Zac [2] ?_)
    simp only [midQ,Zaa,Zai,Zbi,Zav,Zaw,Zbj,Zay,guardOf,Zad,Zas,Zau,Zaf,Zah,Zax,Zbp,VOp.isIaddr,QW,dok,dval,VOp.pure,VOp.simple,VOp.det,pok,pval,VA.ev,Env.get,Env.put,Env.keep,Za7,Zaz,Za2,retQ,resV,Zbq,RS.ev,RS.ok,gd,Zbx,isBool,aggV,intV,binV,Zbk,strV,Zby,Zb1,Zbf,unV,unOk,Zb2,isInt,isStr,numOf,loV,hiV,lenV,Zaq,Zbg,Zat,Zbb,Za9,Zae,Zbl,Zab,Zbd,Za6,Zao,idxV,Zb3,Zbn,extV,Zbz,Zbr,Zbc,mmV,PV.cells,PV.fits,overlay,PV.nth,PV.row,Zbw,Zan,Zbv,Za8,Zbo,Zbm,Zak,Za5,Zbe,Zap,Heap.get,Heap.set,Heap.del,Heap.le,HL.get,HL.set,HL.del,HL.le,Heap.push,Heap.nil,Nat.le_refl,Nat.add_eq_left,Nat.left_eq_add,Nat.succ_ne_self,Nat.one_ne_zero,Env.le,Za3,Zbt,Zam,Zbu,Zaj,Zbs,Za0,Zal,eqOk,ekOk,Zag,Za4,Zba,Zar,AB.live,pxV,pxOk,fxV,fxOk,Zb0,Zbh,isNil,notNil,List.map,List.set,List.replicate,List.length,List.getD_cons_zero,List.getD_cons_succ,List.getD_nil,List.take,List.drop,List.take_zero,List.drop_zero,List.take_succ_cons,List.drop_succ_cons,List.append,List.cons_append,List.nil_append,Option.map,Nat.reduceEqDiff,Nat.reduceAdd,Nat.reduceLT,Nat.reduceLeDiff,Nat.reduceSub,Nat.reduceMul,reduceIte,Bool.false_eq_true,Bool.true_eq_false,ite_true,ite_false,if_true,if_false,true_and,and_true,implies_true,forall_const,ne_eq,not_false_eq_true,reduceCtorEq,BEq.rfl,beq_self_eq_true,Option.some.injEq,Nat.zero_add,Nat.add_zero,List.length_cons,List.length_nil,true_implies,imp_self,Int.reduceToNat,Int.toNat_natCast,Bool.not_false,Bool.not_true,List.length_map]
    refine VW_ret ?_
    try simp only [midQ,Zaa,Zai,Zbi,Zav,Zaw,Zbj,Zay,guardOf,Zad,Zas,Zau,Zaf,Zah,Zax,Zbp,VOp.isIaddr,QW,dok,dval,VOp.pure,VOp.simple,VOp.det,pok,pval,VA.ev,Env.get,Env.put,Env.keep,Za7,Zaz,Za2,retQ,resV,Zbq,RS.ev,RS.ok,gd,Zbx,isBool,aggV,intV,binV,Zbk,strV,Zby,Zb1,Zbf,unV,unOk,Zb2,isInt,isStr,numOf,loV,hiV,lenV,Zaq,Zbg,Zat,Zbb,Za9,Zae,Zbl,Zab,Zbd,Za6,Zao,idxV,Zb3,Zbn,extV,Zbz,Zbr,Zbc,mmV,PV.cells,PV.fits,overlay,PV.nth,PV.row,Zbw,Zan,Zbv,Za8,Zbo,Zbm,Zak,Za5,Zbe,Zap,Heap.get,Heap.set,Heap.del,Heap.le,HL.get,HL.set,HL.del,HL.le,Heap.push,Heap.nil,Nat.le_refl,Nat.add_eq_left,Nat.left_eq_add,Nat.succ_ne_self,Nat.one_ne_zero,Env.le,Za3,Zbt,Zam,Zbu,Zaj,Zbs,Za0,Zal,eqOk,ekOk,Zag,Za4,Zba,Zar,AB.live,pxV,pxOk,fxV,fxOk,Zb0,Zbh,isNil,notNil,List.map,List.set,List.replicate,List.length,List.getD_cons_zero,List.getD_cons_succ,List.getD_nil,List.take,List.drop,List.take_zero,List.drop_zero,List.take_succ_cons,List.drop_succ_cons,List.append,List.cons_append,List.nil_append,Option.map,Nat.reduceEqDiff,Nat.reduceAdd,Nat.reduceLT,Nat.reduceLeDiff,Nat.reduceSub,Nat.reduceMul,reduceIte,Bool.false_eq_true,Bool.true_eq_false,ite_true,ite_false,if_true,if_false,true_and,and_true,implies_true,forall_const,ne_eq,not_false_eq_true,reduceCtorEq,BEq.rfl,beq_self_eq_true,Option.some.injEq,Nat.zero_add,Nat.add_zero,List.length_cons,List.length_nil,true_implies,imp_self,Int.reduceToNat,Int.toNat_natCast,Bool.not_false,Bool.not_true]
    refine ⟨_,View.refl _ _,⟨_,rfl,fun h=>⟨?_,hp60,hb3⟩⟩,cB _⟩
    have h':(l.length:Int) ≤ 20:=by simpa using h
    omega
end Go.Proofs.YtjmekckcffckoabGreatDoor.w
namespace Go.Proofs.YtjmekckcffckoabGreatDoor.w
open Go Go.VM
set_option maxRecDepth 20000
set_option maxHeartbeats 0
set_option pp.deepTerms false
def c_pandectlaw56_awake:VC:=(.seq (.region [ZO 0 (.mv (.c (.bool false)))] false) (.seq (.region [ZO 3 (.bslice 1 2 [(.int .i64 0)] [(0,(.c (.int .i64 1))),(1,(.c (.int .i64 3)))]),ZO 4 (.build [(.str []),.nilsl] [(0,(1,(.c (.str [116,97,120])))),(1,(1,(.t 3)))]),ZO 5 (.bslice 2 1 [(.str []),.nilsl] [(0,(.t 4))]),ZO 6 (.call 24 [(.c (.int .i64 14)),(.t 5)]),ZM 1 6] false) (.seq (.region [ZO 7 (.bslice 1 1 [(.str [])] [(0,(.c (.str [40,116,97,120,44,32,111,102,32,116,97,120])))]),ZO 8 (.build [(.int .i64 0),(.str []),.nilsl,.nilsl] [(0,(1,(.c (.int .i64 3)))),(2,(1,(.t 7)))]),ZO 9 (.bslice 4 1 [(.int .i64 0),(.str []),.nilsl,.nilsl] [(0,(.t 8))]),ZO 10 (.call 12 [(.t 9)]),ZM 2 10] false) (.seq (.seq (.region [ZM 11 1,ZO 12 (.len false (.t 11)),ZO 13 (.bin .neq (.t 12) (.c (.int .i64 1))),ZM 14 13,ZG 15 (.mv (.t 2)) 14 false,ZG 16 (.len false (.t 15)) 14 false,ZG 17 (.bin .neq (.t 16) (.c (.int .i64 2))) 14 false,ZO 18 (.pick (.t 14) (.c (.bool true)) (.t 17))] false) (.cond (.t 18) (.seq (.region [ZO 0 (.mv (.c (.bool false)))] false) .ret) .skip)) (.seq (.region [ZO 19 (.bslice 1 7 [(.int .i64 0)] [(0,(.c (.int .i64 5))),(1,(.c (.int .i64 1))),(2,(.c (.int .i64 2))),(3,(.c (.int .i64 3))),(4,(.c (.int .i64 5))),(5,(.c (.int .i64 7))),(6,(.c (.int .i64 8)))]),ZO 20 (.call 8 [(.t 19)]),ZO 21 (.bin .eql (.t 20) (.c (.str [49,32,116,111,32,51,44,32,53,44,32,55,44,32,56]))),ZM 22 21,ZG 23 (.mv (.t 1)) 22 true,ZG 24 (.iaddr 1 (.t 23) (.c (.int .i64 0))) 22 true,ZG 25 (.load false 1 (.t 24)) 22 true,ZG 26 (.bin .eql (.t 25) (.c (.str [116,97,120,32,46,46,46,46,46,32,49,44,32,51]))) 22 true,ZO 27 (.pick (.t 22) (.t 26) (.c (.bool false))),ZM 28 27,ZG 29 (.mv (.t 2)) 28 true,ZG 30 (.iaddr 2 (.t 29) (.c (.int .i64 1))) 28 true,ZG 31 (.faddr 0 (.t 30)) 28 true,ZG 32 (.load false 1 (.t 31)) 28 true,ZG 33 (.bin .eql (.t 32) (.c (.str [116,97,120]))) 28 true,ZO 34 (.pick (.t 28) (.t 33) (.c (.bool false))),ZM 35 34,ZG 36 (.mv (.t 2)) 35 true,ZG 37 (.iaddr 2 (.t 36) (.c (.int .i64 1))) 35 true,ZG 38 (.faddr 1 (.t 37)) 35 true,ZG 39 (.load false 1 (.t 38)) 35 true,ZG 40 (.len false (.t 39)) 35 true,ZG 41 (.bin .eql (.t 40) (.c (.int .i64 1))) 35 true,ZO 42 (.pick (.t 35) (.t 41) (.c (.bool false))),ZM 43 42,ZG 44 (.mv (.t 2)) 43 true,ZG 45 (.iaddr 2 (.t 44) (.c (.int .i64 1))) 43 true,ZG 46 (.faddr 1 (.t 45)) 43 true,ZG 47 (.load false 1 (.t 46)) 43 true,ZG 48 (.iaddr 1 (.t 47) (.c (.int .i64 0))) 43 true,ZG 49 (.load false 1 (.t 48)) 43 true,ZG 50 (.bin .eql (.t 49) (.c (.int .i64 3))) 43 true,ZO 51 (.pick (.t 43) (.t 50) (.c (.bool false))),ZM 0 51] false) .ret)))))
def taxT:Str:=[116,97,120]
def exE:List (Str × List Int):=[(taxT,[1,3])]
def exP:List Pg:=[⟨3,[],[[40,116,97,120,44,32,111,102,32,116,97,120]],[]⟩]
theorem ex_r2:rangesS [1,3] = [49,44,32,51]:=by
  have h:Zcd [1,3] = [1,3]:=onceI_self (by decide)
  have h5:Lib.join (partsI [1,3]) sepT = [49,44,32,51]:=by kernel_rfl
  unfold rangesS; rw [h,h5]
theorem ex_line:exE.map (lineS 14) = [[116,97,120,32,46,46,46,46,46,32,49,44,32,51]]:=by
  have h5:taxT ++ [32] ++ Lib.repeatL [46] (max (max (min 14 200) 0 - (taxT.length:Int) - (([49,44,32,51]:Str).length:Int) - 2) 2).toNat ++ [32] ++ [49,44,32,51] = [116,97,120,32,46,46,46,46,46,32,49,44,32,51]:=by kernel_rfl
  simp only [exE,List.map_cons,List.map_nil,lineS,widthN,ex_r2]
  rw [h5]
theorem ex_ranges:rangesS [5,1,2,3,5,7,8] = [49,32,116,111,32,51,44,32,53,44,32,55,44,32,56]:=by
  have h1:Zcd [5,1,2,3,5,7,8] = Zcd [1,2,3,5,7,8]:=onceI_ext fun x=>by simp; omega
  have h2:Zcd [1,2,3,5,7,8] = [1,2,3,5,7,8]:=onceI_self (by decide)
  have h5:Lib.join (partsI [1,2,3,5,7,8]) sepT = [49,32,116,111,32,51,44,32,53,44,32,55,44,32,56]:=by kernel_rfl
  unfold rangesS; rw [h1,h2,h5]
theorem ex_keys:Zcy exP = [[111,102],taxT]:=by
  have h:(onS (occL exP) []).map (·.1) = [taxT,[111,102]]:=by kernel_rfl
  unfold Zcy; rw [h]
  have h2:¬ leB taxT [111,102] = true:=by decide
  simp [List.mergeSort,List.MergeSort.Internal.splitInTwo,List.merge,h2]
theorem ex_index:Zcn exP = [([111,102],[3]),(taxT,[3])]:=by
  have h1:Zco exP [111,102] = [3]:=by kernel_rfl
  have h2:Zco exP taxT = [3,3]:=by kernel_rfl
  have h3:Zcd [3,3] = Zcd [3]:=onceI_ext fun x=>by simp
  have h4:Zcd [3] = [3]:=onceI_self (by decide)
  unfold Zcn
  rw [ex_keys]
  simp only [List.map_cons,List.map_nil,h1,h2,h3,h4]
theorem ex_smal:SmalP exP:=by
  refine ⟨by decide,by decide,by decide,by decide⟩
theorem sp_awake:PCall Tryz.prog 7 [] (.bool true):=by
  have i1:∀ x:Int,0 ≤ x → x ≤ 100 → i64 x:=fun x h1 h2=>i64_iff.2 (by omega)
  have A:=sp_concordance_Format 14 exE (i1 _ (by decide) (by decide)) (by decide) (fun e he=>by
    simp only [exE,List.mem_singleton] at he
    subst he
    refine ⟨by decide,by decide,fun x hx=>?_⟩
    simp only [List.mem_cons,List.not_mem_nil,or_false] at hx
    rcases hx with rfl | rfl <;> exact i1 _ (by decide) (by decide))
  have B:=Zcx exP ex_smal
  have C:=Zcq [5,1,2,3,5,7,8] (by decide) (fun x hx=>by
    simp only [List.mem_cons,List.not_mem_nil,or_false] at hx
    rcases hx with rfl | rfl | rfl | rfl | rfl | rfl | rfl <;> exact i1 _ (by decide) (by decide))
  rw [ex_line] at A
  rw [ex_index] at B
  rw [ex_ranges] at C
  have A':PCall Tryz.prog 24 [pI 14,.sl 2 (exE.map encEn)] (.sl 1 [[.str [116,97,120,32,46,46,46,46,46,32,49,44,32,51]]]):=A
  have B':PCall Tryz.prog 12 [.sl 4 (exP.map Pg.enc)] (.sl 2 [[.str [111,102],.sl 1 [[pI 3]]],[.str [116,97,120],.sl 1 [[pI 3]]]]):=B
  refine Zcf ?_ (cB _) (by simp only [ClosedL,List.mem_cons,List.not_mem_nil,or_false,forall_eq_or_imp,forall_eq,false_implies,implies_true]; repeat' (first  | exact cB _ | refine And.intro ?_ ?_))
  refine Zct (vc:=c_pandectlaw56_awake) (ts:=[.t 0]) Go.Proofs.Tryz.func7 (by kernel_rfl) rfl rfl (Nat.le_of_ble_eq_true rfl) (by kernel_rfl) ?_
  unfold c_pandectlaw56_awake
  try dsimp only [ZM,ZO,ZN,ZG]
  refine Za1 (Zac [] ?_)
  simp only [Zaa,Zai,Zay,pok,pval,VA.ev,Env.put,Env.keep,Za7,Zaz,Heap.nil,true_and]
  refine Za1 (Zac [1] ?_)
  simp only [Zaa,Zai,Zay,pok,pval,VA.ev,Env.get,Env.put,Env.keep,Zaz,Zbr,Zbc,PV.cells,PV.fits,overlay,Heap.push,Nat.le_refl,Za0,Zal,List.map,List.set,List.replicate,List.length,List.take,List.drop,List.take_succ_cons,List.drop_succ_cons,List.cons_append,List.nil_append,Nat.reduceEqDiff,Nat.reduceAdd,Nat.reduceLT,Nat.reduceLeDiff,ite_true,ite_false,true_and,and_true,BEq.rfl,Nat.zero_add,List.length_cons]
  refine ACall_f [pI 14,.sl 2 (exE.map encEn)] ⟨View.refl _ _,?_,trivial⟩ (Zcw A' ?_)
  · refine View.ownV (fz:=false) (es:=[[.str [116,97,120],.own 0 0 2]]) rfl (by decide) rfl (fun i hi=>?_) (fun i j hi hj=>?_)
    · obtain rfl:i = 0:=by omega
      rfl
    · obtain rfl:i = 0:=by omega
      obtain rfl | rfl:j = 0 ∨ j = 1:=by omega
      · exact View.refl _ _
      · exact View.own_all (fz:=false) (es:=[[pI 1],[pI 3]]) rfl rfl
  try simp only []
  refine Za1 (Zac [1,2] ?_)
  simp only [Zaa,Zai,Zay,pok,pval,VA.ev,Env.get,Env.put,Env.keep,Zaz,Zbr,Zbc,PV.cells,PV.fits,overlay,Heap.push,Nat.succ_ne_self,Za0,Zal,List.map,List.set,List.replicate,List.length,List.take,List.drop,List.take_succ_cons,List.drop_succ_cons,List.cons_append,List.nil_append,Nat.reduceEqDiff,Nat.reduceAdd,Nat.reduceLT,Nat.reduceLeDiff,ite_true,ite_false,true_and,and_true,BEq.rfl,Nat.zero_add,List.length_cons]
  refine ACall_f [.sl 4 (exP.map Pg.enc)] ⟨?_,trivial⟩ (Zcw B' ?_)
  · refine View.ownV (fz:=false) (es:=[[pI 3,.str [],.own 2 0 1,.nilsl]]) rfl (by decide) rfl (fun i hi=>?_) (fun i j hi hj=>?_)
    · obtain rfl:i = 0:=by omega
      rfl
    · obtain rfl:i = 0:=by omega
      obtain rfl | rfl | rfl | rfl:j = 0 ∨ j = 1 ∨ j = 2 ∨ j = 3:=by omega
      · exact View.refl _ _
      · exact View.refl _ _
      · exact View.own_all (fz:=false) (es:=[[.str [40,116,97,120,44,32,111,102,32,116,97,120]]]) rfl rfl
      · exact View.nil _ _
  try simp only []
  refine Za1 ?_
  have n1:(((1:Nat):Int) != 1) = false:=by decide
  have n2:(((2:Nat):Int) != 2) = false:=by decide
  have n3:(((1:Nat):Int) == 1) = true:=by decide
  refine Za1 (Zac [1,2,18] ?_)
  simp only [Zaa,Zai,Zbi,Zay,pok,pval,VA.ev,Env.get,Env.put,Env.keep,Zaz,Zbx,isBool,intV,binV,Zbk,lenV,Zbn,Nat.succ_ne_self,List.length,Nat.reduceEqDiff,Nat.reduceAdd,Bool.false_eq_true,ite_true,ite_false,true_and,Nat.zero_add,n1,n2,n3]
  refine Zca rfl (fun h1=>?_) (fun h1=>?_)
  · cases h1
  refine Zcb ?_
  try simp only [Zaz]
  refine Za1 (Zac [0] ?_)
  simp only [Zai,Zay,pok,pval,VA.ev,Env.get,Env.put,Env.keep,Zaz,intV,binV,Zbk,strV,PV.cells,PV.fits,Heap.push,Za0,Zal,List.map,List.set,List.replicate,Nat.reduceEqDiff,Nat.reduceAdd,Nat.reduceLT,ite_true,ite_false,true_and,and_true,BEq.rfl]
  refine ACall_f [.sl 1 ([5,1,2,3,5,7,8].map fun x=>[pI x])] ⟨?_,trivial⟩ (Zcw C ?_)
  · exact View.own_all (fz:=false) rfl rfl
  try simp only [Zaa,Zai,Zbi,Zay,pok,pval,VA.ev,Env.get,Env.put,Zbx,isBool,aggV,intV,binV,Zbk,strV,isInt,numOf,lenV,Zbb,Za9,Zae,Zbl,Za6,Zao,Zbn,PV.nth,PV.row,Nat.le_refl,Nat.succ_ne_self,List.length,List.getD_cons_zero,List.getD_cons_succ,List.take,List.drop,List.take_succ_cons,Nat.reduceEqDiff,Nat.reduceAdd,Nat.reduceLeDiff,Bool.false_eq_true,ite_true,ite_false,true_and,and_true,implies_true,reduceCtorEq,BEq.rfl,Nat.zero_add,List.length_cons,Int.reduceToNat,n1,n2,n3]
  refine ⟨by decide,by decide,by decide,by decide,by decide,?_⟩
  refine VW_ret ?_
  try simp only [Env.get,retQ,resV,Zbq,RS.ev,RS.ok,ite_true,true_and,and_true]
  exact View.refl _ _
end Go.Proofs.YtjmekckcffckoabGreatDoor.w
namespace Go.Proofs.YtjmekckcffckoabGreatDoor.w
open Go Go.VM
set_option maxRecDepth 20000
set_option maxHeartbeats 0
set_option pp.deepTerms false
end Go.Proofs.YtjmekckcffckoabGreatDoor.w
namespace Go.Proofs.YtjmekckcffckoabGreatDoor.w
open Go Go.VM
set_option maxRecDepth 20000
def encN (ns:List Int):List (PV × PV):=ns.map fun n=>(pI n,.bool true)
def encM (E:List Ent):List (PV × PV):=E.map fun e=>(.str e.key,.mp e.id)
def encR (E:List Ent):List (PV × PV):=E.map fun e=>(.str e.key,.rmp (encN e.ns))
def tailM (E:List Ent):List (Nat × AB):=E.map fun e=>(e.id,.map (encN e.ns))
def canM (m:Nat) (E:List Ent):List (Nat × AB):=(m,.map (encM E)) :: tailM E
def addN (n:Int) (ns:List Int):List Int:=if n ∈ ns then ns else ns ++ [n]
def updM (id:Nat) (s:Str) (n:Int):List Ent → List Ent
  | []=>[⟨s,id,addN n []⟩]
  | e :: r=>if e.key == s then ⟨s,e.id,addN n e.ns⟩ :: r else e :: updM id s n r
theorem mapFind_gen (f:Ent → PV) (s:Str):∀ E:List Ent,Zak (.str s) (E.map fun e=>(.str e.key,f e)) = (Zch E s).map f
  | []=>rfl
  | e :: r=>by
    have ih:=mapFind_gen f s r
    unfold Zch at *
    simp only [List.map_cons,Zak,List.find?_cons,keyEq_str]
    cases h:e.key == s with
    | true =>
      have:s == e.key:=by rw [beq_iff_eq] at h ⊢; exact h.symm
      rw [this]; rfl
    | false =>
      have:(s == e.key) = false:=by rw [beq_eq_false_iff_ne] at h ⊢; exact h.symm
      rw [this]; simpa using ih
theorem mapFind_encM (s:Str) (E:List Ent):Zak (.str s) (encM E) = (Zch E s).map fun e=>.mp e.id:=mapFind_gen (fun e=>.mp e.id) s E
theorem mapFind_encR (s:Str) (E:List Ent):Zak (.str s) (encR E) = (Zch E s).map fun e=>.rmp (encN e.ns):=mapFind_gen (fun e=>.rmp (encN e.ns)) s E
theorem mapPut_encM (s:Str) (id:Nat) (ns:List Int):∀ E:List Ent,Zch E s = none → Za5 (.str s) (.mp id) (encM E) = encM (E ++ [⟨s,id,ns⟩])
  | [],_=>rfl
  | e :: r,h=>by
    unfold Zch at h
    rw [List.find?_cons] at h
    cases hk:e.key == s with
    | true=>rw [hk] at h; cases h
    | false =>
      rw [hk] at h
      have ih:=mapPut_encM s id ns r h
      have:(s == e.key) = false:=by rw [beq_eq_false_iff_ne] at hk ⊢; exact hk.symm
      unfold encM at *
      simp only [List.map_cons,Za5,keyEq_str,this,Bool.false_eq_true,if_false,List.cons_append]
      rw [ih]
theorem keyEq_int (a b:Int):Zbm (pI a) (pI b) = (a == b):=by simp [Zbm,PV.cells,Zag,Za4]
theorem mapPut_encN (n:Int):∀ ns:List Int,Za5 (pI n) (.bool true) (encN ns) = encN (addN n ns)
  | []=>by simp [addN,encN,Za5]
  | a :: r=>by
    have ih:=mapPut_encN n r
    unfold encN at *
    simp only [List.map_cons,Za5,keyEq_int]
    by_cases h:n = a
    · subst h; simp [addN]
    · have e:(n == a) = false:=by simpa using h
      rw [e]
      simp only [Bool.false_eq_true,if_false]
      rw [ih]
      unfold addN
      by_cases h2:n ∈ r
      · rw [if_pos h2,if_pos (List.mem_cons_of_mem _ h2)]; rfl
      · rw [if_neg h2,if_neg (by rw [List.mem_cons]; rintro (h3 | h3); exact h h3; exact h2 h3)]; rfl
theorem mapFind_encN (n:Int):∀ ns:List Int,n ∈ ns → Zak (pI n) (encN ns) = some (.bool true)
  | a :: r,h=>by
    unfold encN
    simp only [List.map_cons,Zak,keyEq_int]
    by_cases e:n = a
    · simp [e]
    · have e2:(n == a) = false:=by simpa using e
      rw [e2]
      rcases List.mem_cons.1 h with h | h
      · exact absurd h e
      · simp only [Bool.false_eq_true,if_false]
        exact mapFind_encN n r h
theorem encN_len (ns:List Int):(encN ns).length = ns.length:=List.length_map _
theorem encR_len (E:List Ent):(encR E).length = E.length:=List.length_map _
theorem updM_none (id:Nat) (s:Str) (n:Int):∀ E:List Ent,Zch E s = none → updM id s n E = E ++ [⟨s,id,addN n []⟩]
  | [],_=>rfl
  | e :: r,h=>by
    unfold Zch at h
    rw [List.find?_cons] at h
    cases hk:e.key == s with
    | true=>rw [hk] at h; cases h
    | false =>
      rw [hk] at h
      simp only [updM,hk,Bool.false_eq_true,if_false,List.cons_append]
      rw [updM_none id s n r h]
theorem updM_enc (id:Nat) (s:Str) (n:Int) {o:Ent}:∀ E:List Ent,Zch E s = some o → encM (updM id s n E) = encM E
  | [],h=>by cases h
  | e :: r,h=>by
    unfold Zch at h
    rw [List.find?_cons] at h
    cases hk:e.key == s with
    | true =>
      have:e.key = s:=by simpa using hk
      simp only [updM,hk,if_true]
      unfold encM
      simp [this]
    | false =>
      rw [hk] at h
      have ih:=updM_enc id s n r h
      simp only [updM,hk,Bool.false_eq_true,if_false]
      unfold encM at *
      rw [List.map_cons,List.map_cons,ih]
theorem updM_mem (id:Nat) (s:Str) (n:Int):∀ (E:List Ent) (e:Ent),e ∈ updM id s n E → (e ∈ E ∧ ∀ o,Zch E s = some o → (E.map Ent.id).Nodup → e.id ≠ o.id) ∨ (e.id = ((Zch E s).map Ent.id).getD id ∧ e.key = s ∧ e.ns = addN n (((Zch E s).map Ent.ns).getD []))
  | [],e,h=>by
    simp only [updM,List.mem_singleton] at h
    subst h
    exact .inr ⟨rfl,rfl,rfl⟩
  | a :: r,e,h=>by
    unfold Zch
    simp only [updM] at h
    rw [List.find?_cons]
    cases hk:a.key == s with
    | true =>
      rw [hk,if_pos rfl] at h
      rcases List.mem_cons.1 h with rfl | h
      · exact .inr ⟨rfl,rfl,rfl⟩
      · refine .inl ⟨List.mem_cons_of_mem _ h,fun o ho hn=>?_⟩
        simp only [Option.some.injEq] at ho
        subst ho
        rw [List.map_cons,List.nodup_cons] at hn
        exact fun e1=>hn.1 (e1 ▸ List.mem_map.2 ⟨e,h,rfl⟩)
    | false =>
      rw [hk] at h
      simp only [Bool.false_eq_true,if_false] at h
      rcases List.mem_cons.1 h with rfl | h
      · refine .inl ⟨List.mem_cons_self,fun o ho hn=>?_⟩
        rw [List.map_cons,List.nodup_cons] at hn
        exact fun e1=>hn.1 (e1 ▸ List.mem_map.2 ⟨o,List.mem_of_find?_eq_some ho,rfl⟩)
      · rcases updM_mem id s n r e h with ⟨h1,h2⟩ | h1
        · refine .inl ⟨List.mem_cons_of_mem _ h1,fun o ho hn=>?_⟩
          rw [List.map_cons,List.nodup_cons] at hn
          exact h2 o ho hn.2
        · exact .inr h1
theorem updM_keys (id:Nat) (s:Str) (n:Int):∀ E:List Ent,(updM id s n E).map Ent.key = if s ∈ E.map Ent.key then E.map Ent.key else E.map Ent.key ++ [s]
  | []=>by simp [updM]
  | e :: r=>by
    have ih:=updM_keys id s n r
    simp only [updM]
    by_cases hk:e.key = s
    · rw [if_pos (by simpa using hk)]
      simp [hk]
    · rw [if_neg (by simpa using hk),List.map_cons,ih]
      by_cases h2:s ∈ r.map Ent.key
      · rw [if_pos h2,if_pos (by rw [List.map_cons]; exact List.mem_cons_of_mem _ h2)]
        rfl
      · rw [if_neg h2,if_neg (by rw [List.map_cons,List.mem_cons]; rintro (h3 | h3); exact hk h3.symm; exact h2 h3)]
        rfl
theorem updM_ids (id:Nat) (s:Str) (n:Int):∀ E:List Ent,(updM id s n E).map Ent.id = match Zch E s with | some _=>E.map Ent.id | none=>E.map Ent.id ++ [id]
  | []=>rfl
  | e :: r=>by
    have ih:=updM_ids id s n r
    unfold Zch at *
    simp only [updM]
    rw [List.find?_cons]
    cases hk:e.key == s with
    | true=>rfl
    | false =>
      simp only [Bool.false_eq_true,if_false,List.map_cons]
      rw [ih]
      cases r.find? fun e=>e.key == s <;> rfl
theorem keysOk_encM (s:Str) (E:List Ent):Za8 (.one .s) (.str s) (encM E):=by
  refine ⟨trivial,fun p hp=>?_⟩
  simp only [encM,List.mem_map] at hp
  obtain ⟨x,_,rfl⟩:=hp
  trivial
theorem keysOk_encR (s:Str) (E:List Ent):Za8 (.one .s) (.str s) (encR E):=by
  refine ⟨trivial,fun p hp=>?_⟩
  simp only [encR,List.mem_map] at hp
  obtain ⟨x,_,rfl⟩:=hp
  trivial
theorem keysOk_encN (n:Int) (ns:List Int):Za8 (.one .i) (pI n) (encN ns):=by
  refine ⟨rfl,fun p hp=>?_⟩
  simp only [encN,List.mem_map] at hp
  obtain ⟨x,_,rfl⟩:=hp
  rfl
theorem findE_upd (id:Nat) (s:Str) (n:Int):∀ E:List Ent,Zch (updM id s n E) s = some ⟨s,((Zch E s).map Ent.id).getD id,addN n (((Zch E s).map Ent.ns).getD [])⟩
  | []=>by simp [updM,Zch]
  | e :: r=>by
    have ih:=findE_upd id s n r
    unfold Zch at *
    simp only [updM]
    cases hk:e.key == s with
    | true=>simp [hk]
    | false =>
      simp only [Bool.false_eq_true,if_false,List.find?_cons,hk]
      exact ih
theorem HL.get_set (r:List (Nat × AB)) (k t:Nat) (x:AB):HL.get (HL.set r k x) t = if k = t then (if (HL.get r k).isSome then some x else none) else HL.get r t:=Heap.get_set ⟨r,0⟩ k t x
structure HasOk (occ : List (Str × Int)) (E : List Ent) : Prop where
  nod : (E.map Ent.key).Nodup
  keys : ∀ s, s ∈ E.map Ent.key ↔ ∃ y ∈ occ, y.1 = s
  ns : ∀ e ∈ E, e.ns.Nodup ∧ ∀ n, n ∈ e.ns ↔ (e.key, n) ∈ occ
theorem findE_key {E:List Ent} (hn:(E.map Ent.key).Nodup) {e:Ent} (he:e ∈ E):Zch E e.key = some e:=by
  induction E with
  | nil=>cases he
  | cons a r ih =>
    rw [List.map_cons,List.nodup_cons] at hn
    unfold Zch at *
    rw [List.find?_cons]
    rcases List.mem_cons.1 he with rfl | h
    · simp
    · have : (a.key == e.key) = false := by
        rw [beq_eq_false_iff_ne]
        exact fun h2=>hn.1 (h2 ▸ List.mem_map.2 ⟨e,h,rfl⟩)
      rw [this]; exact ih hn.2 h
theorem addN_nod {n:Int} {ns:List Int} (h:ns.Nodup):(addN n ns).Nodup:=by
  unfold addN
  split
  · exact h
  · rename_i hn
    rw [List.nodup_append]
    exact ⟨h,by simp,fun a ha b hb=>by rw [List.mem_singleton] at hb; rw [hb]; exact fun e=>hn (e ▸ ha)⟩
theorem mem_addN (n x:Int) (ns:List Int):x ∈ addN n ns ↔ x ∈ ns ∨ x = n:=by
  unfold addN
  split
  · rename_i hn
    exact ⟨.inl,fun h=>h.elim id fun e=>e ▸ hn⟩
  · rw [List.mem_append,List.mem_singleton]
theorem HasOk.nil:HasOk [] []:=⟨.nil,by simp,fun e he=>by cases he⟩
theorem HasOk.step {occ:List (Str × Int)} {E:List Ent} (h:HasOk occ E) (id:Nat) (s:Str) (n:Int) (hid:(E.map Ent.id).Nodup):HasOk (occ ++ [(s,n)]) (updM id s n E):=by
  refine ⟨?_,fun x=>?_,fun e he=>?_⟩
  · rw [updM_keys]
    split
    · exact h.nod
    · rename_i hs
      rw [List.nodup_append]
      exact ⟨h.nod,by simp,fun a ha b hb=>by rw [List.mem_singleton] at hb; rw [hb]; exact fun e=>hs (e ▸ ha)⟩
  · rw [updM_keys]
    have hx:=h.keys x
    split
    · rename_i hs
      rw [hx]
      constructor
      · rintro ⟨y,hy,e⟩; exact ⟨y,List.mem_append_left _ hy,e⟩
      · rintro ⟨y,hy,e⟩
        rcases List.mem_append.1 hy with hy | hy
        · exact ⟨y,hy,e⟩
        · rw [List.mem_singleton] at hy
          subst hy
          rw [show s = x from e] at hs
          exact hx.1 hs
    · rw [List.mem_append,List.mem_singleton,hx]
      constructor
      · rintro (⟨y,hy,e⟩ | rfl)
        · exact ⟨y,List.mem_append_left _ hy,e⟩
        · exact ⟨(x,n),by simp,rfl⟩
      · rintro ⟨y,hy,e⟩
        rcases List.mem_append.1 hy with hy | hy
        · exact .inl ⟨y,hy,e⟩
        · rw [List.mem_singleton] at hy
          subst hy
          exact .inr e.symm
  · rcases updM_mem id s n E e he with ⟨h1,h2⟩ | ⟨_,h2,h3⟩
    · obtain ⟨n1,n2⟩:=h.ns e h1
      refine ⟨n1,fun x=>?_⟩
      have hne:e.key ≠ s:=fun hk=>h2 e (hk ▸ findE_key h.nod h1) hid rfl
      rw [n2,List.mem_append,List.mem_singleton]
      constructor
      · exact .inl
      · rintro (h4 | h4)
        · exact h4
        · simp only [Prod.mk.injEq] at h4; exact absurd h4.1 hne
    · cases hf:Zch E s with
      | none =>
        rw [hf] at h3
        rw [h3,h2]
        refine ⟨by simp [addN],fun x=>?_⟩
        have hno:∀ y ∈ occ,y.1 ≠ s:=fun y hy e=>by
          have:s ∈ E.map Ent.key:=(h.keys s).2 ⟨y,hy,e⟩
          obtain ⟨o,ho,e2⟩:=List.mem_map.1 this
          unfold Zch at hf
          rw [List.find?_eq_none] at hf
          exact hf o ho (by simpa using e2)
        rw [mem_addN,List.mem_append,List.mem_singleton]
        constructor
        · rintro (h4 | rfl)
          · cases h4
          · exact .inr rfl
        · rintro (h4 | h4)
          · exact absurd rfl (hno _ h4)
          · simp only [Prod.mk.injEq] at h4; exact .inr h4.2
      | some o =>
        rw [hf] at h3
        have hom:o ∈ E:=List.mem_of_find?_eq_some hf
        have hok:o.key = s:=by have:=List.find?_some hf; simpa using this
        obtain ⟨n1,n2⟩:=h.ns o hom
        rw [h3,h2]
        refine ⟨addN_nod n1,fun x=>?_⟩
        show x ∈ addN n o.ns ↔ _
        rw [mem_addN,n2,hok,List.mem_append,List.mem_singleton]
        constructor
        · rintro (h4 | rfl)
          · exact .inl h4
          · exact .inr rfl
        · rintro (h4 | h4)
          · exact .inl h4
          · simp only [Prod.mk.injEq] at h4; exact .inr h4.2
theorem HasOk.index {l:List Pg} {E:List Ent} (h:HasOk (occL l) E) {s:Str} (hs:s ∈ Zcy l):∃ e,Zch E s = some e ∧ e.ns.length = (Zcd (Zco l s)).length ∧ ∀ n ∈ Zcd (Zco l s),n ∈ e.ns:=by
  have h1:s ∈ E.map Ent.key:=(h.keys s).2 ((keysS_mem l s).1 hs)
  obtain ⟨e,he,rfl⟩:=List.mem_map.1 h1
  obtain ⟨n1,n2⟩:=h.ns e he
  have hm:∀ n,n ∈ e.ns ↔ n ∈ Zcd (Zco l e.key):=fun n=>by
    rw [n2,mem_onceI]
    unfold Zco
    rw [List.mem_map]
    constructor
    · intro h3; exact ⟨(e.key,n),List.mem_filter.2 ⟨h3,by simp⟩,rfl⟩
    · rintro ⟨y,hy,rfl⟩
      obtain ⟨h4,h5⟩:=List.mem_filter.1 hy
      have h6:y.1 = e.key:=by simpa using h5
      rw [← h6]; exact h4
  have hnd:(Zcd (Zco l e.key)).Nodup:=(onceI_lt _).imp fun {a b} hab=>by omega
  have hp:e.ns.Perm (Zcd (Zco l e.key)):=(List.perm_ext_iff_of_nodup n1 hnd).2 hm
  exact ⟨e,findE_key h.nod he,hp.length_eq,fun n hn=>(hm n).2 hn⟩
theorem HasOk.count {l:List Pg} {E:List Ent} (h:HasOk (occL l) E):E.length = (Zcy l).length:=by
  have hp:(E.map Ent.key).Perm (Zcy l):=(List.perm_ext_iff_of_nodup h.nod (keysS_nod l)).2 fun s=>by rw [h.keys,keysS_mem]
  have:=hp.length_eq
  rwa [List.length_map] at this
structure OkM (m t : Nat) (E : List Ent) : Prop where
  nod : (E.map Ent.id).Nodup
  ne : ∀ e ∈ E, e.id ≠ m
  lt : ∀ e ∈ E, e.id < t
  m : m < t
theorem OkM.mono {m t t':Nat} {E:List Ent} (h:OkM m t E) (ht:t ≤ t'):OkM m t' E:=⟨h.nod,h.ne,fun e he=>Nat.lt_of_lt_of_le (h.lt e he) ht,Nat.lt_of_lt_of_le h.m ht⟩
theorem tailM_get {E:List Ent} (hn:(E.map Ent.id).Nodup) {e:Ent} (he:e ∈ E):HL.get (tailM E) e.id = some (.map (encN e.ns)):=by
  refine HL.get_mem_nod ?_ (List.mem_map.2 ⟨e,he,rfl⟩)
  unfold Nod tailM
  rw [List.map_map]
  exact hn
theorem tailM_nod {E:List Ent} (hn:(E.map Ent.id).Nodup):Nod (tailM E):=by
  unfold Nod tailM
  rw [List.map_map]
  exact hn
theorem tailM_off {E:List Ent} {x:Nat} (h:∀ e ∈ E,e.id ≠ x):Off (tailM E) x:=by
  intro q hq
  obtain ⟨e,he,rfl⟩:=List.mem_map.1 hq
  exact h e he
theorem OkM.upd {m t:Nat} {E:List Ent} (h:OkM m t E) (id:Nat) (s:Str) (n:Int) (hi:t ≤ id):OkM m (id + 1) (updM id s n E):=by
  have hm:=h.m
  have hids:=updM_ids id s n E
  have key:∀ e ∈ updM id s n E,e.id ∈ E.map Ent.id ∨ e.id = id:=fun e he=>by
    have:e.id ∈ (updM id s n E).map Ent.id:=List.mem_map.2 ⟨e,he,rfl⟩
    rw [hids] at this
    cases hf:Zch E s with
    | some o=>rw [hf] at this; exact .inl this
    | none =>
      rw [hf] at this
      rcases List.mem_append.1 this with h1 | h1
      · exact .inl h1
      · exact .inr (by simpa using h1)
  refine ⟨?_,fun e he=>?_,fun e he=>?_,by omega⟩
  · rw [hids]
    cases hf:Zch E s with
    | some o=>exact h.nod
    | none =>
      rw [List.nodup_append]
      refine ⟨h.nod,by simp,fun a ha b hb=>?_⟩
      rw [List.mem_singleton] at hb
      obtain ⟨e,he,rfl⟩:=List.mem_map.1 ha
      have:=h.lt e he
      omega
  · rcases key e he with h1 | h1
    · obtain ⟨o,ho,e1⟩:=List.mem_map.1 h1
      rw [← e1]; exact h.ne o ho
    · omega
  · rcases key e he with h1 | h1
    · obtain ⟨o,ho,e1⟩:=List.mem_map.1 h1
      have:=h.lt o ho
      omega
    · omega
theorem canM_le {m t id : Nat} {E : List Ent} (h : OkM m t E) (s : Str) (n : Int) (f : Nat → Option AB) (hm : f m = some (.map (encM (updM id s n E))))
    (hid:f (((Zch E s).map Ent.id).getD id) = some (.map (encN (addN n (((Zch E s).map Ent.ns).getD []))))) (ho:∀ e ∈ E,(∀ o,Zch E s = some o → e.id ≠ o.id) → f e.id = some (.map (encN e.ns))):HL.le (canM m (updM id s n E)) f:=by
  refine ⟨hm,HL.le_all fun k v hk=>?_⟩
  obtain ⟨e,he,e1⟩:=List.mem_map.1 hk
  simp only [Prod.mk.injEq] at e1
  obtain ⟨rfl,rfl⟩:=e1
  rcases updM_mem id s n E e he with ⟨h1,h2⟩ | ⟨h1,_,h3⟩
  · exact ho e h1 fun o h4=>h2 o h4 h.nod
  · rw [h1,h3]; exact hid
theorem index_len (l:List Pg):(Zcn l).length = (Zcy l).length:=by unfold Zcn; rw [List.length_map]
theorem index_at (l:List Pg) {k:Nat} (h:k < (Zcn l).length):(Zcn l)[k].1 ∈ Zcy l ∧ (Zcn l)[k].2 = Zcd (Zco l (Zcn l)[k].1):=by
  unfold Zcn at h ⊢
  rw [List.length_map] at h
  simp only [List.getElem_map]
  exact ⟨List.getElem_mem h,trivial⟩
theorem index_up (l:List Pg) {k:Nat} (h:k + 1 < (Zcn l).length):(Zcn l)[k].1 < (Zcn l)[k + 1].1:=by
  have h1:=index_len l
  have h2:=List.pairwise_iff_getElem.1 (keysS_lt l) k (k + 1) (by omega) (by omega) (by omega)
  have e:∀ i (h:i < (Zcn l).length),(Zcn l)[i].1 = (Zcy l)[i]'(by omega):=fun i h=>by simp [Zcn]
  rw [e k (by omega),e (k + 1) h]
  simpa [ltT] using h2
end Go.Proofs.YtjmekckcffckoabGreatDoor.w
