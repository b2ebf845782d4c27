import Derived.Test.YtjmekckcffckoaaDoorW1
import Derived.Test.YtjmekckcffckoaaDoorVmAu
import Derived.Test.YtjmekckcffckoaaDoorVmD
import Derived.Test.YtjmekckcffckoaaDoorRows
import Derived.Test.YtjmekckcffckoaaDoorVmG
import Derived.Lib.LaidTab
import Derived.LaidSub
import Derived.Lib.ItoaNum
set_option linter.all false
namespace Go.Proofs.YtjmekckcffckoaaDoor.w
open Go Go.VM
set_option maxRecDepth 20000
set_option maxHeartbeats 0
set_option pp.deepTerms false
def Zbm:VC:=(.seq (.region [ZO 2 (.box 8 (.t 0)),ZO 4 (.alloc [(.int .i64 0),(.int .i64 0),(.int .i64 0),(.int .i64 0),(.str []),.nilsl,.nilsl,.nilsl]),ZO 5 (.mv (.c (.int .i64 0)))] false) (.seq (.seq (.region [ZM 8 1,ZO 9 (.bin .eql (.t 8) (.c (.int .i64 0)))] false) (.cond (.t 9) (.seq (.region [ZO 10 (.fx (.mk0 4) []),ZO 11 (.faddr 6 (.t 2)),ZO 12 (.load false 1 (.t 11)),ZO 13 (.app 4 40 [(.str []),(.int .i64 0),(.int .i64 0),(.int .i64 0)] false (.t 10) (.t 12)),ZO 14 (.build [(.str []),(.int .i64 0),(.int .i64 0),(.int .i64 0)] [(0,(1,(.c (.str [109,111,114,101]))))]),ZO 15 (.bslice 4 1 [(.str []),(.int .i64 0),(.int .i64 0),(.int .i64 0)] [(0,(.t 14))]),ZO 16 (.app 4 40 [(.str []),(.int .i64 0),(.int .i64 0),(.int .i64 0)] false (.t 13) (.t 15)),ZO 17 (.faddr 6 (.t 2)),ZN (.store 1 (.t 17) (.t 16))] false) (.seq (.region [ZO 18 (.load true 8 (.t 2)),ZN (.store 8 (.t 4) (.t 18)),ZO 5 (.mv (.c (.int .i64 (-1))))] false) .ret)) .skip)) (.seq (.region [ZM 19 1,ZO 20 (.bin .sub (.t 19) (.c (.int .i64 1))),ZM 1 20] false) (.seq (.region [ZO 21 (.fx (.mk0 8) []),ZO 22 (.faddr 7 (.t 2)),ZO 23 (.load false 1 (.t 22)),ZO 24 (.app 8 120 [(.int .i64 0),(.int .i64 0),(.int .i64 0),(.int .i64 0),(.str []),.nilsl,.nilsl,.nilsl] false (.t 21) (.t 23)),ZM 6 24] false) (.seq (.seq (.region [ZM 25 6,ZO 26 (.len false (.t 25)),ZO 27 (.mv (.c (.int .i64 0)))] false) (.block 0 (.loop (.seq (.region [ZO 28 (.bin .lss (.t 27) (.t 26))] false) (.seq (.cond (.t 28) .skip (.exit 0)) (.seq (.block 1 (.seq (.region [ZM 29 27,ZM 7 29] false) (.seq (.seq (.region [ZM 30 1,ZO 31 (.bin .lss (.t 30) (.c (.int .i64 0)))] false) (.cond (.t 31) (.exit 0) .skip)) (.region [ZM 33 6,ZM 34 7,ZM 35 6,ZM 36 7,ZO 37 (.iaddr 8 (.t 35) (.t 36)),ZO 38 (.load true 8 (.t 37)),ZM 39 1,ZO 40 (.call 23 [(.t 38),(.t 39)]),ZM 32 40,ZO 41 (.ext (.t 32) 0),ZO 42 (.ext (.t 32) 1),ZO 43 (.iaddr 8 (.t 33) (.t 34)),ZN (.store 8 (.t 43) (.t 41)),ZM 1 42] false)))) (.region [ZO 44 (.bin .add (.t 27) (.c (.int .i64 1))),ZM 27 44] false))))))) (.seq (.region [ZM 45 6,ZO 46 (.faddr 7 (.t 2)),ZN (.store 1 (.t 46) (.t 45))] false) (.seq (.region [ZO 47 (.load true 8 (.t 2)),ZM 48 1,ZN (.store 8 (.t 4) (.t 47)),ZM 5 48] false) .ret)))))))
def Zbq:VC:=(.seq (.region [ZO 2 (.box 8 (.t 0)),ZO 4 (.mv (.c .nilsl))] false) (.seq (.seq (.region [ZM 8 1,ZO 9 (.bin .eql (.t 8) (.c (.int .i64 0)))] false) (.cond (.t 9) (.seq (.region [ZO 10 (.faddr 0 (.t 2)),ZO 11 (.load true 3 (.t 10)),ZO 12 (.bslice 3 1 [(.int .i64 0),(.int .i64 0),(.int .i64 0)] [(0,(.t 11))]),ZM 4 12] false) .ret) .skip)) (.seq (.region [ZM 13 1,ZO 14 (.bin .sub (.t 13) (.c (.int .i64 1))),ZM 1 14] false) (.seq (.seq (.region [ZO 15 (.faddr 7 (.t 2)),ZO 16 (.load false 1 (.t 15)),ZO 17 (.len false (.t 16)),ZO 18 (.mv (.c (.int .i64 0)))] false) (.block 0 (.loop (.seq (.region [ZO 19 (.bin .lss (.t 18) (.t 17))] false) (.seq (.cond (.t 19) .skip (.exit 0)) (.seq (.block 1 (.seq (.region [ZO 20 (.iaddr 8 (.t 16) (.t 18)),ZO 21 (.load true 8 (.t 20)),ZO 6 (.alloc [(.int .i64 0),(.int .i64 0),(.int .i64 0),(.int .i64 0),(.str []),.nilsl,.nilsl,.nilsl]),ZN (.store 8 (.t 6) (.t 21))] false) (.seq (.region [ZO 22 (.load true 8 (.t 6)),ZO 23 (.call 22 [(.t 22)]),ZO 24 (.len false (.t 23)),ZM 7 24] false) (.seq (.seq (.region [ZM 25 1,ZM 26 7,ZO 27 (.bin .lss (.t 25) (.t 26))] false) (.cond (.t 27) (.seq (.draw2 [ZO 28 (.faddr 0 (.t 2)),ZO 29 (.load true 3 (.t 28)),ZO 30 (.bslice 3 1 [(.int .i64 0),(.int .i64 0),(.int .i64 0)] [(0,(.t 29))]),ZO 31 (.load true 8 (.t 6)),ZM 32 1,ZO 33 (.call 24 [(.t 31),(.t 32)]),ZO 34 (.app 3 24 [(.int .i64 0),(.int .i64 0),(.int .i64 0)] false (.t 30) (.t 33)),ZM 4 34] [true,true,true,true,true,true,false,false]) .ret) .skip)) (.region [ZM 35 1,ZM 36 7,ZO 37 (.bin .sub (.t 35) (.t 36)),ZM 1 37] false))))) (.region [ZO 38 (.bin .add (.t 18) (.c (.int .i64 1))),ZM 18 38] false))))))) (.seq (.region [ZO 4 (.mv (.c .nilsl))] false) .ret)))))
def moreW:Wd:=⟨[109,111,114,101],0,0,0⟩
mutual
def turnU : Un → Int → Un × Int
  | .mk a i n k l h w ks, m => if m = 0 then (.mk a i n k l h (w ++ [moreW]) ks, -1) else (.mk a i n k l h w (turnL ks (m - 1)).1, (turnL ks (m - 1)).2)
def turnL : List Un → Int → List Un × Int
  | [], m => ([], m)
  | k :: r, m => if m < 0 then (k :: r, m) else ((turnU k m).1 :: (turnL r (turnU k m).2).1, (turnL r (turnU k m).2).2)
end
theorem turnU_zero (u:Un):turnU u 0 = (.mk u.act u.item u.n u.kind u.label u.head (u.words ++ [moreW]) u.kids,-1):=by cases u; rw [turnU,if_pos rfl]; rfl
theorem turnU_pos (u:Un) {m:Int} (h:m ≠ 0):turnU u m = (.mk u.act u.item u.n u.kind u.label u.head u.words (turnL u.kids (m - 1)).1,(turnL u.kids (m - 1)).2):=by cases u; rw [turnU,if_neg h]; rfl
theorem turnL_neg (l:List Un) {m:Int} (h:m < 0):turnL l m = (l,m):=by cases l <;> simp [turnL,h]
theorem turnL_cons (k:Un) (r:List Un) {m:Int} (h:0 ≤ m):turnL (k :: r) m = ((turnU k m).1 :: (turnL r (turnU k m).2).1,(turnL r (turnU k m).2).2):=by rw [turnL,if_neg (by omega)]
mutual
def aboveU : Un → Int → List Idt
  | .mk a i n _ _ _ _ ks, m => if m = 0 then [⟨a, i, n⟩] else aboveL ⟨a, i, n⟩ ks (m - 1)
def aboveL : Idt → List Un → Int → List Idt
  | _, [], _ => []
  | d, k :: r, m => if m < (unitsT k).length then d :: aboveU k m else aboveL d r (m - (unitsT k).length)
end
theorem aboveU_eq (u:Un) (m:Int):aboveU u m = if m = 0 then [idU u] else aboveL (idU u) u.kids (m - 1):=by cases u; rw [aboveU]; rfl
mutual
theorem turnU_bd : ∀ (u : Un) (m : Int), 0 ≤ m → -1 ≤ (turnU u m).2 ∧ (turnU u m).2 ≤ m
  | .mk a i n k l h w ks, m, h0 => by
    by_cases hm : m = 0
    · subst hm; rw [turnU_zero]; exact ⟨Int.le_refl _, by simp⟩
    · rw [turnU_pos _ hm]
      have := turnL_bd ks (m - 1) (by omega)
      exact ⟨this.1, by have := this.2; show (turnL ks (m - 1)).2 ≤ m; omega⟩
theorem turnL_bd : ∀ (l : List Un) (m : Int), -1 ≤ m → -1 ≤ (turnL l m).2 ∧ (turnL l m).2 ≤ m
  | [], m, h0 => by rw [turnL]; exact ⟨h0, Int.le_refl _⟩
  | k :: r, m, h0 => by
    by_cases hm : m < 0
    · rw [turnL_neg _ hm]; exact ⟨h0, Int.le_refl _⟩
    · rw [turnL_cons _ _ (by omega)]
      have h1 := turnU_bd k m (by omega)
      have h2 := turnL_bd r (turnU k m).2 h1.1
      exact ⟨h2.1, by have := h2.2; have := h1.2; show (turnL r (turnU k m).2).2 ≤ m; omega⟩
end
theorem mid_get {α:Type} (A:List α) (x:α) (B:List α) (d:α) {k:Nat} (h:A.length = k):(A ++ x :: B).getD k d = x:=by
  subst h; simp [List.getD_eq_getElem?_getD]
theorem mid_set {α:Type} (A:List α) (x y:α) (B:List α) {k:Nat} (h:A.length = k):(A ++ x :: B).set k y = A ++ y :: B:=by
  subst h; simp
theorem view_tu {h:Heap} {id:Nat} {a b c d e f g:PV} {z:Int} {n:Nat} {R:List Un} (hg:h.get id = some (.arr false 8 (R.map Un.enc))) (hn:R.length = n):View h (.tup [.agg [a,b,c,d,e,f,g,.own id 0 n],pI z]) (.tup [.agg [a,b,c,d,e,f,g,.sl 8 (R.map Un.enc)],pI z]):=by
  refine View.tup2 ?_ (View.refl _ _)
  refine View.agg rfl fun j hj=>?_
  have hj':j = 0 ∨ j = 1 ∨ j = 2 ∨ j = 3 ∨ j = 4 ∨ j = 5 ∨ j = 6 ∨ j = 7:=by simp only [List.length_cons,List.length_nil] at hj; omega
  rcases hj' with rfl | rfl | rfl | rfl | rfl | rfl | rfl | rfl
  · exact View.refl _ _
  · exact View.refl _ _
  · exact View.refl _ _
  · exact View.refl _ _
  · exact View.refl _ _
  · exact View.refl _ _
  · exact View.refl _ _
  · show View _ (.own id 0 n) (.sl 8 (R.map Un.enc))
    exact View.own_all (fz:=false) hg (by rw [List.length_map,hn])
theorem sp_turned {u:Un} (hu:KidT u) (hw:∀ x ∈ unitsT u,x.words.length ≤ 1000000):∀ (m:Int),0 ≤ m → m ≤ 1000 → Za8 Tryd.prog 23 [.agg u.enc,pI m] (.tup [.agg (turnU u m).1.enc,pI (turnU u m).2]):=by
  induction hu with
  | mk u hk hs ih =>
    intro m h0 h1
    have hwu:u.words.length ≤ 1000000:=hw u (by rw [Za5]; exact List.mem_cons_self)
    have hcl:∀ v:Un,∀ z:Int,Closed (.tup [.agg v.enc,pI z]):=fun v z=>by
      refine closed_tup fun x hx=>?_
      simp only [List.mem_cons,List.not_mem_nil,or_false] at hx
      rcases hx with rfl | rfl
      · exact Zao fun y hy=>Un.closed _ y hy
      · exact cI _
    by_cases hm:m = 0
    · subst hm
      rw [turnU_zero]
      have hE:=Un.Za1 (.mk u.act u.item u.n u.kind u.label u.head (u.words ++ [moreW]) u.kids)
      refine Zai ?_ (hcl _ _) (by simp only [Zax,List.mem_cons,List.not_mem_nil,or_false,forall_eq_or_imp,forall_eq,false_implies,implies_true]; repeat' (first  | exact cI _ | exact Zao (Un.closed _) | exact Zbd (by simp only [List.mem_cons,List.not_mem_nil,or_false,forall_eq]; first | exact cI _ | exact cS _ | exact Za9 _) | refine And.intro ?_ ?_))
      refine Zan (vc:=Zbm) (ts:=[.c 4 true 8,.t 5]) Go.Proofs.Tryd.func23 (by kernel_rfl) rfl rfl (Nat.le_of_ble_eq_true rfl) (by kernel_rfl) ?_
      unfold Zbm
      try dsimp only [ZM,ZO,ZN,ZG]
      rw [hE]
      show VW _ _ _ (retQ _ fun r h'=>View h' r (.tup [.agg [pI u.act,pI u.item,pI u.n,pI u.kind,.str u.label,.sl 4 (u.head.map Wd.enc),.sl 4 ((u.words ++ [moreW]).map Wd.enc),.sl 8 (u.kids.map Un.enc)],pI (-1)])) _ _
      rw [List.map_append]
      rw [Un.Za1]
      have hwl:(u.words.map Wd.enc).length = u.words.length:=List.length_map _
      have hmw:[moreW].map Wd.enc = [[.str [109,111,114,101],pI 0,pI 0,pI 0]]:=rfl
      rw [hmw]
      generalize u.head.map Wd.enc = EH at *
      generalize u.words.map Wd.enc = EW at *
      generalize u.kids.map Un.enc = EK at *
      refine Zac (Zaa [1,2,4,5] ?_)
      simp only [Zab,Zad,Zaf,pok,pval,VA.ev,Env.get,Env.put,Env.keep,Za3,Zae,PV.cells,PV.fits,Heap.push,Heap.nil,Nat.succ_ne_self,List.length,Nat.reduceEqDiff,Nat.reduceAdd,ite_true,ite_false,true_and,reduceCtorEq,BEq.rfl,Nat.zero_add]
      refine Zac ?_
      refine Zac (Zaa [1,2,4,5,9] ?_)
      simp only [Zab,Zad,Zaf,pok,pval,VA.ev,Env.get,Env.put,Env.keep,Zae,intV,binV,Zal,Nat.succ_ne_self,Nat.reduceEqDiff,ite_true,ite_false,true_and,BEq.rfl]
      refine Zaj rfl (fun _=>?_) (fun h=>by cases h)
      refine Zac (Zaa [2,4,5] ?_)
      simp only [Zab,Zad,Zaf,pok,pval,VA.ev,Env.get,Env.put,Env.keep,Zae,aggV,Zbi,Zbf,Zag,Zas,fillV,fillOk,PV.cells,PV.fits,overlay,PV.nth,PV.row,Heap.get,Heap.set,Heap.del,HL.get,HL.set,HL.del,Heap.push,Nat.le_refl,Nat.succ_ne_self,Zbe,oldId,Zbn,oldOk,Za0,srcOk,Zbg,Zbr,Zbj,Zbh,fxV,fxOk,List.map,List.set,List.replicate,List.length,List.getD_cons_zero,List.take,List.drop,List.take_succ_cons,List.drop_succ_cons,List.cons_append,List.nil_append,Nat.reduceEqDiff,Nat.reduceAdd,Nat.reduceLT,Nat.reduceLeDiff,Bool.false_eq_true,ite_true,ite_false,true_and,and_true,implies_true,reduceCtorEq,BEq.rfl,Nat.zero_add,Nat.add_zero,List.length_cons,List.length_nil]
      refine ⟨by omega,by omega,by simp; omega,by simp; omega,?_⟩
      refine Zac (Zaa [4,5] ?_)
      simp only [Zab,Zad,Zaf,pok,pval,VA.ev,Env.get,Env.put,Env.keep,Zae,aggV,Zag,Zas,PV.cells,PV.fits,overlay,PV.nth,PV.row,Heap.get,Heap.set,HL.get,HL.set,HL.del,Nat.le_refl,Nat.succ_ne_self,Zbj,Zbh,List.set,List.length,List.getD_cons_zero,List.take,List.drop,List.take_succ_cons,List.drop_succ_cons,List.cons_append,List.nil_append,Nat.reduceEqDiff,Nat.reduceAdd,Nat.reduceLT,Bool.true_eq_false,ite_true,ite_false,true_and,and_true,reduceCtorEq,BEq.rfl,Nat.zero_add,List.length_cons,imp_self]
      refine Zaz ?_
      try simp only [Env.get,Zae,retQ,resV,Zbc,RS.ev,RS.ok,aggV,Zag,Zas,PV.nth,PV.row,Heap.get,HL.get,Nat.le_refl,Nat.succ_ne_self,List.map,List.length,List.getD_cons_zero,List.take,List.drop,List.take_succ_cons,Nat.reduceEqDiff,Nat.reduceAdd,Nat.reduceLT,Bool.true_eq_false,ite_true,ite_false,true_and,and_true,reduceCtorEq,Nat.zero_add,List.length_cons,imp_self]
      rw [List.take_length]
      refine View.tup rfl fun j hj=>?_
      have hj':j = 0 ∨ j = 1:=by simp only [List.length_cons,List.length_nil] at hj; omega
      rcases hj' with rfl | rfl
      · refine View.agg rfl fun j hj=>?_
        have hj':j = 0 ∨ j = 1 ∨ j = 2 ∨ j = 3 ∨ j = 4 ∨ j = 5 ∨ j = 6 ∨ j = 7:=by simp only [List.length_cons,List.length_nil] at hj; omega
        rcases hj' with rfl | rfl | rfl | rfl | rfl | rfl | rfl | rfl
        · exact View.refl _ _
        · exact View.refl _ _
        · exact View.refl _ _
        · exact View.refl _ _
        · exact View.refl _ _
        · exact View.refl _ _
        · show View _ (.own 5 0 (EW.length + 1)) (.sl 4 (EW ++ [[.str [109,111,114,101],pI 0,pI 0,pI 0]]))
          exact View.own_all (fz:=false) (by simp [Heap.get,HL.get,pI]) (by simp)
        · exact View.refl _ _
      · exact View.refl _ _
    · have hbd:=turnL_bd u.kids (m - 1) (by omega)
      rw [turnU_pos _ hm]
      have hE:=Un.Za1 (.mk u.act u.item u.n u.kind u.label u.head u.words (turnL u.kids (m - 1)).1)
      refine Zai ?_ (hcl _ _) (by simp only [Zax,List.mem_cons,List.not_mem_nil,or_false,forall_eq_or_imp,forall_eq,false_implies,implies_true]; repeat' (first  | exact cI _ | exact Zao (Un.closed _) | exact Zbd (by simp only [List.mem_cons,List.not_mem_nil,or_false,forall_eq]; first | exact cI _ | exact cS _ | exact Za9 _) | refine And.intro ?_ ?_))
      refine Zan (vc:=Zbm) (ts:=[.c 4 true 8,.t 5]) Go.Proofs.Tryd.func23 (by kernel_rfl) rfl rfl (Nat.le_of_ble_eq_true rfl) (by kernel_rfl) ?_
      unfold Zbm
      try dsimp only [ZM,ZO,ZN,ZG]
      rw [hE]
      show VW _ _ _ (retQ _ fun r h'=>View h' r (.tup [.agg [pI u.act,pI u.item,pI u.n,pI u.kind,.str u.label,.sl 4 (u.head.map Wd.enc),.sl 4 (u.words.map Wd.enc),.sl 8 ((turnL u.kids (m - 1)).1.map Un.enc)],pI (turnL u.kids (m - 1)).2])) _ _
      rw [Un.Za1]
      have hwk:∀ k ∈ u.kids,∀ x ∈ unitsT k,x.words.length ≤ 1000000:=fun k hk x hx=>hw x (by rw [Za5,Zby]; exact List.mem_cons_of_mem _ (List.mem_flatMap.2 ⟨k,hk,hx⟩))
      generalize u.head.map Wd.enc = EH at *
      generalize u.words.map Wd.enc = EW at *
      generalize u.kids = L at *
      refine Zac (Zaa [1,2,4,5] ?_)
      simp only [Zab,Zad,Zaf,pok,pval,VA.ev,Env.get,Env.put,Env.keep,Za3,Zae,PV.cells,PV.fits,Heap.push,Heap.nil,Nat.succ_ne_self,List.length,Nat.reduceEqDiff,Nat.reduceAdd,ite_true,ite_false,true_and,reduceCtorEq,BEq.rfl,Nat.zero_add]
      refine Zac ?_
      refine Zac (Zaa [1,2,4,5,9] ?_)
      simp only [Zab,Zad,Zaf,pok,pval,VA.ev,Env.get,Env.put,Env.keep,Zae,intV,binV,Zal,Nat.succ_ne_self,Nat.reduceEqDiff,ite_true,ite_false,true_and]
      refine Zaj rfl (fun h=>by simp at h; omega) (fun _=>?_)
      refine Zap ?_
      try simp only [Zae]
      refine Zac (Zaa [1,2,4] ?_)
      simp only [Zab,Zad,Zaf,pok,pval,VA.ev,Env.get,Env.put,Env.keep,Zae,intV,binV,Zal,Nat.succ_ne_self,Nat.reduceEqDiff,ite_true,ite_false,true_and,w64 (n:=m - 1) (by omega) (by omega)]
      refine Zac (Zaa [1,2,4,6] ?_)
      simp only [Zab,Zad,Zaf,pok,pval,VA.ev,Env.get,Env.put,Env.keep,Zae,aggV,Zbi,Zbf,Zag,Zas,PV.nth,PV.row,Heap.get,Heap.del,HL.get,HL.del,Heap.push,Nat.le_refl,Nat.succ_ne_self,Zbe,oldId,Zbn,oldOk,Za0,srcOk,fxV,fxOk,List.map,List.length,List.getD_cons_zero,List.take,List.drop,List.take_succ_cons,List.drop_succ_cons,List.nil_append,Nat.reduceEqDiff,Nat.reduceAdd,Nat.reduceLT,Bool.false_eq_true,ite_true,ite_false,true_and,and_true,implies_true,reduceCtorEq,Nat.zero_add,Nat.add_zero,List.length_cons,List.length_nil,List.length_map]
      refine ⟨by omega,by omega,?_⟩
      refine Zac ?_
      refine Zac (Zaa [1,2,4,6,26,27] ?_)
      simp only [Zab,Zad,Zaf,pok,pval,VA.ev,Env.get,Env.put,Env.keep,Zae,lenV,Zcd,Nat.succ_ne_self,Nat.reduceEqDiff,ite_true,ite_false,true_and,List.length_map]
      refine Zam ?_
      refine Zb6 (σ:={ x:Nat × List Un × Int × Nat // x.1 ≤ L.length ∧ x.2.1.length = x.1 ∧ -1 ≤ x.2.2.1 ∧ x.2.2.1 ≤ 1000 ∧ turnL L (m - 1) = (x.2.1 ++ (turnL (L.drop x.1) x.2.2.1).1,(turnL (L.drop x.1) x.2.2.1).2) ∧ 3 < x.2.2.2 }) (fun x=>([(1,pI x.1.2.2.1),(2,.loc 0 0 0),(4,.loc 1 0 0),(6,.own 3 0 L.length),(26,pI L.length),(27,pI x.1.1)],⟨[(3,.arr false 8 ((x.1.2.1 ++ L.drop x.1.1).map Un.enc)),(1,.arr false 8 [[pI 0,pI 0,pI 0,pI 0,.str [],.nilsl,.nilsl,.nilsl]]),(0,.arr false 8 [[pI u.act,pI u.item,pI u.n,pI u.kind,.str u.label,.sl 4 EH,.sl 4 EW,.sl 8 (L.map Un.enc)]])],x.1.2.2.2⟩)) (fun x=>L.length - x.1.1) ⟨(0,[],m - 1,4),Nat.zero_le _,rfl,by simp; omega,by simp; omega,by simp,by simp⟩ ?_ ?_ ?_
      · simp only [Env.get,Nat.succ_ne_self,Env.le,Nat.reduceEqDiff,ite_true,ite_false,true_and,and_true]
        rfl
      · simp only [Heap.get,Heap.le,HL.get,HL.le,Nat.le_refl,Nat.succ_ne_self,List.drop,List.nil_append,Nat.reduceEqDiff,ite_true,ite_false,and_true,reduceCtorEq]
        try rfl
      rintro ⟨⟨k,P,z,t⟩,hk1,hP,hz0,hz1,hT,ht⟩
      simp only [] at hk1 hP hz0 hz1 hT ht ⊢
      refine Zac (Zaa [1,2,4,6,26,27,28] ?_)
      simp only [Zab,Zad,Zaf,pok,pval,VA.ev,Env.get,Env.put,Env.keep,Zae,intV,binV,Zal,Heap.get,Heap.le,HL.le,Nat.succ_ne_self,Env.le,Nat.reduceEqDiff,ite_true,ite_false,true_and,and_true]
      have hfinB:L.length ≤ k ∨ z < 0 → turnL L (m - 1) = (P ++ L.drop k,z):=fun h=>by
        rw [hT]
        rcases h with h | h
        · rw [List.drop_eq_nil_of_le h,turnL]
        · rw [turnL_neg _ h]
      have hlenR:(P ++ L.drop k).length = L.length:=by rw [List.length_append,hP,List.length_drop]; omega
      refine Zac ?_
      refine Zaj rfl (fun h1=>?_) (fun h1=>?_)
      · simp only [decide_eq_true_eq] at h1
        have ka:k < L.length:=by omega
        refine Zap ?_
        try simp only [Zae]
        refine Zac ?_
        refine Zam ?_
        refine Zac (Zaa [1,2,4,6,7,26,27] ?_)
        simp only [Zab,Zad,Zaf,pok,pval,VA.ev,Env.get,Env.put,Env.keep,Zae,Nat.succ_ne_self,Nat.reduceEqDiff,ite_true,ite_false,true_and]
        refine Zac ?_
        refine Zac (Zaa [1,2,4,6,7,26,27,31] ?_)
        simp only [Zab,Zad,Zaf,pok,pval,VA.ev,Env.get,Env.put,Env.keep,Zae,intV,binV,Zal,Nat.succ_ne_self,Nat.reduceEqDiff,ite_true,ite_false,true_and]
        refine Zaj rfl (fun h2=>?_) (fun h2=>?_)
        · simp only [decide_eq_true_eq] at h2
          rw [hfinB (.inr h2)]
          generalize hR:P ++ L.drop k = R at *
          refine Zbs ?_
          try simp only [Zae,Zaw,retQ,ite_true,ite_false,reduceCtorEq]
          refine Zac (Zaa [1,2,4] ?_)
          simp only [Zab,Zad,Zaf,pok,pval,VA.ev,Env.get,Env.put,Env.keep,Zae,Zbi,Zbf,PV.cells,PV.fits,overlay,PV.row,Heap.get,Heap.set,HL.get,HL.set,HL.del,Nat.le_refl,Nat.succ_ne_self,Zbj,Zbh,List.set,List.length,List.getD_cons_zero,List.take,List.drop,List.take_succ_cons,List.drop_succ_cons,List.cons_append,List.nil_append,Nat.reduceEqDiff,Nat.reduceAdd,Nat.reduceLT,ite_true,ite_false,true_and,and_true,reduceCtorEq,BEq.rfl,Nat.zero_add,List.length_cons]
          refine Zac (Zaa [4,5] ?_)
          simp only [Zab,Zad,Zaf,pok,pval,VA.ev,Env.get,Env.put,Env.keep,Zae,aggV,Zag,Zas,PV.cells,PV.fits,overlay,PV.nth,PV.row,Heap.get,Heap.set,HL.get,HL.set,HL.del,Nat.le_refl,Nat.succ_ne_self,Zbj,Zbh,List.set,List.length,List.getD_cons_zero,List.take,List.drop,List.take_succ_cons,List.drop_succ_cons,List.cons_append,List.nil_append,Nat.reduceEqDiff,Nat.reduceAdd,Nat.reduceLT,Bool.true_eq_false,ite_true,ite_false,true_and,and_true,reduceCtorEq,BEq.rfl,Nat.zero_add,List.length_cons,imp_self]
          refine Zaz ?_
          try simp only [Env.get,retQ,resV,Zbc,RS.ev,RS.ok,aggV,Zag,Zas,PV.nth,PV.row,Heap.get,HL.get,Nat.le_refl,Nat.succ_ne_self,List.map,List.length,List.getD_cons_zero,List.take,List.drop,List.take_succ_cons,Nat.reduceEqDiff,Nat.reduceAdd,Nat.reduceLT,Bool.true_eq_false,ite_true,ite_false,true_and,and_true,reduceCtorEq,Nat.zero_add,List.length_cons,imp_self]
          exact view_tu (by simp [Heap.get,HL.get]) hlenR
        · simp only [decide_eq_false_iff_not] at h2
          refine Zap ?_
          try simp only [Zae]
          have hd:L.drop k = L[k] :: L.drop (k + 1):=List.drop_eq_getElem_cons ka
          have R:=ih _ (List.getElem_mem ka) (hwk _ (List.getElem_mem ka)) z (by omega) (by omega)
          have hb:=turnU_bd L[k] z (by omega)
          rw [hd,turnL_cons _ _ (by omega)] at hT
          simp only [] at hT
          rw [hd,List.map_append,List.map_cons]
          generalize L[k] = v at *
          have hvE:=Un.Za1 v
          have hxE:=Un.Za1 (turnU v z).1
          rw [hvE,hxE] at R
          rw [hvE]
          have hPl:(P.map Un.enc).length = k:=by rw [List.length_map,hP]
          generalize hTv:turnU v z = tv at *
          obtain ⟨v',z'⟩:=tv
          simp only [] at hT hb R hxE ⊢
          have hM1:=fun (x:List PV) (d:List PV)=>mid_get (P.map Un.enc) x ((L.drop (k + 1)).map Un.enc) d hPl
          have hM2:=fun (x y:List PV)=>mid_set (P.map Un.enc) x y ((L.drop (k + 1)).map Un.enc) hPl
          have hM3:∀ x:List PV,(P.map Un.enc ++ x :: (L.drop (k + 1)).map Un.enc).length = L.length:=fun x=>by rw [List.length_append,hPl,List.length_cons,List.length_map,List.length_drop]; omega
          refine Zaa [1,2,4,6,26,27] ?_
          simp only [Zab,Zad,Zaf,pok,pval,VA.ev,Env.get,Env.put,Env.keep,Zae,Zaw,aggV,isInt,numOf,lenV,Zag,Zas,iaddrV,Zb5,extV,extOk,PV.cells,PV.fits,overlay,PV.nth,PV.row,Heap.get,Heap.set,HL.get,Nat.le_refl,Nat.succ_ne_self,Zbj,Zbh,List.map,List.length,List.getD_cons_zero,List.take,List.drop,List.take_succ_cons,List.nil_append,Nat.reduceEqDiff,Nat.reduceAdd,Bool.true_eq_false,ite_true,ite_false,true_and,and_true,reduceCtorEq,Nat.zero_add,List.length_cons,imp_self,Int.toNat_natCast,hM1,hM3]
          refine ⟨⟨by omega,by omega⟩,by omega,?_⟩
          refine Zaq R ?_
          try simp only [HL.get,HL.set,HL.del,Nat.le_refl,List.length,List.getD_cons_zero,List.getD_cons_succ,List.drop,List.drop_succ_cons,List.cons_append,List.nil_append,Nat.reduceEqDiff,Nat.reduceAdd,Nat.reduceLT,ite_true,ite_false,true_and,and_true,reduceCtorEq,BEq.rfl,Nat.zero_add,List.length_cons,hM1,hM2,hM3]
          refine ⟨by omega,by omega,?_⟩
          refine Zaa [1,2,4,6,26,27] ?_
          simp only [Zab,Zad,Zaf,pok,pval,VA.ev,Env.get,Env.put,Env.keep,Zae,intV,binV,Zal,HL.get,Nat.succ_ne_self,Nat.reduceEqDiff,ite_true,ite_false,true_and,and_true,reduceCtorEq,Option.some.injEq,ad1 (a:=k) (by omega)]
          refine ⟨⟨(k + 1,P ++ [v'],z',t),by show k + 1 ≤ L.length; omega,by show (P ++ [v']).length = k + 1; rw [List.length_append,hP]; rfl,hb.1,by show z' ≤ 1000; have:=hb.2; omega,by show turnL L (m - 1) = (P ++ [v'] ++ (turnL (L.drop (k + 1)) z').1,(turnL (L.drop (k + 1)) z').2); rw [hT]; simp,ht⟩,?_⟩
          simp only [List.map_append,List.map_cons,List.map_nil,hxE,List.append_assoc,List.singleton_append]
          try simp only [Nat.le_refl,true_and,and_true,true_and]
          all_goals (repeat' (first | rfl | trivial | omega | (simp only []; omega) | refine And.intro ?_ ?_))
      · simp only [decide_eq_false_iff_not] at h1
        rw [hfinB (.inl (by omega))]
        generalize hR:P ++ L.drop k = R at *
        refine Zbs ?_
        try simp only [Zae,Zaw,retQ,ite_true]
        refine Zac (Zaa [1,2,4] ?_)
        simp only [Zab,Zad,Zaf,pok,pval,VA.ev,Env.get,Env.put,Env.keep,Zae,Zbi,Zbf,PV.cells,PV.fits,overlay,PV.row,Heap.get,Heap.set,HL.get,HL.set,HL.del,Nat.le_refl,Nat.succ_ne_self,Zbj,Zbh,List.set,List.length,List.getD_cons_zero,List.take,List.drop,List.take_succ_cons,List.drop_succ_cons,List.cons_append,List.nil_append,Nat.reduceEqDiff,Nat.reduceAdd,Nat.reduceLT,ite_true,ite_false,true_and,and_true,reduceCtorEq,BEq.rfl,Nat.zero_add,List.length_cons]
        refine Zac (Zaa [4,5] ?_)
        simp only [Zab,Zad,Zaf,pok,pval,VA.ev,Env.get,Env.put,Env.keep,Zae,aggV,Zag,Zas,PV.cells,PV.fits,overlay,PV.nth,PV.row,Heap.get,Heap.set,HL.get,HL.set,HL.del,Nat.le_refl,Nat.succ_ne_self,Zbj,Zbh,List.set,List.length,List.getD_cons_zero,List.take,List.drop,List.take_succ_cons,List.drop_succ_cons,List.cons_append,List.nil_append,Nat.reduceEqDiff,Nat.reduceAdd,Nat.reduceLT,Bool.true_eq_false,ite_true,ite_false,true_and,and_true,reduceCtorEq,BEq.rfl,Nat.zero_add,List.length_cons,imp_self]
        refine Zaz ?_
        try simp only [Env.get,retQ,resV,Zbc,RS.ev,RS.ok,aggV,Zag,Zas,PV.nth,PV.row,Heap.get,HL.get,Nat.le_refl,Nat.succ_ne_self,List.map,List.length,List.getD_cons_zero,List.take,List.drop,List.take_succ_cons,Nat.reduceEqDiff,Nat.reduceAdd,Nat.reduceLT,Bool.true_eq_false,ite_true,ite_false,true_and,and_true,reduceCtorEq,Nat.zero_add,List.length_cons,imp_self]
        exact view_tu (by simp [Heap.get,HL.get]) hlenR
mutual
theorem aboveU_len : ∀ (u : Un) (m : Int), (aboveU u m).length ≤ (unitsT u).length
  | .mk a i n k l h w ks, m => by
    rw [aboveU_eq, Za5]
    split
    · simp
    · have := aboveL_len (idU (.mk a i n k l h w ks)) ks (m - 1)
      rw [List.length_cons]
      show (aboveL _ ks (m - 1)).length ≤ (unitsL ks).length + 1
      exact this
theorem aboveL_len : ∀ (d : Idt) (l : List Un) (m : Int), (aboveL d l m).length ≤ (unitsL l).length + 1
  | d, [], m => by rw [aboveL]; simp
  | d, k :: r, m => by
    rw [aboveL, unitsL, List.length_append]
    split
    · have := aboveU_len k m; rw [List.length_cons]; omega
    · have := aboveL_len d r (m - (unitsT k).length); omega
end
theorem sp_above {u:Un} (hu:KidT u) (hn:(unitsT u).length ≤ 10000):∀ (m:Int),0 ≤ m → m ≤ 1000 → Za8 Tryd.prog 24 [.agg u.enc,pI m] (.sl 3 ((aboveU u m).map Idt.enc)):=by
  induction hu with
  | mk u hk hs ih =>
    intro m h0 h1
    rw [aboveU_eq]
    by_cases hm:m = 0
    · subst hm
      rw [if_pos rfl]
      refine Zai ?_ (closed_ids _) (by simp only [Zax,List.mem_cons,List.not_mem_nil,or_false,forall_eq_or_imp,forall_eq,false_implies,implies_true]; repeat' (first  | exact cI _ | exact Zao (Un.closed _) | exact Zau (fun w _=>Un.closed w) | exact Zbd (by simp only [List.mem_cons,List.not_mem_nil,or_false,forall_eq]; first | exact cI _ | exact cS _ | exact Za9 _) | refine And.intro ?_ ?_))
      refine Zan (vc:=Zbq) (ts:=[.t 4]) Go.Proofs.Tryd.func24 (by kernel_rfl) rfl rfl (Nat.le_of_ble_eq_true rfl) (by kernel_rfl) ?_
      unfold Zbq
      try dsimp only [ZM,ZO,ZN,ZG]
      rw [Un.Za1]
      show VW _ _ _ (retQ _ fun r h'=>View h' r (.sl 3 [[pI u.act,pI u.item,pI u.n]])) _ _
      refine Zac (Zaa [1,2] ?_)
      simp only [Zab,Zad,Zaf,pok,pval,VA.ev,Env.get,Env.put,Env.keep,Za3,Zae,PV.cells,PV.fits,Heap.push,Heap.nil,Nat.succ_ne_self,List.length,Nat.reduceEqDiff,Nat.reduceAdd,ite_true,ite_false,true_and,reduceCtorEq,BEq.rfl,Nat.zero_add]
      refine Zac ?_
      refine Zac (Zaa [2,9] ?_)
      simp only [Zab,Zad,Zaf,pok,pval,VA.ev,Env.get,Env.put,Env.keep,Zae,intV,binV,Zal,Nat.succ_ne_self,Nat.reduceEqDiff,ite_true,ite_false,true_and,BEq.rfl]
      refine Zaj rfl (fun _=>?_) (fun h=>by cases h)
      refine Zac (Zaa [4] ?_)
      simp only [Zab,Zad,Zaf,pok,pval,VA.ev,Env.get,Env.put,Env.keep,Zae,aggV,Zbi,Zbf,Zag,Zas,PV.cells,PV.fits,PV.nth,PV.row,Heap.get,HL.get,Heap.push,Zbg,Zbr,List.set,List.replicate,List.length,List.getD_cons_zero,List.take,List.drop,List.take_succ_cons,Nat.reduceEqDiff,Nat.reduceAdd,Nat.reduceLT,Nat.reduceLeDiff,Bool.true_eq_false,ite_true,ite_false,true_and,and_true,BEq.rfl,Nat.zero_add,Nat.add_zero,List.length_cons,imp_self]
      refine Zaz ?_
      try simp only [Env.get,Zae,retQ,resV,Zbc,RS.ev,RS.ok,ite_true,true_and,and_true]
      exact View.own_all (fz:=false) (by simp [Heap.get,HL.get,pI]) (by simp)
    · rw [if_neg hm]
      rw [Za5,List.length_cons] at hn
      have hnk:∀ k ∈ u.kids,(unitsT k).length ≤ 10000:=fun k hk=>by have:=unitsL_mem hk; omega
      have hU:∀ k ∈ u.kids,Za8 Tryd.prog 22 [.agg k.enc] (.sl 8 ((unitsT k).map Un.enc)):=fun k hk=>sp_r_Units (hs k hk) (by have:=hnk k hk; omega)
      have hal:=aboveL_len (idU u) u.kids (m - 1)
      refine Zai ?_ (closed_ids _) (by simp only [Zax,List.mem_cons,List.not_mem_nil,or_false,forall_eq_or_imp,forall_eq,false_implies,implies_true]; repeat' (first  | exact cI _ | exact Zao (Un.closed _) | exact Zau (fun w _=>Un.closed w) | exact Zbd (by simp only [List.mem_cons,List.not_mem_nil,or_false,forall_eq]; first | exact cI _ | exact cS _ | exact Za9 _) | refine And.intro ?_ ?_))
      refine Zan (vc:=Zbq) (ts:=[.t 4]) Go.Proofs.Tryd.func24 (by kernel_rfl) rfl rfl (Nat.le_of_ble_eq_true rfl) (by kernel_rfl) ?_
      unfold Zbq
      try dsimp only [ZM,ZO,ZN,ZG]
      rw [Un.Za1]
      have hid:(idU u).enc = [pI u.act,pI u.item,pI u.n]:=rfl
      generalize idU u = d at *
      generalize u.head.map Wd.enc = EH at *
      generalize u.words.map Wd.enc = EW at *
      generalize u.kids = L at *
      refine Zac (Zaa [1,2] ?_)
      simp only [Zab,Zad,Zaf,pok,pval,VA.ev,Env.get,Env.put,Env.keep,Za3,Zae,PV.cells,PV.fits,Heap.push,Heap.nil,Nat.succ_ne_self,List.length,Nat.reduceEqDiff,Nat.reduceAdd,ite_true,ite_false,true_and,reduceCtorEq,BEq.rfl,Nat.zero_add]
      refine Zbu [(1,pI m),(2,.ro [pI u.act,pI u.item,pI u.n,pI u.kind,.str u.label,.sl 4 EH,.sl 4 EW,.sl 8 (L.map Un.enc)])] ⟨View.refl _ _,View.loc (z:=8) (fz:=false) (es:=[[pI u.act,pI u.item,pI u.n,pI u.kind,.str u.label,.sl 4 EH,.sl 4 EW,.sl 8 (L.map Un.enc)]]) rfl (by simp) rfl (by simp),trivial⟩ ?_
      refine Zac ?_
      refine Zac (Zaa [1,2,9] ?_)
      simp only [Zab,Zad,Zaf,pok,pval,VA.ev,Env.get,Env.put,Env.keep,Zae,intV,binV,Zal,Nat.succ_ne_self,Nat.reduceEqDiff,ite_true,ite_false,true_and]
      refine Zaj rfl (fun h=>by simp at h; omega) (fun _=>?_)
      refine Zap ?_
      try simp only [Zae]
      refine Zac (Zaa [1,2] ?_)
      simp only [Zab,Zad,Zaf,pok,pval,VA.ev,Env.get,Env.put,Env.keep,Zae,intV,binV,Zal,Nat.succ_ne_self,Nat.reduceEqDiff,ite_true,ite_false,true_and,w64 (n:=m - 1) (by omega) (by omega)]
      refine Zac ?_
      refine Zac (Zaa [1,2,16,17,18] ?_)
      simp only [Zab,Zad,Zaf,pok,pval,VA.ev,Env.get,Env.put,Env.keep,Zae,aggV,lenV,Zbi,Zbf,Zag,Zas,Zcd,PV.nth,Nat.le_refl,Nat.succ_ne_self,List.length,List.getD_cons_zero,List.take,List.drop,List.take_succ_cons,Nat.reduceEqDiff,Bool.false_eq_true,ite_true,ite_false,true_and,and_true,implies_true,Nat.zero_add,List.length_cons,List.length_map]
      refine Zam ?_
      refine Zb6 (σ:={ x:Nat × Int × Nat // x.1 ≤ L.length ∧ 0 ≤ x.2.1 ∧ x.2.1 ≤ 1000 ∧ aboveL d L (m - 1) = aboveL d (L.drop x.1) x.2.1 }) (fun x=>([(1,pI x.1.2.1),(2,.ro [pI u.act,pI u.item,pI u.n,pI u.kind,.str u.label,.sl 4 EH,.sl 4 EW,.sl 8 (L.map Un.enc)]),(16,.sl 8 (L.map Un.enc)),(17,pI L.length),(18,pI x.1.1)],⟨[],x.1.2.2⟩)) (fun x=>L.length - x.1.1) ⟨(0,m - 1,1),Nat.zero_le _,by simp; omega,by simp; omega,by simp⟩ ?_ ?_ ?_
      · simp only [Env.get,Nat.succ_ne_self,Env.le,Nat.reduceEqDiff,ite_true,ite_false,true_and,and_true]
        rfl
      · simp only [Heap.le,HL.le,Nat.le_refl,and_true]
        try rfl
      rintro ⟨⟨k,z,t⟩,hk1,hz0,hz1,hA⟩
      simp only [] at hk1 hz0 hz1 hA ⊢
      refine Zac (Zaa [1,2,16,17,18,19] ?_)
      simp only [Zab,Zad,Zaf,pok,pval,VA.ev,Env.get,Env.put,Env.keep,Zae,intV,binV,Zal,Heap.le,HL.le,Nat.succ_ne_self,Env.le,Nat.reduceEqDiff,ite_true,ite_false,true_and,and_true]
      refine Zac ?_
      refine Zaj rfl (fun h1=>?_) (fun h1=>?_)
      · simp only [decide_eq_true_eq] at h1
        have ka:k < L.length:=by omega
        have hd:L.drop k = L[k] :: L.drop (k + 1):=List.drop_eq_getElem_cons ka
        have hrow:(L.map Un.enc).getD k [] = L[k].enc:=rowm ka
        have R:=ih _ (List.getElem_mem ka) (hnk _ (List.getElem_mem ka)) z hz0 hz1
        have U:=hU _ (List.getElem_mem ka)
        have hl2:=hnk _ (List.getElem_mem ka)
        have hal2:=aboveU_len L[k] z
        rw [hd,aboveL] at hA
        generalize L[k] = v at *
        have hvE:=Un.Za1 v
        rw [hvE] at R U hrow
        refine Zap ?_
        try simp only [Zae]
        refine Zac ?_
        refine Zam ?_
        refine Zac (Zaa [1,2,6,16,17,18] ?_)
        simp only [Zab,Zad,Zaf,pok,pval,VA.ev,Env.get,Env.put,Env.keep,Zae,aggV,isInt,numOf,lenV,Zag,Zas,iaddrV,Zb5,PV.cells,PV.fits,overlay,PV.nth,PV.row,Heap.get,Heap.set,HL.get,HL.set,HL.del,Heap.push,Nat.le_refl,Nat.succ_ne_self,Zbj,Zbh,List.set,List.length,List.getD_cons_zero,List.take,List.drop,List.take_succ_cons,List.drop_succ_cons,List.cons_append,List.nil_append,Nat.reduceEqDiff,Nat.reduceAdd,Nat.reduceLT,Bool.true_eq_false,ite_true,ite_false,true_and,and_true,BEq.rfl,Nat.zero_add,List.length_cons,imp_self,Int.toNat_natCast,List.length_map,hrow]
        refine ⟨by omega,?_⟩
        refine Zac (Zaa [1,2,6,7,16,17,18] ?_)
        simp only [Zab,Zad,Zaf,pok,pval,VA.ev,Env.get,Env.put,Env.keep,Zae,aggV,lenV,Zag,Zas,Zcd,PV.nth,PV.row,Heap.get,HL.get,Nat.le_refl,Nat.succ_ne_self,List.map,List.length,List.getD_cons_zero,List.take,List.drop,List.take_succ_cons,Nat.reduceEqDiff,Nat.reduceAdd,Nat.reduceLT,Bool.false_eq_true,Bool.true_eq_false,ite_true,ite_false,true_and,and_true,Nat.zero_add,List.length_cons,imp_self]
        refine Zaq U ?_
        try simp only [true_and,List.length_map]
        refine Zac ?_
        refine Zac (Zaa [1,2,6,7,16,17,18,27] ?_)
        simp only [Zab,Zad,Zaf,pok,pval,VA.ev,Env.get,Env.put,Env.keep,Zae,intV,binV,Zal,Nat.succ_ne_self,Nat.reduceEqDiff,ite_true,ite_false,true_and]
        refine Zaj rfl (fun h2=>?_) (fun h2=>?_)
        · simp only [decide_eq_true_eq] at h2
          rw [if_pos h2] at hA
          rw [hA]
          have hE4:(d :: aboveU v z).map Idt.enc = [pI u.act,pI u.item,pI u.n] :: (aboveU v z).map Idt.enc:=by rw [List.map_cons,hid]
          rw [hE4]
          have hAl:((aboveU v z).map Idt.enc).length = (aboveU v z).length:=List.length_map _
          generalize (aboveU v z).map Idt.enc = AE at *
          refine Zac (VW_draw2O 2 ⟨[(t,.arr false 8 [[pI v.act,pI v.item,pI v.n,pI v.kind,.str v.label,.sl 4 (v.head.map Wd.enc),.sl 4 (v.words.map Wd.enc),.sl 8 (v.kids.map Un.enc)]])],t + 20⟩ [4] rfl (by simp [Heap.le,Heap.get,HL.le,HL.get]) ?_)
          simp only [Zaf,QW,dok,dval,VOp.pure,VOp.simple,VOp.det,pok,pval,VA.ev,Env.get,Env.put,Env.keep,Zae,gd,aggV,Zbi,Zbf,Zag,Zas,PV.cells,PV.fits,PV.nth,PV.row,Heap.get,Heap.del,Heap.le,HL.get,HL.del,HL.le,Heap.push,Nat.le_refl,Nat.left_eq_add,Nat.succ_ne_self,Zbe,oldId,Zbn,oldOk,Za0,srcOk,Zbg,Zbr,List.set,List.replicate,List.length,List.getD_cons_zero,List.take,List.drop,List.take_succ_cons,List.cons_append,List.nil_append,Nat.reduceEqDiff,Nat.reduceAdd,Nat.reduceLT,Nat.reduceLeDiff,Bool.false_eq_true,Bool.true_eq_false,ite_true,ite_false,true_and,and_true,implies_true,forall_const,BEq.rfl,Nat.zero_add,List.length_cons,imp_self,DrawC_nil,DrawC_at,DrawC_n,Nat.reduceBEq]
          refine ⟨by omega,_,.inl R,?_⟩
          try simp only [true_and,DrawC_nil,DrawC_at,DrawC_n,Nat.reduceBEq]
          refine ⟨by omega,by omega,⟨by omega,by rw [if_neg (by omega)]⟩,?_⟩
          refine Zaz ?_
          try simp only [Env.get,Zae,Zaw,retQ,resV,Zbc,RS.ev,RS.ok,ite_true,true_and,and_true]
          exact View.own_all (fz:=false) (by simp [Heap.get,HL.get,pI]) (by simp; omega)
        · simp only [decide_eq_false_iff_not] at h2
          rw [if_neg h2] at hA
          refine Zap ?_
          try simp only [Zae]
          refine Zaa [1,2,16,17,18] ?_
          simp only [Zab,Zad,Zaf,pok,pval,VA.ev,Env.get,Env.put,Env.keep,Zae,Zaw,intV,binV,Zal,Nat.succ_ne_self,Nat.reduceEqDiff,ite_true,ite_false,true_and,w64 (n:=z - ((unitsT v).length:Int)) (by omega) (by omega)]
          refine Zaa [1,2,16,17,18] ?_
          simp only [Zab,Zad,Zaf,pok,pval,VA.ev,Env.get,Env.put,Env.keep,Zae,intV,binV,Zal,Nat.succ_ne_self,Nat.reduceEqDiff,ite_true,ite_false,true_and,ad1 (a:=k) (by omega)]
          refine ⟨⟨(k + 1,z - (unitsT v).length,t + 1),ka,by show 0 ≤ z - ((unitsT v).length:Int); omega,by show z - ((unitsT v).length:Int) ≤ 1000; omega,hA⟩,?_⟩
          try simp only [Nat.le_refl,true_and,and_true,true_and]
          all_goals (repeat' (first | rfl | trivial | omega | (simp only []; omega) | refine And.intro ?_ ?_))
      · simp only [decide_eq_false_iff_not] at h1
        have hkl:k = L.length:=by omega
        rw [hkl,List.drop_length,aboveL] at hA
        rw [hA]
        refine Zbs ?_
        try simp only [Zae,Zaw,retQ,List.map,ite_true]
        refine Zac (Zaa [4] ?_)
        simp only [Zab,Zad,Zaf,pok,pval,VA.ev,Env.get,Env.put,Env.keep,Zae,Nat.reduceEqDiff,ite_true,ite_false,true_and]
        refine Zaz ?_
        try simp only [Env.get,retQ,resV,Zbc,RS.ev,RS.ok,ite_true,true_and,and_true]
        exact View.nil _ _
def NearU (way:List Idt) (a b:Un):Prop:=idU a = idU b ∧ (a = b ∨ idU a ∈ way)
inductive Near (way : List Idt) : List Un → List Un → Prop
  | nil : Near way [] []
  | cons {a b : Un} {l r : List Un} (h : NearU way a b) (t : Near way l r) : Near way (a :: l) (b :: r)
theorem near_refl (way:List Idt):∀ l:List Un,Near way l l
  | []=>.nil
  | a :: r=>.cons ⟨rfl,.inl rfl⟩ (near_refl way r)
theorem near_mono {way way':List Idt} (h:∀ x ∈ way,x ∈ way') {l r:List Un} (H:Near way l r):Near way' l r:=by
  induction H with
  | nil=>exact .nil
  | cons hab _ ih=>exact .cons ⟨hab.1,hab.2.imp id (h _)⟩ ih
theorem near_app {way:List Idt} {a b c d:List Un} (h1:Near way a b) (h2:Near way c d):Near way (a ++ c) (b ++ d):=by
  induction h1 with
  | nil=>exact h2
  | cons h _ ih=>exact .cons h ih
theorem near_len {way:List Idt} {a b:List Un} (h:Near way a b):a.length = b.length:=by
  induction h with
  | nil=>rfl
  | cons _ _ ih=>rw [List.length_cons,List.length_cons,ih]
mutual
theorem turnU_near : ∀ (u : Un) (m : Int), 0 ≤ m → Near (aboveU u m) (unitsT u) (unitsT (turnU u m).1) ∧ (((unitsT u).length : Int) ≤ m → turnU u m = (u, m - (unitsT u).length)) ∧ (m < (unitsT u).length → (turnU u m).2 = -1)
  | .mk a i n k l h w ks, m, h0 => by
    have hU : unitsT (.mk a i n k l h w ks) = .mk a i n k l h w ks :: unitsL ks := Za5 _
    by_cases hm : m = 0
    · subst hm
      rw [turnU_zero, aboveU_eq, if_pos rfl, hU, Za5]
      refine ⟨.cons ⟨rfl, .inr List.mem_cons_self⟩ (near_refl _ _), fun h => ?_, fun _ => rfl⟩
      rw [List.length_cons] at h; omega
    · have L := turnL_near (idU (.mk a i n k l h w ks)) ks (m - 1) (by omega)
      rw [turnU_pos _ hm, aboveU_eq, if_neg hm, hU, Za5]
      rw [List.length_cons]
      refine ⟨?_, fun hm1 => ?_, fun hm1 => ?_⟩
      · refine .cons ⟨rfl, ?_⟩ L.1
        by_cases hlt : m - 1 < (unitsL ks).length
        · exact .inr (L.2.2 hlt).1
        · refine .inl ?_
          show Un.mk a i n k l h w ks = Un.mk a i n k l h w (turnL ks (m - 1)).1
          rw [L.2.1 (by omega)]
      · show (Un.mk a i n k l h w (turnL ks (m - 1)).1, (turnL ks (m - 1)).2) = _
        rw [L.2.1 (by omega)]
        show (Un.mk a i n k l h w ks, m - 1 - ((unitsL ks).length : Int)) = _
        congr 1
        omega
      · exact (L.2.2 (by omega)).2
theorem turnL_near : ∀ (d : Idt) (l : List Un) (m : Int), 0 ≤ m → Near (aboveL d l m) (unitsL l) (unitsL (turnL l m).1) ∧ (((unitsL l).length : Int) ≤ m → turnL l m = (l, m - (unitsL l).length)) ∧ (m < (unitsL l).length → d ∈ aboveL d l m ∧ (turnL l m).2 = -1)
  | d, [], m, h0 => by
    refine ⟨by rw [turnL]; exact near_refl _ _, fun _ => by rw [turnL]; simp [unitsL], fun h => ?_⟩
    simp [unitsL] at h; omega
  | d, k :: r, m, h0 => by
    have K := turnU_near k m h0
    rw [turnL_cons _ _ h0, aboveL, unitsL, List.length_append]
    show Near _ _ (unitsL ((turnU k m).1 :: (turnL r (turnU k m).2).1)) ∧ _
    rw [unitsL]
    by_cases hlt : m < (unitsT k).length
    · rw [if_pos hlt, K.2.2 hlt, turnL_neg r (by omega)]
      refine ⟨near_app (near_mono (fun x hx => List.mem_cons_of_mem _ hx) K.1) (near_refl _ _), fun h => by omega, fun _ => ⟨List.mem_cons_self, rfl⟩⟩
    · rw [if_neg hlt]
      have hk := K.2.1 (by omega)
      have R := turnL_near d r (m - (unitsT k).length) (by omega)
      rw [hk]
      refine ⟨near_app (near_refl _ _) R.1, fun h => ?_, fun h => ?_⟩
      · show (k :: (turnL r (m - ((unitsT k).length : Int))).1, (turnL r (m - ((unitsT k).length : Int))).2) = _
        rw [R.2.1 (by omega)]
        show (k :: r, m - ((unitsT k).length : Int) - ((unitsL r).length : Int)) = _
        congr 1
        omega
      · exact R.2.2 (by omega)
end
theorem near_first {way:List Idt} {x:Idt} (hx:x ∉ way) {a b:List Un} (h:Near way a b):firstU a x = firstU b x:=by
  induction h with
  | nil=>rfl
  | @cons p q _ _ h _ ih =>
    unfold firstU at *
    rw [List.find?_cons,List.find?_cons,← h.1]
    by_cases e:idU p = x
    · subst e
      have:p = q:=h.2.resolve_right hx
      rw [this]; simp
    · have:(idU p == x) = false:=by simpa using e
      rw [this]; exact ih
theorem turn_way (u:Un) {m:Int} (h0:0 ≤ m):∀ x ∈ difD u (turnU u m).1,x ∈ aboveU u m:=by
  intro x hx
  rw [difD_mem,gathT_val,gathT_val] at hx
  by_cases hw:x ∈ aboveU u m
  · exact hw
  · rw [near_first hw (turnU_near u m h0).1] at hx
    exact absurd rfl hx
mutual
theorem turnU_smal : ∀ (u : Un) (m : Int), SmalT u → (∀ x ∈ unitsT u, x.words.length ≤ 999) → SmalT (turnU u m).1
  | .mk a i n k l h w ks, m, hu, hw => by
    have hU : unitsT (.mk a i n k l h w ks) = .mk a i n k l h w ks :: unitsL ks := Za5 _
    obtain ⟨_, hs, hk, hks⟩ := hu
    by_cases hm : m = 0
    · subst hm
      rw [turnU_zero]
      have z : i64 0 := i64_iff.2 (by omega)
      refine .mk _ ⟨hs.ok, hs.label, hs.head, ?_, fun x hx => ?_⟩ hk hks
      · show (w ++ [moreW]).length ≤ 1000
        have : w.length ≤ 999 := hw (.mk a i n k l h w ks) (by rw [hU]; exact List.mem_cons_self)
        simp; omega
      · rcases List.mem_append.1 hx with h1 | h1
        · exact hs.words.2 x h1
        · rw [List.mem_singleton] at h1
          subst h1
          exact ⟨by simp [moreW], z, z, z⟩
    · rw [turnU_pos _ hm]
      have L := turnL_smal ks (m - 1) hks (fun x hx => hw x (by rw [hU]; exact List.mem_cons_of_mem _ hx))
      exact .mk _ ⟨hs.ok, hs.label, hs.head, hs.words⟩ (by show (turnL ks (m - 1)).1.length ≤ 1000; rw [L.2]; exact hk) L.1
theorem turnL_smal : ∀ (l : List Un) (m : Int), (∀ k ∈ l, SmalT k) → (∀ x ∈ unitsL l, x.words.length ≤ 999) → (∀ k ∈ (turnL l m).1, SmalT k) ∧ (turnL l m).1.length = l.length
  | [], m, h, _ => by rw [turnL]; exact ⟨h, rfl⟩
  | k :: r, m, h, hw => by
    by_cases hm : m < 0
    · rw [turnL_neg _ hm]; exact ⟨h, rfl⟩
    · rw [turnL_cons _ _ (by omega)]
      have K := turnU_smal k m (h k List.mem_cons_self) (fun x hx => hw x (by rw [unitsL]; exact List.mem_append_left _ hx))
      have R := turnL_smal r (turnU k m).2 (fun x hx => h x (List.mem_cons_of_mem _ hx)) (fun x hx => hw x (by rw [unitsL]; exact List.mem_append_right _ hx))
      refine ⟨fun x hx => ?_, by show _ + 1 = _ + 1; rw [R.2]⟩
      rcases List.mem_cons.1 hx with rfl | hx
      · exact K
      · exact R.1 x hx
end
theorem turnU_count (u:Un) {m:Int} (h0:0 ≤ m):(unitsT (turnU u m).1).length = (unitsT u).length:=(near_len (turnU_near u m h0).1).symm
theorem light_words {u:Un} (h:heavyT u = false):∀ x ∈ unitsT u,x.words.length ≤ 999:=by
  unfold heavyT at h
  split at h
  · cases h
  · intro x hx
    have:=(hvL_false _ 0 h x hx).1
    simp only [bigU,Bool.or_eq_false_iff,decide_eq_false_iff_not] at this
    omega
end Go.Proofs.YtjmekckcffckoaaDoor.w
namespace Go.Proofs.YtjmekckcffckoaaDoor.w
open Go Go.VM
set_option maxRecDepth 20000
set_option maxHeartbeats 0
set_option pp.deepTerms false
def Zb4:VC:=(.seq (.region [ZO 2 (.box 8 (.t 0)),ZO 4 (.mv (.c (.bool false)))] false) (.seq (.seq (.region [ZO 18 (.load true 8 (.t 2)),ZO 19 (.call 11 [(.t 18)]),ZM 20 19,ZG 21 (.load true 8 (.t 2)) 20 false,ZG 22 (.load true 8 (.t 2)) 20 false,ZG 23 (.call 20 [(.t 21),(.t 22)]) 20 false,ZG 24 (.len false (.t 23)) 20 false,ZG 25 (.bin .neq (.t 24) (.c (.int .i64 0))) 20 false,ZO 26 (.pick (.t 20) (.c (.bool true)) (.t 25))] false) (.cond (.t 26) (.seq (.region [ZO 27 (.load true 8 (.t 2)),ZO 28 (.call 11 [(.t 27)]),ZM 29 28,ZG 30 (.call 8 []) 29 true,ZO 31 (.pick (.t 29) (.t 30) (.c (.bool false))),ZM 4 31] false) .ret) .skip)) (.seq (.region [ZO 32 (.load true 8 (.t 2)),ZO 33 (.call 22 [(.t 32)]),ZM 5 33] false) (.seq (.seq (.region [ZM 34 5,ZO 35 (.len false (.t 34)),ZO 36 (.mv (.c (.int .i64 0)))] false) (.block 0 (.loop (.seq (.region [ZO 37 (.bin .lss (.t 36) (.t 35))] false) (.seq (.cond (.t 37) .skip (.exit 0)) (.seq (.block 1 (.seq (.region [ZM 38 36,ZO 39 (.iaddr 8 (.t 34) (.t 36)),ZO 40 (.load true 8 (.t 39)),ZO 7 (.alloc [(.int .i64 0),(.int .i64 0),(.int .i64 0),(.int .i64 0),(.str []),.nilsl,.nilsl,.nilsl]),ZM 6 38,ZN (.store 8 (.t 7) (.t 40))] false) (.seq (.region [ZO 8 (.mv (.c (.int .i64 0)))] false) (.block 2 (.loop (.seq (.seq (.region [ZM 41 8,ZM 42 6,ZO 43 (.bin .lss (.t 41) (.t 42))] false) (.cond (.t 43) .skip (.exit 2))) (.seq (.block 3 (.seq (.region [ZM 46 5,ZM 47 8,ZO 48 (.iaddr 8 (.t 46) (.t 47)),ZO 49 (.faddr 0 (.t 48)),ZO 50 (.load true 3 (.t 49)),ZO 51 (.faddr 0 (.t 7)),ZO 52 (.load true 3 (.t 51)),ZO 53 (.eqs false [.i,.i,.i] (.t 50) (.t 52))] true) (.cond (.t 53) (.seq (.region [ZO 54 (.call 8 []),ZM 4 54] false) .ret) .skip))) (.region [ZM 44 8,ZO 45 (.bin .add (.t 44) (.c (.int .i64 1))),ZM 8 45] false)))))))) (.region [ZO 55 (.bin .add (.t 36) (.c (.int .i64 1))),ZM 36 55] false))))))) (.seq (.region [ZM 56 1,ZO 57 (.conv .i64 (.t 56)),ZM 58 5,ZO 59 (.len false (.t 58)),ZO 60 (.bin .rem (.t 57) (.t 59)),ZM 9 60] false) (.seq (.region [ZO 62 (.load true 8 (.t 2)),ZM 63 9,ZO 64 (.call 23 [(.t 62),(.t 63)]),ZM 61 64,ZO 65 (.ext (.t 61) 0),ZO 66 (.ext (.t 61) 1),ZO 10 (.alloc [(.int .i64 0),(.int .i64 0),(.int .i64 0),(.int .i64 0),(.str []),.nilsl,.nilsl,.nilsl]),ZN (.store 8 (.t 10) (.t 65)),ZM 11 66] false) (.seq (.region [ZO 67 (.load true 8 (.t 2)),ZM 68 9,ZO 69 (.call 24 [(.t 67),(.t 68)]),ZM 12 69] false) (.seq (.seq (.region [ZO 70 (.load true 8 (.t 2)),ZO 71 (.load true 8 (.t 10)),ZO 72 (.call 20 [(.t 70),(.t 71)]),ZO 73 (.len false (.t 72)),ZO 74 (.mv (.c (.int .i64 0)))] false) (.block 4 (.loop (.seq (.region [ZO 75 (.bin .lss (.t 74) (.t 73))] false) (.seq (.cond (.t 75) .skip (.exit 4)) (.seq (.block 5 (.seq (.region [ZO 76 (.iaddr 3 (.t 72) (.t 74)),ZO 77 (.load true 3 (.t 76)),ZO 14 (.alloc [(.int .i64 0),(.int .i64 0),(.int .i64 0)]),ZN (.store 3 (.t 14) (.t 77))] false) (.seq (.region [ZO 15 (.mv (.c (.bool false)))] false) (.seq (.seq (.region [ZM 78 12,ZO 79 (.len false (.t 78)),ZO 80 (.mv (.c (.int .i64 0)))] false) (.block 6 (.loop (.seq (.region [ZO 81 (.bin .lss (.t 80) (.t 79))] false) (.seq (.cond (.t 81) .skip (.exit 6)) (.seq (.block 7 (.seq (.region [ZO 82 (.iaddr 3 (.t 78) (.t 80)),ZO 83 (.load true 3 (.t 82)),ZO 17 (.alloc [(.int .i64 0),(.int .i64 0),(.int .i64 0)]),ZN (.store 3 (.t 17) (.t 83))] false) (.region [ZM 84 15,ZM 85 84,ZG 86 (.load true 3 (.t 17)) 85 false,ZG 87 (.load true 3 (.t 14)) 85 false,ZG 88 (.eqs false [.i,.i,.i] (.t 86) (.t 87)) 85 false,ZO 89 (.pick (.t 85) (.c (.bool true)) (.t 88)),ZM 15 89] false))) (.region [ZO 90 (.bin .add (.t 80) (.c (.int .i64 1))),ZM 80 90] false))))))) (.seq (.region [ZM 91 15,ZO 92 (.un .not (.t 91))] false) (.cond (.t 92) (.seq (.region [ZO 4 (.mv (.c (.bool false)))] false) .ret) .skip)))))) (.region [ZO 93 (.bin .add (.t 74) (.c (.int .i64 1))),ZM 74 93] false))))))) (.seq (.region [ZO 94 (.call 8 []),ZM 4 94] false) .ret)))))))))
theorem conv_u8D {t:Int} (h:(Lit.int .u8 t).wf = true):0 ≤ t ∧ t ≤ 255:=by
  simpa [Lit.wf,IntKind.min,IntKind.max,IntKind.signed,IntKind.bits] using h
theorem tmodND (a b:Nat):((a:Int)).tmod (b:Int) = ((a % b:Nat):Int):=rfl
theorem law_DigestLocality (u:Un) (m:Int) (hu:UnB u) (hm:(Lit.int .u8 m).wf = true):Za8 Tryd.prog 7 [.agg u.enc,.int .u8 m] (.bool true):=by
  obtain ⟨m0,m1⟩:=conv_u8D hm
  have A:=sp_awake
  have H:=sp_heavy hu
  have L:=light hu
  have LW:=light_words (u:=u)
  have cU:Closed (PV.int .u8 m):=Closed.of_scalar (Zbt _ _)
  generalize heavyT u = hv at H L LW
  refine Zai ?_ (cB _) (by intro x hx; simp only [List.mem_cons,List.not_mem_nil,or_false] at hx; rcases hx with rfl | rfl; exact Zao fun y hy=>Un.closed _ y hy; exact cU)
  refine Zan (vc:=Zb4) (ts:=[.t 4]) Go.Proofs.Tryd.func7 (by kernel_rfl) rfl rfl (Nat.le_of_ble_eq_true rfl) (by kernel_rfl) ?_
  unfold Zb4
  try dsimp only [ZM,ZO,ZN,ZG]
  have hE:=Un.Za1 u
  rw [hE] at H ⊢
  refine Zac (Zaa [1,2] ?_)
  simp only [Zab,Zad,Zaf,pok,pval,VA.ev,Env.get,Env.put,Env.keep,Za3,Zae,PV.cells,PV.fits,Heap.push,Heap.nil,Nat.succ_ne_self,List.length,Nat.reduceEqDiff,Nat.reduceAdd,ite_true,ite_false,true_and,reduceCtorEq,BEq.rfl,Nat.zero_add]
  refine Zbu [(1,.int .u8 m),(2,.ro [pI u.act,pI u.item,pI u.n,pI u.kind,.str u.label,.sl 4 (u.head.map Wd.enc),.sl 4 (u.words.map Wd.enc),.sl 8 (u.kids.map Un.enc)])] ⟨View.refl _ _,View.loc (z:=8) (fz:=false) (es:=[[pI u.act,pI u.item,pI u.n,pI u.kind,.str u.label,.sl 4 (u.head.map Wd.enc),.sl 4 (u.words.map Wd.enc),.sl 8 (u.kids.map Un.enc)]]) rfl (by simp) rfl (by simp),trivial⟩ ?_
  refine Zac ?_
  cases hv with
  | true =>
    refine Zac (Zaa [1,2,26] ?_)
    simp only [Zad,Zaf,pok,pval,VA.ev,Env.get,Env.put,Env.keep,Zae,aggV,Zag,Zas,PV.nth,Nat.le_refl,List.map,List.length,List.getD_cons_zero,List.take,List.take_succ_cons,Nat.reduceEqDiff,Nat.reduceAdd,Bool.true_eq_false,ite_true,ite_false,true_and,and_true,Nat.zero_add,List.length_cons,imp_self]
    refine Zaq H ?_
    try simp only [Zab,Zad,OpsW_xf,Zaf,pok,pval,VA.ev,Env.get,Env.put,pickV,isBool,Nat.succ_ne_self,Nat.reduceEqDiff,ite_true,ite_false,true_and]
    refine Zaj rfl (fun _=>?_) (fun h=>by cases h)
    refine Zac (Zaa [4] ?_)
    simp only [Zad,Zaf,pok,pval,VA.ev,Env.get,Env.put,Env.keep,Zae,aggV,Zag,Zas,PV.nth,Nat.le_refl,List.map,List.length,List.getD_cons_zero,List.take,List.take_succ_cons,Nat.reduceEqDiff,Nat.reduceAdd,Bool.true_eq_false,ite_true,ite_false,true_and,and_true,Nat.zero_add,List.length_cons,imp_self]
    refine Zaq H ?_
    try simp only [Zab,Zad,OpsW_y,Zaf,pok,pval,VA.ev,Env.get,Env.put,pickV,isBool,Nat.succ_ne_self,List.map,Nat.reduceEqDiff,ite_true,ite_false,true_and]
    refine Zaq A ?_
    skip
    refine Zaz ?_
    try simp only [Env.get,Zae,retQ,resV,Zbc,RS.ev,RS.ok,ite_true,true_and,and_true]
    exact View.refl _ _
  | false =>
    obtain ⟨hS,hn⟩:=L rfl
    have hW:=LW rfl
    clear L LW
    have D0:=sp_digest_Diff hS hS (by omega) (by omega)
    rw [difD_self] at D0
    have U:=sp_r_Units hS.kidT (by omega)
    have hpos:=unitsT_pos u
    obtain ⟨n,hnL,hnv⟩:∃ n:Nat,n < (unitsT u).length ∧ (IntKind.i64.wrap m).tmod ((unitsT u).length:Int) = (n:Int):=by
      refine ⟨m.toNat % (unitsT u).length,Nat.mod_lt _ (by omega),?_⟩
      rw [w64 (by omega) (by omega)]
      have e:=tmodND m.toNat (unitsT u).length
      rw [show ((m.toNat:Nat):Int) = m by omega] at e
      exact e
    have T:=sp_turned hS.kidT (fun x hx=>by have:=hW x hx; omega) (n:Int) (by omega) (by omega)
    have V:=sp_above hS.kidT (by omega) (n:Int) (by omega) (by omega)
    have hcnt:=turnU_count u (m:=(n:Int)) (by omega)
    have hSm:=turnU_smal u (n:Int) hS hW
    have D1:=sp_digest_Diff hS hSm (by omega) (by omega)
    have hway:=turn_way u (m:=(n:Int)) (by omega)
    have hal:=aboveU_len u (n:Int)
    have hdl:=difD_len u (turnU u (n:Int)).1
    have g1:=gathT_len u
    have g2:=gathT_len (turnU u (n:Int)).1
    have hvE:=Un.Za1 (turnU u (n:Int)).1
    rw [hE] at D0 U T V D1
    rw [hvE] at T D1
    have hDl:(difD u (turnU u (n:Int)).1).length ≤ 100:=by omega
    have hVl:(aboveU u (n:Int)).length ≤ 100:=by omega
    generalize difD u (turnU u (n:Int)).1 = DD at *
    generalize (turnU u (n:Int)).1 = v at *
    generalize (turnU u (n:Int)).2 = zz at *
    generalize aboveU u (n:Int) = way at *
    generalize unitsT u = L at *
    generalize u.head.map Wd.enc = EH at *
    generalize u.words.map Wd.enc = EW at *
    generalize u.kids.map Un.enc = EK at *
    refine Zac (Zaa [1,2,26] ?_)
    simp only [Zad,Zaf,pok,pval,VA.ev,Env.get,Env.put,Env.keep,Zae,aggV,Zag,Zas,PV.nth,Nat.le_refl,List.map,List.length,List.getD_cons_zero,List.take,List.take_succ_cons,Nat.reduceEqDiff,Nat.reduceAdd,Bool.true_eq_false,ite_true,ite_false,true_and,and_true,Nat.zero_add,List.length_cons,imp_self]
    refine Zaq H ?_
    try simp only [Zab,Zad,OpsW_y,Zaf,pok,pval,VA.ev,Env.get,Env.put,pickV,isBool,aggV,intV,binV,Zal,lenV,Zag,Zas,Zcd,PV.nth,Nat.le_refl,Nat.succ_ne_self,List.map,List.length,List.getD_cons_zero,List.take,List.take_succ_cons,Nat.reduceEqDiff,Nat.reduceAdd,Bool.false_eq_true,Bool.true_eq_false,ite_true,ite_false,true_and,and_true,Nat.zero_add,List.length_cons,imp_self]
    refine Zaq D0 ?_
    try simp only [List.map,true_and,List.length_nil]
    refine Zaj (b:=false) rfl (fun h=>by cases h) (fun _=>?_)
    refine Zap ?_
    try simp only [Zae]
    refine Zac (Zaa [1,2,5] ?_)
    simp only [Zab,Zad,Zaf,pok,pval,VA.ev,Env.get,Env.put,Env.keep,Zae,aggV,Zag,Zas,PV.nth,Nat.le_refl,Nat.succ_ne_self,List.map,List.length,List.getD_cons_zero,List.take,List.take_succ_cons,Nat.reduceEqDiff,Nat.reduceAdd,Bool.true_eq_false,ite_true,ite_false,true_and,and_true,Nat.zero_add,List.length_cons,imp_self]
    refine Zaq U ?_
    skip
    refine Zac ?_
    refine Zac (Zaa [1,2,5,34,35,36] ?_)
    simp only [Zab,Zad,Zaf,pok,pval,VA.ev,Env.get,Env.put,Env.keep,Zae,lenV,Zcd,Nat.succ_ne_self,Nat.reduceEqDiff,ite_true,ite_false,true_and,List.length_map]
    refine Zam ?_
    refine Zb6 (σ:={ x:Nat × Nat // x.1 ≤ L.length }) (fun x=>([(1,.int .u8 m),(2,.ro [pI u.act,pI u.item,pI u.n,pI u.kind,.str u.label,.sl 4 EH,.sl 4 EW,.sl 8 EK]),(5,.sl 8 (L.map Un.enc)),(34,.sl 8 (L.map Un.enc)),(35,pI L.length),(36,pI x.1.1)],⟨[],x.1.2⟩)) (fun x=>L.length - x.1.1) ⟨(0,1),Nat.zero_le _⟩ ?_ ?_ ?_
    · simp only [Env.get,Nat.succ_ne_self,Env.le,Nat.reduceEqDiff,ite_true,ite_false,true_and,and_true]
      rfl
    · simp only [Heap.le,HL.le,Nat.le_refl,and_true]
      try rfl
    rintro ⟨⟨k,t⟩,hk1⟩
    simp only [] at hk1 ⊢
    refine Zac (Zaa [1,2,5,34,35,36,37] ?_)
    simp only [Zab,Zad,Zaf,pok,pval,VA.ev,Env.get,Env.put,Env.keep,Zae,intV,binV,Zal,Heap.le,HL.le,Nat.succ_ne_self,Env.le,Nat.reduceEqDiff,ite_true,ite_false,true_and,and_true]
    refine Zac ?_
    refine Zaj rfl (fun h1=>?_) (fun h1=>?_)
    · simp only [decide_eq_true_eq] at h1
      have ka:k < L.length:=by omega
      have hrow:(L.map Un.enc).getD k [] = L[k].enc:=rowm ka
      generalize L[k] = x at hrow
      rw [Un.Za1] at hrow
      refine Zap ?_
      try simp only [Zae]
      refine Zac ?_
      refine Zam ?_
      refine Zac (Zaa [1,2,5,6,7,34,35,36] ?_)
      simp only [Zab,Zad,Zaf,pok,pval,VA.ev,Env.get,Env.put,Env.keep,Zae,aggV,isInt,numOf,lenV,Zag,Zas,iaddrV,Zb5,PV.cells,PV.fits,overlay,PV.nth,PV.row,Heap.get,Heap.set,HL.get,HL.set,HL.del,Heap.push,Nat.le_refl,Nat.succ_ne_self,Zbj,Zbh,List.set,List.length,List.getD_cons_zero,List.take,List.drop,List.take_succ_cons,List.drop_succ_cons,List.cons_append,List.nil_append,Nat.reduceEqDiff,Nat.reduceAdd,Nat.reduceLT,Bool.true_eq_false,ite_true,ite_false,true_and,and_true,BEq.rfl,Nat.zero_add,List.length_cons,imp_self,Int.toNat_natCast,List.length_map,hrow]
      refine ⟨by omega,?_⟩
      refine Zac (Zaa [1,2,5,6,7,8,34,35,36] ?_)
      simp only [Zab,Zad,Zaf,pok,pval,VA.ev,Env.get,Env.put,Env.keep,Zae,Nat.succ_ne_self,Nat.reduceEqDiff,ite_true,ite_false,true_and]
      refine Zam ?_
      refine Zb6 (σ:={ y:Nat // y ≤ k }) (fun y=>([(1,.int .u8 m),(2,.ro [pI u.act,pI u.item,pI u.n,pI u.kind,.str u.label,.sl 4 EH,.sl 4 EW,.sl 8 EK]),(5,.sl 8 (L.map Un.enc)),(6,pI k),(7,.loc t 0 0),(8,pI y.1),(34,.sl 8 (L.map Un.enc)),(35,pI L.length),(36,pI k)],⟨[(t,.arr false 8 [[pI x.act,pI x.item,pI x.n,pI x.kind,.str x.label,.sl 4 (x.head.map Wd.enc),.sl 4 (x.words.map Wd.enc),.sl 8 (x.kids.map Un.enc)]])],t + 1⟩)) (fun y=>k - y.1) ⟨0,Nat.zero_le _⟩ ?_ ?_ ?_
      · simp only [Env.get,Nat.succ_ne_self,Env.le,Nat.reduceEqDiff,ite_true,ite_false,true_and,and_true]
        rfl
      · simp only [Heap.get,Heap.le,HL.get,HL.le,Nat.le_refl,ite_true,and_true]
        try rfl
      rintro ⟨j,hj⟩
      simp only [] at hj ⊢
      refine Zac ?_
      refine Zac (Zaa [1,2,5,6,7,8,34,35,36,43] ?_)
      simp only [Zab,Zad,Zaf,pok,pval,VA.ev,Env.get,Env.put,Env.keep,Zae,intV,binV,Zal,Heap.get,Heap.le,HL.le,Nat.succ_ne_self,Env.le,Nat.reduceEqDiff,ite_true,ite_false,true_and,and_true]
      refine Zaj rfl (fun h2=>?_) (fun h2=>?_)
      · simp only [decide_eq_true_eq] at h2
        have ja:j < L.length:=by omega
        have hrow2:(L.map Un.enc).getD j [] = L[j].enc:=rowm ja
        generalize L[j] = y at hrow2
        rw [Un.Za1] at hrow2
        refine Zap ?_
        try simp only [Zae]
        refine Zac ?_
        refine Zam ?_
        refine Zac (VW_drawS [1,2,5,6,7,8,34,35,36,53] (by simp [Heap.le,Heap.get,HL.le,HL.get]) ?_)
        simp only [DrawW_nil,DrawW_n,QW,dok,dval,VOp.pure,VOp.simple,VOp.det,pok,pval,VA.ev,Env.get,Env.put,Env.keep,Zae,gd,aggV,isInt,numOf,lenV,Zbi,Zbf,Zag,Zas,Za2,isAggP,iaddrV,Zb5,PV.nth,PV.row,Heap.get,HL.get,Nat.succ_ne_self,eqOk,ekOk,Zav,Zb9,List.length,List.getD_cons_zero,List.take,List.drop,List.take_succ_cons,Nat.reduceEqDiff,Nat.reduceAdd,Nat.reduceLT,Nat.reduceLeDiff,Bool.true_eq_false,ite_true,ite_false,true_and,and_true,implies_true,forall_const,Nat.zero_add,Nat.add_zero,List.length_cons,imp_self,Int.toNat_natCast,List.length_map,hrow2]
        refine ⟨by omega,?_⟩
        refine Zaj rfl (fun _=>?_) (fun _=>?_)
        · refine Zac (Zaa [4] ?_)
          simp only [Zab,Zad,Zaf,pok,pval,VA.ev,Env.get,Env.put,Env.keep,Zae,Nat.succ_ne_self,List.map,Nat.reduceEqDiff,ite_true,ite_false,true_and]
          refine Zaq A ?_
          skip
          refine Zaz ?_
          try simp only [Env.get,Zae,Zaw,retQ,resV,Zbc,RS.ev,RS.ok,ite_true,true_and,and_true]
          exact View.refl _ _
        refine Zap ?_
        try simp only [Zae,Zaw]
        refine Zaa [1,2,5,6,7,8,34,35,36] ?_
        simp only [Zab,Zad,Zaf,pok,pval,VA.ev,Env.get,Env.put,Env.keep,Zae,intV,binV,Zal,HL.get,Nat.le_refl,Nat.succ_ne_self,Nat.reduceEqDiff,ite_true,ite_false,true_and,and_true,ad1 (a:=j) (by omega)]
        refine ⟨⟨j + 1,by omega⟩,?_⟩
        try simp only [true_and,true_and]
        all_goals (repeat' (first | rfl | trivial | omega | (simp only []; omega) | refine And.intro ?_ ?_))
      · refine Zbs ?_
        try simp only [Zae,Zaw,retQ,Nat.succ_ne_self,ite_true,ite_false,reduceCtorEq]
        refine Zaa [1,2,5,34,35,36] ?_
        simp only [Zab,Zad,Zaf,pok,pval,VA.ev,Env.get,Env.put,Env.keep,Zae,intV,binV,Zal,Nat.succ_ne_self,Nat.reduceEqDiff,ite_true,ite_false,true_and,ad1 (a:=k) (by omega)]
        refine ⟨⟨(k + 1,t + 1),ka⟩,?_⟩
        try simp only [Nat.le_refl,true_and,true_and]
        all_goals (repeat' (first | rfl | trivial | omega | (simp only []; omega) | refine And.intro ?_ ?_))
    · refine Zbs ?_
      try simp only [Zae,Zaw,retQ,ite_true]
      refine Zac (Zaa [2,9] ?_)
      simp only [Zab,Zad,Zaf,pok,pval,VA.ev,Env.get,Env.put,Env.keep,Zae,intV,binV,Zal,convV,isInt,lenV,Zcd,Nat.succ_ne_self,Nat.reduceEqDiff,ite_true,ite_false,true_and,ne_eq,List.length_map,hnv]
      refine ⟨by omega,?_⟩
      refine Zac (Zaa [2,9,10] ?_)
      simp only [Zab,Zad,Zaf,pok,pval,VA.ev,Env.get,Env.put,Env.keep,Zae,aggV,Zag,Zas,extV,extOk,PV.cells,PV.fits,overlay,PV.nth,PV.row,Heap.get,Heap.set,HL.get,HL.set,Heap.push,Nat.le_refl,Nat.succ_ne_self,Zbj,Zbh,List.map,List.set,List.length,List.getD_cons_zero,List.take,List.take_succ_cons,List.nil_append,Nat.reduceEqDiff,Nat.reduceAdd,Nat.reduceLT,Bool.true_eq_false,ite_true,ite_false,true_and,and_true,Nat.zero_add,List.length_cons,imp_self]
      refine Zaq T ?_
      try simp only [HL.del,List.length,List.getD_cons_zero,List.drop,List.drop_succ_cons,List.cons_append,List.nil_append,Nat.reduceAdd,Nat.reduceLT,true_and,BEq.rfl,Nat.zero_add,List.length_cons]
      refine Zac (Zaa [2,10,12] ?_)
      simp only [Zab,Zad,Zaf,pok,pval,VA.ev,Env.get,Env.put,Env.keep,Zae,aggV,Zag,Zas,PV.nth,Nat.le_refl,Nat.succ_ne_self,List.map,List.length,List.getD_cons_zero,List.take,List.take_succ_cons,Nat.reduceEqDiff,Nat.reduceAdd,Bool.true_eq_false,ite_true,ite_false,true_and,and_true,Nat.zero_add,List.length_cons,imp_self]
      refine Zaq V ?_
      skip
      refine Zac ?_
      refine Zac (Zaa [12,72,73,74] ?_)
      simp only [Zab,Zad,Zaf,pok,pval,VA.ev,Env.get,Env.put,Env.keep,Zae,aggV,lenV,Zag,Zas,Zcd,PV.nth,PV.row,Heap.get,HL.get,Nat.le_refl,Nat.succ_ne_self,List.map,List.length,List.getD_cons_zero,List.take,List.drop,List.take_succ_cons,Nat.reduceEqDiff,Nat.reduceAdd,Nat.reduceLT,Bool.false_eq_true,Bool.true_eq_false,ite_true,ite_false,true_and,and_true,Nat.zero_add,List.length_cons,imp_self]
      refine Zaq D1 ?_
      try simp only [true_and,List.length_map]
      refine Zam ?_
      refine Zb6 (σ:={ x:Nat × Nat // x.1 ≤ DD.length }) (fun x=>([(12,.sl 3 (way.map Idt.enc)),(72,.sl 3 (DD.map Idt.enc)),(73,pI DD.length),(74,pI x.1.1)],⟨[],x.1.2⟩)) (fun x=>DD.length - x.1.1) ⟨(0,t + 1),Nat.zero_le _⟩ ?_ ?_ ?_
      · simp only [Env.get,Nat.succ_ne_self,Env.le,Nat.reduceEqDiff,ite_true,ite_false,true_and,and_true]
        rfl
      · simp only [Heap.le,HL.le,Nat.le_refl,and_true]
        try rfl
      rintro ⟨⟨a,ta⟩,ha1⟩
      simp only [] at ha1 ⊢
      refine Zac (Zaa [12,72,73,74,75] ?_)
      simp only [Zab,Zad,Zaf,pok,pval,VA.ev,Env.get,Env.put,Env.keep,Zae,intV,binV,Zal,Heap.le,HL.le,Nat.succ_ne_self,Env.le,Nat.reduceEqDiff,ite_true,ite_false,true_and,and_true]
      refine Zac ?_
      refine Zaj rfl (fun h2=>?_) (fun h2=>?_)
      · simp only [decide_eq_true_eq] at h2
        have aa:a < DD.length:=by omega
        have hrow:(DD.map Idt.enc).getD a [] = DD[a].enc:=rowm aa
        have hin:=hway _ (List.getElem_mem aa)
        generalize DD[a] = d at hrow hin
        have hde:d.enc = [pI d.act,pI d.item,pI d.n]:=rfl
        rw [hde] at hrow
        refine Zap ?_
        try simp only [Zae]
        refine Zac ?_
        refine Zam ?_
        refine Zac (Zaa [12,14,72,73,74] ?_)
        simp only [Zab,Zad,Zaf,pok,pval,VA.ev,Env.get,Env.put,Env.keep,Zae,aggV,isInt,numOf,lenV,Zag,Zas,iaddrV,Zb5,PV.cells,PV.fits,overlay,PV.nth,PV.row,Heap.get,Heap.set,HL.get,HL.set,HL.del,Heap.push,Nat.le_refl,Nat.succ_ne_self,Zbj,Zbh,List.set,List.length,List.getD_cons_zero,List.take,List.drop,List.take_succ_cons,List.drop_succ_cons,List.cons_append,List.nil_append,Nat.reduceEqDiff,Nat.reduceAdd,Nat.reduceLT,Bool.true_eq_false,ite_true,ite_false,true_and,and_true,BEq.rfl,Nat.zero_add,List.length_cons,imp_self,Int.toNat_natCast,List.length_map,hrow]
        refine ⟨by omega,?_⟩
        refine Zac (Zaa [12,14,15,72,73,74] ?_)
        simp only [Zab,Zad,Zaf,pok,pval,VA.ev,Env.get,Env.put,Env.keep,Zae,Nat.succ_ne_self,Nat.reduceEqDiff,ite_true,ite_false,true_and]
        refine Zac ?_
        refine Zac (Zaa [12,14,15,72,73,74,78,79,80] ?_)
        simp only [Zab,Zad,Zaf,pok,pval,VA.ev,Env.get,Env.put,Env.keep,Zae,lenV,Zcd,Nat.succ_ne_self,Nat.reduceEqDiff,ite_true,ite_false,true_and,List.length_map]
        refine Zam ?_
        refine Zb6 (σ:={ y:Nat × Bool × Nat // y.1 ≤ way.length ∧ (y.2.1 = true ↔ d ∈ way.take y.1) ∧ ta < y.2.2 }) (fun y=>([(12,.sl 3 (way.map Idt.enc)),(14,.loc ta 0 0),(15,.bool y.1.2.1),(72,.sl 3 (DD.map Idt.enc)),(73,pI DD.length),(74,pI a),(78,.sl 3 (way.map Idt.enc)),(79,pI way.length),(80,pI y.1.1)],⟨[(ta,.arr false 3 [[pI d.act,pI d.item,pI d.n]])],y.1.2.2⟩)) (fun y=>way.length - y.1.1) ⟨(0,false,ta + 1),Nat.zero_le _,by simp,Nat.lt_succ_self _⟩ ?_ ?_ ?_
        · simp only [Env.get,Nat.succ_ne_self,Env.le,Nat.reduceEqDiff,ite_true,ite_false,true_and,and_true]
          rfl
        · simp only [Heap.get,Heap.le,HL.get,HL.le,Nat.le_refl,ite_true,and_true]
          try rfl
        rintro ⟨⟨j,b,tb⟩,hj,hb,htb⟩
        simp only [] at hj hb htb ⊢
        have qi0:(ta = tb) = False:=eq_false (by omega)
        have qi1:(tb = ta) = False:=eq_false (by omega)
        refine Zac (Zaa [12,14,15,72,73,74,78,79,80,81] ?_)
        simp only [Zab,Zad,Zaf,pok,pval,VA.ev,Env.get,Env.put,Env.keep,Zae,intV,binV,Zal,Heap.get,Heap.le,HL.le,Nat.succ_ne_self,Env.le,Nat.reduceEqDiff,ite_true,ite_false,true_and,and_true,qi0,qi1]
        refine Zac ?_
        refine Zaj rfl (fun h3=>?_) (fun h3=>?_)
        · simp only [decide_eq_true_eq] at h3
          have ja:j < way.length:=by omega
          have hrow2:(way.map Idt.enc).getD j [] = way[j].enc:=rowm ja
          have hst:d ∈ way.take (j + 1) ↔ d ∈ way.take j ∨ way[j] = d:=by
            rw [List.take_add_one,List.getElem?_eq_getElem ja,List.mem_append]
            exact or_congr Iff.rfl ⟨fun h=>by simp at h; exact h.symm,fun h=>by subst h; simp⟩
          generalize way[j] = y at hrow2 hst
          have hye:y.enc = [pI y.act,pI y.item,pI y.n]:=rfl
          rw [hye] at hrow2
          refine Zap ?_
          try simp only [Zae,qi0,qi1]
          refine Zac ?_
          refine Zam ?_
          refine Zac (Zaa [12,14,15,17,72,73,74,78,79,80] ?_)
          simp only [Zab,Zad,Zaf,pok,pval,VA.ev,Env.get,Env.put,Env.keep,Zae,aggV,isInt,numOf,lenV,Zag,Zas,iaddrV,Zb5,PV.cells,PV.fits,overlay,PV.nth,PV.row,Heap.get,Heap.set,HL.get,HL.set,HL.del,Heap.push,Nat.le_refl,Nat.succ_ne_self,Zbj,Zbh,List.set,List.length,List.getD_cons_zero,List.take,List.drop,List.take_succ_cons,List.drop_succ_cons,List.cons_append,List.nil_append,Nat.reduceEqDiff,Nat.reduceAdd,Nat.reduceLT,Bool.true_eq_false,ite_true,ite_false,true_and,and_true,BEq.rfl,Nat.zero_add,List.length_cons,imp_self,Int.toNat_natCast,List.length_map,hrow2,qi0,qi1]
          refine ⟨by omega,?_⟩
          cases b with
          | true =>
            refine Zaa [12,14,15,72,73,74,78,79,80] ?_
            simp only [Zab,Zad,OpsW_xf,Zaf,pok,pval,VA.ev,Env.get,Env.put,Env.keep,Zae,Zaw,pickV,isBool,Nat.succ_ne_self,Nat.reduceEqDiff,ite_true,ite_false,true_and,qi0,qi1]
            refine Zaa [12,14,15,72,73,74,78,79,80] ?_
            simp only [Zab,Zad,Zaf,pok,pval,VA.ev,Env.get,Env.put,Env.keep,Zae,intV,binV,Zal,HL.get,Nat.succ_ne_self,Nat.reduceEqDiff,ite_true,ite_false,true_and,and_true,qi0,qi1,ad1 (a:=j) (by omega)]
            refine ⟨⟨(j + 1,true,tb + 1),ja,by show true = true ↔ d ∈ way.take (j + 1); rw [hst]; exact ⟨fun _=>.inl (hb.1 rfl),fun _=>rfl⟩,by show ta < tb + 1; omega⟩,?_⟩
            try simp only [Nat.le_refl,true_and,and_true,qi0,qi1]
            all_goals (repeat' (first | rfl | trivial | omega | (simp only []; omega) | refine And.intro ?_ ?_))
          | false =>
            refine Zaa [12,14,15,72,73,74,78,79,80] ?_
            simp only [Zab,Zad,OpsW_y,Zaf,pok,pval,VA.ev,Env.get,Env.put,Env.keep,Zae,Zaw,pickV,isBool,aggV,Zag,Zas,Za2,isAggP,PV.nth,PV.row,Heap.get,HL.get,Nat.le_refl,Nat.succ_ne_self,eqOk,ekOk,Zav,Zb9,List.length,List.getD_cons_zero,List.take,List.drop,List.take_succ_cons,Nat.reduceEqDiff,Nat.reduceAdd,Nat.reduceLT,Bool.false_eq_true,Bool.true_eq_false,ite_true,ite_false,true_and,and_true,Nat.zero_add,List.length_cons,imp_self,qi0,qi1]
            have hq:((y.act == d.act && (y.item == d.item && (y.n == d.n && true))) != false) = true ↔ y = d:=by
              obtain ⟨p1,p2,p3⟩:=y
              obtain ⟨q1,q2,q3⟩:=d
              simp
            generalize ((y.act == d.act && (y.item == d.item && (y.n == d.n && true))) != false) = cb at hq ⊢
            refine Zaa [12,14,15,72,73,74,78,79,80] ?_
            simp only [Zab,Zad,Zaf,pok,pval,VA.ev,Env.get,Env.put,Env.keep,Zae,intV,binV,Zal,HL.get,Nat.succ_ne_self,Nat.reduceEqDiff,ite_true,ite_false,true_and,and_true,qi0,qi1,ad1 (a:=j) (by omega)]
            refine ⟨⟨(j + 1,cb,tb + 1),ja,by show cb = true ↔ d ∈ way.take (j + 1); rw [hst,hq]; exact ⟨.inr,fun h=>h.resolve_left fun hh=>by have:=hb.2 hh; cases this⟩,by show ta < tb + 1; omega⟩,?_⟩
            try simp only [Nat.le_refl,true_and,and_true,qi0,qi1]
            all_goals (repeat' (first | rfl | trivial | omega | (simp only []; omega) | refine And.intro ?_ ?_))
        · simp only [decide_eq_false_iff_not] at h3
          have hbt:b = true:=by
            rw [hb,show j = way.length by omega,List.take_length]
            exact hin
          subst hbt
          refine Zbs ?_
          try simp only [Zae,Zaw,retQ,Nat.succ_ne_self,Nat.reduceEqDiff,ite_true,ite_false,qi0,qi1]
          refine Zac (Zaa [12,72,73,74,92] ?_)
          simp only [Zab,Zad,Zaf,pok,pval,VA.ev,Env.get,Env.put,Env.keep,Zae,unV,unOk,Nat.succ_ne_self,Nat.reduceEqDiff,ite_true,ite_false,true_and,Bool.not_true,qi0,qi1]
          refine Zaj (b:=false) rfl (fun h=>by cases h) (fun _=>?_)
          refine Zap ?_
          try simp only [Zae,Zaw]
          refine Zaa [12,72,73,74] ?_
          simp only [Zab,Zad,Zaf,pok,pval,VA.ev,Env.get,Env.put,Env.keep,Zae,intV,binV,Zal,Nat.succ_ne_self,Nat.reduceEqDiff,ite_true,ite_false,true_and,ad1 (a:=a) (by omega)]
          refine ⟨⟨(a + 1,tb),aa⟩,?_⟩
          try simp only [Nat.le_refl,true_and,qi0,qi1]
          all_goals (repeat' (first | rfl | trivial | omega | (simp only []; omega) | refine And.intro ?_ ?_))
      · refine Zbs ?_
        try simp only [Zae,Zaw,retQ,ite_true]
        refine Zac (Zaa [4] ?_)
        simp only [Zab,Zad,Zaf,pok,pval,VA.ev,Env.get,Env.put,Env.keep,Zae,List.map,Nat.reduceEqDiff,ite_true,ite_false,true_and]
        refine Zaq A ?_
        skip
        refine Zaz ?_
        try simp only [Env.get,retQ,resV,Zbc,RS.ev,RS.ok,ite_true,true_and,and_true]
        exact View.refl _ _
end Go.Proofs.YtjmekckcffckoaaDoor.w
namespace Go.Proofs.YtjmekckcffckoaaDoor.rd
open Go Go.VM
variable {W : World}
theorem k3:Tryd.prog.cellsOf 3 = 1:=by kernel_rfl
theorem k9:Tryd.prog.cellsOf 9 = 1:=by kernel_rfl
theorem k51:Tryd.prog.cellsOf 51 = 3:=by kernel_rfl
theorem k53:Tryd.prog.cellsOf 53 = 4:=by kernel_rfl
theorem k26:Tryd.prog.cellsOf 26 = 3:=by kernel_rfl
theorem k27:Tryd.prog.cellsOf 27 = 1:=by kernel_rfl
theorem k28:Tryd.prog.cellsOf 28 = 1:=by kernel_rfl
theorem k30:Tryd.prog.cellsOf 30 = 8:=by kernel_rfl
theorem rI (n:Nat):Reads Tryd.prog W n 3 i64 (fun a=>[pI a]):=reads_int Tryd.underlying3
def enc3 (x:Int × Int × Int × Unit):List PV:=[pI x.1,pI x.2.1,pI x.2.2.1]
def ok3 (x:Int × Int × Int × Unit):Prop:=i64 x.1 ∧ i64 x.2.1 ∧ i64 x.2.2.1 ∧ True
theorem r51 (n:Nat):Reads Tryd.prog W n 51 ok3 enc3:=by
  cases n with
  | zero=>exact reads_zero
  | succ n=>exact Reads.map (fun x:Int × Int × Int × Unit=>x) (reads_struct Tryd.underlying51 rfl k51 (freads_cons (by exact (rI n)) (by exact k3) (by exact (fun _=>rfl)) (by rfl) (freads_cons (by exact (rI n)) (by exact k3) (by exact (fun _=>rfl)) (by rfl) (freads_cons (by exact (rI n)) (by exact k3) (by exact (fun _=>rfl)) (by rfl) freads_nil))) (by exact fun _=>rfl)) (fun _ h=>h) (fun _=>rfl)
theorem r26 (n:Nat):Reads Tryd.prog W n 26 ok3 enc3:=by
  cases n with
  | zero=>exact reads_zero
  | succ n=>exact Reads.map (fun x:Int × Int × Int × Unit=>x) (reads_struct Tryd.underlying26 rfl k26 (freads_cons (by exact (rI n)) (by exact k3) (by exact (fun _=>rfl)) (by rfl) (freads_cons (by exact (rI n)) (by exact k3) (by exact (fun _=>rfl)) (by rfl) (freads_cons (by exact (rI n)) (by exact k3) (by exact (fun _=>rfl)) (by rfl) freads_nil))) (by exact fun _=>rfl)) (fun _ h=>h) (fun _=>rfl)
theorem un_len (u:Un):u.enc.length = 8:=by rw [Un.Za1]; rfl
end Go.Proofs.YtjmekckcffckoaaDoor.rd
namespace Go.Proofs.YtjmekckcffckoaaDoor.w
open Go Go.VM
def debTab:List Int:=[0,1,56,2,57,49,28,3,61,58,42,50,38,29,17,4,62,47,59,36,45,43,51,22,53,39,33,30,24,18,12,5,63,55,48,27,60,41,37,16,46,35,44,21,52,32,23,11,54,26,40,15,34,20,31,10,25,14,19,9,13,8,7,6]
theorem known_tab (b:Nat) (l:List Value) (h:known.lookup b = some l):(b = 0 ∧ l = Lib.pow10Tab.map fun z=>Value.int .u64 z) ∨ (b = 3 ∧ l = debTab.map fun z=>Value.int .u8 z):=by
  have e:known = [(0,Lib.pow10Tab.map fun z=>Value.int .u64 z),(3,debTab.map fun z=>Value.int .u8 z)]:=by kernel_rfl
  rw [e] at h
  simp only [List.lookup] at h
  split at h
  · rename_i hb
    simp only [Option.some.injEq] at h
    exact .inl ⟨by simpa using hb,h.symm⟩
  · split at h
    · rename_i hb
      simp only [Option.some.injEq] at h
      exact .inr ⟨by simpa using hb,h.symm⟩
    · cases h
theorem tab_at {W:World} {name:String} {k:IntKind} {zs:List Int} {b:Nat} (tab:Lib.TabIs Tryd.prog W name k zs) (hg:Tryd.prog.globalNamed name = some b):(∃ t fr,W.heap[b]? = some (.cells (zs.map fun z=>Value.int k z).toArray t fr)) ∧ ∀ v ∈ zs.map (fun z=>Value.int k z),v.oneCell' = true:=by
  refine ⟨?_,fun v hv=>?_⟩
  · unfold Lib.TabIs World.var? at tab
    rw [hg] at tab
    simp only [Option.bind_some] at tab
    split at tab
    · rename_i c t fr hh
      simp only [Option.some.injEq] at tab
      exact ⟨t,fr,by rw [hh,tab]⟩
    · cases tab
  · obtain ⟨z,_,rfl⟩:=List.mem_map.1 hv
    rfl
theorem knownW_of {W : World} {rest : List (String × DataW Unit)} (h : laidMetH Tryd.prog rest W) (hf : (rest.filter (fun x => x.1 == "internal/strconv.uint64pow10"), rest.filter (fun x => x.1 == "math/bits.deBruijn64tab")) = ([("internal/strconv.uint64pow10", Lib.tabData .u64 Lib.pow10Tab)], [("math/bits.deBruijn64tab", Lib.tabData .u8 debTab)])) (hn : (rest.filter fun x => x.2.handleName?.isNone) = rest) : Zck W := by
  obtain ⟨f1,f2⟩:=Prod.mk.inj hf
  have h1:=(laidMetH_iff.1 h).1
  rw [hn] at h1
  have h2 := h1.filter (fun x => x.1 == "internal/strconv.uint64pow10")
  rw [f1] at h2
  have h3 := h1.filter (fun x => x.1 == "math/bits.deBruijn64tab")
  rw [f2] at h3
  have g1 : Tryd.prog.globalNamed "internal/strconv.uint64pow10" = some 0 := by kernel_rfl
  have g2 : Tryd.prog.globalNamed "math/bits.deBruijn64tab" = some 3 := by kernel_rfl
  have tab1:=Lib.tabIs_of_head (P:=Tryd.prog) (t:=113) (e:=44) (n:=20) g1 (by kernel_rfl) Tryd.underlying113 Tryd.underlying44 (by kernel_rfl) (by kernel_rfl) h2
  have tab2:=Lib.tabIs_of_head (P:=Tryd.prog) (t:=135) (e:=5) (n:=64) g2 (by kernel_rfl) Tryd.underlying135 Tryd.underlying5 (by kernel_rfl) (by kernel_rfl) h3
  intro b l hl
  rcases known_tab b l hl with ⟨rfl,rfl⟩ | ⟨rfl,rfl⟩
  · exact tab_at tab1 g1
  · exact tab_at tab2 g2
end Go.Proofs.YtjmekckcffckoaaDoor.w
