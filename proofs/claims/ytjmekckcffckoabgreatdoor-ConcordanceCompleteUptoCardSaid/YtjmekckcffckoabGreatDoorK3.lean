import Derived.Test.YtjmekckcffckoabGreatDoorK2
import Derived.Test.YtjmekckcffckoabGreatDoorShG
import Derived.Test.YtjmekckcffckoabGreatDoorVmAh
import Derived.Test.YtjmekckcffckoabGreatDoorVmM
import Derived.Test.YtjmekckcffckoabGreatDoorSp
import Derived.Test.YtjmekckcffckoabGreatDoorP3
set_option linter.all false
namespace Go.Proofs.YtjmekckcffckoabGreatDoor.w
open Go Go.VM
set_option maxRecDepth 20000
set_option maxHeartbeats 0
set_option pp.deepTerms false
def c_slices_Concat_string : VC := (.seq (.region [ZO 2 (.mv (.c .nilsl))] false) (.seq (.region [ZO 3 (.mv (.c (.int .i64 0)))] false) (.seq (.seq (.region [ZM 9 0,ZO 10 (.len false (.t 9)),ZO 11 (.mv (.c (.int .i64 0)))] false) (.block 0 (.loop (.seq (.region [ZO 12 (.bin .lss (.t 11) (.t 10))] false) (.seq (.cond (.t 12) .skip (.exit 0)) (.seq (.block 1 (.seq (.region [ZO 13 (.iaddr 1 (.t 9) (.t 11)),ZO 14 (.load false 1 (.t 13)),ZM 5 14] false) (.seq (.region [ZM 15 3,ZM 16 5,ZO 17 (.len false (.t 16)),ZO 18 (.bin .add (.t 15) (.t 17)),ZM 3 18] false) (.seq (.region [ZM 19 3,ZO 20 (.bin .lss (.t 19) (.c (.int .i64 0)))] false) (.cond (.t 20) (.region [ZO 21 (.other ({ dst := some 21,op := Op.makeInterface 9 (Operand.const (Value.string { data := #[108,101,110,32,111,117,116,32,111,102,32,114,97,110,103,101] })),type := 20,pos := "slices.go:496",after := #[],guard := none } : Oper)),ZN (.other ({ dst := none,op := Op.panic (Operand.tmp 21),type := 0,pos := "slices.go:496",after := #[{ on := 0,ground := Ground.data }],guard := none } : Oper))] false) .skip))))) (.region [ZO 22 (.bin .add (.t 11) (.c (.int .i64 1))),ZM 11 22] false))))))) (.seq (.region [ZM 23 3,ZO 24 (.call 62 [(.c .nilsl),(.t 23)]),ZM 6 24] false) (.seq (.seq (.region [ZM 25 0,ZO 26 (.len false (.t 25)),ZO 27 (.mv (.c (.int .i64 0)))] false) (.block 2 (.loop (.seq (.region [ZO 28 (.bin .lss (.t 27) (.t 26))] false) (.seq (.cond (.t 28) .skip (.exit 2)) (.seq (.block 3 (.seq (.region [ZO 29 (.iaddr 1 (.t 25) (.t 27)),ZO 30 (.load false 1 (.t 29)),ZM 8 30] false) (.region [ZM 31 6,ZM 32 8,ZO 33 (.app 1 16 [(.str [])] false (.t 31) (.t 32)),ZM 6 33] false))) (.region [ZO 34 (.bin .add (.t 27) (.c (.int .i64 1))),ZM 27 34] false))))))) (.seq (.region [ZM 35 6,ZM 2 35] false) .ret))))))
theorem grow_strings (n:Nat) (hn:n ≤ 1000000) (h:Heap):Zce Tryz.prog 62 [.nilsl,pI n] h (fun p h'=>p = .own h.top 0 0 ∧ h' = h.push (.arr false 1 [])):=by
  obtain ⟨i0,hi,hz,hs,hb⟩:∃ i0,Tryz.prog.info? 9 = some i0 ∧ i0.zero = some (.string ⟨#[]⟩) ∧ i0.size = 1 ∧ i0.bytes = 16:=by
    have h:(Tryz.prog.info? 9).map (fun i=>(i.zero,i.size,i.bytes)) = some (some (.string ⟨#[]⟩),1,16):=by kernel_rfl
    obtain ⟨i,h1,h2⟩:=Option.map_eq_some_iff.1 h
    simp only [Prod.mk.injEq] at h2
    exact ⟨i,h1,h2⟩
  exact ACall_grow Tryz.growS (by kernel_rfl) i0 _ hi hz hs rfl n (by rw [hb]; omega) (by omega) h
theorem ad1 {a:Nat} (h:a ≤ 1000000000):IntKind.i64.wrap ((a:Int) + 1) = ((a + 1:Nat):Int):=by rw [w64 (by omega) (by omega)]; omega
def lens (L:List (List Str)):Nat:=(L.map List.length).sum
theorem lens_flat (L:List (List Str)):L.flatten.length = lens L:=by simp [lens,List.length_flatten]
theorem lens_step {L:List (List Str)} {k:Nat} (h:k < L.length):lens (L.take (k + 1)) = lens (L.take k) + L[k].length:=by
  unfold lens
  rw [List.take_add_one,List.getElem?_eq_getElem h,List.map_append,List.sum_append]; simp
theorem flat_step {L:List (List Str)} {k:Nat} (h:k < L.length):(L.take (k + 1)).flatten = (L.take k).flatten ++ L[k]:=by
  rw [List.take_add_one,List.getElem?_eq_getElem h,List.flatten_append]; simp
theorem lens_take (L:List (List Str)) (k:Nat):lens (L.take k) ≤ lens L:=by
  have:lens L = lens (L.take k) + lens (L.drop k):=by unfold lens; rw [← List.sum_append,← List.map_append,List.take_append_drop]
  omega
def encL (x:List Str):List PV:=[.sl 1 (strR x)]
theorem sp_Concat (id t : Nat) (L2 : List (Nat × AB)) (hid : id < t) (hlt : ∀ q ∈ L2, q.1 < t) (hnod : Nod L2) (hoff : Off L2 id) (L : List (List Str)) (hL : L.length ≤ 1000) (hl : lens L ≤ 100000) :
    Zce Tryz.prog 35 [.own id 0 L.length] ⟨(id,.arr false 1 (L.map encL)) :: L2,t⟩
      (fun p h'=>∃ id2 t2,id ≠ id2 ∧ id2 < t2 ∧ t ≤ id2 ∧ p = .own id2 0 L.flatten.length ∧ h' = ⟨(id2,.arr false 1 (strR L.flatten)) :: (id,.arr false 1 (L.map encL)) :: L2,t2⟩):=by
  refine Zce.drop ?_
  refine Zct (vc:=c_slices_Concat_string) (ts:=[.t 2]) Go.Proofs.Tryz.func35 (by kernel_rfl) rfl rfl (Nat.le_of_ble_eq_true rfl) (by kernel_rfl) ?_
  unfold c_slices_Concat_string
  try dsimp only [ZM,ZO,ZN,ZG]
  have qi0:(id = t) = False:=eq_false (by omega)
  have qi1:(id = (t + 1)) = False:=eq_false (by omega)
  have qi2:(t = id) = False:=eq_false (by omega)
  have qi3:(t = (t + 1)) = False:=eq_false (by omega)
  have qi4:((t + 1) = id) = False:=eq_false (by omega)
  have qi5:((t + 1) = t) = False:=eq_false (by omega)
  have ot:Off L2 t:=Off.lt hlt (Nat.le_refl _)
  have gt:=ot.get
  have dt:=ot.del
  refine Za1 (Zac [0] ?_)
  simp only [Zaa,Zai,Zay,pok,pval,VA.ev,Env.get,Env.put,Env.keep,Za7,Zaz,Heap.le,ite_true,ite_false,true_and,ne_eq,reduceCtorEq]
  refine Za1 (Zac [0,3] ?_)
  simp only [Zaa,Zai,Zay,pok,pval,VA.ev,Env.get,Env.put,Env.keep,Zaz,ite_true,ite_false,true_and,reduceCtorEq]
  refine Za1 ?_
  refine Za1 (Zac [0,3,9,10,11] ?_)
  simp only [Zaa,Zai,Zay,pok,pval,VA.ev,Env.get,Env.put,Env.keep,Zaz,lenV,Zbn,Nat.succ_ne_self,Nat.reduceEqDiff,ite_true,ite_false,true_and,reduceCtorEq]
  refine Zb5 ?_
  refine Zcm (σ:={ k:Nat // k ≤ L.length }) (fun s=>([(0,.own id 0 L.length),(3,pI (lens (L.take s.1))),(9,.own id 0 L.length),(10,pI L.length),(11,pI s.1)],⟨(id,.arr false 1 (L.map encL)) :: L2,t⟩)) (fun s=>L.length - s.1) ⟨0,Nat.zero_le _⟩ ?_ ?_ ?_
  · try simp only [Env.get,Nat.succ_ne_self,Env.le,List.map,List.take,Nat.reduceEqDiff,ite_true,ite_false,true_and,and_true,reduceCtorEq,qi0,qi1,qi2,qi3,qi4,qi5,List.take_zero,lens]
    all_goals (repeat' (first | rfl | trivial | omega | (simp only []; omega) | refine And.intro ?_ ?_))
  · simp only [Heap.get,Heap.le,HL.get,HL.le,Nat.le_refl,ite_true,true_and,qi0,qi1,qi2,qi3,qi4,qi5]
    exact HL.le_tail1 hnod hoff _
  rintro ⟨k,hk⟩
  simp only []
  refine Za1 (Zac [0,3,9,10,11,12] ?_)
  simp only [Zaa,Zai,Zay,pok,pval,VA.ev,Env.get,Env.put,Env.keep,Zaz,intV,binV,Zbk,Heap.get,Heap.le,HL.le,Nat.succ_ne_self,Env.le,Nat.reduceEqDiff,ite_true,ite_false,true_and,and_true,reduceCtorEq,qi0,qi1,qi2,qi3,qi4,qi5]
  refine Za1 ?_
  refine Zca rfl (fun h1=>?_) (fun h1=>?_)
  · simp only [decide_eq_true_eq] at h1
    have ka:k < L.length:=by omega
    have hst:=lens_step ka
    have htk:=lens_take L (k + 1)
    refine Zcb ?_
    try simp only [Zaz]
    refine Za1 ?_
    refine Zb5 ?_
    refine Za1 (Zac [0,3,5,9,10,11] ?_)
    simp only [Zaa,Zai,Zay,pok,pval,VA.ev,Env.get,Env.put,Env.keep,Zaz,aggV,isInt,numOf,lenV,Zae,Zbl,Za6,Zao,PV.nth,PV.row,Heap.get,HL.get,Nat.le_refl,Nat.succ_ne_self,List.length,List.getD_cons_zero,List.take,List.drop,List.take_succ_cons,Nat.reduceEqDiff,Bool.false_eq_true,ite_true,ite_false,true_and,and_true,implies_true,reduceCtorEq,Nat.zero_add,List.length_cons,Int.toNat_natCast,List.length_map,rowm ka,encL,qi0,qi1,qi2,qi3,qi4,qi5]
    repeat (with_reducible refine And.intro ?_ ?_; first | omega | (with_reducible constructor <;> omega) | exact False.elim | exact True.intro)
    refine Za1 (Zac [0,3,9,10,11] ?_)
    simp only [Zaa,Zai,Zay,pok,pval,VA.ev,Env.get,Env.put,Env.keep,Zaz,intV,binV,Zbk,lenV,Zbn,Nat.succ_ne_self,Nat.reduceEqDiff,ite_true,ite_false,true_and,reduceCtorEq,Zcg,w64 (n:=(lens (L.take k):Int) + (L[k].length:Int)) (by omega) (by omega),qi0,qi1,qi2,qi3,qi4,qi5]
    refine Za1 (Zac [0,3,9,10,11,20] ?_)
    simp only [Zaa,Zai,Zay,pok,pval,VA.ev,Env.get,Env.put,Env.keep,Zaz,intV,binV,Zbk,Nat.succ_ne_self,Nat.reduceEqDiff,ite_true,ite_false,true_and,reduceCtorEq,qi0,qi1,qi2,qi3,qi4,qi5]
    refine Zca rfl (fun h2=>?_) (fun h2=>?_)
    · simp only [decide_eq_true_eq] at h2
      omega
    refine Zcb ?_
    try simp only [Zaz,Za2]
    refine Zac [0,3,9,10,11] ?_
    simp only [Zaa,Zai,Zay,pok,pval,VA.ev,Env.get,Env.put,Env.keep,Zaz,intV,binV,Zbk,HL.get,Nat.le_refl,Nat.succ_ne_self,Nat.reduceEqDiff,ite_true,ite_false,true_and,reduceCtorEq,ad1 (a:=k) (by omega),qi0,qi1,qi2,qi3,qi4,qi5]
    refine ⟨⟨k + 1,ka⟩,?_⟩
    have e:(lens (L.take k):Int) + (L[k].length:Int) = (lens (L.take (k + 1)):Nat):=by omega
    try simp only [true_and,and_true,qi0,qi1,qi2,qi3,qi4,qi5,e]
    all_goals (repeat' (first | rfl | trivial | omega | (simp only []; omega) | refine And.intro ?_ ?_))
    exact HL.le_tail1 hnod hoff _
  simp only [decide_eq_false_iff_not] at h1
  obtain rfl:k = L.length:=by omega
  rw [List.take_length]
  refine Zck ?_
  try simp only [Zaz,Za2,retQ,ite_true]
  refine Za1 (Zac [0,6] ?_)
  simp only [Zaa,Zai,Zay,pok,pval,VA.ev,Env.get,Env.put,Env.keep,Zaz,List.map,Nat.reduceEqDiff,ite_true,ite_false,true_and,reduceCtorEq,qi0,qi1,qi2,qi3,qi4,qi5]
  refine Zce.mono (grow_strings (lens L) (by omega) _) ?_
  rintro p h' ⟨rfl,rfl⟩
  try simp only [Heap.push,qi0,qi1,qi2,qi3,qi4,qi5]
  have hfin:lens L ≤ 100000:=hl
  refine Za1 ?_
  refine Za1 (Zac [6,25,26,27] ?_)
  simp only [Zaa,Zai,Zay,pok,pval,VA.ev,Env.get,Env.put,Env.keep,Zaz,lenV,Zbn,Nat.succ_ne_self,Nat.reduceEqDiff,ite_true,ite_false,true_and,reduceCtorEq,qi0,qi1,qi2,qi3,qi4,qi5]
  refine Zb5 ?_
  refine Zcm (σ:={ s:Nat × Nat × Nat // s.1 ≤ L.length ∧ id < s.2.1 ∧ s.2.1 < s.2.2 ∧ t ≤ s.2.1 }) (fun s=>([(6,.own s.1.2.1 0 (L.take s.1.1).flatten.length),(25,.own id 0 L.length),(26,pI L.length),(27,pI s.1.1)],⟨(s.1.2.1,.arr false 1 (strR (L.take s.1.1).flatten)) :: (id,.arr false 1 (L.map encL)) :: L2,s.1.2.2⟩)) (fun s=>L.length - s.1.1) ⟨(0,t,t + 1),Nat.zero_le _,hid,by simp,Nat.le_refl _⟩ ?_ ?_ ?_
  · try simp only [Env.get,Nat.succ_ne_self,Env.le,List.take,Nat.reduceEqDiff,ite_true,ite_false,true_and,and_true,List.length_nil,qi0,qi1,qi2,qi3,qi4,qi5,List.take_zero,List.flatten_nil,strR]
    all_goals (repeat' (first | rfl | trivial | omega | (simp only []; omega) | refine And.intro ?_ ?_))
  · simp only [Heap.get,Heap.le,HL.get,HL.le,Nat.le_refl,List.take,ite_true,ite_false,true_and,Option.some.injEq,qi0,qi1,qi2,qi3,qi4,qi5]
    exact ⟨rfl,HL.le_tail2 hnod ot hoff _⟩
  rintro ⟨⟨k,i2,n⟩,hk,h2,h3,h4⟩
  simp only [] at hk h2 h3 h4 ⊢
  have qi0:(id = i2) = False:=eq_false (by omega)
  have qi1:(id = n) = False:=eq_false (by omega)
  have qi2:(id = (n + 1)) = False:=eq_false (by omega)
  have qi3:(i2 = id) = False:=eq_false (by omega)
  have qi4:(i2 = n) = False:=eq_false (by omega)
  have qi5:(i2 = (n + 1)) = False:=eq_false (by omega)
  have qi6:(n = id) = False:=eq_false (by omega)
  have qi7:(n = i2) = False:=eq_false (by omega)
  have qi8:(n = (n + 1)) = False:=eq_false (by omega)
  have qi9:((n + 1) = id) = False:=eq_false (by omega)
  have qi10:((n + 1) = i2) = False:=eq_false (by omega)
  have qi11:((n + 1) = n) = False:=eq_false (by omega)
  have o2:Off L2 i2:=Off.lt hlt h4
  have on:Off L2 n:=Off.lt hlt (by omega)
  have g2:=o2.get
  have d2:=o2.del
  have gn:=on.get
  have dn:=on.del
  refine Za1 (Zac [6,25,26,27,28] ?_)
  simp only [Zaa,Zai,Zay,pok,pval,VA.ev,Env.get,Env.put,Env.keep,Zaz,intV,binV,Zbk,Heap.get,Heap.le,HL.le,Nat.succ_ne_self,Env.le,Nat.reduceEqDiff,ite_true,ite_false,true_and,and_true,qi0,qi1,qi2,qi3,qi4,qi5,qi6,qi7,qi8,qi9,qi10,qi11]
  refine Za1 ?_
  refine Zca rfl (fun h1=>?_) (fun h1=>?_)
  · simp only [decide_eq_true_eq] at h1
    have ka:k < L.length:=by omega
    have hst:=flat_step ka
    have hF:(L.take k).flatten.length ≤ 100000:=by have:=lens_take L k; rw [lens_flat]; omega
    have hLk:(L.take k).flatten.length + L[k].length ≤ 100000:=by have:=lens_take L (k + 1); rw [lens_step ka] at this; rw [lens_flat]; omega
    refine Zcb ?_
    try simp only [Zaz]
    refine Za1 ?_
    refine Zb5 ?_
    refine Za1 (Zac [6,8,25,26,27] ?_)
    simp only [Zaa,Zai,Zay,pok,pval,VA.ev,Env.get,Env.put,Env.keep,Zaz,aggV,isInt,numOf,lenV,Zae,Zbl,Za6,Zao,PV.nth,PV.row,Heap.get,HL.get,Nat.le_refl,Nat.succ_ne_self,List.length,List.getD_cons_zero,List.take,List.drop,List.take_succ_cons,Nat.reduceEqDiff,Bool.false_eq_true,ite_true,ite_false,true_and,and_true,implies_true,Nat.zero_add,List.length_cons,Int.toNat_natCast,List.length_map,rowm ka,encL,qi0,qi1,qi2,qi3,qi4,qi5,qi6,qi7,qi8,qi9,qi10,qi11]
    repeat (with_reducible refine And.intro ?_ ?_; first | omega | (with_reducible constructor <;> omega) | exact False.elim | exact True.intro)
    generalize (L.take k).flatten = F at hst hF hLk ⊢
    generalize L[k] = x at hst hLk ⊢
    have e1:strR F ++ strR x = strR (L.take (k + 1)).flatten:=by rw [hst,strR_app]
    have e2:F.length + x.length = (L.take (k + 1)).flatten.length:=by rw [hst,List.length_append]
    refine Zac [6,25,26,27] ?_
    simp only [Zaa,Zai,Zay,pok,pval,VA.ev,Env.get,Env.put,Env.keep,Zaz,Za2,Heap.get,Heap.del,HL.get,HL.del,Heap.push,Nat.le_refl,Nat.succ_ne_self,Za3,Zbt,Zam,Zbu,Zaj,Zbs,List.drop,Nat.reduceEqDiff,ite_true,ite_false,true_and,and_true,Nat.zero_add,Zcg,strR_take,e1,g2,d2,gn,dn,qi0,qi1,qi2,qi3,qi4,qi5,qi6,qi7,qi8,qi9,qi10,qi11]
    refine ⟨by omega,by omega,?_⟩
    refine Zac [6,25,26,27] ?_
    simp only [Zaa,Zai,Zay,pok,pval,VA.ev,Env.get,Env.put,Env.keep,Zaz,intV,binV,Zbk,HL.get,Nat.succ_ne_self,Nat.reduceEqDiff,ite_true,ite_false,true_and,ad1 (a:=k) (by omega),qi0,qi1,qi2,qi3,qi4,qi5,qi6,qi7,qi8,qi9,qi10,qi11]
    refine ⟨⟨(k + 1,n,n + 1),ka,by show id < n; omega,by simp,by show t ≤ n; omega⟩,?_⟩
    simp only [← e2]
    try simp only [Nat.le_refl,ite_true,ite_false,true_and,and_true,qi0,qi1,qi2,qi3,qi4,qi5,qi6,qi7,qi8,qi9,qi10,qi11,g2,d2,gn,dn]
    all_goals (repeat' (first | rfl | trivial | omega | (simp only []; omega) | refine And.intro ?_ ?_))
    exact HL.le_tail2 hnod on hoff _
  simp only [decide_eq_false_iff_not] at h1
  obtain rfl:k = L.length:=by omega
  rw [List.take_length]
  refine Zck ?_
  try simp only [Zaz,Za2,retQ,ite_true]
  refine Za1 (Zac [2] ?_)
  simp only [Zaa,Zai,Zay,pok,pval,VA.ev,Env.get,Env.put,Env.keep,Zaz,Nat.reduceEqDiff,ite_true,ite_false,true_and,qi0,qi1,qi2,qi3,qi4,qi5,qi6,qi7,qi8,qi9,qi10,qi11]
  refine VW_ret ?_
  try simp only [Env.get,retQ,resV,Zbq,RS.ev,RS.ok,ite_true,true_and,and_true]
  refine ⟨⟨(i2,.arr false 1 (strR L.flatten)) :: (id,.arr false 1 (L.map encL)) :: L2,n⟩,?_,i2,n,by omega,h3,by omega,rfl,rfl⟩
  try simp only [Heap.get,HL.get,HL.le,Nat.le_refl,ite_true,ite_false,true_and,qi0,qi1,qi2,qi3,qi4,qi5,qi6,qi7,qi8,qi9,qi10,qi11]
  all_goals (repeat' (first | rfl | trivial | omega | (simp only []; omega) | refine And.intro ?_ ?_))
  exact HL.le_tail2 hnod o2 hoff _
end Go.Proofs.YtjmekckcffckoabGreatDoor.w
namespace Go.Proofs.YtjmekckcffckoabGreatDoor.w
open Go Go.VM
set_option maxRecDepth 20000
set_option maxHeartbeats 0
set_option pp.deepTerms false
def c_paginate_Words:VC:=(.seq (.region [ZO 2 (.mv (.c .nilsl))] false) (.seq (.region [ZO 3 (.mv (.c .nilsl))] false) (.seq (.seq (.region [ZM 8 0,ZO 9 (.len false (.t 8)),ZO 10 (.mv (.c (.int .i64 0)))] false) (.block 0 (.loop (.seq (.region [ZO 11 (.bin .lss (.t 10) (.t 9))] false) (.seq (.cond (.t 11) .skip (.exit 0)) (.seq (.block 1 (.seq (.region [ZO 12 (.iaddr 4 (.t 8) (.t 10)),ZO 13 (.load true 4 (.t 12)),ZO 5 (.alloc [(.int .i64 0),(.str []),.nilsl,.nilsl]),ZN (.store 4 (.t 5) (.t 13))] false) (.seq (.region [ZO 14 (.faddr 2 (.t 5)),ZO 15 (.load false 1 (.t 14)),ZO 16 (.faddr 3 (.t 5)),ZO 17 (.load false 1 (.t 16)),ZO 18 (.bslice 1 2 [.nilsl] [(0,(.t 15)),(1,(.t 17))]),ZO 19 (.call 35 [(.t 18)]),ZO 20 (.len false (.t 19)),ZO 21 (.mv (.c (.int .i64 0)))] false) (.block 2 (.loop (.seq (.region [ZO 22 (.bin .lss (.t 21) (.t 20))] false) (.seq (.cond (.t 22) .skip (.exit 2)) (.seq (.block 3 (.seq (.region [ZO 23 (.iaddr 1 (.t 19) (.t 21)),ZO 24 (.load false 1 (.t 23)),ZM 7 24] false) (.region [ZM 25 3,ZM 26 7,ZO 27 (.call 36 [(.t 26),(.c (.fn (.func 37) [] []))]),ZO 28 (.app 1 16 [(.str [])] false (.t 25) (.t 27)),ZM 3 28] false))) (.region [ZO 29 (.bin .add (.t 21) (.c (.int .i64 1))),ZM 21 29] false))))))))) (.region [ZO 30 (.bin .add (.t 10) (.c (.int .i64 1))),ZM 10 30] false))))))) (.seq (.region [ZM 31 3,ZM 2 31] false) .ret))))
def c_paginate_Words_1:VC:=(.seq (.region [ZO 2 (.mv (.c (.bool false)))] false) (.seq (.region [ZM 3 0,ZO 4 (.bin .eql (.t 3) (.c (.int .i32 32))),ZM 2 4] false) .ret))
structure Pg where
  number : Int
  head : Str
  lines : List Str
  notes : List Str
  deriving DecidableEq, Inhabited
def Pg.enc (p:Pg):List PV:=[pI p.number,.str p.head,.sl 1 (strR p.lines),.sl 1 (strR p.notes)]
theorem sp_paginate_Words_1 (x:Nat):PCall Tryz.prog 37 [.int .i32 x] (.bool (isSp x)):=by
  refine Zcf ?_ (cB _) (by intro y hy; rw [List.mem_singleton] at hy; subst hy; exact Closed.of_scalar (scalar_int _ _))
  refine Zct (vc:=c_paginate_Words_1) (ts:=[.t 2]) Go.Proofs.Tryz.func37 (by kernel_rfl) rfl rfl (Nat.le_of_ble_eq_true rfl) (by kernel_rfl) ?_
  unfold c_paginate_Words_1
  try dsimp only [ZM,ZO,ZN,ZG]
  refine Za1 (Zac [0] ?_)
  simp only [Zaa,Zai,Zay,pok,pval,VA.ev,Env.get,Env.put,Env.keep,Za7,Zaz,Heap.nil,ite_true,ite_false,true_and,reduceCtorEq]
  refine Za1 (Zac [2] ?_)
  simp only [Zaa,Zai,Zay,pok,pval,VA.ev,Env.get,Env.put,Env.keep,Zaz,intV,binV,Zbk,Nat.succ_ne_self,Nat.reduceEqDiff,ite_true,ite_false,true_and,reduceCtorEq]
  refine VW_ret ?_
  try simp only [Env.get,retQ,resV,Zbq,RS.ev,RS.ok,ite_true,true_and,and_true]
  have e:((x:Int) == 32) = isSp x:=by
    unfold isSp
    rw [Bool.eq_iff_iff,beq_iff_eq,beq_iff_eq]; omega
  rw [e]
  exact View.refl _ _
theorem grows_of {P:Program} {f:FuncId} {p:Nat → Bool} (H:∀ x:Nat,PCall P f [.int .i32 x] (.bool (p x))) {g:Gh} {w:World} (r:Rel g w Heap.nil):PredGrows P f #[] p w:=by
  intro W x _ hb
  obtain ⟨r',_⟩:=r.below (Zc2 r hb) hb
  refine ((H x).2.2 _ W (#[encR x] ++ #[]) r' ⟨rfl,fun j hj=>?_⟩).mono ?_
  · obtain rfl:j = 0:=by simp at hj; omega
    exact .int .i32 x
  · rintro e w' ⟨v,m',rfl,hv,_,hb'⟩
    obtain rfl:=hv.bool_inv
    exact ⟨rfl,hb'⟩
theorem fn0_inv {g:Gh} {u:Value} {f:FuncId} (h:Rep g u (.fn (.func f) [] [])):u = .func (.func f) #[] #[]:=by
  obtain ⟨fs,cs,rfl,h1,h2⟩:=h.fn_inv
  have e1:fs = #[]:=Array.eq_empty_of_size_eq_zero h1.1
  have e2:cs = #[]:=Array.eq_empty_of_size_eq_zero h2.1
  rw [e1,e2]
theorem Zcr (l:List Str):Closed (.sl 1 (strR l)):=closed_strs l
theorem sp_FieldsFunc (s:Str) (hs:s.length ≤ 1000000):PCall Tryz.prog 36 [.str s,.fn (.func 37) [] []] (.sl 1 (strR (Zb9 s))):=by
  refine ⟨by kernel_rfl,by intro x hx; simp only [List.mem_cons,List.not_mem_nil,or_false] at hx; rcases hx with rfl | rfl; exact cS _; exact closed_fn0 _,fun g w vals r ha=>?_⟩
  obtain ⟨v,u,rfl,hv,hu⟩:=args_2 ha
  obtain ⟨z,rfl,hz⟩:=hv.str_inv
  obtain rfl:=fn0_inv hu
  rw [str_eq hz]
  refine (Tryz.strings_FieldsFunc_grows _ #[] (enters_of Tryz.func37 (by kernel_rfl) rfl) isSp _ w (by show s.toArray.size ≤ _; rw [List.size_toArray]; omega) (grows_of sp_paginate_Words_1 r)).mono ?_
  rintro e w' ⟨A,rfl,hA,hrow,hb⟩
  have hpl:=goFields_plain s
  generalize Lib.goFieldsP isSp ⟨s.toArray⟩ = F at hrow hpl
  have hlen:(F.map Value.string).length = F.length:=by simp
  have hfl:(Zb9 s).length = F.length:=by rw [← hpl]; simp
  have hget:∀ j,j < F.length → (F.map Value.string).getD j Go.undef = .string (F.getD j ⟨#[]⟩):=fun j hj=>by
    simp [List.getD_eq_getElem?_getD,hj]
  have hgf:∀ j,j < F.length → (F.getD j ⟨#[]⟩).data.toList = (Zb9 s).getD j []:=fun j hj=>by
    rw [← hpl]; simp [List.getD_eq_getElem?_getD,hj]
  by_cases h0:F.length = 0
  · have hF:F = []:=List.eq_nil_of_length_eq_zero h0
    subst hF
    have:Zb9 s = []:=List.eq_nil_of_length_eq_zero hfl
    rw [this]
    exact ⟨_,g.m,rfl,.slE _ _ _,Zc2 r hb,hb⟩
  rcases hrow.2 with ⟨h1,_⟩ | ⟨gb,cap,cur,h1,hbase,hgb,r1,r2,r3,r4⟩
  · cases h1
  · cases h1
    obtain ⟨m', hr, hm⟩ := row_result (cap := F.length) r hb (F.map Value.string) ((Zb9 s).map PV.str) (by simp [hfl]) (fun j hj g => by
        rw [hlen] at hj
        rw [hget j hj]
        have:PV.nth ((Zb9 s).map PV.str) j = .str ((Zb9 s).getD j []):=by
          have hj':j < (Zb9 s).length:=by omega
          simp [PV.nth,List.getD_eq_getElem?_getD,hj']
        rw [this]
        exact .str _ _ (hgf j hj)) (fun j hj=>by rw [hlen] at hj; rw [hget j hj]; rfl) hbase hgb (by rw [hlen]; exact r1) (fun j hj=>by
        rw [hlen] at hj
        rw [hget j hj]
        have h2:(cur.toList.take (F.length * 1))[j]? = (F.map Value.string)[j]?:=by rw [r4]
        rw [List.getElem?_take,if_pos (by omega),List.getElem?_map] at h2
        rw [← Array.getElem?_toList,h2]
        simp [List.getD_eq_getElem?_getD,hj])
    rw [hlen,List.map_map] at hr
    exact ⟨_,m',rfl,hr,hm,hb⟩
def Zcs (p:Pg):List Str:=p.lines ++ p.notes
def Zcz (p:Pg):List Str:=(Zcs p).flatMap Zb9
def Zcp (l:List Pg):List Str:=l.flatMap Zcz
theorem wordsL_step {l:List Pg} {k:Nat} (h:k < l.length):Zcp (l.take (k + 1)) = Zcp (l.take k) ++ Zcz l[k]:=by
  unfold Zcp
  rw [List.take_add_one,List.getElem?_eq_getElem h,List.flatMap_append]; simp
theorem wordsL_take (l:List Pg) (k:Nat):(Zcp (l.take k)).length ≤ (Zcp l).length:=by
  have:Zcp l = Zcp (l.take k) ++ Zcp (l.drop k):=by unfold Zcp; rw [← List.flatMap_append,List.take_append_drop]
  rw [this]; simp
theorem fl_step {l:List Str} {k:Nat} (h:k < l.length):(l.take (k + 1)).flatMap Zb9 = (l.take k).flatMap Zb9 ++ Zb9 l[k]:=by
  rw [List.take_add_one,List.getElem?_eq_getElem h,List.flatMap_append]; simp
theorem fl_take (l:List Str) (k:Nat):((l.take k).flatMap Zb9).length ≤ (l.flatMap Zb9).length:=by
  have:l.flatMap Zb9 = (l.take k).flatMap Zb9 ++ (l.drop k).flatMap Zb9:=by rw [← List.flatMap_append,List.take_append_drop]
  rw [this]; simp
structure SmalP (l : List Pg) : Prop where
  len : l.length ≤ 1000
  words : (Zcp l).length ≤ 100000
  lines : ∀ p ∈ l, (Zcs p).length ≤ 1000
  line : ∀ p ∈ l, ∀ s ∈ Zcs p, s.length ≤ 100000
theorem rowm {α:Type} {enc:α → List PV} {l:List α} {k:Nat} (h:k < l.length):(l.map enc).getD k [] = enc l[k]:=by simp [List.getD_eq_getElem?_getD,h]
theorem sp_paginate_Words (l:List Pg) (hs:SmalP l):PCall Tryz.prog 17 [.sl 4 (l.map Pg.enc)] (.sl 1 (strR (Zcp l))):=by
  have hll:=hs.len
  have cP:Closed (.sl 4 (l.map Pg.enc)):=Zb8 (fun p _ x hx=>by
    simp only [Pg.enc,List.mem_cons,List.not_mem_nil,or_false] at hx
    rcases hx with rfl | rfl | rfl | rfl
    · exact cI _
    · exact cS _
    · exact Zcr _
    · exact Zcr _)
  refine Zcf ?_ (Zcr _) (by intro y hy; rw [List.mem_singleton] at hy; subst hy; exact cP)
  refine Zct (vc:=c_paginate_Words) (ts:=[.t 2]) Go.Proofs.Tryz.func17 (by kernel_rfl) rfl rfl (Nat.le_of_ble_eq_true rfl) (by kernel_rfl) ?_
  unfold c_paginate_Words
  try dsimp only [ZM,ZO,ZN,ZG]
  refine Za1 (Zac [0] ?_)
  simp only [Zaa,Zai,Zay,pok,pval,VA.ev,Env.get,Env.put,Env.keep,Za7,Zaz,Heap.nil,ite_true,ite_false,true_and,reduceCtorEq]
  refine Za1 (Zac [0,3] ?_)
  simp only [Zaa,Zai,Zay,pok,pval,VA.ev,Env.get,Env.put,Env.keep,Zaz,ite_true,ite_false,true_and,reduceCtorEq]
  refine VW_own0 3 1 rfl ?_
  try simp only [Env.put,Heap.push,Nat.zero_add]
  refine Za1 ?_
  refine Za1 (Zac [3,8,9,10] ?_)
  simp only [Zaa,Zai,Zay,pok,pval,VA.ev,Env.get,Env.put,Env.keep,Zaz,lenV,Zbn,Nat.succ_ne_self,Nat.reduceEqDiff,ite_true,ite_false,true_and,reduceCtorEq,List.length_map]
  refine Zb5 ?_
  refine Zcm (σ:={ s:Nat × Nat × Nat // s.1 ≤ l.length ∧ s.2.1 < s.2.2 }) (fun s=>([(3,.own s.1.2.1 0 (Zcp (l.take s.1.1)).length),(8,.sl 4 (l.map Pg.enc)),(9,pI l.length),(10,pI s.1.1)],⟨[(s.1.2.1,.arr false 1 (strR (Zcp (l.take s.1.1))))],s.1.2.2⟩)) (fun s=>l.length - s.1.1) ⟨(0,0,1),Nat.zero_le _,by simp⟩ ?_ ?_ ?_
  · try simp only [Env.get,Nat.succ_ne_self,Env.le,List.take,Nat.reduceEqDiff,ite_true,ite_false,true_and,and_true,List.length_nil,List.take_zero,Zcp,List.flatMap_nil]
    all_goals (repeat' (first | rfl | trivial | omega | (simp only []; omega) | refine And.intro ?_ ?_))
  · simp only [Heap.get,Heap.le,HL.get,HL.le,Nat.le_refl,List.take,ite_true,true_and,and_true,Option.some.injEq]
    rfl
  rintro ⟨⟨k,id,t⟩,hk,hid⟩
  simp only [] at hk hid ⊢
  have qi0:(id = t) = False:=eq_false (by omega)
  have qi1:(id = (t + 1)) = False:=eq_false (by omega)
  have qi2:(id = (t + 1 + 1)) = False:=eq_false (by omega)
  have qi3:(t = id) = False:=eq_false (by omega)
  have qi4:(t = (t + 1)) = False:=eq_false (by omega)
  have qi5:(t = (t + 1 + 1)) = False:=eq_false (by omega)
  have qi6:((t + 1) = id) = False:=eq_false (by omega)
  have qi7:((t + 1) = t) = False:=eq_false (by omega)
  have qi8:((t + 1) = (t + 1 + 1)) = False:=eq_false (by omega)
  have qi9:((t + 1 + 1) = id) = False:=eq_false (by omega)
  have qi10:((t + 1 + 1) = t) = False:=eq_false (by omega)
  have qi11:((t + 1 + 1) = (t + 1)) = False:=eq_false (by omega)
  refine Za1 (Zac [3,8,9,10,11] ?_)
  simp only [Zaa,Zai,Zay,pok,pval,VA.ev,Env.get,Env.put,Env.keep,Zaz,intV,binV,Zbk,Heap.get,Heap.le,HL.le,Nat.succ_ne_self,Env.le,Nat.reduceEqDiff,ite_true,ite_false,true_and,and_true,qi0,qi1,qi2,qi3,qi4,qi5,qi6,qi7,qi8,qi9,qi10,qi11]
  refine Za1 ?_
  refine Zca rfl (fun h1=>?_) (fun h1=>?_)
  · simp only [decide_eq_true_eq] at h1
    have ka:k < l.length:=by omega
    have hst:=wordsL_step ka
    have hwk:=wordsL_take l (k + 1)
    have hwt:=hs.words
    have hml:=hs.lines _ (List.getElem_mem ka)
    have hmw:=hs.line _ (List.getElem_mem ka)
    refine Zcb ?_
    try simp only [Zaz]
    refine Za1 ?_
    refine Zb5 ?_
    refine Za1 (Zac [3,5,8,9,10] ?_)
    simp only [Zaa,Zai,Zay,pok,pval,VA.ev,Env.get,Env.put,Env.keep,Zaz,aggV,isInt,numOf,lenV,Zae,Zbl,Za6,Zao,PV.cells,PV.fits,overlay,PV.nth,PV.row,Heap.get,Heap.set,HL.get,HL.set,HL.del,Heap.push,Nat.le_refl,Nat.succ_ne_self,Zba,Zar,List.set,List.length,List.getD_cons_zero,List.take,List.drop,List.take_succ_cons,List.drop_succ_cons,List.cons_append,List.nil_append,Nat.reduceEqDiff,Nat.reduceAdd,Nat.reduceLT,Bool.true_eq_false,ite_true,ite_false,true_and,and_true,BEq.rfl,Nat.zero_add,List.length_cons,imp_self,Int.toNat_natCast,List.length_map,rowm ka,Pg.enc,qi0,qi1,qi2,qi3,qi4,qi5,qi6,qi7,qi8,qi9,qi10,qi11]
    refine ⟨by omega,?_⟩
    refine Za1 (Zac [3,8,9,10,19,20,21] ?_)
    simp only [Zaa,Zai,Zay,pok,pval,VA.ev,Env.get,Env.put,Env.keep,Zaz,aggV,lenV,Zbb,Za9,Zae,Zbl,Zbn,PV.cells,PV.fits,PV.nth,PV.row,Heap.get,HL.get,Heap.push,Nat.le_refl,Nat.succ_ne_self,Za0,Zal,List.map,List.set,List.replicate,List.length,List.getD_cons_zero,List.take,List.drop,List.take_succ_cons,List.drop_succ_cons,Nat.reduceEqDiff,Nat.reduceAdd,Nat.reduceLT,Nat.reduceLeDiff,Bool.false_eq_true,ite_true,ite_false,true_and,and_true,implies_true,BEq.rfl,Nat.zero_add,List.length_cons,qi0,qi1,qi2,qi3,qi4,qi5,qi6,qi7,qi8,qi9,qi10,qi11]
    have hlen2:lens [l[k].lines,l[k].notes] ≤ 100000:=by
      unfold Zcs at hml
      rw [List.length_append] at hml
      simp [lens]; omega
    have hflat:[l[k].lines,l[k].notes].flatten = Zcs l[k]:=by simp [Zcs]
    have hwp:Zcz l[k] = (Zcs l[k]).flatMap Zb9:=rfl
    have C:=sp_Concat (t + 1) (t + 1 + 1) [(t,.arr false 4 [l[k].enc]),(id,.arr false 1 (strR (Zcp (l.take k))))] (by omega) (by simp <;> omega) (by simp [Nod]; omega) (by intro q hq; simp at hq; rcases hq with rfl | rfl <;> simp <;> omega) [l[k].lines,l[k].notes] (by simp) hlen2
    rw [hflat] at C
    generalize l[k] = pg at hst hml hmw C hwp
    generalize Zcp (l.take k) = W at hst C ⊢
    generalize Zcs pg = LS at hml hmw C hwp
    refine Zce.mono C ?_
    rintro p h' ⟨i2,t2,n1,n2,n3,rfl,rfl⟩
    try simp only [List.map,true_and,qi0,qi1,qi2,qi3,qi4,qi5,qi6,qi7,qi8,qi9,qi10,qi11]
    refine Zb5 ?_
    refine Zcm (σ:={ s:Nat × Nat × Nat // s.1 ≤ LS.length ∧ s.2.1 < s.2.2 ∧ s.2.1 ≠ i2 ∧ i2 < s.2.2 }) (fun s=>([(3,.own s.1.2.1 0 (W ++ (LS.take s.1.1).flatMap Zb9).length),(8,.sl 4 (l.map Pg.enc)),(9,pI l.length),(10,pI k),(19,.own i2 0 LS.length),(20,pI LS.length),(21,pI s.1.1)],⟨[(s.1.2.1,.arr false 1 (strR (W ++ (LS.take s.1.1).flatMap Zb9))),(i2,.arr false 1 (strR LS))],s.1.2.2⟩)) (fun s=>LS.length - s.1.1) ⟨(0,id,t2),Nat.zero_le _,by show id < t2; omega,by show id ≠ i2; omega,n2⟩ ?_ ?_ ?_
    · try simp only [Env.get,Nat.succ_ne_self,Env.le,List.take,Nat.reduceEqDiff,ite_true,ite_false,true_and,and_true,List.take_zero,List.flatMap_nil,List.append_nil,qi0,qi1,qi2,qi3,qi4,qi5,qi6,qi7,qi8,qi9,qi10,qi11]
      all_goals (repeat' (first | rfl | trivial | omega | (simp only []; omega) | refine And.intro ?_ ?_))
    · have q1:(i2 = id) = False:=eq_false (by omega)
      have q2:(i2 = t) = False:=eq_false (by omega)
      have q3:(t + 1 = i2) = False:=eq_false (by omega)
      have q4:(i2 = t + 1) = False:=eq_false (by omega)
      simp only [Heap.get,Heap.le,HL.get,HL.le,Nat.le_refl,List.take,ite_true,ite_false,and_true,List.take_zero,List.flatMap_nil,List.append_nil,q1,q2,q3,q4,qi0,qi1,qi2,qi3,qi4,qi5,qi6,qi7,qi8,qi9,qi10,qi11]
      try rfl
    rintro ⟨⟨j,io,n⟩,hj,m1,m2,m3⟩
    simp only [] at hj m1 m2 m3 ⊢
    have qi0:(io = i2) = False:=eq_false (by omega)
    have qi1:(io = n) = False:=eq_false (by omega)
    have qi2:(io = (n + 1)) = False:=eq_false (by omega)
    have qi3:(i2 = io) = False:=eq_false (by omega)
    have qi4:(i2 = n) = False:=eq_false (by omega)
    have qi5:(i2 = (n + 1)) = False:=eq_false (by omega)
    have qi6:(n = io) = False:=eq_false (by omega)
    have qi7:(n = i2) = False:=eq_false (by omega)
    have qi8:(n = (n + 1)) = False:=eq_false (by omega)
    have qi9:((n + 1) = io) = False:=eq_false (by omega)
    have qi10:((n + 1) = i2) = False:=eq_false (by omega)
    have qi11:((n + 1) = n) = False:=eq_false (by omega)
    refine Za1 (Zac [3,8,9,10,19,20,21,22] ?_)
    simp only [Zaa,Zai,Zay,pok,pval,VA.ev,Env.get,Env.put,Env.keep,Zaz,intV,binV,Zbk,Heap.get,Heap.le,HL.le,Nat.succ_ne_self,Env.le,Nat.reduceEqDiff,ite_true,ite_false,true_and,and_true,ne_eq,qi0,qi1,qi2,qi3,qi4,qi5,qi6,qi7,qi8,qi9,qi10,qi11]
    refine Za1 ?_
    refine Zca rfl (fun h2=>?_) (fun h2=>?_)
    · simp only [decide_eq_true_eq] at h2
      have ja:j < LS.length:=by omega
      have hfs:=fl_step ja
      have hft:=fl_take LS (j + 1)
      have hw:=hmw _ (List.getElem_mem ja)
      have hlsl:=Zcg LS
      have hrow:(strR LS).getD j [] = [PV.str LS[j]]:=rowm ja
      rw [hst,List.length_append,hwp] at hwk
      refine Zcb ?_
      try simp only [Zaz]
      refine Za1 ?_
      refine Zb5 ?_
      refine Za1 (Zac [3,7,8,9,10,19,20,21] ?_)
      simp only [Zaa,Zai,Zay,pok,pval,VA.ev,Env.get,Env.put,Env.keep,Zaz,aggV,isInt,numOf,lenV,Zae,Zbl,Za6,Zao,PV.nth,PV.row,Heap.get,HL.get,Nat.le_refl,Nat.succ_ne_self,List.length,List.getD_cons_zero,List.take,List.drop,List.take_succ_cons,Nat.reduceEqDiff,Bool.false_eq_true,ite_true,ite_false,true_and,and_true,implies_true,Nat.zero_add,List.length_cons,Int.toNat_natCast,hlsl,hrow,qi0,qi1,qi2,qi3,qi4,qi5,qi6,qi7,qi8,qi9,qi10,qi11]
      repeat (with_reducible refine And.intro ?_ ?_; first | omega | (with_reducible constructor <;> omega) | exact False.elim | exact True.intro)
      refine Zac [3,8,9,10,19,20,21] ?_
      simp only [Zaa,Zai,Zay,pok,pval,VA.ev,Env.get,Env.put,Env.keep,Zaz,Za2,Heap.get,Heap.del,Heap.push,Nat.succ_ne_self,Za3,Zbt,Zam,Zbu,Zaj,Zbs,List.map,List.drop,Nat.reduceEqDiff,Bool.false_eq_true,ite_true,ite_false,true_and,and_true,Nat.zero_add,qi0,qi1,qi2,qi3,qi4,qi5,qi6,qi7,qi8,qi9,qi10,qi11]
      have F:=sp_FieldsFunc LS[j] (by omega)
      generalize LS[j] = x at hfs F
      refine Zcw F ?_
      have hOl:(W ++ (LS.take j).flatMap Zb9).length ≤ 100000:=by have:=fl_take LS j; rw [List.length_append]; omega
      have hOn:(W ++ (LS.take j).flatMap Zb9).length + (Zb9 x).length ≤ 100000:=by rw [hfs,List.length_append] at hft; rw [List.length_append]; omega
      have e1:strR (W ++ (LS.take j).flatMap Zb9) ++ strR (Zb9 x) = strR (W ++ (LS.take (j + 1)).flatMap Zb9):=by rw [strR_app,hfs,List.append_assoc]
      have e2:(W ++ (LS.take j).flatMap Zb9).length + (Zb9 x).length = (W ++ (LS.take (j + 1)).flatMap Zb9).length:=by rw [hfs,← List.append_assoc,List.length_append (bs:=Zb9 x)]
      generalize W ++ (LS.take j).flatMap Zb9 = O at hOl hOn e1 e2 ⊢
      have tl:=Zcg O
      have tt:=strR_take O
      have fl:=Zcg (Zb9 x)
      simp only [HL.get,HL.del,Nat.le_refl,ite_true,ite_false,true_and,and_true,tl,tt,fl,e1,qi0,qi1,qi2,qi3,qi4,qi5,qi6,qi7,qi8,qi9,qi10,qi11]
      refine ⟨by omega,by omega,?_⟩
      refine Zac [3,8,9,10,19,20,21] ?_
      simp only [Zaa,Zai,Zay,pok,pval,VA.ev,Env.get,Env.put,Env.keep,Zaz,intV,binV,Zbk,HL.get,Nat.succ_ne_self,Nat.reduceEqDiff,ite_true,ite_false,true_and,and_true,ad1 (a:=j) (by omega),qi0,qi1,qi2,qi3,qi4,qi5,qi6,qi7,qi8,qi9,qi10,qi11]
      refine ⟨⟨(j + 1,n,n + 1),ja,by simp,by show n ≠ i2; omega,by show i2 < n + 1; omega⟩,?_⟩
      simp only [← e2]
      try simp only [Nat.le_refl,ite_true,ite_false,true_and,and_true,qi0,qi1,qi2,qi3,qi4,qi5,qi6,qi7,qi8,qi9,qi10,qi11]
      all_goals (repeat' (first | rfl | trivial | omega | (simp only []; omega) | refine And.intro ?_ ?_))
    simp only [decide_eq_false_iff_not] at h2
    obtain rfl:j = LS.length:=by omega
    rw [List.take_length,← hwp,← hst]
    refine Zck ?_
    try simp only [Zaz,Za2,retQ,Nat.succ_ne_self,ite_true,ite_false,reduceCtorEq]
    refine Zac [3,8,9,10] ?_
    simp only [Zaa,Zai,Zay,pok,pval,VA.ev,Env.get,Env.put,Env.keep,Zaz,intV,binV,Zbk,HL.get,Nat.succ_ne_self,Nat.reduceEqDiff,ite_true,ite_false,true_and,ad1 (a:=k) (by omega),qi0,qi1,qi2,qi3,qi4,qi5,qi6,qi7,qi8,qi9,qi10,qi11]
    refine ⟨⟨(k + 1,io,n),ka,m1⟩,?_⟩
    try simp only [Nat.le_refl,ite_true,ite_false,true_and,and_true,qi0,qi1,qi2,qi3,qi4,qi5,qi6,qi7,qi8,qi9,qi10,qi11]
    all_goals (repeat' (first | rfl | trivial | omega | (simp only []; omega) | refine And.intro ?_ ?_))
  simp only [decide_eq_false_iff_not] at h1
  obtain rfl:k = l.length:=by omega
  rw [List.take_length]
  refine Zck ?_
  try simp only [Zaz,Za2,retQ,ite_true]
  refine Za1 (Zac [2] ?_)
  simp only [Zaa,Zai,Zay,pok,pval,VA.ev,Env.get,Env.put,Env.keep,Zaz,Nat.succ_ne_self,Nat.reduceEqDiff,ite_true,ite_false,true_and]
  refine VW_ret ?_
  try simp only [Env.get,retQ,resV,Zbq,RS.ev,RS.ok,ite_true,true_and,and_true]
  exact View.own_all (fz:=false) (by simp [Heap.get,HL.get]) (by rw [Zcg])
end Go.Proofs.YtjmekckcffckoabGreatDoor.w
namespace Go.Proofs.YtjmekckcffckoabGreatDoor.w
open Go Go.VM
set_option maxRecDepth 20000
def wordB (n:Int) (w:Str):List (Str × Int):=if bareS w = [] then [] else [(bareS w,n)]
def occW (n:Int) (W:List Str):List (Str × Int):=W.flatMap (wordB n)
def occP (p:Pg):List (Str × Int):=occW p.number (Zcz p)
def occL (l:List Pg):List (Str × Int):=l.flatMap occP
theorem onS_app (a b:List (Str × Int)) (o:List (Str × List Int)):onS (a ++ b) o = onS b (onS a o):=by unfold onS; rw [List.foldl_append]
theorem occL_step {l:List Pg} {k:Nat} (h:k < l.length):occL (l.take (k + 1)) = occL (l.take k) ++ occP l[k]:=by
  unfold occL
  rw [List.take_add_one,List.getElem?_eq_getElem h,List.flatMap_append]; simp
theorem occW_step (n:Int) {W:List Str} {j:Nat} (h:j < W.length):occW n (W.take (j + 1)) = occW n (W.take j) ++ wordB n W[j]:=by
  unfold occW
  rw [List.take_add_one,List.getElem?_eq_getElem h,List.flatMap_append]; simp
theorem occW_len (n:Int):∀ W:List Str,(occW n W).length ≤ W.length
  | []=>Nat.le_refl _
  | w :: r=>by
    have:=occW_len n r
    have hb:(wordB n w).length ≤ 1:=by unfold wordB; split <;> simp
    unfold occW at *
    rw [List.flatMap_cons,List.length_append,List.length_cons]
    omega
theorem occL_len:∀ l:List Pg,(occL l).length ≤ (Zcp l).length
  | []=>Nat.le_refl _
  | p :: r=>by
    have:=occL_len r
    have h:=occW_len p.number (Zcz p)
    unfold occL Zcp at *
    rw [List.flatMap_cons,List.length_append,List.flatMap_cons,List.length_append]
    unfold occP at *
    omega
theorem occL_take (l:List Pg) (k:Nat):(occL (l.take k)).length ≤ (Zcp l).length:=Nat.le_trans (occL_len _) (wordsL_take l k)
theorem SmalP.one {l:List Pg} (h:SmalP l) {p:Pg} (hp:p ∈ l):SmalP [p]:=by
  refine ⟨by simp,?_,fun x hx=>?_,fun x hx=>?_⟩
  · obtain ⟨a,b,rfl⟩:=List.append_of_mem hp
    have:=h.words
    simp only [Zcp,List.flatMap_append,List.flatMap_cons,List.length_append,List.flatMap_nil,List.append_nil,List.length_nil] at this ⊢
    omega
  · rw [List.mem_singleton] at hx; subst hx; exact h.lines _ hp
  · rw [List.mem_singleton] at hx; subst hx; exact h.line _ hp
theorem wordsL_one (p:Pg):Zcp [p] = Zcz p:=by simp [Zcp]
def Zcy (l:List Pg):List Str:=((onS (occL l) []).map (·.1)).mergeSort leB
def Zco (l:List Pg) (s:Str):List Int:=((occL l).filter fun y=>y.1 == s).map (·.2)
def Zcn (l:List Pg):List (Str × List Int):=(Zcy l).map fun s=>(s,Zcd (Zco l s))
def encEn (e:Str × List Int):List PV:=[.str e.1,.sl 1 (e.2.map fun x=>[pI x])]
theorem keysS_mem (l:List Pg) (s:Str):s ∈ Zcy l ↔ ∃ y ∈ occL l,y.1 = s:=by
  unfold Zcy
  rw [(List.mergeSort_perm _ _).mem_iff]
  exact (on_all (occL l)).keys s
theorem keysS_nod (l:List Pg):(Zcy l).Nodup:=by
  unfold Zcy
  exact (List.mergeSort_perm _ _).nodup_iff.2 (on_all (occL l)).nod
theorem ent_ns {occ:List (Str × Int)} {E:List Ent} (h:viewE E = onS occ []) {e:Ent} (he:e ∈ E):e.ns = (occ.filter fun y=>y.1 == e.key).map (·.2):=by
  have:=(on_all occ).val (e.key,e.ns) (by rw [← h]; exact List.mem_map.2 ⟨e,he,rfl⟩)
  exact this
theorem ent_len {occ:List (Str × Int)} {E:List Ent} (h:viewE E = onS occ []) {e:Ent} (he:e ∈ E):e.ns.length ≤ occ.length:=by
  rw [ent_ns h he,List.length_map]; exact List.length_filter_le _ _
theorem fldF_len:∀ (s cur:Str),∀ w ∈ fldF cur s,w.length ≤ cur.length + s.length
  | [],cur,w,h=>by
    unfold fldF at h
    split at h
    · cases h
    · rw [List.mem_singleton] at h; subst h; simp
  | b :: r,cur,w,h=>by
    have hc:(b :: r).length = r.length + 1:=rfl
    unfold fldF at h
    split at h
    · split at h
      · have:=fldF_len r [] w h
        simp only [List.length_nil] at this
        omega
      · rcases List.mem_cons.1 h with rfl | h
        · omega
        · have:=fldF_len r [] w h
          simp only [List.length_nil] at this
          omega
    · have:=fldF_len r _ w h
      rw [List.length_append] at this
      simp only [List.length_cons,List.length_nil] at this
      omega
theorem wordsP_len {p:Pg} {m:Nat} (h:∀ s ∈ Zcs p,s.length ≤ m):∀ w ∈ Zcz p,w.length ≤ m:=by
  intro w hw
  unfold Zcz at hw
  rw [List.mem_flatMap] at hw
  obtain ⟨s,h1,h2⟩:=hw
  have h3:=fldF_len s [] w h2
  have h4:=h s h1
  simp only [List.length_nil] at h3
  omega
theorem bareS_len (s:Str):(bareS s).length ≤ s.length:=by
  unfold bareS
  refine Nat.le_trans ?_ (trimLeftB_len s 40)
  unfold Lib.trimRightS
  rw [List.length_reverse]
  have:=(List.dropWhile_sublist (behindT.contains ·) (l:=(Lib.trimLeftB s 40).reverse)).length_le
  rw [List.length_reverse] at this
  exact this
theorem occL_mem {l:List Pg} {y:Str × Int}:y ∈ occL l ↔ ∃ p ∈ l,∃ w ∈ Zcz p,bareS w ≠ [] ∧ y = (bareS w,p.number):=by
  unfold occL
  rw [List.mem_flatMap]
  constructor
  · rintro ⟨p,hp,h⟩
    unfold occP occW at h
    rw [List.mem_flatMap] at h
    obtain ⟨w,hw,h⟩:=h
    unfold wordB at h
    split at h
    · cases h
    · rw [List.mem_singleton] at h
      exact ⟨p,hp,w,hw,by assumption,h⟩
  · rintro ⟨p,hp,w,hw,hb,rfl⟩
    refine ⟨p,hp,?_⟩
    unfold occP occW
    rw [List.mem_flatMap]
    exact ⟨w,hw,by unfold wordB; rw [if_neg hb]; simp⟩
theorem SmalP.key {l:List Pg} (h:SmalP l):∀ y ∈ occL l,y.1.length ≤ 100000:=by
  intro y hy
  obtain ⟨p,hp,w,hw,_,rfl⟩:=occL_mem.1 hy
  exact Nat.le_trans (bareS_len w) (wordsP_len (h.line p hp) w hw)
theorem addO_len (s:Str) (n:Int):∀ o:List (Str × List Int),(addO s n o).length ≤ o.length + 1
  | []=>Nat.le_refl _
  | e :: r=>by
    have:=addO_len s n r
    simp only [addO]
    split <;> simp <;> omega
theorem onS_len:∀ (occ:List (Str × Int)) (o:List (Str × List Int)),(onS occ o).length ≤ o.length + occ.length
  | [],o=>Nat.le_refl _
  | y :: r,o=>by
    have h1:=onS_len r (addO y.1 y.2 o)
    have h2:=addO_len y.1 y.2 o
    show (onS r (addO y.1 y.2 o)).length ≤ _
    rw [List.length_cons]; omega
theorem keysS_len (l:List Pg):(Zcy l).length ≤ (occL l).length:=by
  unfold Zcy
  rw [List.length_mergeSort,List.length_map]
  have:=onS_len (occL l) []
  simp only [List.length_nil] at this
  omega
def rowsE (E:List Ent):List (PV × PV):=E.map fun e=>(.str e.key,.sl 1 (encI e.ns))
theorem mapFind_rows (s:Str):∀ E:List Ent,Zak (.str s) (rowsE E) = (Zch E s).map fun e=>.sl 1 (encI e.ns)
  | []=>rfl
  | e :: r=>by
    have ih:=mapFind_rows s r
    unfold Zch rowsE at *
    simp only [List.map_cons,Zak,List.find?_cons,keyEq_str]
    cases h:e.key == s with
    | true =>
      have:s == e.key:=by rw [beq_iff_eq] at h ⊢; exact h.symm
      rw [this]; rfl
    | false =>
      have:(s == e.key) = false:=by rw [beq_eq_false_iff_ne] at h ⊢; exact h.symm
      rw [this]; simpa using ih
theorem rows_find {l:List Pg} {E:List Ent} (h:viewE E = onS (occL l) []) {s:Str} (hs:s ∈ Zcy l):Zak (.str s) (rowsE E) = some (.sl 1 (encI (Zco l s))):=by
  rw [mapFind_rows]
  have h1:s ∈ (viewE E).map (·.1):=by
    rw [h]; unfold Zcy at hs; exact (List.mergeSort_perm _ _).mem_iff.1 hs
  unfold viewE at h1
  rw [List.map_map,List.mem_map] at h1
  obtain ⟨e0,he0,hk0⟩:=h1
  cases hf:Zch E s with
  | none =>
    exfalso
    unfold Zch at hf
    rw [List.find?_eq_none] at hf
    exact hf e0 he0 (by simpa using hk0)
  | some e =>
    have hem:e ∈ E:=List.mem_of_find?_eq_some hf
    have hek:e.key = s:=by have:=List.find?_some hf; simpa using this
    rw [Option.map_some,ent_ns h hem,hek]
    rfl
theorem pagesS_len (l:List Pg) (s:Str):(Zco l s).length ≤ (occL l).length:=by
  unfold Zco
  rw [List.length_map]; exact List.length_filter_le _ _
end Go.Proofs.YtjmekckcffckoabGreatDoor.w
namespace Go.Proofs.YtjmekckcffckoabGreatDoor.w
open Go Go.VM
set_option maxRecDepth 20000
set_option maxHeartbeats 0
set_option pp.deepTerms false
def c_concordance_Index:VC:=(.seq (.region [ZO 2 (.mv (.c .nilsl))] false) (.seq (.region [ZO 12 .mkmap,ZM 3 12] false) (.seq (.seq (.region [ZM 13 0,ZO 14 (.len false (.t 13)),ZO 15 (.mv (.c (.int .i64 0)))] false) (.block 0 (.loop (.seq (.region [ZO 16 (.bin .lss (.t 15) (.t 14))] false) (.seq (.cond (.t 16) .skip (.exit 0)) (.seq (.block 1 (.seq (.region [ZO 17 (.iaddr 4 (.t 13) (.t 15)),ZO 18 (.load true 4 (.t 17)),ZO 5 (.alloc [(.int .i64 0),(.str []),.nilsl,.nilsl]),ZN (.store 4 (.t 5) (.t 18))] false) (.seq (.region [ZO 19 (.load true 4 (.t 5)),ZO 20 (.bslice 4 1 [(.int .i64 0),(.str []),.nilsl,.nilsl] [(0,(.t 19))]),ZO 21 (.call 17 [(.t 20)]),ZO 22 (.len false (.t 21)),ZO 23 (.mv (.c (.int .i64 0)))] false) (.block 2 (.loop (.seq (.region [ZO 24 (.bin .lss (.t 23) (.t 22))] false) (.seq (.cond (.t 24) .skip (.exit 2)) (.seq (.block 3 (.seq (.region [ZO 25 (.iaddr 1 (.t 21) (.t 23)),ZO 26 (.load false 1 (.t 25)),ZM 7 26] false) (.seq (.region [ZM 27 7,ZO 28 (.call 28 [(.t 27)]),ZM 8 28] false) (.seq (.region [ZM 29 8,ZO 30 (.bin .neq (.t 29) (.c (.str [])))] false) (.cond (.t 30) (.region [ZM 31 3,ZM 32 8,ZM 33 3,ZM 34 8,ZO 35 (.lookup (.one .s) .nilsl false (.t 33) (.t 34)),ZO 36 (.faddr 0 (.t 5)),ZO 37 (.load false 1 (.t 36)),ZO 38 (.bslice 1 1 [(.int .i64 0)] [(0,(.t 37))]),ZO 39 (.app 1 8 [(.int .i64 0)] false (.t 35) (.t 38)),ZN (.mapset (.one .s) (.t 31) (.t 32) (.t 39))] false) .skip))))) (.region [ZO 40 (.bin .add (.t 23) (.c (.int .i64 1))),ZM 23 40] false))))))))) (.region [ZO 41 (.bin .add (.t 15) (.c (.int .i64 1))),ZM 15 41] false))))))) (.seq (.region [ZO 9 (.mv (.c .nilsl))] false) (.seq (.seq (.region [ZM 42 3,ZO 43 (.call 30 [(.t 42)]),ZO 44 (.call 29 [(.t 43)]),ZO 45 (.len false (.t 44)),ZO 46 (.mv (.c (.int .i64 0)))] false) (.block 4 (.loop (.seq (.region [ZO 47 (.bin .lss (.t 46) (.t 45))] false) (.seq (.cond (.t 47) .skip (.exit 4)) (.seq (.block 5 (.seq (.region [ZO 48 (.iaddr 1 (.t 44) (.t 46)),ZO 49 (.load false 1 (.t 48)),ZM 11 49] false) (.region [ZM 50 9,ZM 51 11,ZM 52 3,ZM 53 11,ZO 54 (.lookup (.one .s) .nilsl false (.t 52) (.t 53)),ZO 55 (.call 25 [(.t 54)]),ZO 56 (.build [(.str []),.nilsl] [(0,(1,(.t 51))),(1,(1,(.t 55)))]),ZO 57 (.bslice 2 1 [(.str []),.nilsl] [(0,(.t 56))]),ZO 58 (.app 2 40 [(.str []),.nilsl] false (.t 50) (.t 57)),ZM 9 58] false))) (.region [ZO 59 (.bin .add (.t 46) (.c (.int .i64 1))),ZM 46 59] false))))))) (.seq (.region [ZM 60 9,ZM 2 60] false) .ret))))))
theorem HL.del_sub:∀ {L:List (Nat × AB)} {t:Nat} {q:Nat × AB},q ∈ HL.del L t → q ∈ L
  | [],_,_,h=>by cases h
  | (k,v) :: r,t,q,h=>by
    simp only [HL.del] at h
    split at h
    · exact List.mem_cons_of_mem _ (HL.del_sub h)
    · rcases List.mem_cons.1 h with rfl | h
      · exact List.mem_cons_self
      · exact List.mem_cons_of_mem _ (HL.del_sub h)
def encK (l:List Pg) (s:Str):List PV:=encEn (s,Zcd (Zco l s))
theorem mapK_step {α β:Type} (f:α → β) {K:List α} {k:Nat} (h:k < K.length):(K.take (k + 1)).map f = (K.take k).map f ++ [f K[k]]:=by
  rw [List.take_add_one,List.getElem?_eq_getElem h,List.map_append]; rfl
theorem sortsS (m:Nat):AnyZ.SortsIn Tryz.prog Tryz.sortedS_ren Fence.wide m :=
  ⟨fun blk off cap ss W hH hblk hsz=>callsIn_wide.2 (Tryz.slices_Sort_string blk off cap ss W hH hblk hsz),
   fun p cap W=>callsIn_wide.2 (Tryz.slices_Sort_string_none p cap W)⟩
theorem Zcx (l:List Pg) (hs:SmalP l):PCall Tryz.prog 12 [.sl 4 (l.map Pg.enc)] (.sl 2 ((Zcn l).map encEn)):=by
  have hll:=hs.len
  have cP:Closed (.sl 4 (l.map Pg.enc)):=Zb8 (fun p _ x hx=>by
    simp only [Pg.enc,List.mem_cons,List.not_mem_nil,or_false] at hx
    rcases hx with rfl | rfl | rfl | rfl
    · exact cI _
    · exact cS _
    · exact Zcr _
    · exact Zcr _)
  have cR:Closed (.sl 2 ((Zcn l).map encEn)):=Zb8 (fun e _ x hx=>by
    simp only [encEn,List.mem_cons,List.not_mem_nil,or_false] at hx
    rcases hx with rfl | rfl
    · exact cS _
    · exact Zb8 fun _ _ y hy=>by rw [List.mem_singleton] at hy; subst hy; exact cI _)
  refine Zcf ?_ cR (by intro y hy; rw [List.mem_singleton] at hy; subst hy; exact cP)
  refine Zct (vc:=c_concordance_Index) (ts:=[.t 2]) Go.Proofs.Tryz.func12 (by kernel_rfl) rfl rfl (Nat.le_of_ble_eq_true rfl) (by kernel_rfl) ?_
  unfold c_concordance_Index
  try dsimp only [ZM,ZO,ZN,ZG]
  refine Za1 (Zac [0] ?_)
  simp only [Zaa,Zai,Zay,pok,pval,VA.ev,Env.get,Env.put,Env.keep,Za7,Zaz,Heap.nil,ite_true,ite_false,true_and,reduceCtorEq]
  refine Za1 (Zac [0,3] ?_)
  simp only [Zaa,Zai,Zay,pok,pval,VA.ev,Env.get,Env.put,Env.keep,Zaz,Heap.push,Nat.reduceEqDiff,ite_true,ite_false,true_and,reduceCtorEq,Nat.zero_add]
  refine Za1 ?_
  refine Za1 (Zac [3,13,14,15] ?_)
  simp only [Zaa,Zai,Zay,pok,pval,VA.ev,Env.get,Env.put,Env.keep,Zaz,lenV,Zbn,Nat.succ_ne_self,Nat.reduceEqDiff,ite_true,ite_false,true_and,reduceCtorEq,List.length_map]
  refine Zb5 ?_
  refine Zcm (σ:={ s:Nat × List Ent × Nat // s.1 ≤ l.length ∧ OkE 0 s.2.2 s.2.1 ∧ viewE s.2.1 = onS (occL (l.take s.1)) [] }) (fun s=>([(3,.mp 0),(13,.sl 4 (l.map Pg.enc)),(14,pI l.length),(15,pI s.1.1)],⟨canH 0 s.1.2.1,s.1.2.2⟩)) (fun s=>l.length - s.1.1) ⟨(0,[],1),Nat.zero_le _,⟨.nil,by simp,by simp,by simp,by simp⟩,rfl⟩ ?_ ?_ ?_
  · try simp only [Env.get,Nat.succ_ne_self,Env.le,Nat.reduceEqDiff,ite_true,ite_false,true_and,and_true]
    all_goals (repeat' (first | rfl | trivial | omega | (simp only []; omega) | refine And.intro ?_ ?_))
  · simp only [Heap.le,Nat.le_refl,true_and]
    exact ⟨rfl,trivial⟩
  rintro ⟨⟨k,E,t⟩,hk,hE,hv⟩
  simp only [] at hk hE hv ⊢
  have htm:=hE.m
  have ot:Off (tailE E) t:=tail_off fun e he=>by have:=hE.lt e he; omega
  have ot1:Off (tailE E) (t + 1):=tail_off fun e he=>by have:=hE.lt e he; omega
  have o0:Off (tailE E) 0:=tail_off hE.ne
  have g0:=o0.get
  have d0:=o0.del
  have gt:=ot.get
  have dt:=ot.del
  have gt1:=ot1.get
  have dt1:=ot1.del
  unfold canH
  have qi0:(0 = t) = False:=eq_false (by omega)
  have qi1:(0 = (t + 1)) = False:=eq_false (by omega)
  have qi2:(t = 0) = False:=eq_false (by omega)
  have qi3:(t = (t + 1)) = False:=eq_false (by omega)
  have qi4:((t + 1) = 0) = False:=eq_false (by omega)
  have qi5:((t + 1) = t) = False:=eq_false (by omega)
  refine Za1 (Zac [3,13,14,15,16] ?_)
  simp only [Zaa,Zai,Zay,pok,pval,VA.ev,Env.get,Env.put,Env.keep,Zaz,intV,binV,Zbk,Heap.get,Heap.le,HL.le,Nat.succ_ne_self,Env.le,Nat.reduceEqDiff,ite_true,ite_false,true_and,and_true,qi0,qi1,qi2,qi3,qi4,qi5]
  refine Za1 ?_
  refine Zca rfl (fun h1=>?_) (fun h1=>?_)
  · simp only [decide_eq_true_eq] at h1
    have ka:k < l.length:=by omega
    have hst:=occL_step ka
    refine Zcb ?_
    try simp only [Zaz]
    refine Za1 ?_
    refine Zb5 ?_
    refine Za1 (Zac [3,5,13,14,15] ?_)
    simp only [Zaa,Zai,Zay,pok,pval,VA.ev,Env.get,Env.put,Env.keep,Zaz,aggV,isInt,numOf,lenV,Zae,Zbl,Za6,Zao,PV.cells,PV.fits,overlay,PV.nth,PV.row,Heap.get,Heap.set,HL.get,HL.set,HL.del,Heap.push,Nat.le_refl,Nat.succ_ne_self,Zba,Zar,List.set,List.length,List.getD_cons_zero,List.take,List.drop,List.take_succ_cons,List.drop_succ_cons,List.cons_append,List.nil_append,Nat.reduceEqDiff,Nat.reduceAdd,Nat.reduceLT,Bool.true_eq_false,ite_true,ite_false,true_and,and_true,BEq.rfl,Nat.zero_add,List.length_cons,imp_self,Int.toNat_natCast,List.length_map,rowm ka,Pg.enc,qi0,qi1,qi2,qi3,qi4,qi5]
    refine ⟨by omega,?_⟩
    generalize hpg:l[k] = pg at hst
    have hpm:pg ∈ l:=hpg ▸ List.getElem_mem ka
    refine Za1 (Zac [3,5,13,14,15,21,22,23] ?_)
    simp only [Zaa,Zai,Zay,pok,pval,VA.ev,Env.get,Env.put,Env.keep,Zaz,aggV,lenV,Zae,Zbl,Zbn,PV.cells,PV.fits,PV.nth,PV.row,Heap.get,HL.get,Heap.push,Nat.le_refl,Nat.succ_ne_self,Za0,Zal,List.map,List.set,List.replicate,List.length,List.getD_cons_zero,List.take,List.drop,List.take_succ_cons,Nat.reduceEqDiff,Nat.reduceAdd,Nat.reduceLT,Bool.false_eq_true,Bool.true_eq_false,ite_true,ite_false,true_and,and_true,BEq.rfl,Nat.zero_add,List.length_cons,imp_self,dt,dt1,qi0,qi1,qi2,qi3,qi4,qi5]
    have hW:=sp_paginate_Words [pg] (hs.one hpm)
    rw [wordsL_one] at hW
    have hWl:(Zcz pg).length ≤ 100000:=by have:=(hs.one hpm).words; rw [wordsL_one] at this; exact this
    have hfull:=hE.full
    have C:Zce Tryz.prog 17 [.own (t + 1) 0 1] ⟨[(t + 1,.arr false 4 [pg.enc])] ++ ((t,.arr false 4 [pg.enc]) :: canH 0 E),t + 1 + 1⟩ (fun p h'=>p = .sl 1 (strR (Zcz pg)) ∧ h' = ⟨(t,.arr false 4 [pg.enc]) :: canH 0 E,t + 1 + 1⟩):=by
      refine Zce.frameL ?_ ?_ (ACall_f [.sl 4 ([pg].map Pg.enc)] ⟨View.own_all (fz:=false) (by simp [Heap.get,HL.get]) rfl,trivial⟩ (Zcw hW ⟨Nat.le_refl _,by simp,by simp,rfl,rfl⟩))
      · intro q hq r hr
        simp only [List.mem_singleton] at hr
        subst hr
        simp only [List.mem_cons,canH] at hq
        rcases hq with rfl | rfl | hq
        · simp
        · simp
        · exact ot1 q hq
      · intro q hq fz z
        simp only [List.mem_cons,canH] at hq
        rcases hq with rfl | rfl | hq
        · simp
        · simp
        · obtain ⟨e,he,rfl⟩:=List.mem_map.1 hq
          have:=hfull e he
          simp [encI,this]
    refine Zce.mono C ?_
    rintro p h' ⟨rfl,rfl⟩
    have hocc:occP pg = occW pg.number (Zcz pg):=rfl
    have hcount:(occL (l.take k)).length + (Zcz pg).length ≤ 200000:=by
      have:=occL_take l k
      have:=hs.words
      omega
    rw [hocc] at hst
    have hpe:pg.enc = [pI pg.number,.str pg.head,.sl 1 (strR pg.lines),.sl 1 (strR pg.notes)]:=rfl
    have hWm:∀ w ∈ Zcz pg,w.length ≤ 100000:=wordsP_len (hs.line _ hpm)
    generalize Zcz pg = W at hst hWl hWm hcount ⊢
    generalize occL (l.take k) = O at hst hv hcount
    try simp only [true_and,gt,dt,dt1,qi0,qi1,qi2,qi3,qi4,qi5]
    refine Zb5 ?_
    refine Zcm (σ:={ s:Nat × List Ent × Nat // s.1 ≤ W.length ∧ OkE 0 s.2.2 s.2.1 ∧ t < s.2.2 ∧ (∀ e ∈ s.2.1,e.id ≠ t) ∧ viewE s.2.1 = onS (O ++ occW pg.number (W.take s.1)) [] }) (fun s=>([(3,.mp 0),(5,.loc t 0 0),(13,.sl 4 (l.map Pg.enc)),(14,pI l.length),(15,pI k),(21,.sl 1 (strR W)),(22,pI W.length),(23,pI s.1.1)],⟨(t,.arr false 4 [pg.enc]) :: canH 0 s.1.2.1,s.1.2.2⟩)) (fun s=>W.length - s.1.1) ⟨(0,E,t + 1 + 1),Nat.zero_le _,hE.mono (by show t ≤ t + 1 + 1; omega),by show t < t + 1 + 1; omega,fun e he=>by have:=hE.lt e he; omega,by simpa [occW] using hv⟩ ?_ ?_ ?_
    · try simp only [Env.get,Nat.succ_ne_self,Env.le,Nat.reduceEqDiff,ite_true,ite_false,true_and,and_true,Zcg,qi0,qi1,qi2,qi3,qi4,qi5]
      all_goals (repeat' (first | rfl | trivial | omega | (simp only []; omega) | refine And.intro ?_ ?_))
    · simp only [Heap.get,Heap.le,HL.get,HL.le,Nat.le_refl,ite_true,true_and,qi0,qi1,qi2,qi3,qi4,qi5]
      exact ⟨by show HL.get _ 0 = _; simp only [canH,HL.get]; rw [if_neg (by omega)]; rfl,HL.le_tail2 (by unfold Nod tailE; rw [List.map_map]; exact hE.nod) ot o0 _⟩
    rintro ⟨⟨j,F,n⟩,hj,hF,htn,hFt,hFv⟩
    simp only [] at hj hF htn hFt hFv ⊢
    have pt:Off (tailE F) t:=tail_off hFt
    have pn:Off (tailE F) n:=tail_off fun e he=>by have:=hF.lt e he; omega
    have pn1:Off (tailE F) (n + 1):=tail_off fun e he=>by have:=hF.lt e he; omega
    have p0:Off (tailE F) 0:=tail_off hF.ne
    have g0:=p0.get
    have d0:=p0.del
    have gt:=pt.get
    have dt:=pt.del
    have gn:=pn.get
    have dn:=pn.del
    have gn1:=pn1.get
    have dn1:=pn1.del
    unfold canH
    have qi0:(0 = t) = False:=eq_false (by omega)
    have qi1:(0 = n) = False:=eq_false (by omega)
    have qi2:(0 = (n + 1)) = False:=eq_false (by omega)
    have qi3:(t = 0) = False:=eq_false (by omega)
    have qi4:(t = n) = False:=eq_false (by omega)
    have qi5:(t = (n + 1)) = False:=eq_false (by omega)
    have qi6:(n = 0) = False:=eq_false (by omega)
    have qi7:(n = t) = False:=eq_false (by omega)
    have qi8:(n = (n + 1)) = False:=eq_false (by omega)
    have qi9:((n + 1) = 0) = False:=eq_false (by omega)
    have qi10:((n + 1) = t) = False:=eq_false (by omega)
    have qi11:((n + 1) = n) = False:=eq_false (by omega)
    refine Za1 (Zac [3,5,13,14,15,21,22,23,24] ?_)
    simp only [Zaa,Zai,Zay,pok,pval,VA.ev,Env.get,Env.put,Env.keep,Zaz,intV,binV,Zbk,Heap.get,Heap.le,HL.le,Nat.succ_ne_self,Env.le,Nat.reduceEqDiff,ite_true,ite_false,true_and,and_true,ne_eq,qi0,qi1,qi2,qi3,qi4,qi5,qi6,qi7,qi8,qi9,qi10,qi11]
    refine Za1 ?_
    refine Zca rfl (fun h2=>?_) (fun h2=>?_)
    · simp only [decide_eq_true_eq] at h2
      have ja:j < W.length:=by omega
      have hstW:=occW_step pg.number ja
      have hwl:=Zcg W
      have hrow:(strR W).getD j [] = [PV.str W[j]]:=rowm ja
      refine Zcb ?_
      try simp only [Zaz]
      refine Za1 ?_
      refine Zb5 ?_
      refine Za1 (Zac [3,5,7,13,14,15,21,22,23] ?_)
      simp only [Zaa,Zai,Zay,pok,pval,VA.ev,Env.get,Env.put,Env.keep,Zaz,aggV,isInt,numOf,lenV,Zae,Zbl,Za6,Zao,PV.nth,PV.row,Nat.le_refl,Nat.succ_ne_self,List.length,List.getD_cons_zero,List.take,List.take_succ_cons,Nat.reduceEqDiff,Bool.false_eq_true,ite_true,ite_false,true_and,and_true,implies_true,Nat.zero_add,List.length_cons,Int.toNat_natCast,hwl,hrow,qi0,qi1,qi2,qi3,qi4,qi5,qi6,qi7,qi8,qi9,qi10,qi11]
      repeat (with_reducible refine And.intro ?_ ?_; first | omega | (with_reducible constructor <;> omega) | exact False.elim | exact True.intro)
      have hWj:W[j].length ≤ 100000:=hWm _ (List.getElem_mem ja)
      generalize W[j] = w at hstW hWj ⊢
      refine Za1 (Zac [3,5,8,13,14,15,21,22,23] ?_)
      simp only [Zaa,Zai,Zay,pok,pval,VA.ev,Env.get,Env.put,Env.keep,Zaz,Nat.succ_ne_self,List.map,Nat.reduceEqDiff,ite_true,ite_false,true_and,qi0,qi1,qi2,qi3,qi4,qi5,qi6,qi7,qi8,qi9,qi10,qi11]
      refine Zcw (sp_concordance_bare w (by omega)) ?_
      skip
      refine Za1 (Zac [3,5,8,13,14,15,21,22,23,30] ?_)
      simp only [Zaa,Zai,Zay,pok,pval,VA.ev,Env.get,Env.put,Env.keep,Zaz,binV,Zbk,strV,Nat.succ_ne_self,Nat.reduceEqDiff,ite_true,ite_false,true_and,qi0,qi1,qi2,qi3,qi4,qi5,qi6,qi7,qi8,qi9,qi10,qi11]
      refine Zca rfl (fun h3=>?_) (fun h3=>?_)
      · have hb:bareS w ≠ []:=by simpa using h3
        have hstB:wordB pg.number w = [(bareS w,pg.number)]:=by unfold wordB; rw [if_neg hb]
        refine Zac [3,5,13,14,15,21,22,23] ?_
        have hko:=keysOk_enc (bareS w) F
        have hmf:=mapFind_enc (bareS w) F
        generalize bareS w = s at hb hstB hko hmf ⊢
        cases hf:Zch F s with
        | none =>
          rw [hf] at hmf
          have hmp:Za5 (.str s) (.own (n + 1) 0 1) (encE F) = encE (updE (n + 1) s pg.number F):=by have:=mapPut_enc (n + 1) s pg.number F; rw [hf] at this; exact this
          simp only [Zaa,Zai,Zay,pok,pval,VA.ev,Env.get,Env.put,Env.keep,Zaz,Za2,aggV,Zbb,Za9,Zae,Zbl,PV.cells,PV.fits,PV.nth,PV.row,Zbw,Zan,Zbv,Za8,Zbo,Zbe,Zap,Heap.get,Heap.set,HL.get,HL.set,HL.del,Heap.push,Nat.le_refl,Nat.succ_ne_self,Za3,Zbt,Zam,Zbu,Zaj,Zbs,Za0,Zal,ekOk,List.set,List.replicate,List.length,List.getD_cons_zero,List.take,List.drop,List.take_succ_cons,List.nil_append,Option.map,Nat.reduceEqDiff,Nat.reduceAdd,Nat.reduceLT,Nat.reduceLeDiff,Nat.reduceMul,Bool.false_eq_true,ite_true,ite_false,true_and,and_true,implies_true,BEq.rfl,Nat.zero_add,Nat.add_zero,List.length_cons,List.length_nil,hmf,hpe,g0,d0,gt,dt,gn,dn,gn1,dn1,qi0,qi1,qi2,qi3,qi4,qi5,qi6,qi7,qi8,qi9,qi10,qi11]
          refine ⟨hko.2,hko.2,?_⟩
          refine Zac [3,5,13,14,15,21,22,23] ?_
          simp only [Zaa,Zai,Zay,pok,pval,VA.ev,Env.get,Env.put,Env.keep,Zaz,intV,binV,Zbk,HL.get,Nat.succ_ne_self,Nat.reduceEqDiff,ite_true,ite_false,true_and,Option.some.injEq,ad1 (a:=j) (by omega),hmp,g0,d0,gt,dt,gn,dn,gn1,dn1,qi0,qi1,qi2,qi3,qi4,qi5,qi6,qi7,qi8,qi9,qi10,qi11]
          refine ⟨⟨(j + 1,updE (n + 1) s pg.number F,n + 1 + 1),ja,hF.upd (n + 1) s pg.number (by omega),by show t < n + 1 + 1; omega,?_,?_⟩,?_⟩
          · intro e' he'
            rcases upd_mem _ _ _ F e' he' with ⟨h5,_⟩ | ⟨h5,_⟩
            · exact hFt e' h5
            · omega
          · show viewE (updE _ _ _ _) = _
            rw [view_upd,hFv,hstW,hstB,← List.append_assoc,onS_app _ [(s,pg.number)]]
            rfl
          · try simp only [Nat.le_refl,true_and,hpe,g0,d0,gt,dt,gn,dn,gn1,dn1,qi0,qi1,qi2,qi3,qi4,qi5,qi6,qi7,qi8,qi9,qi10,qi11]
            all_goals (repeat' (first | rfl | trivial | omega | (simp only []; omega) | refine And.intro ?_ ?_))
            refine (canH_le hF s pg.number (Nat.le_succ n) _ ?_ ?_ ?_).2
            · simp only [Heap.get,HL.get,if_neg (show ¬ n + 1 = 0 by omega),if_neg (show ¬ n = 0 by omega),if_neg (show ¬ t = 0 by omega),if_true]
            · rw [hf]; simp only [Heap.get,HL.get,if_true]; rfl
            · intro e' he' _
              have h5:=hF.lt e' he'
              have h6:=hF.ne e' he'
              have h7:=hFt e' he'
              simp only [Heap.get,HL.get,if_neg (show ¬ n + 1 = e'.id by omega),if_neg (show ¬ n = e'.id by omega),if_neg (show ¬ t = e'.id by omega),if_neg (show ¬ 0 = e'.id by omega)]
              exact tail_get hF.nod he'
        | some e =>
          rw [hf] at hmf
          have hem:e ∈ F:=List.mem_of_find?_eq_some hf
          have hek:e.key = s:=by have:=List.find?_some hf; simpa using this
          have he0:=hF.ne e hem
          have het:=hFt e hem
          have hen:=hF.lt e hem
          have heg:=tail_get hF.nod hem
          have hel:=ent_len hFv hem
          have hmp:Za5 (.str s) (.own (n + 1) 0 (e.ns.length + 1)) (encE F) = encE (updE (n + 1) s pg.number F):=by have:=mapPut_enc (n + 1) s pg.number F; rw [hf] at this; exact this
          have hol:(O ++ occW pg.number (W.take j)).length ≤ 1000000:=by have:=occW_len pg.number (W.take j); rw [List.length_append]; simp at this ⊢; omega
          simp only [Option.map_some] at hmf
          generalize hid:e.id = id at he0 het hen heg hmf
          have hgd:∀ x,x ≠ id → HL.get (HL.del (tailE F) id) x = HL.get (tailE F) x:=fun x hx=>by rw [HL.get_del,if_neg (Ne.symm hx)]
          have hgd0:=hgd 0 (Ne.symm he0)
          have hgdt:=hgd t (Ne.symm het)
          have hgdn:=hgd n (by omega)
          have hgdn1:=hgd (n + 1) (by omega)
          have edd:HL.del (HL.del (tailE F) id) 0 = HL.del (tailE F) id:=(show Off (HL.del (tailE F) id) 0 from fun q hq=>p0 q (HL.del_sub hq)).del
          have qi0:(0 = t) = False:=eq_false (by omega)
          have qi1:(0 = n) = False:=eq_false (by omega)
          have qi2:(0 = (n + 1)) = False:=eq_false (by omega)
          have qi3:(0 = id) = False:=eq_false (by omega)
          have qi4:(t = 0) = False:=eq_false (by omega)
          have qi5:(t = n) = False:=eq_false (by omega)
          have qi6:(t = (n + 1)) = False:=eq_false (by omega)
          have qi7:(t = id) = False:=eq_false (by omega)
          have qi8:(n = 0) = False:=eq_false (by omega)
          have qi9:(n = t) = False:=eq_false (by omega)
          have qi10:(n = (n + 1)) = False:=eq_false (by omega)
          have qi11:(n = id) = False:=eq_false (by omega)
          have qi12:((n + 1) = 0) = False:=eq_false (by omega)
          have qi13:((n + 1) = t) = False:=eq_false (by omega)
          have qi14:((n + 1) = n) = False:=eq_false (by omega)
          have qi15:((n + 1) = id) = False:=eq_false (by omega)
          have qi16:(id = 0) = False:=eq_false (by omega)
          have qi17:(id = t) = False:=eq_false (by omega)
          have qi18:(id = n) = False:=eq_false (by omega)
          have qi19:(id = (n + 1)) = False:=eq_false (by omega)
          simp only [Zaa,Zai,Zay,pok,pval,VA.ev,Env.get,Env.put,Env.keep,Zaz,Za2,aggV,Zbb,Za9,Zae,Zbl,PV.cells,PV.fits,PV.nth,PV.row,Zbw,Zan,Zbv,Za8,Zbo,Zbe,Zap,Heap.get,Heap.set,Heap.del,HL.get,HL.set,HL.del,Heap.push,Nat.le_refl,Nat.succ_ne_self,Za3,Zbt,Zam,Zbu,Zaj,Zbs,Za0,Zal,ekOk,List.set,List.replicate,List.length,List.getD_cons_zero,List.take,List.drop,List.take_succ_cons,Nat.reduceEqDiff,Nat.reduceAdd,Nat.reduceLT,Nat.reduceLeDiff,Bool.false_eq_true,ite_true,ite_false,true_and,and_true,implies_true,BEq.rfl,Nat.zero_add,Nat.add_zero,List.length_cons,hmf,hpe,g0,d0,gt,dt,gn,dn,gn1,dn1,heg,hgd0,hgdt,hgdn,hgdn1,encI_len,encI_take,encI_app,edd,qi0,qi1,qi2,qi3,qi4,qi5,qi6,qi7,qi8,qi9,qi10,qi11,qi12,qi13,qi14,qi15,qi16,qi17,qi18,qi19]
          refine ⟨hko.2,by omega,by omega,hko.2,?_⟩
          refine Zac [3,5,13,14,15,21,22,23] ?_
          simp only [Zaa,Zai,Zay,pok,pval,VA.ev,Env.get,Env.put,Env.keep,Zaz,intV,binV,Zbk,HL.get,Nat.succ_ne_self,Nat.reduceEqDiff,ite_true,ite_false,true_and,Option.some.injEq,ad1 (a:=j) (by omega),hmp,hpe,g0,d0,gt,dt,gn,dn,gn1,dn1,hgd0,hgdt,hgdn,hgdn1,edd,qi0,qi1,qi2,qi3,qi4,qi5,qi6,qi7,qi8,qi9,qi10,qi11,qi12,qi13,qi14,qi15,qi16,qi17,qi18,qi19]
          refine ⟨⟨(j + 1,updE (n + 1) s pg.number F,n + 1 + 1),ja,hF.upd (n + 1) s pg.number (by omega),by show t < n + 1 + 1; omega,?_,?_⟩,?_⟩
          · intro e' he'
            rcases upd_mem _ _ _ F e' he' with ⟨h5,_⟩ | ⟨h5,_⟩
            · exact hFt e' h5
            · omega
          · show viewE (updE _ _ _ _) = _
            rw [view_upd,hFv,hstW,hstB,← List.append_assoc,onS_app _ [(s,pg.number)]]
            rfl
          · try simp only [Nat.le_refl,true_and,hpe,g0,d0,gt,dt,gn,dn,gn1,dn1,qi0,qi1,qi2,qi3,qi4,qi5,qi6,qi7,qi8,qi9,qi10,qi11,qi12,qi13,qi14,qi15,qi16,qi17,qi18,qi19]
            all_goals (repeat' (first | rfl | trivial | omega | (simp only []; omega) | refine And.intro ?_ ?_))
            refine (canH_le hF s pg.number (Nat.le_succ n) _ ?_ ?_ ?_).2
            · simp only [Heap.get,HL.get,if_neg (show ¬ n + 1 = 0 by omega),if_neg (show ¬ n = 0 by omega),if_neg (show ¬ t = 0 by omega),if_true]
            · rw [hf]; simp only [Heap.get,HL.get,if_true]; rfl
            · intro e' he' h8
              have h5:=hF.lt e' he'
              have h6:=hF.ne e' he'
              have h7:=hFt e' he'
              have h9:e'.id ≠ id:=hid ▸ h8 e hf
              simp only [Heap.get,HL.get,if_neg (show ¬ n + 1 = e'.id by omega),if_neg (show ¬ n = e'.id by omega),if_neg (show ¬ t = e'.id by omega),if_neg (show ¬ 0 = e'.id by omega)]
              rw [hgd _ h9]
              exact tail_get hF.nod he'
      · have qi0:(0 = t) = False:=eq_false (by omega)
        have qi1:(0 = n) = False:=eq_false (by omega)
        have qi2:(0 = (n + 1)) = False:=eq_false (by omega)
        have qi3:(t = 0) = False:=eq_false (by omega)
        have qi4:(t = n) = False:=eq_false (by omega)
        have qi5:(t = (n + 1)) = False:=eq_false (by omega)
        have qi6:(n = 0) = False:=eq_false (by omega)
        have qi7:(n = t) = False:=eq_false (by omega)
        have qi8:(n = (n + 1)) = False:=eq_false (by omega)
        have qi9:((n + 1) = 0) = False:=eq_false (by omega)
        have qi10:((n + 1) = t) = False:=eq_false (by omega)
        have qi11:((n + 1) = n) = False:=eq_false (by omega)
        have hb:bareS w = []:=by simpa using h3
        have hstB:wordB pg.number w = []:=by unfold wordB; rw [if_pos hb]
        refine Zcb ?_
        try simp only [Zaz,Za2]
        refine Zac [3,5,13,14,15,21,22,23] ?_
        simp only [Zaa,Zai,Zay,pok,pval,VA.ev,Env.get,Env.put,Env.keep,Zaz,intV,binV,Zbk,HL.get,Nat.succ_ne_self,Nat.reduceEqDiff,ite_true,ite_false,true_and,Option.some.injEq,ad1 (a:=j) (by omega),qi0,qi1,qi2,qi3,qi4,qi5,qi6,qi7,qi8,qi9,qi10,qi11]
        refine ⟨⟨(j + 1,F,n),ja,hF,htn,hFt,?_⟩,?_⟩
        · show viewE F = _
          rw [hstW,hstB,List.append_nil]; exact hFv
        · try simp only [Nat.le_refl,true_and,hpe,qi0,qi1,qi2,qi3,qi4,qi5,qi6,qi7,qi8,qi9,qi10,qi11]
          all_goals (repeat' (first | rfl | trivial | omega | (simp only []; omega) | refine And.intro ?_ ?_))
          exact HL.le_tail2 (by unfold Nod tailE; rw [List.map_map]; exact hF.nod) pt p0 _
    simp only [decide_eq_false_iff_not] at h2
    obtain rfl:j = W.length:=by omega
    rw [List.take_length] at hFv
    refine Zck ?_
    try simp only [Zaz,Za2,retQ,Nat.succ_ne_self,ite_true,ite_false,reduceCtorEq]
    refine Zac [3,13,14,15] ?_
    simp only [Zaa,Zai,Zay,pok,pval,VA.ev,Env.get,Env.put,Env.keep,Zaz,intV,binV,Zbk,HL.get,Nat.succ_ne_self,Nat.reduceEqDiff,ite_true,ite_false,true_and,Option.some.injEq,ad1 (a:=k) (by omega),qi0,qi1,qi2,qi3,qi4,qi5,qi6,qi7,qi8,qi9,qi10,qi11]
    refine ⟨⟨(k + 1,F,n),ka,hF,?_⟩,?_⟩
    · show viewE F = _
      rw [hst]; exact hFv
    · try simp only [Nat.le_refl,true_and,qi0,qi1,qi2,qi3,qi4,qi5,qi6,qi7,qi8,qi9,qi10,qi11]
      all_goals (repeat' (first | rfl | trivial | omega | (simp only []; omega) | refine And.intro ?_ ?_))
      exact HL.le_tail2 (by unfold Nod tailE; rw [List.map_map]; exact hF.nod) pt p0 _
  simp only [decide_eq_false_iff_not] at h1
  obtain rfl:k = l.length:=by omega
  rw [List.take_length] at hv
  refine Zck ?_
  try simp only [Zaz,Za2,retQ,ite_true]
  have qi0:(0 = t) = False:=eq_false (by omega)
  have qi1:(0 = (t + 1)) = False:=eq_false (by omega)
  have qi2:(t = 0) = False:=eq_false (by omega)
  have qi3:(t = (t + 1)) = False:=eq_false (by omega)
  have qi4:((t + 1) = 0) = False:=eq_false (by omega)
  have qi5:((t + 1) = t) = False:=eq_false (by omega)
  refine Za1 (Zac [3,9] ?_)
  simp only [Zaa,Zai,Zay,pok,pval,VA.ev,Env.get,Env.put,Env.keep,Zaz,Nat.reduceEqDiff,ite_true,ite_false,true_and,qi0,qi1,qi2,qi3,qi4,qi5]
  refine Za1 ?_
  refine Za1 (Zac [3,9,44,45,46] ?_)
  simp only [Zaa,Zai,Zay,pok,pval,VA.ev,Env.get,Env.put,Env.keep,Zaz,lenV,Zbn,Nat.succ_ne_self,List.map,Nat.reduceEqDiff,Bool.false_eq_true,ite_true,ite_false,true_and,qi0,qi1,qi2,qi3,qi4,qi5]
  refine Zce.mono (ACall_keysS (P:=Tryz.prog) Tryz.Zcy (by kernel_rfl) 0 _) ?_
  rintro p h' ⟨rfl,rfl⟩
  skip
  have hword:=hs.words
  have hol:=occL_len l
  have hkl:=keysS_len l
  have hkeys:E.map Ent.key = (onS (occL l) []).map (·.1):=by rw [← hv]; unfold viewE; rw [List.map_map]; rfl
  have hEl:E.length ≤ 100000:=by
    have h1:E.length = (onS (occL l) []).length:=by rw [← hv]; unfold viewE; rw [List.length_map]
    have h2:=onS_len (occL l) []
    simp only [List.length_nil] at h2
    omega
  have hsrt:=ACall_sortedKeysS (P:=Tryz.prog) Tryz.Zcy Tryz.sortedS (by kernel_rfl) (sortsS 4) (enters_of Tryz.func59 (by kernel_rfl) rfl) (enters_of Tryz.func60 (by kernel_rfl) rfl)
    0 ⟨canH 0 E,t⟩ (E.map fun e=>(e.key,.own e.id 0 e.ns.length)) (by simp [Heap.get,HL.get,canH,encE]) (fun p hp=>by
      obtain ⟨e,he,rfl⟩:=List.mem_map.1 hp
      have h1:e.key ∈ (onS (occL l) []).map (·.1):=by rw [← hkeys]; exact List.mem_map.2 ⟨e,he,rfl⟩
      obtain ⟨y,hy,e1⟩:=((on_all (occL l)).keys e.key).1 h1
      have h2:=hs.key y hy
      have:maxLen = 9223372036854775807:=rfl
      show e.key.length ≤ _
      rw [← e1]; omega) (by rw [List.length_map]; omega)
  have hkk:((E.map fun e=>((e.key,.own e.id 0 e.ns.length):Str × PV)).map (·.1)).mergeSort leB = Zcy l:=by
    unfold Zcy
    rw [← hkeys,List.map_map]; rfl
  rw [hkk] at hsrt
  refine Zce.mono hsrt ?_
  rintro p h' ⟨rfl,rfl⟩
  have hfind:∀ s ∈ Zcy l,Zak (.str s) (rowsE E) = some (.sl 1 (encI (Zco l s))):=fun s hs=>rows_find hv hs
  have hpl:∀ s,(Zco l s).length ≤ 100000:=fun s=>by have:=pagesS_len l s; omega
  have hkrow:∀ s,Za8 (.one .s) (.str s) (rowsE E):=fun s=>⟨trivial,fun p hp=>by
    simp only [rowsE,List.mem_map] at hp
    obtain ⟨x,_,rfl⟩:=hp
    trivial⟩
  try simp only [true_and]
  refine VW_freeze [(3,.rmp (rowsE E)),(9,.nilsl),(44,.sl 1 ((Zcy l).map fun x=>[.str x])),(45,pI (Zcy l).length),(46,pI 0)] ⟨?_,View.refl _ _,View.refl _ _,?_,View.refl _ _,trivial⟩ ?_
  · show View _ (.mp 0) _
    refine View.map (es:=encE E) (by simp [Heap.get,HL.get,canH]) (by simp [encE,rowsE]) (fun i a b ha hb=>?_)
    unfold encE at ha
    unfold rowsE at hb
    rw [List.getElem?_map,Option.map_eq_some_iff] at ha hb
    obtain ⟨e,he,rfl⟩:=ha
    obtain ⟨e2,he2,rfl⟩:=hb
    rw [he] at he2
    cases he2
    have hem:e ∈ E:=List.mem_of_getElem? he
    refine ⟨View.refl _ _,View.own_all (fz:=false) ?_ (by rw [encI_len])⟩
    simp only [Heap.get,canH,HL.get,if_neg (show ¬ 0 = e.id from fun h=>hE.ne e hem h.symm)]
    exact tail_get hE.nod hem
  · show View _ (.int .i64 _) _
    rw [List.length_map]; exact View.refl _ _
  refine VW_own0 9 2 rfl ?_
  try simp only [Env.put,Heap.push]
  have hidx:(Zcn l).map encEn = (Zcy l).map (encK l):=by unfold Zcn; rw [List.map_map]; rfl
  rw [hidx]
  generalize Zcy l = K at hfind hkl ⊢
  refine Zb5 ?_
  refine Zcm (σ:={ s:Nat × Nat × Nat // s.1 ≤ K.length ∧ s.2.1 < s.2.2 }) (fun s=>([(3,.rmp (rowsE E)),(9,.own s.1.2.1 0 s.1.1),(44,.sl 1 (strR K)),(45,pI K.length),(46,pI s.1.1)],⟨[(s.1.2.1,.arr false 2 ((K.take s.1.1).map (encK l)))],s.1.2.2⟩)) (fun s=>K.length - s.1.1) ⟨(0,t,t + 1),Nat.zero_le _,by show t < t + 1; omega⟩ ?_ ?_ ?_
  · try simp only [Env.get,Nat.succ_ne_self,Env.le,Nat.reduceEqDiff,ite_true,ite_false,true_and,and_true,strR,qi0,qi1,qi2,qi3,qi4,qi5]
    all_goals (repeat' (first | rfl | trivial | omega | (simp only []; omega) | refine And.intro ?_ ?_))
  · simp only [Heap.get,Heap.le,HL.get,HL.le,Nat.le_refl,List.map,List.take,ite_true,and_true,qi0,qi1,qi2,qi3,qi4,qi5]
  rintro ⟨⟨k,id,n⟩,hk,hid⟩
  simp only [] at hk hid ⊢
  have qi0:(id = n) = False:=eq_false (by omega)
  have qi1:(id = (n + 1)) = False:=eq_false (by omega)
  have qi2:(n = id) = False:=eq_false (by omega)
  have qi3:(n = (n + 1)) = False:=eq_false (by omega)
  have qi4:((n + 1) = id) = False:=eq_false (by omega)
  have qi5:((n + 1) = n) = False:=eq_false (by omega)
  refine Za1 (Zac [3,9,44,45,46,47] ?_)
  simp only [Zaa,Zai,Zay,pok,pval,VA.ev,Env.get,Env.put,Env.keep,Zaz,intV,binV,Zbk,Heap.get,Heap.le,HL.le,Nat.succ_ne_self,Env.le,Nat.reduceEqDiff,ite_true,ite_false,true_and,and_true,qi0,qi1,qi2,qi3,qi4,qi5]
  refine Za1 ?_
  refine Zca rfl (fun h4=>?_) (fun h4=>?_)
  · simp only [decide_eq_true_eq] at h4
    have ka:k < K.length:=by omega
    have hwl:=Zcg K
    have hrow:(strR K).getD k [] = [PV.str K[k]]:=rowm ka
    have hfk:=hfind _ (List.getElem_mem ka)
    have hst:=mapK_step (encK l) ka
    refine Zcb ?_
    try simp only [Zaz]
    refine Za1 ?_
    refine Zb5 ?_
    refine Za1 (Zac [3,9,11,44,45,46] ?_)
    simp only [Zaa,Zai,Zay,pok,pval,VA.ev,Env.get,Env.put,Env.keep,Zaz,aggV,isInt,numOf,lenV,Zae,Zbl,Za6,Zao,PV.nth,PV.row,Nat.le_refl,Nat.succ_ne_self,List.length,List.getD_cons_zero,List.take,List.take_succ_cons,Nat.reduceEqDiff,Bool.false_eq_true,ite_true,ite_false,true_and,and_true,implies_true,Nat.zero_add,List.length_cons,Int.toNat_natCast,hwl,hrow,qi0,qi1,qi2,qi3,qi4,qi5]
    repeat (with_reducible refine And.intro ?_ ?_; first | omega | (with_reducible constructor <;> omega) | exact False.elim | exact True.intro)
    have hkr:=hkrow K[k]
    generalize K[k] = s at hfk hkr hst ⊢
    have htk:(K.take k).length = k:=by rw [List.length_take]; omega
    have hml:((K.take k).map (encK l)).length = k:=by rw [List.length_map,htk]
    have hmt:List.take k ((K.take k).map (encK l)) = (K.take k).map (encK l):=List.take_of_length_le (by omega)
    have hOnce:=sp_concordance_once (Zco l s) (by have:=hpl s; omega)
    have hen:(K.take k).map (encK l) ++ [[.str s,.sl 1 ((Zcd (Zco l s)).map fun x=>[pI x])]] = (K.take (k + 1)).map (encK l):=hst.symm
    generalize (K.take k).map (encK l) = M at hml hmt hen ⊢
    refine Zac [3,9,44,45,46] ?_
    simp only [Zaa,Zai,Zay,pok,pval,VA.ev,Env.get,Env.put,Env.keep,Zaz,Za2,Zbr,Zbc,PV.cells,PV.fits,overlay,Zbw,Zan,Zbv,Za8,Zbo,Heap.get,Heap.del,HL.get,HL.del,Heap.push,Nat.le_refl,Nat.succ_ne_self,Za3,Zbt,Zam,Zbu,Zaj,Zbs,Za0,Zal,ekOk,List.map,List.set,List.replicate,List.length,List.take,List.drop,List.take_succ_cons,List.drop_succ_cons,List.cons_append,List.nil_append,Nat.reduceEqDiff,Nat.reduceAdd,Nat.reduceLT,Nat.reduceLeDiff,Bool.false_eq_true,ite_true,ite_false,true_and,and_true,BEq.rfl,Nat.zero_add,List.length_cons,hfk,qi0,qi1,qi2,qi3,qi4,qi5]
    refine ⟨hkr.2,?_⟩
    refine Zcw hOnce ?_
    try simp only [HL.get,HL.del,Nat.le_refl,List.length,List.drop,List.drop_succ_cons,List.cons_append,List.nil_append,Nat.reduceAdd,ite_true,ite_false,true_and,and_true,BEq.rfl,Nat.zero_add,List.length_cons,hml,hmt,hen,qi0,qi1,qi2,qi3,qi4,qi5]
    refine ⟨by omega,by omega,?_⟩
    refine Zac [3,9,44,45,46] ?_
    simp only [Zaa,Zai,Zay,pok,pval,VA.ev,Env.get,Env.put,Env.keep,Zaz,intV,binV,Zbk,HL.get,Nat.succ_ne_self,Nat.reduceEqDiff,ite_true,ite_false,true_and,ad1 (a:=k) (by omega),hen,qi0,qi1,qi2,qi3,qi4,qi5]
    refine ⟨⟨(k + 1,n + 1,n + 1 + 1),ka,by show n + 1 < n + 1 + 1; omega⟩,?_⟩
    try simp only [Nat.le_refl,ite_true,ite_false,true_and,and_true,hen,qi0,qi1,qi2,qi3,qi4,qi5]
    all_goals (repeat' (first | rfl | trivial | omega | (simp only []; omega) | refine And.intro ?_ ?_))
  simp only [decide_eq_false_iff_not] at h4
  obtain rfl:k = K.length:=by omega
  rw [List.take_length]
  refine Zck ?_
  try simp only [Zaz,Za2,retQ,ite_true]
  refine Za1 (Zac [2] ?_)
  simp only [Zaa,Zai,Zay,pok,pval,VA.ev,Env.get,Env.put,Env.keep,Zaz,Nat.succ_ne_self,Nat.reduceEqDiff,ite_true,ite_false,true_and]
  refine VW_ret ?_
  try simp only [Env.get,retQ,resV,Zbq,RS.ev,RS.ok,ite_true,true_and,and_true]
  exact View.own_all (fz:=false) (by simp [Heap.get,HL.get]) (by rw [List.length_map])
end Go.Proofs.YtjmekckcffckoabGreatDoor.w
