import Derived.Test.YtehokmhebnkfdaaGreatCTu
import Derived.Test.YtehokmhebnkfdaaGreatCR5
import Derived.Test.YtehokmhebnkfdaaGreatVmS
set_option linter.all false
namespace Go.Proofs.YtehokmhebnkfdaaGreat.c
open Go Go.VM
theorem find_snoc (p:EI → Bool) (l:List EI) (x:EI):(l ++ [x]).find? p = (l.find? p).or (if p x then some x else none):=by
  rw [List.find?_append]
  simp only [List.find?_cons,List.find?_nil]
  cases p x <;> rfl
theorem force_snoc_same (a:Sta) (d:EI) (l:List EI) (x:EI) (hi:Zds (ruleS a d.it.start) (l ++ [x]) = Zds (ruleS a d.it.start) l) (hr:Zb0 x.it d.act d.item = false):Zc7 a d (l ++ [x]) = Zc7 a d l:=by
  unfold Zc7
  rw [hi,List.foldl_append,List.foldl_cons,List.foldl_nil]
  have:∀ s,Zd1 d.act d.item s x = s:=fun s=>by
    unfold Zd1
    rw [hr]; rfl
  rw [this]
theorem sp_ext {l m:List Sp} (h1:Canon l) (h2:Canon m) (h:∀ d,memS l d ↔ memS m d):l = m:=Zcd.unique h1 h2 h
def aboutS (d:EI) (k item day:Int) (x:EI):Prop:=x.it.kind = k ∧ x.it.act = d.act ∧ x.it.item = item ∧ x.it.day = day ∧ (item = d.item ∨ item = -1)
theorem about_refers {d x:EI} {k item day:Int} (h:aboutS d k item day x) (hk:k = 7 ∨ k = 8 ∨ k = 9):Zb0 x.it d.act d.item = true:=by
  obtain ⟨h1,h2,h3,h4,h5⟩:=h
  unfold Zb0
  rw [h1,h2,h3]
  rcases hk with rfl | rfl | rfl <;> rcases h5 with rfl | rfl <;> simp
theorem about_turn7 {d x:EI} {item day:Int} (h:aboutS d 7 item day x) (s:List Sp):Zd1 d.act d.item s x = Zce s day:=by
  unfold Zd1
  rw [if_pos (about_refers h (.inl rfl)),if_pos (.inl h.1),h.2.2.2.1]
theorem about_turn9 {d x:EI} {item day:Int} (h:aboutS d 9 item day x) (s:List Sp):Zd1 d.act d.item s x = Zce s day:=by
  unfold Zd1
  rw [if_pos (about_refers h (.inr (.inr rfl))),if_pos (.inr h.1),h.2.2.2.1]
theorem about_turn8 {d x:EI} {item day:Int} (h:aboutS d 8 item day x) (s:List Sp):Zd1 d.act d.item s x = truncS s day:=by
  unfold Zd1
  rw [if_pos (about_refers h (.inr (.inl rfl))),if_neg (by rw [h.1]; decide),if_pos h.1,h.2.2.2.1]
theorem event_app (name:Str) (l m:List EI) (h:∀ x ∈ m,x.it.kind ≠ 10):eventS name (l ++ m) = eventS name l:=by
  have e:m.find? (toldB name) = none:=List.find?_eq_none.2 fun x hx=>by unfold toldB; simp [h x hx]
  unfold eventS
  rw [List.find?_append,e,Option.or_none]
theorem force_app (a:Sta) (d:EI) (l m:List EI) (h:∀ x ∈ m,x.it.kind ≠ 10) (hd:¬ (d.it.kind < 0 ∨ d.it.kind > 6)):Zc7 a d (l ++ m) = m.foldl (Zd1 d.act d.item) (Zc7 a d l):=by
  have hi:Zds (ruleS a d.it.start) (l ++ m) = Zds (ruleS a d.it.start) l:=by unfold Zds; rw [event_app _ _ _ h]
  unfold Zc7
  rw [if_neg hd,if_neg hd,hi,List.foldl_append]
theorem last_order (a : Sta) (d x : EI) (l : List EI) (item day other k : Int) (hd : ¬ (d.it.kind < 0 ∨ d.it.kind > 6)) (hx : aboutS d k item day x) (hk : k = 7 ∨ k = 8 ∨ k = 9) :
    (other < day → (memS (Zc7 a d (l ++ [x])) other ↔ memS (Zc7 a d l) other)) ∧
    (¬ other < day → (memS (Zc7 a d (l ++ [x])) other ↔ k ≠ 8 ∧ 0 ≤ other ∧ other ≤ 1048576)):=by
  rw [force_app a d l [x] (fun y hy=>by simp at hy; subst hy; rw [hx.1]; omega) hd,List.foldl_cons,List.foldl_nil]
  have hc:=(force_canon a d l).1
  generalize Zc7 a d l = s at hc
  rcases hk with rfl | rfl | rfl
  · rw [about_turn7 hx,(Zd0 _ _).2]
    refine ⟨fun h=>⟨fun hh=>?_,fun hh=>⟨hc.valid hh,.inl hh⟩⟩,fun h=>⟨fun hh=>⟨by decide,hh.1.1,?_⟩,fun hh=>⟨⟨hh.2.1,?_⟩,.inr (by omega)⟩⟩⟩
    · rcases hh.2 with h1 | h1
      · exact h1
      · omega
    · have:=hh.1.2; simp only [Zbv] at this; omega
    · simp only [Zbv]; omega
  · rw [about_turn8 hx,(trunc_spec _ _).2]
    refine ⟨fun h=>⟨fun hh=>hh.2.1,fun hh=>⟨hc.valid hh,hh,h⟩⟩,fun h=>⟨fun hh=>absurd hh.2.2 h,fun hh=>absurd rfl hh.1⟩⟩
  · rw [about_turn9 hx,(Zd0 _ _).2]
    refine ⟨fun h=>⟨fun hh=>?_,fun hh=>⟨hc.valid hh,.inl hh⟩⟩,fun h=>⟨fun hh=>⟨by decide,hh.1.1,?_⟩,fun hh=>⟨⟨hh.2.1,?_⟩,.inr (by omega)⟩⟩⟩
    · rcases hh.2 with h1 | h1
      · exact h1
      · omega
    · have:=hh.1.2; simp only [Zbv] at this; omega
    · simp only [Zbv]; omega
end Go.Proofs.YtehokmhebnkfdaaGreat.c
namespace Go.Proofs.YtehokmhebnkfdaaGreat.c
open Go Go.VM
set_option maxRecDepth 20000
set_option maxHeartbeats 0
set_option pp.deepTerms false
end Go.Proofs.YtehokmhebnkfdaaGreat.c
namespace Go.Proofs.YtehokmhebnkfdaaGreat.c
open Go Go.VM
theorem ei_len28 (x:EI):x.enc.length = 28:=by simp [EI.enc,It.Zby]
theorem ei_d3 (x:EI):List.drop 3 x.enc = x.it.enc:=rfl
theorem ei_d20 (x:EI):List.drop 20 x.enc = List.drop 17 x.it.enc:=rfl
theorem ei_t0 (x:EI):List.take 1 x.enc = [pI x.act]:=rfl
theorem ei_t1 (x:EI):List.take 1 (List.drop 1 x.enc) = [pI x.item]:=rfl
theorem ei_l1 (x:EI):(List.drop 1 x.enc).length = 27:=by simp [ei_len28]
theorem it_t0 (x:It):List.take 1 x.enc = [pI x.kind]:=by rw [It.Zcl]; rfl
theorem it_start (x:It):List.take 3 (List.drop 17 x.enc) = x.start.enc:=by rw [It.Zcl]; rfl
theorem it_l17 (x:It):(List.drop 17 x.enc).length = 8:=by simp [It.Zby]
theorem filter_step (p:EI → Bool) {l:List EI} {k:Nat} (ka:k < l.length):(l.take (k + 1)).filter p = (l.take k).filter p ++ if p l[k] then [l[k]] else []:=by
  rw [List.take_add_one,List.getElem?_eq_getElem ka,List.filter_append]
  simp [List.filter_cons]
end Go.Proofs.YtehokmhebnkfdaaGreat.c
namespace Go.Proofs.YtehokmhebnkfdaaGreat.c
open Go Go.VM
set_option maxRecDepth 20000
set_option maxHeartbeats 0
set_option pp.deepTerms false
def c_pandectref27_Event:VC:=(.seq (.region [ZO 4 (.mv (.c (.int .i64 0))),ZO 5 (.mv (.c (.bool false)))] false) (.seq (.seq (.region [ZO 6 (.mv (.c (.int .i64 0)))] false) (.block 0 (.loop (.seq (.seq (.region [ZM 7 6,ZM 8 1,ZO 9 (.len false (.t 8)),ZO 10 (.bin .lss (.t 7) (.t 9))] false) (.cond (.t 10) .skip (.exit 0))) (.seq (.block 1 (.seq (.region [ZM 13 1,ZM 14 6,ZO 15 (.iaddr 28 (.t 13) (.t 14)),ZO 16 (.faddr 3 (.t 15)),ZO 17 (.faddr 0 (.t 16)),ZO 18 (.load false 1 (.t 17)),ZO 19 (.bin .eql (.t 18) (.c (.int .i64 10))),ZM 20 19,ZG 21 (.mv (.t 1)) 20 true,ZG 22 (.mv (.t 6)) 20 true,ZG 23 (.iaddr 28 (.t 21) (.t 22)) 20 true,ZG 24 (.faddr 3 (.t 23)) 20 true,ZG 25 (.faddr 23 (.t 24)) 20 true,ZG 26 (.load false 1 (.t 25)) 20 true,ZG 27 (.mv (.t 0)) 20 true,ZG 28 (.bin .eql (.t 26) (.t 27)) 20 true,ZO 29 (.pick (.t 20) (.t 28) (.c (.bool false)))] false) (.cond (.t 29) (.seq (.region [ZM 30 1,ZM 31 6,ZO 32 (.iaddr 28 (.t 30) (.t 31)),ZO 33 (.faddr 3 (.t 32)),ZO 34 (.faddr 22 (.t 33)),ZO 35 (.load false 1 (.t 34)),ZM 4 35,ZO 5 (.mv (.c (.bool true)))] false) .ret) .skip))) (.region [ZM 11 6,ZO 12 (.bin .add (.t 11) (.c (.int .i64 1))),ZM 6 12] false)))))) (.seq (.region [ZO 4 (.mv (.c (.int .i64 0))),ZO 5 (.mv (.c (.bool false)))] false) .ret)))
def c_pandectref27_Rule:VC:=(.seq (.region [ZO 2 (.box 3 (.t 0)),ZO 3 (.box 3 (.t 1)),ZO 4 (.alloc [(.int .i64 0),(.int .i64 0),(.str [])])] false) (.seq (.seq (.region [ZO 5 (.faddr 0 (.t 3)),ZO 6 (.load false 1 (.t 5)),ZO 7 (.bin .eql (.t 6) (.c (.int .i64 0)))] false) (.cond (.t 7) (.seq (.region [ZO 8 (.load true 3 (.t 2)),ZN (.store 3 (.t 4) (.t 8))] false) .ret) .skip)) (.seq (.region [ZO 9 (.load true 3 (.t 3)),ZN (.store 3 (.t 4) (.t 9))] false) .ret)))
def c_pandectref27_from:VC:=(.seq (.region [ZO 2 (.mv (.c .nilsl))] false) (.seq (.region [ZM 3 0,ZO 4 (.build [(.int .i64 0),(.int .i64 0)] [(0,(1,(.t 3))),(1,(1,(.c (.int .i64 1048577))))]),ZO 5 (.bslice 2 1 [(.int .i64 0),(.int .i64 0)] [(0,(.t 4))]),ZO 6 (.call 150 [(.t 5)]),ZM 2 6] false) .ret))
def c_pandectref27_Begins:VC:=(.seq (.region [ZO 2 (.box 3 (.t 0)),ZO 4 (.mv (.c .nilsl))] false) (.seq (.seq (.region [ZO 7 (.faddr 0 (.t 2)),ZO 8 (.load false 1 (.t 7)),ZO 9 (.bin .eql (.t 8) (.c (.int .i64 1)))] false) (.cond (.t 9) (.seq (.region [ZO 10 (.faddr 1 (.t 2)),ZO 11 (.load false 1 (.t 10)),ZO 12 (.call 123 [(.t 11)]),ZM 4 12] false) .ret) .skip)) (.seq (.seq (.region [ZO 13 (.faddr 0 (.t 2)),ZO 14 (.load false 1 (.t 13)),ZO 15 (.bin .eql (.t 14) (.c (.int .i64 3)))] false) (.cond (.t 15) (.seq (.region [ZO 17 (.faddr 2 (.t 2)),ZO 18 (.load false 1 (.t 17)),ZM 19 1,ZO 20 (.call 124 [(.t 18),(.t 19)]),ZM 16 20,ZO 21 (.ext (.t 16) 0),ZO 22 (.ext (.t 16) 1),ZM 5 21,ZM 6 22] false) (.seq (.region [ZM 23 6] false) (.cond (.t 23) (.seq (.region [ZM 24 5,ZO 25 (.call 123 [(.t 24)]),ZM 4 25] false) .ret) .skip))) .skip)) (.seq (.region [ZO 26 (.fx (.mk0 2) []),ZM 4 26] false) .ret))))
theorem it_e (x:It):List.take 1 (List.drop 23 x.enc) = [.str x.event]:=by rw [It.Zcl]; rfl
theorem it_le (x:It):(List.drop 23 x.enc).length = 2:=by simp [It.Zby]
theorem it_d (x:It):List.take 1 (List.drop 22 x.enc) = [pI x.day]:=by rw [It.Zcl]; rfl
theorem it_ld (x:It):(List.drop 22 x.enc).length = 3:=by simp [It.Zby]
theorem ei_d26 (x:EI):List.drop 26 x.enc = List.drop 23 x.it.enc:=rfl
theorem ei_d25 (x:EI):List.drop 25 x.enc = List.drop 22 x.it.enc:=rfl
theorem sp_pandectref27_Event (l:List EI) (name:Str) (hl:l.length ≤ 1000000):Zbo Tryz.prog 124 [.str name,.sl 28 (l.map EI.enc)] (.tup [pI (eventS name l).1,.bool (eventS name l).2]):=by
  refine Zam ?_ (closed_tup (by simp only [List.mem_cons,List.not_mem_nil,or_false,forall_eq_or_imp,forall_eq]; exact ⟨cI _,cB _⟩)) (by simp only [Za0,List.mem_cons,List.not_mem_nil,or_false,forall_eq_or_imp,forall_eq,false_implies,implies_true]; repeat' (first  | exact cI _ | exact cS _ | exact cB _ | exact Zaw _ | exact Zav _ | exact Za7 (by simp only [List.mem_cons,List.not_mem_nil,or_false,forall_eq]; first | exact cI _ | exact cS _ | exact Zaw _) | refine And.intro ?_ ?_))
  refine Zaq (vc:=c_pandectref27_Event) (ts:=[.t 4,.t 5]) Go.Proofs.Tryz.func124 (by kernel_rfl) rfl rfl (Nat.le_of_ble_eq_true rfl) (by kernel_rfl) ?_
  unfold c_pandectref27_Event
  try dsimp only [ZM,ZO,ZN,ZG]
  refine Zac (Zaa [0,1] ?_)
  simp only [Zab,Zad,Zaf,pok,pval,VA.ev,Env.get,Env.put,Env.keep,Za2,Zae,Heap.nil,Nat.succ_ne_self,Nat.reduceEqDiff,ite_true,ite_false,true_and,reduceCtorEq,Nat.zero_add]
  refine Zac ?_
  refine Zac (Zaa [0,1,6] ?_)
  simp only [Zab,Zad,Zaf,pok,pval,VA.ev,Env.get,Env.put,Env.keep,Zae,Nat.succ_ne_self,Nat.reduceEqDiff,ite_true,ite_false,true_and,reduceCtorEq]
  refine Zaj ?_
  refine Za4 (σ:={ i:Nat // i ≤ l.length ∧ (l.take i).find? (toldB name) = none }) (fun s=>([(0,.str name),(1,.sl 28 (l.map EI.enc)),(6,pI s.1)],⟨[],0⟩)) (fun s=>l.length - s.1) ⟨0,by simp⟩ ?_ ?_ ?_
  · simp only [Env.get,Nat.succ_ne_self,Env.le,Nat.reduceEqDiff,ite_true,ite_false,true_and,and_true,reduceCtorEq]
    rfl
  · simp only [Heap.le,HL.le,Nat.le_refl,and_true]
  rintro ⟨i,hi,hpre⟩
  simp only []
  refine Zac ?_
  refine Zac (Zaa [0,1,6,10] ?_)
  simp only [Zab,Zad,Zaf,pok,pval,VA.ev,Env.get,Env.put,Env.keep,Zae,intV,binV,Zah,lenV,Za8,Heap.le,HL.le,Nat.succ_ne_self,Env.le,Nat.reduceEqDiff,ite_true,ite_false,true_and,and_true,reduceCtorEq,List.length_map]
  refine Zai rfl (fun h1=>?_) (fun h1=>?_)
  · refine Zak ?_
    try simp only [Zae]
    simp only [decide_eq_true_eq] at h1
    have ia:i < l.length:=by omega
    have hst:(l.take (i + 1)).find? (toldB name) = if toldB name l[i] then some l[i] else none:=by
      rw [List.take_add_one,List.getElem?_eq_getElem ia]
      have:=find_snoc (toldB name) (l.take i) l[i]
      rw [hpre] at this
      exact this
    have hall:(l.take (i + 1)).find? (toldB name) = some l[i] → l.find? (toldB name) = some l[i]:=fun h=>by
      have e:=List.find?_append (xs:=l.take (i + 1)) (ys:=l.drop (i + 1)) (p:=toldB name)
      rw [List.take_append_drop,h] at e
      exact e
    refine Zac ?_
    refine Zaj ?_
    refine VW_seqJ (σ:=Unit) [0,1,6,29] (fun _=>([(0,.str name),(1,.sl 28 (l.map EI.enc)),(6,pI i),(29,.bool (toldB name l[i]))],⟨[],0⟩)) ?_ (fun _=>?_)
    · unfold toldB
      cases e1:(l[i].it.kind == 10) with
      | false =>
        simp only [Zab,Zad,Zbi,Zaf,pok,pval,VA.ev,Env.get,Env.put,Env.keep,Za1,isBool,aggV,intV,binV,Zah,isInt,numOf,lenV,Zao,Zan,Zag,Zap,Zax,Zas,PV.nth,PV.row,Heap.le,HL.le,Nat.le_refl,Nat.succ_ne_self,Env.le,List.getD_cons_zero,List.drop,Nat.reduceEqDiff,Nat.reduceLeDiff,Bool.false_eq_true,ite_true,ite_false,true_and,and_true,implies_true,reduceCtorEq,Int.toNat_natCast,List.length_map,rowm ia,ei_d3,it_t0,It.Zby,e1]
        repeat (with_reducible refine And.intro ?_ ?_; first | omega | (with_reducible constructor <;> omega) | exact False.elim | exact True.intro)
        exact ⟨(),by first | trivial | rfl⟩
      | true =>
        simp only [Zab,Zad,Za6,Zaf,pok,pval,VA.ev,Env.get,Env.put,Env.keep,Za1,isBool,aggV,intV,binV,Zah,strV,isInt,numOf,lenV,Zao,Zan,Zag,Zap,Zax,Zas,PV.nth,PV.row,Heap.le,HL.le,Nat.le_refl,Nat.succ_ne_self,Env.le,List.getD_cons_zero,List.drop,Nat.reduceEqDiff,Nat.reduceLeDiff,Bool.false_eq_true,ite_true,ite_false,true_and,and_true,implies_true,reduceCtorEq,Int.toNat_natCast,List.length_map,rowm ia,ei_d3,it_t0,It.Zby,e1,ei_d26,it_e,it_le]
        repeat (with_reducible refine And.intro ?_ ?_; first | omega | (with_reducible constructor <;> omega) | exact False.elim | exact True.intro)
        exact ⟨(),by first | trivial | rfl⟩
    refine Zai rfl (fun h2=>?_) (fun h2=>?_)
    · rw [h2,if_pos rfl] at hst
      have ev:eventS name l = (l[i].it.day,true):=by unfold eventS; rw [hall hst]
      refine Zac (Zaa [4,5] ?_)
      simp only [Zab,Zad,Zaf,pok,pval,VA.ev,Env.get,Env.put,Env.keep,Zae,aggV,isInt,numOf,lenV,Zao,Zan,Zag,Zap,Zax,Zas,PV.nth,PV.row,Nat.succ_ne_self,List.getD_cons_zero,Nat.reduceEqDiff,Nat.reduceLeDiff,Bool.false_eq_true,ite_true,ite_false,true_and,and_true,implies_true,reduceCtorEq,Int.toNat_natCast,List.length_map,rowm ia,ei_d25,it_d,it_ld,ei_d3,It.Zby]
      repeat (with_reducible refine And.intro ?_ ?_; first | omega | (with_reducible constructor <;> omega) | exact False.elim | exact True.intro)
      refine Zar ?_
      try simp only [Env.get,Zae,Zal,retQ,resV,Zau,RS.ev,RS.ok,Nat.succ_ne_self,List.map,Nat.reduceEqDiff,ite_true,ite_false,true_and,and_true]
      rw [ev]
      exact View.refl _ _
    rw [h2,if_neg Bool.false_ne_true] at hst
    refine Zak ?_
    try simp only [Zae,Zal]
    refine Zaa [0,1,6] ?_
    simp only [Zab,Zad,Zaf,pok,pval,VA.ev,Env.get,Env.put,Env.keep,Zae,intV,binV,Zah,Nat.le_refl,Nat.succ_ne_self,Nat.reduceEqDiff,ite_true,ite_false,true_and,reduceCtorEq,w64 (n:=(i:Int) + 1) (by omega) (by omega)]
    refine ⟨⟨i + 1,by omega,hst⟩,?_,?_⟩
    · rfl
    · simp only []; omega
  · simp only [decide_eq_false_iff_not] at h1
    refine Zaz ?_
    try simp only [Zae,Zal,retQ,ite_true]
    rw [List.take_of_length_le (by omega)] at hpre
    have ev:eventS name l = (0,false):=by unfold eventS; rw [hpre]
    refine Zac (Zaa [4,5] ?_)
    simp only [Zab,Zad,Zaf,pok,pval,VA.ev,Env.get,Env.put,Env.keep,Zae,Nat.succ_ne_self,Nat.reduceEqDiff,ite_true,ite_false,true_and,reduceCtorEq]
    refine Zar ?_
    try simp only [Env.get,retQ,resV,Zau,RS.ev,RS.ok,Nat.succ_ne_self,List.map,Nat.reduceEqDiff,ite_true,ite_false,true_and,and_true]
    rw [ev]
    exact View.refl _ _
theorem sp_pandectref27_Rule (a b:Sta):Zbo Tryz.prog 90 [.agg a.enc,.agg b.enc] (.agg (ruleS a b).enc):=by
  refine Zam ?_ (Zay (Sta.closed _)) (by simp only [Za0,List.mem_cons,List.not_mem_nil,or_false,forall_eq_or_imp,forall_eq,false_implies,implies_true]; repeat' (first  | exact Zay (Sta.closed _) | refine And.intro ?_ ?_))
  refine Zaq (vc:=c_pandectref27_Rule) (ts:=[.c 4 true 3]) Go.Proofs.Tryz.func90 (by kernel_rfl) rfl rfl (Nat.le_of_ble_eq_true rfl) (by kernel_rfl) ?_
  unfold c_pandectref27_Rule
  try dsimp only [ZM,ZO,ZN,ZG]
  refine Zac (Zaa [2,3,4] ?_)
  simp only [Zab,Zad,Zaf,VA.ev,Env.get,Env.put,Env.keep,Za2,Zae,PV.cells,PV.fits,Heap.push,Heap.nil,Nat.succ_ne_self,List.length,Nat.reduceEqDiff,Nat.reduceAdd,ite_true,ite_false,true_and,reduceCtorEq,BEq.rfl,Nat.zero_add,Sta.enc]
  refine Zac ?_
  refine Zac (Zaa [2,3,4,7] ?_)
  simp only [Zab,Zad,Zaf,pok,pval,VA.ev,Env.get,Env.put,Env.keep,Zae,aggV,intV,binV,Zah,Zao,Zan,Zag,Zap,PV.nth,PV.row,Heap.get,HL.get,Nat.succ_ne_self,List.length,List.getD_cons_zero,List.take,List.drop,List.take_succ_cons,Nat.reduceEqDiff,Nat.reduceAdd,Nat.reduceLT,Nat.reduceLeDiff,Bool.false_eq_true,ite_true,ite_false,true_and,and_true,implies_true,reduceCtorEq,Nat.zero_add,Nat.add_zero,List.length_cons]
  refine Zai rfl (fun h1=>?_) (fun h1=>?_)
  · refine Zac (Zaa [4] ?_)
    simp only [Zab,Zad,Zaf,pok,pval,VA.ev,Env.get,Env.put,Env.keep,Zae,aggV,Zag,Zap,PV.cells,PV.fits,overlay,PV.nth,PV.row,Heap.get,Heap.set,HL.get,HL.set,HL.del,Nat.le_refl,Nat.succ_ne_self,Zbh,Za9,List.set,List.length,List.getD_cons_zero,List.take,List.drop,List.take_succ_cons,List.drop_succ_cons,List.cons_append,List.nil_append,Nat.reduceEqDiff,Nat.reduceAdd,Nat.reduceLT,Bool.true_eq_false,ite_true,ite_false,true_and,and_true,reduceCtorEq,BEq.rfl,Nat.zero_add,List.length_cons,imp_self]
    refine Zar ?_
    try simp only [Env.get,Zae,retQ,resV,Zau,RS.ev,RS.ok,aggV,Zag,Zap,PV.nth,PV.row,Heap.get,HL.get,Nat.le_refl,List.length,List.getD_cons_zero,List.take,List.drop,List.take_succ_cons,Nat.reduceEqDiff,Nat.reduceAdd,Nat.reduceLT,Bool.true_eq_false,ite_true,ite_false,true_and,and_true,reduceCtorEq,Nat.zero_add,List.length_cons,imp_self]
    have e:ruleS a b = a:=if_neg (by simpa using h1)
    rw [e]
    exact View.refl _ _
  refine Zak ?_
  try simp only [Zae]
  refine Zac (Zaa [4] ?_)
  simp only [Zab,Zad,Zaf,pok,pval,VA.ev,Env.get,Env.put,Env.keep,Zae,aggV,Zag,Zap,PV.cells,PV.fits,overlay,PV.nth,PV.row,Heap.get,Heap.set,HL.get,HL.set,HL.del,Nat.le_refl,Nat.succ_ne_self,Zbh,Za9,List.set,List.length,List.getD_cons_zero,List.take,List.drop,List.take_succ_cons,List.drop_succ_cons,List.cons_append,List.nil_append,Nat.reduceEqDiff,Nat.reduceAdd,Nat.reduceLT,Bool.true_eq_false,ite_true,ite_false,true_and,and_true,reduceCtorEq,BEq.rfl,Nat.zero_add,List.length_cons,imp_self]
  refine Zar ?_
  try simp only [Env.get,retQ,resV,Zau,RS.ev,RS.ok,aggV,Zag,Zap,PV.nth,PV.row,Heap.get,HL.get,Nat.le_refl,List.length,List.getD_cons_zero,List.take,List.drop,List.take_succ_cons,Nat.reduceEqDiff,Nat.reduceAdd,Nat.reduceLT,Bool.true_eq_false,ite_true,ite_false,true_and,and_true,reduceCtorEq,Nat.zero_add,List.length_cons,imp_self]
  have e:ruleS a b = b:=if_pos (by simpa using h1)
  rw [e]
  exact View.refl _ _
theorem sp_pandectref27_from (day:Int):Zbo Tryz.prog 123 [pI day] (.sl 2 ((Zce [] day).map Sp.enc)):=by
  refine Zam ?_ (Zav _) (by simp only [Za0,List.mem_cons,List.not_mem_nil,or_false,forall_eq_or_imp,forall_eq,false_implies,implies_true]; repeat' (first  | exact cI _ | exact Zav _ | exact Za7 (by simp only [List.mem_cons,List.not_mem_nil,or_false,forall_eq]; first | exact cI _ | exact cS _ | exact Zaw _) | refine And.intro ?_ ?_))
  refine Zaq (vc:=c_pandectref27_from) (ts:=[.t 2]) Go.Proofs.Tryz.func123 (by kernel_rfl) rfl rfl (Nat.le_of_ble_eq_true rfl) (by kernel_rfl) ?_
  unfold c_pandectref27_from
  try dsimp only [ZM,ZO,ZN,ZG]
  refine Zac (Zaa [0] ?_)
  simp only [Zab,Zad,Zaf,pok,pval,VA.ev,Env.get,Env.put,Env.keep,Za2,Zae,Heap.nil,ite_true,ite_false,true_and,reduceCtorEq]
  refine Zac (Zaa [2] ?_)
  simp only [Zab,Zad,Zaf,pok,pval,VA.ev,Env.get,Env.put,Env.keep,Zae,Zcu,Zcb,PV.cells,PV.fits,overlay,Heap.push,Nat.le_refl,Nat.succ_ne_self,Zbj,Zbf,List.map,List.set,List.replicate,List.length,List.take,List.drop,List.take_succ_cons,List.drop_succ_cons,List.cons_append,List.nil_append,Nat.reduceEqDiff,Nat.reduceAdd,Nat.reduceLT,Nat.reduceLeDiff,ite_true,ite_false,true_and,and_true,reduceCtorEq,BEq.rfl,Nat.zero_add,List.length_cons]
  refine ACall_f [.sl 2 ([(⟨day,1048577⟩:Sp)].map Sp.enc)] ⟨View.own_all (fz:=false) rfl rfl,trivial⟩ (Zat (sp_pandectref02_Of [⟨day,1048577⟩] (by simp)) ?_)
  try simp only []
  refine Zar ?_
  try simp only [Env.get,retQ,resV,Zau,RS.ev,RS.ok,ite_true,true_and,and_true]
  rw [from_eq]
  exact View.refl _ _
theorem sp_pandectref27_Begins (s:Sta) (l:List EI) (hl:l.length ≤ 1000000):Zbo Tryz.prog 89 [.agg s.enc,.sl 28 (l.map EI.enc)] (.sl 2 ((Zds s l).map Sp.enc)):=by
  refine Zam ?_ (Zav _) (by simp only [Za0,List.mem_cons,List.not_mem_nil,or_false,forall_eq_or_imp,forall_eq,false_implies,implies_true]; repeat' (first  | exact Zay (EI.closed _) | exact Zay (Sta.closed _) | exact Zaw _ | exact Zav _ | exact Zay (Sp.closed _) | refine And.intro ?_ ?_))
  refine Zaq (vc:=c_pandectref27_Begins) (ts:=[.t 4]) Go.Proofs.Tryz.func89 (by kernel_rfl) rfl rfl (Nat.le_of_ble_eq_true rfl) (by kernel_rfl) ?_
  unfold c_pandectref27_Begins
  try dsimp only [ZM,ZO,ZN,ZG]
  refine Zac (Zaa [1,2] ?_)
  simp only [Zab,Zad,Zaf,pok,pval,VA.ev,Env.get,Env.put,Env.keep,Za2,Zae,PV.cells,PV.fits,Heap.push,Heap.nil,Nat.succ_ne_self,List.length,Nat.reduceEqDiff,Nat.reduceAdd,ite_true,ite_false,true_and,reduceCtorEq,BEq.rfl,Nat.zero_add,Sta.enc]
  refine Zac ?_
  refine Zac (Zaa [1,2,9] ?_)
  simp only [Zab,Zad,Zaf,pok,pval,VA.ev,Env.get,Env.put,Env.keep,Zae,aggV,intV,binV,Zah,Zao,Zan,Zag,Zap,PV.nth,PV.row,Heap.get,HL.get,Nat.succ_ne_self,List.length,List.getD_cons_zero,List.take,List.drop,List.take_succ_cons,Nat.reduceEqDiff,Nat.reduceAdd,Nat.reduceLT,Nat.reduceLeDiff,Bool.false_eq_true,ite_true,ite_false,true_and,and_true,implies_true,Nat.zero_add,Nat.add_zero,List.length_cons]
  refine Zai rfl (fun h1=>?_) (fun h1=>?_)
  · refine Zac (Zaa [4] ?_)
    simp only [Zab,Zad,Zaf,pok,pval,VA.ev,Env.get,Env.put,Env.keep,Zae,aggV,Zao,Zan,Zag,Zap,PV.nth,PV.row,Heap.get,HL.get,List.map,List.length,List.getD_cons_zero,List.take,List.drop,List.take_succ_cons,List.drop_succ_cons,Nat.reduceEqDiff,Nat.reduceAdd,Nat.reduceLT,Nat.reduceLeDiff,Bool.false_eq_true,ite_true,ite_false,true_and,and_true,implies_true,Nat.zero_add,List.length_cons]
    refine Zat (sp_pandectref27_from s.day) ?_
    skip
    refine Zar ?_
    try simp only [Env.get,Zae,retQ,resV,Zau,RS.ev,RS.ok,ite_true,true_and,and_true]
    have e:Zds s l = Zce [] s.day:=if_pos (by simpa using h1)
    rw [e]
    exact View.refl _ _
  have n1:¬ s.kind = 1:=by simpa using h1
  refine Zak ?_
  try simp only [Zae]
  refine Zac ?_
  refine Zac (Zaa [1,2,15] ?_)
  simp only [Zab,Zad,Zaf,pok,pval,VA.ev,Env.get,Env.put,Env.keep,Zae,aggV,intV,binV,Zah,Zao,Zan,Zag,Zap,PV.nth,PV.row,Heap.get,HL.get,Nat.succ_ne_self,List.length,List.getD_cons_zero,List.take,List.drop,List.take_succ_cons,Nat.reduceEqDiff,Nat.reduceAdd,Nat.reduceLT,Nat.reduceLeDiff,Bool.false_eq_true,ite_true,ite_false,true_and,and_true,implies_true,Nat.zero_add,Nat.add_zero,List.length_cons]
  refine Zai rfl (fun h2=>?_) (fun h2=>?_)
  · have n2:s.kind = 3:=by simpa using h2
    refine Zac (Zaa [5,6] ?_)
    simp only [Zab,Zad,Zaf,pok,pval,VA.ev,Env.get,Env.put,Env.keep,Zae,aggV,Zao,Zan,Zag,Zap,extV,extOk,PV.nth,PV.row,Heap.get,HL.get,Nat.le_refl,Nat.succ_ne_self,List.map,List.length,List.getD_cons_zero,List.take,List.drop,List.take_succ_cons,List.drop_succ_cons,Nat.reduceEqDiff,Nat.reduceLT,Bool.false_eq_true,ite_true,ite_false,true_and,and_true,implies_true,Nat.zero_add,List.length_cons]
    refine Zat (sp_pandectref27_Event l s.event hl) ?_
    try simp only [List.length,List.getD_cons_zero,List.getD_cons_succ,Nat.reduceAdd,Nat.reduceLT,true_and,Nat.zero_add]
    refine Zac (Zaa [5,23] ?_)
    simp only [Zab,Zad,Zaf,pok,pval,VA.ev,Env.get,Env.put,Env.keep,Zae,Nat.succ_ne_self,Nat.reduceEqDiff,ite_true,ite_false,true_and]
    refine Zai rfl (fun h3=>?_) (fun h3=>?_)
    · refine Zac (Zaa [4] ?_)
      simp only [Zab,Zad,Zaf,pok,pval,VA.ev,Env.get,Env.put,Env.keep,Zae,Nat.succ_ne_self,List.map,Nat.reduceEqDiff,ite_true,ite_false,true_and]
      refine Zat (sp_pandectref27_from _) ?_
      skip
      refine Zar ?_
      try simp only [Env.get,Zae,retQ,resV,Zau,RS.ev,RS.ok,ite_true,true_and,and_true]
      have e:Zds s l = Zce [] (eventS s.event l).1:=by unfold Zds; rw [if_neg n1,if_pos n2,if_pos h3]
      rw [e]
      exact View.refl _ _
    refine Zak ?_
    try simp only [Zae]
    refine Zac (Zaa [4] ?_)
    simp only [Zab,Zad,Zaf,pok,pval,VA.ev,Env.get,Env.put,Env.keep,Zae,Heap.push,Nat.succ_ne_self,fxV,fxOk,List.map,Nat.reduceEqDiff,Nat.reduceAdd,ite_true,ite_false,true_and]
    refine Zar ?_
    try simp only [Env.get,retQ,resV,Zau,RS.ev,RS.ok,ite_true,true_and,and_true]
    have e:Zds s l = []:=by unfold Zds; rw [if_neg n1,if_pos n2,if_neg (by rw [h3]; exact Bool.false_ne_true)]
    rw [e]
    exact View.own_all (fz:=false) rfl rfl
  · have n2:¬ s.kind = 3:=by simpa using h2
    refine Zak ?_
    try simp only [Zae]
    refine Zac (Zaa [4] ?_)
    simp only [Zab,Zad,Zaf,pok,pval,VA.ev,Env.get,Env.put,Env.keep,Zae,Heap.push,fxV,fxOk,List.map,Nat.reduceEqDiff,Nat.reduceAdd,ite_true,ite_false,true_and]
    refine Zar ?_
    try simp only [Env.get,retQ,resV,Zau,RS.ev,RS.ok,ite_true,true_and,and_true]
    have e:Zds s l = []:=by unfold Zds; rw [if_neg n1,if_neg n2]
    rw [e]
    exact View.own_all (fz:=false) rfl rfl
end Go.Proofs.YtehokmhebnkfdaaGreat.c
namespace Go.Proofs.YtehokmhebnkfdaaGreat.c
open Go Go.VM
set_option maxRecDepth 20000
set_option maxHeartbeats 0
set_option pp.deepTerms false
def c_pandectref27_Spans:VC:=(.seq (.region [ZO 3 (.box 3 (.t 0)),ZO 4 (.box 28 (.t 1)),ZO 6 (.mv (.c .nilsl))] false) (.seq (.seq (.region [ZO 10 (.faddr 3 (.t 4)),ZO 11 (.faddr 0 (.t 10)),ZO 12 (.load false 1 (.t 11)),ZO 13 (.bin .lss (.t 12) (.c (.int .i64 0))),ZM 14 13,ZG 15 (.faddr 3 (.t 4)) 14 false,ZG 16 (.faddr 0 (.t 15)) 14 false,ZG 17 (.load false 1 (.t 16)) 14 false,ZG 18 (.bin .gtr (.t 17) (.c (.int .i64 6))) 14 false,ZO 19 (.pick (.t 14) (.c (.bool true)) (.t 18))] false) (.cond (.t 19) (.seq (.region [ZO 20 (.fx (.mk0 2) []),ZM 6 20] false) .ret) .skip)) (.seq (.region [ZO 21 (.load true 3 (.t 3)),ZO 22 (.faddr 3 (.t 4)),ZO 23 (.faddr 17 (.t 22)),ZO 24 (.load true 3 (.t 23)),ZO 25 (.call 90 [(.t 21),(.t 24)]),ZM 26 2,ZO 27 (.call 89 [(.t 25),(.t 26)]),ZM 7 27] false) (.seq (.seq (.region [ZO 8 (.mv (.c (.int .i64 0)))] false) (.block 0 (.loop (.seq (.seq (.region [ZM 28 8,ZM 29 2,ZO 30 (.len false (.t 29)),ZO 31 (.bin .lss (.t 28) (.t 30))] false) (.cond (.t 31) .skip (.exit 0))) (.seq (.block 1 (.seq (.region [ZM 34 2,ZM 35 8,ZO 36 (.iaddr 28 (.t 34) (.t 35)),ZO 37 (.faddr 3 (.t 36)),ZO 38 (.load true 25 (.t 37)),ZO 9 (.alloc [(.int .i64 0),.nilsl,.nilsl,(.int .i64 0),(.int .i64 0),(.int .i64 0),(.int .i64 0),(.int .i64 0),(.int .i64 0),(.str []),.nilsl,.nilsl,.nilsl,.nilsl,.nilsl,(.str []),(.str []),(.int .i64 0),(.int .i64 0),(.str []),(.int .i64 0),(.int .i64 0),(.int .i64 0),(.str []),.nilsl]),ZN (.store 25 (.t 9) (.t 38))] false) (.seq (.seq (.region [ZO 39 (.load true 25 (.t 9)),ZO 40 (.faddr 0 (.t 4)),ZO 41 (.load false 1 (.t 40)),ZO 42 (.faddr 1 (.t 4)),ZO 43 (.load false 1 (.t 42)),ZO 44 (.call 91 [(.t 39),(.t 41),(.t 43)]),ZO 45 (.un .not (.t 44))] false) (.cond (.t 45) (.exit 1) .skip)) (.seq (.seq (.region [ZO 46 (.faddr 0 (.t 9)),ZO 47 (.load false 1 (.t 46)),ZO 48 (.bin .eql (.t 47) (.c (.int .i64 7))),ZM 49 48,ZG 50 (.faddr 0 (.t 9)) 49 false,ZG 51 (.load false 1 (.t 50)) 49 false,ZG 52 (.bin .eql (.t 51) (.c (.int .i64 9))) 49 false,ZO 53 (.pick (.t 49) (.c (.bool true)) (.t 52))] false) (.cond (.t 53) (.region [ZM 54 7,ZO 55 (.faddr 22 (.t 9)),ZO 56 (.load false 1 (.t 55)),ZO 57 (.call 92 [(.t 54),(.t 56)]),ZM 7 57] false) .skip)) (.seq (.region [ZO 58 (.faddr 0 (.t 9)),ZO 59 (.load false 1 (.t 58)),ZO 60 (.bin .eql (.t 59) (.c (.int .i64 8)))] false) (.cond (.t 60) (.region [ZM 61 7,ZO 62 (.faddr 22 (.t 9)),ZO 63 (.load false 1 (.t 62)),ZO 64 (.call 93 [(.t 61),(.t 63)]),ZM 7 64] false) .skip)))))) (.region [ZM 32 8,ZO 33 (.bin .add (.t 32) (.c (.int .i64 1))),ZM 8 33] false)))))) (.seq (.region [ZM 65 7,ZM 6 65] false) .ret)))))
theorem sp_pandectref27_Spans (a:Sta) (d:EI) (l:List EI) (hl:l.length ≤ 5000):Zbo Tryz.prog 64 [.agg a.enc,.agg d.enc,.sl 28 (l.map EI.enc)] (.sl 2 ((Zc7 a d l).map Sp.enc)):=by
  refine Zam ?_ (Zav _) (by simp only [Za0,List.mem_cons,List.not_mem_nil,or_false,forall_eq_or_imp,forall_eq,false_implies,implies_true]; repeat' (first  | exact Zay (EI.closed _) | exact Zay (Sta.closed _) | exact Zaw _ | exact Zav _ | exact Zay (Sp.closed _) | refine And.intro ?_ ?_))
  refine Zaq (vc:=c_pandectref27_Spans) (ts:=[.t 6]) Go.Proofs.Tryz.func64 (by kernel_rfl) rfl rfl (Nat.le_of_ble_eq_true rfl) (by kernel_rfl) ?_
  unfold c_pandectref27_Spans
  try dsimp only [ZM,ZO,ZN,ZG]
  refine Zac (Zaa [2,3,4] ?_)
  simp only [Zab,Zad,Zaf,pok,pval,VA.ev,Env.get,Env.put,Env.keep,Za2,Zae,PV.cells,PV.fits,Heap.push,Heap.nil,Nat.succ_ne_self,List.length,Nat.reduceEqDiff,Nat.reduceAdd,ite_true,ite_false,true_and,reduceCtorEq,BEq.rfl,Nat.zero_add,Sta.enc,ei_len28]
  refine VW_freeze [(2,.sl 28 (l.map EI.enc)),(3,.ro a.enc),(4,.ro d.enc)] ⟨View.refl _ _,View.loc (z:=3) (fz:=false) (es:=[a.enc]) rfl (by simp) rfl (by simp [Sta.enc]),View.loc (z:=28) (fz:=false) (es:=[d.enc]) rfl (by simp) rfl (by simp [ei_len28]),trivial⟩ ?_
  try simp only []
  refine Zac ?_
  refine VW_seqJ (σ:=Unit) [2,3,4,19] (fun _=>([(2,.sl 28 (l.map EI.enc)),(3,.ro a.enc),(4,.ro d.enc),(19,.bool (decide (d.it.kind < 0) || decide (6 < d.it.kind)))],⟨[],2⟩)) ?_ (fun _=>?_)
  · cases e1:decide (d.it.kind < 0) with
    | true =>
      simp only [Zab,Zad,Zbz,Zaf,pok,pval,VA.ev,Env.get,Env.put,Env.keep,Za1,isBool,aggV,intV,binV,Zah,Zao,Zan,Zag,Zap,PV.nth,Heap.le,HL.le,Nat.le_refl,Nat.succ_ne_self,Env.le,List.getD_cons_zero,List.drop,Nat.reduceEqDiff,Nat.reduceLeDiff,Bool.false_eq_true,ite_true,ite_false,true_and,and_true,implies_true,ei_d3,it_t0,It.Zby,e1]
      exact ⟨(),by first | trivial | rfl⟩
    | false =>
      simp only [Zab,Zad,Za6,Zaf,pok,pval,VA.ev,Env.get,Env.put,Env.keep,Za1,isBool,aggV,intV,binV,Zah,Zao,Zan,Zag,Zap,PV.nth,Heap.le,HL.le,Nat.le_refl,Nat.succ_ne_self,Env.le,List.getD_cons_zero,List.drop,Nat.reduceEqDiff,Nat.reduceLeDiff,Bool.false_eq_true,ite_true,ite_false,true_and,and_true,implies_true,ei_d3,it_t0,It.Zby,e1]
      exact ⟨(),by first | trivial | rfl⟩
  refine Zai rfl (fun h1=>?_) (fun h1=>?_)
  · refine Zac (Zaa [6] ?_)
    simp only [Zab,Zad,Zaf,pok,pval,VA.ev,Env.get,Env.put,Env.keep,Zae,Heap.push,fxV,fxOk,List.map,Nat.reduceEqDiff,Nat.reduceAdd,ite_true,ite_false,true_and]
    refine Zar ?_
    try simp only [Env.get,Zae,retQ,resV,Zau,RS.ev,RS.ok,ite_true,true_and,and_true]
    have e:Zc7 a d l = []:=if_pos (by simpa using h1)
    rw [e]; exact View.own_all (fz:=false) rfl rfl
  simp only [Bool.or_eq_false_iff,decide_eq_false_iff_not] at h1
  have hF:Zc7 a d l = l.foldl (Zd1 d.act d.item) (Zds (ruleS a d.it.start) l):=if_neg (by omega)
  refine Zak ?_
  try simp only [Zae]
  refine Zac (Zaa [2,4,7] ?_)
  simp only [Zab,Zad,Zaf,pok,pval,VA.ev,Env.get,Env.put,Env.keep,Zae,aggV,Zao,Zan,Zag,Zap,PV.nth,Nat.le_refl,Nat.succ_ne_self,List.map,List.length,List.getD_cons_zero,List.take,List.take_succ_cons,Nat.reduceEqDiff,Nat.reduceAdd,Nat.reduceLeDiff,Bool.true_eq_false,ite_true,ite_false,true_and,and_true,Nat.zero_add,List.length_cons,imp_self,ei_d3,ei_d20,it_start,it_l17,It.Zby,Sta.enc]
  refine Zat (sp_pandectref27_Rule a d.it.start) ?_
  skip
  refine Zat (sp_pandectref27_Begins (ruleS a d.it.start) l (by omega)) ?_
  skip
  have hc0:=initS_canon (ruleS a d.it.start) l
  have hn0:=initS_len (ruleS a d.it.start) l
  generalize Zds (ruleS a d.it.start) l = s0 at hF hc0 hn0 ⊢
  have hp:=fun k=>force_prefix d.act d.item s0 hc0 (l.take k)
  refine Zac ?_
  refine Zac (Zaa [2,4,7,8] ?_)
  simp only [Zab,Zad,Zaf,pok,pval,VA.ev,Env.get,Env.put,Env.keep,Zae,Nat.succ_ne_self,Nat.reduceEqDiff,ite_true,ite_false,true_and]
  refine Zaj ?_
  refine Za4 (σ:={ s:Nat × Nat // s.1 ≤ l.length }) (fun s=>([(2,.sl 28 (l.map EI.enc)),(4,.ro d.enc),(7,.sl 2 (((l.take s.1.1).foldl (Zd1 d.act d.item) s0).map Sp.enc)),(8,pI s.1.1)],⟨[],s.1.2⟩)) (fun s=>l.length - s.1.1) ⟨(0,2),by simp⟩ ?_ ?_ ?_
  · simp only [Env.get,Nat.succ_ne_self,Env.le,List.take,Nat.reduceEqDiff,ite_true,ite_false,true_and,and_true]
    exact ⟨rfl,rfl⟩
  · simp only [Heap.le,HL.le,Nat.le_refl,and_true]
  rintro ⟨⟨k,n⟩,hk⟩
  simp only [] at hk ⊢
  obtain ⟨pc,pn⟩:=hp k
  have pn2:(l.take k).length ≤ 5000:=by simp; omega
  refine Zac ?_
  refine Zac (Zaa [2,4,7,8,31] ?_)
  simp only [Zab,Zad,Zaf,pok,pval,VA.ev,Env.get,Env.put,Env.keep,Zae,intV,binV,Zah,lenV,Za8,Heap.le,HL.le,Nat.succ_ne_self,Env.le,Nat.reduceEqDiff,ite_true,ite_false,true_and,and_true,List.length_map]
  refine Zai rfl (fun h2=>?_) (fun h2=>?_)
  · refine Zak ?_
    try simp only [Zae]
    simp only [decide_eq_true_eq] at h2
    have ka:k < l.length:=by omega
    have hst:(l.take (k + 1)).foldl (Zd1 d.act d.item) s0 = Zd1 d.act d.item ((l.take k).foldl (Zd1 d.act d.item) s0) l[k]:=by
      rw [List.take_add_one,List.getElem?_eq_getElem ka,List.foldl_append]; rfl
    generalize (l.take k).foldl (Zd1 d.act d.item) s0 = D at pc pn hst ⊢
    have hT:Zd1 d.act d.item D l[k] = (if Zb0 l[k].it d.act d.item then (if l[k].it.kind = 7 ∨ l[k].it.kind = 9 then Zce D l[k].it.day else if l[k].it.kind = 8 then truncS D l[k].it.day else D) else D):=rfl
    rw [hT] at hst
    have hR:=sp_pandectref27_Names l[k].it d.act d.item
    refine Zac ?_
    refine Zaj ?_
    refine Zac (Zaa [2,4,7,8,9] ?_)
    simp only [Zab,Zad,Zaf,pok,pval,VA.ev,Env.get,Env.put,Env.keep,Zae,aggV,isInt,numOf,lenV,Zao,Zan,Zag,Zap,Zax,Zas,PV.cells,PV.fits,overlay,PV.nth,PV.row,Heap.get,Heap.set,HL.get,HL.set,HL.del,Heap.push,Nat.le_refl,Nat.succ_ne_self,Zbh,Za9,List.set,List.length,List.getD_cons_zero,List.take,List.drop,List.drop_succ_cons,List.nil_append,Nat.reduceEqDiff,Nat.reduceAdd,Nat.reduceLT,Bool.true_eq_false,ite_true,ite_false,true_and,and_true,BEq.rfl,Nat.zero_add,imp_self,Int.toNat_natCast,List.length_map,rowm ka,ei_d3,It.Zby,it_take,List.append_nil]
    repeat (with_reducible refine And.intro ?_ ?_; first | omega | (with_reducible constructor <;> omega) | exact False.elim | exact True.intro)
    refine Zac ?_
    refine Zac (Zaa [2,4,7,8,9,45] ?_)
    simp only [Zab,Zad,Zaf,pok,pval,VA.ev,Env.get,Env.put,Env.keep,Zae,aggV,unV,unOk,Zao,Zan,Zag,Zap,PV.nth,PV.row,Heap.get,HL.get,Nat.le_refl,Nat.succ_ne_self,List.map,List.length,List.getD_cons_zero,List.drop,Nat.reduceEqDiff,Nat.reduceLT,Nat.reduceLeDiff,Bool.false_eq_true,Bool.true_eq_false,ite_true,ite_false,true_and,and_true,implies_true,Nat.zero_add,imp_self,It.Zby,it_take,ei_t0,ei_t1,ei_l1,ei_len28]
    refine Zat hR ?_
    try simp only [true_and]
    refine Zai rfl (fun h3=>?_) (fun h3=>?_)
    · rw [if_neg (by simpa using h3)] at hst
      refine Zaz ?_
      try simp only [Zae,Zal,retQ,Nat.succ_ne_self,ite_true,ite_false]
      refine Zaa [2,4,7,8] ?_
      simp only [Zab,Zad,Zaf,pok,pval,VA.ev,Env.get,Env.put,Env.keep,Zae,intV,binV,Zah,Nat.succ_ne_self,Nat.reduceEqDiff,ite_true,ite_false,true_and,w64 (n:=(k:Int) + 1) (by omega) (by omega)]
      refine ⟨⟨(k + 1,n + 1),by simp only []; omega⟩,?_,?_,?_⟩
      · rw [hst]; exact ⟨rfl,rfl⟩
      · exact Nat.le_refl _
      · simp only []; omega
    rw [if_pos (by simpa using h3)] at hst
    refine Zak ?_
    try simp only [Zae]
    refine Zac ?_
    refine VW_seqJ (σ:=Unit) [2,4,7,8,9,53] (fun _=>([(2,.sl 28 (l.map EI.enc)),(4,.ro d.enc),(7,.sl 2 (D.map Sp.enc)),(8,pI k),(9,.loc n 0 0),(53,.bool ((l[k].it.kind == 7) || (l[k].it.kind == 9)))],⟨[(n,.arr false 25 [l[k].it.enc])],n + 1⟩)) ?_ (fun _=>?_)
    · cases e1:(l[k].it.kind == 7) with
      | true =>
        simp only [Zab,Zad,Zbz,Zaf,pok,pval,VA.ev,Env.get,Env.put,Env.keep,Za1,isBool,aggV,intV,binV,Zah,Zao,Zan,Zag,Zap,PV.nth,PV.row,Heap.get,Heap.le,HL.get,HL.le,Nat.le_refl,Nat.succ_ne_self,Env.le,List.length,List.getD_cons_zero,List.drop,Nat.reduceEqDiff,Nat.reduceLT,Nat.reduceLeDiff,Bool.false_eq_true,ite_true,ite_false,true_and,and_true,implies_true,Nat.zero_add,Nat.add_zero,it_t0,It.Zby,e1]
        exact ⟨(),by first | trivial | rfl⟩
      | false =>
        simp only [Zab,Zad,Za6,Zaf,pok,pval,VA.ev,Env.get,Env.put,Env.keep,Za1,isBool,aggV,intV,binV,Zah,Zao,Zan,Zag,Zap,PV.nth,PV.row,Heap.get,Heap.le,HL.get,HL.le,Nat.le_refl,Nat.succ_ne_self,Env.le,List.length,List.getD_cons_zero,List.drop,Nat.reduceEqDiff,Nat.reduceLT,Nat.reduceLeDiff,Bool.false_eq_true,ite_true,ite_false,true_and,and_true,implies_true,Nat.zero_add,Nat.add_zero,it_t0,It.Zby,e1]
        exact ⟨(),by first | trivial | rfl⟩
    refine VW_mid (σ:=Unit) (fun _=>([(2,.sl 28 (l.map EI.enc)),(4,.ro d.enc),(7,.sl 2 ((if l[k].it.kind = 7 ∨ l[k].it.kind = 9 then Zce D l[k].it.day else D).map Sp.enc)),(8,pI k),(9,.loc n 0 0)],⟨[(n,.arr false 25 [l[k].it.enc])],n + 1⟩)) ?_ (fun _=>?_)
    · refine Zai rfl (fun h4=>?_) (fun h4=>?_)
      · refine Zaa [2,4,7,8,9] ?_
        simp only [midQ,Zab,Zad,Zaf,pok,pval,VA.ev,Env.get,Env.put,Env.keep,aggV,Zao,Zan,Zag,Zap,PV.nth,PV.row,Heap.get,Heap.le,HL.get,HL.le,Nat.succ_ne_self,Env.le,List.map,List.length,List.getD_cons_zero,Nat.reduceEqDiff,Nat.reduceLT,Nat.reduceLeDiff,Bool.false_eq_true,ite_true,ite_false,true_and,and_true,implies_true,Nat.zero_add,it_d,it_ld]
        refine Zat (sp_pandectref02_Since D l[k].it.day (by omega) (by rw [untilR_eq]; exact Nat.le_trans (trunc_len pc _) (by omega))) ?_
        try simp only [HL.get,Nat.le_refl,ite_true,and_true]
        rw [sinceR_eq,if_pos (by simpa using h4)]
        exact ⟨(),by first | trivial | rfl⟩
      · refine Zak ?_
        try simp only [midQ,Env.get,Heap.get,Heap.le,HL.get,HL.le,Nat.le_refl,Nat.succ_ne_self,Env.le,Nat.reduceEqDiff,ite_true,ite_false,true_and,and_true]
        rw [if_neg (by simpa using h4)]
        exact ⟨(),by first | trivial | rfl⟩
    simp only []
    refine Zac (Zaa [2,4,7,8,9,60] ?_)
    simp only [Zab,Zad,Zaf,pok,pval,VA.ev,Env.get,Env.put,Env.keep,Zae,aggV,intV,binV,Zah,Zao,Zan,Zag,Zap,PV.nth,PV.row,Heap.get,HL.get,Nat.succ_ne_self,List.length,List.getD_cons_zero,List.drop,Nat.reduceEqDiff,Nat.reduceLT,Nat.reduceLeDiff,Bool.false_eq_true,ite_true,ite_false,true_and,and_true,implies_true,Nat.zero_add,Nat.add_zero,it_t0,It.Zby]
    refine Zai rfl (fun h5=>?_) (fun h5=>?_)
    · have k8:l[k].it.kind = 8:=by simpa using h5
      have n79:¬ (l[k].it.kind = 7 ∨ l[k].it.kind = 9):=by omega
      rw [if_neg n79,if_pos k8] at hst
      rw [if_neg n79]
      refine Zaa [2,4,7,8] ?_
      simp only [Zab,Zad,Zaf,pok,pval,VA.ev,Env.get,Env.put,Env.keep,Zae,Zal,aggV,Zao,Zan,Zag,Zap,PV.nth,PV.row,Heap.get,HL.get,Nat.succ_ne_self,List.map,List.length,List.getD_cons_zero,Nat.reduceEqDiff,Nat.reduceLT,Nat.reduceLeDiff,Bool.false_eq_true,ite_true,ite_false,true_and,and_true,implies_true,Nat.zero_add,it_d,it_ld]
      refine Zat (sp_pandectref02_Until D l[k].it.day (by omega)) ?_
      skip
      rw [untilR_eq]
      refine Zaa [2,4,7,8] ?_
      simp only [Zab,Zad,Zaf,pok,pval,VA.ev,Env.get,Env.put,Env.keep,Zae,intV,binV,Zah,Nat.succ_ne_self,Nat.reduceEqDiff,ite_true,ite_false,true_and,w64 (n:=(k:Int) + 1) (by omega) (by omega)]
      refine ⟨⟨(k + 1,n + 1),by simp only []; omega⟩,?_,?_,?_⟩
      · rw [hst]; exact ⟨rfl,rfl⟩
      · exact Nat.le_refl _
      · simp only []; omega
    · have k8:¬ l[k].it.kind = 8:=by simpa using h5
      rw [if_neg k8] at hst
      rw [← hst]
      refine Zak ?_
      try simp only [Zae,Zal]
      refine Zaa [2,4,7,8] ?_
      simp only [Zab,Zad,Zaf,pok,pval,VA.ev,Env.get,Env.put,Env.keep,Zae,intV,binV,Zah,Nat.succ_ne_self,Nat.reduceEqDiff,ite_true,ite_false,true_and,w64 (n:=(k:Int) + 1) (by omega) (by omega)]
      refine ⟨⟨(k + 1,n + 1),by simp only []; omega⟩,?_,?_,?_⟩
      · exact ⟨rfl,rfl⟩
      · exact Nat.le_refl _
      · simp only []; omega
  · simp only [decide_eq_false_iff_not] at h2
    refine Zaz ?_
    try simp only [Zae,Zal,retQ,ite_true]
    refine Zac (Zaa [6] ?_)
    simp only [Zab,Zad,Zaf,pok,pval,VA.ev,Env.get,Env.put,Env.keep,Zae,Nat.succ_ne_self,Nat.reduceEqDiff,ite_true,ite_false,true_and]
    refine Zar ?_
    try simp only [Env.get,retQ,resV,Zau,RS.ev,RS.ok,ite_true,true_and,and_true]
    have e:l.take k = l:=List.take_of_length_le (by omega)
    rw [e,← hF]
    exact View.refl _ _
end Go.Proofs.YtehokmhebnkfdaaGreat.c
