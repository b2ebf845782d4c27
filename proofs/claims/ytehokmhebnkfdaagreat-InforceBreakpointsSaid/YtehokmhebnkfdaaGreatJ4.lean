import Derived.Test.YtehokmhebnkfdaaGreatSs
import Derived.Test.YtehokmhebnkfdaaGreatJ1
set_option linter.all false
namespace Go.Proofs.YtehokmhebnkfdaaGreat.w
open Go Go.VM
set_option maxRecDepth 20000
set_option maxHeartbeats 0
set_option pp.deepTerms false
def c_pandectref29_Put:VC:=(.seq (.region [ZO 4 (.mv (.c .nilsl))] false) (.seq (.region [ZO 5 (.mv (.c (.int .i64 0)))] false) (.seq (.block 0 (.loop (.seq (.seq (.region [ZM 7 5,ZM 8 0,ZO 9 (.len false (.t 8)),ZO 10 (.bin .lss (.t 7) (.t 9)),ZM 11 10,ZG 12 (.mv (.t 0)) 11 true,ZG 13 (.mv (.t 5)) 11 true,ZG 14 (.iaddr 1 (.t 12) (.t 13)) 11 true,ZG 15 (.load false 1 (.t 14)) 11 true,ZG 16 (.mv (.t 1)) 11 true,ZG 17 (.bin .lss (.t 15) (.t 16)) 11 true,ZO 18 (.pick (.t 11) (.t 17) (.c (.bool false)))] false) (.cond (.t 18) .skip (.exit 0))) (.block 1 (.region [ZM 19 5,ZO 20 (.bin .add (.t 19) (.c (.int .i64 1))),ZM 5 20] false))))) (.seq (.seq (.region [ZM 21 5,ZM 22 0,ZO 23 (.len false (.t 22)),ZO 24 (.bin .lss (.t 21) (.t 23)),ZM 25 24,ZG 26 (.mv (.t 0)) 25 true,ZG 27 (.mv (.t 5)) 25 true,ZG 28 (.iaddr 1 (.t 26) (.t 27)) 25 true,ZG 29 (.load false 1 (.t 28)) 25 true,ZG 30 (.mv (.t 1)) 25 true,ZG 31 (.bin .eql (.t 29) (.t 30)) 25 true,ZO 32 (.pick (.t 25) (.t 31) (.c (.bool false)))] false) (.cond (.t 32) (.seq (.region [ZM 33 0,ZM 4 33] false) .ret) .skip)) (.seq (.region [ZO 34 (.fx (.mk0 1) []),ZM 35 0,ZM 36 5,ZO 37 (.slice false 1 (.t 35) none (some (.t 36))),ZO 38 (.app 1 8 [(.int .i64 0)] false (.t 34) (.t 37)),ZM 39 1,ZO 40 (.bslice 1 1 [(.int .i64 0)] [(0,(.t 39))]),ZO 41 (.app 1 8 [(.int .i64 0)] false (.t 38) (.t 40)),ZM 6 41] false) (.seq (.region [ZM 42 6,ZM 43 0,ZM 44 5,ZO 45 (.slice false 1 (.t 43) (some (.t 44)) none),ZO 46 (.app 1 8 [(.int .i64 0)] false (.t 42) (.t 45)),ZM 4 46] false) .ret))))))
def c_pandectref29_Days:VC:=(.seq (.region [ZO 2 (.mv (.c .nilsl))] false) (.seq (.region [ZO 8 (.bslice 1 1 [(.int .i64 0)] [(0,(.c (.int .i64 0)))]),ZM 3 8] false) (.seq (.region [ZM 9 0,ZO 10 (.call 21 [(.t 9)]),ZM 4 10] false) (.seq (.seq (.region [ZO 5 (.mv (.c (.int .i64 0)))] false) (.block 0 (.loop (.seq (.seq (.region [ZM 11 5,ZM 12 4,ZO 13 (.len false (.t 12)),ZO 14 (.bin .lss (.t 11) (.t 13))] false) (.cond (.t 14) .skip (.exit 0))) (.seq (.block 1 (.seq (.region [ZM 17 4,ZM 18 5,ZO 19 (.iaddr 28 (.t 17) (.t 18)),ZO 20 (.load true 28 (.t 19)),ZM 21 0,ZO 22 (.call 38 [(.t 20),(.t 21)]),ZM 6 22] false) (.seq (.region [ZO 7 (.mv (.c (.int .i64 0)))] false) (.block 2 (.loop (.seq (.seq (.region [ZM 23 7,ZM 24 6,ZO 25 (.len false (.t 24)),ZO 26 (.bin .lss (.t 23) (.t 25))] false) (.cond (.t 26) .skip (.exit 2))) (.seq (.block 3 (.seq (.region [ZM 29 3,ZM 30 6,ZM 31 7,ZO 32 (.iaddr 2 (.t 30) (.t 31)),ZO 33 (.faddr 0 (.t 32)),ZO 34 (.load false 1 (.t 33)),ZO 35 (.call 55 [(.t 29),(.t 34)]),ZM 3 35] false) (.seq (.region [ZM 36 6,ZM 37 7,ZO 38 (.iaddr 2 (.t 36) (.t 37)),ZO 39 (.faddr 1 (.t 38)),ZO 40 (.load false 1 (.t 39)),ZO 41 (.bin .leq (.t 40) (.c (.int .i64 1048576)))] false) (.cond (.t 41) (.region [ZM 42 3,ZM 43 6,ZM 44 7,ZO 45 (.iaddr 2 (.t 43) (.t 44)),ZO 46 (.faddr 1 (.t 45)),ZO 47 (.load false 1 (.t 46)),ZO 48 (.call 55 [(.t 42),(.t 47)]),ZM 3 48] false) .skip)))) (.region [ZM 27 7,ZO 28 (.bin .add (.t 27) (.c (.int .i64 1))),ZM 7 28] false)))))))) (.region [ZM 15 5,ZO 16 (.bin .add (.t 15) (.c (.int .i64 1))),ZM 5 16] false)))))) (.seq (.region [ZM 49 3,ZM 2 49] false) .ret)))))
theorem lt_ext:∀ {l m:List Int},l.Pairwise (· < ·) → m.Pairwise (· < ·) → (∀ x,x ∈ l ↔ x ∈ m) → l = m
  | [],[],_,_,_=>rfl
  | [],b :: m,_,_,h=>absurd ((h b).2 List.mem_cons_self) (by simp)
  | a :: l,[],_,_,h=>absurd ((h a).1 List.mem_cons_self) (by simp)
  | a :: l,b :: m,h1,h2,h=>by
    rw [List.pairwise_cons] at h1 h2
    have hab:a = b:=by
      rcases List.mem_cons.1 ((h a).1 List.mem_cons_self) with e | e
      · exact e
      · rcases List.mem_cons.1 ((h b).2 List.mem_cons_self) with e2 | e2
        · exact e2.symm
        · have:=h1.1 b e2; have:=h2.1 a e; omega
    subst hab
    rw [lt_ext h1.2 h2.2 fun x=>?_]
    constructor
    · intro hx
      rcases List.mem_cons.1 ((h x).1 (List.mem_cons_of_mem _ hx)) with rfl | e
      · exact absurd (h1.1 _ hx) (by omega)
      · exact e
    · intro hx
      rcases List.mem_cons.1 ((h x).2 (List.mem_cons_of_mem _ hx)) with rfl | e
      · exact absurd (h2.1 _ hx) (by omega)
      · exact e
theorem tw_eq (p:Int → Bool):∀ (l:List Int) (k:Nat),k ≤ l.length → (∀ (j:Nat) (h:j < l.length),j < k → p l[j] = true) → (∀ h:k < l.length,p l[k] = false) → l.takeWhile p = l.take k ∧ l.dropWhile p = l.drop k
  | [],k,_,_,_=>by simp
  | a :: l,0,_,_,h2=>by
    have:p a = false:=h2 (by simp)
    simp [List.takeWhile_cons,List.dropWhile_cons,this]
  | a :: l,k + 1,hk,h1,h2=>by
    have ha:p a = true:=h1 0 (by simp) (by omega)
    have ih:=tw_eq p l k (by simpa using hk) (fun j h hj=>h1 (j + 1) (by simpa using h) (by omega)) (fun h=>h2 (by simpa using h))
    simp [List.takeWhile_cons,List.dropWhile_cons,ha,ih.1,ih.2]
def putS (l:List Int) (n:Int):List Int :=
  if (l.dropWhile fun x=>decide (x < n)).head? = some n then l else (l.takeWhile fun x=>decide (x < n)) ++ n :: l.dropWhile fun x=>decide (x < n)
theorem putS_len (l:List Int) (n:Int):(putS l n).length ≤ l.length + 1:=by
  unfold putS
  split
  · omega
  · have:=congrArg List.length (List.takeWhile_append_dropWhile (p:=fun x=>decide (x < n)) (l:=l))
    rw [List.length_append] at this
    rw [List.length_append,List.length_cons]
    omega
theorem mem_putS (l:List Int) (n x:Int):x ∈ putS l n ↔ x = n ∨ x ∈ l:=by
  have e:=List.takeWhile_append_dropWhile (p:=fun x=>decide (x < n)) (l:=l)
  unfold putS
  split
  · rename_i h
    have hn:n ∈ l:=(List.dropWhile_sublist _).subset (List.mem_of_mem_head? (by rw [h]; rfl))
    constructor
    · exact .inr
    · rintro (rfl | h)
      · exact hn
      · exact h
  · have e2 : x ∈ l ↔ (x ∈ l.takeWhile fun x => decide (x < n)) ∨ x ∈ l.dropWhile fun x => decide (x < n) := by
      rw [← List.mem_append,e]
    rw [List.mem_append,List.mem_cons,e2]
    constructor
    · rintro (h | h | h)
      · exact .inr (.inl h)
      · exact .inl h
      · exact .inr (.inr h)
    · rintro (h | h | h)
      · exact .inr (.inl h)
      · exact .inl h
      · exact .inr (.inr h)
theorem putS_lt {l:List Int} (h:l.Pairwise (· < ·)) (n:Int):(putS l n).Pairwise (· < ·):=by
  have e:=List.takeWhile_append_dropWhile (p:=fun x=>decide (x < n)) (l:=l)
  unfold putS
  split
  · exact h
  · rename_i hne
    have hb:∀ x ∈ l.takeWhile fun x=>decide (x < n),x < n:=fun x hx=>by
      have:=List.all_eq_true.1 (List.all_takeWhile (p:=fun x=>decide (x < n)) (l:=l)) x hx
      simpa using this
    rw [← e] at h
    rw [List.pairwise_append] at h ⊢
    obtain ⟨h1,h2,h3⟩:=h
    have hc:∀ x ∈ l.dropWhile fun x=>decide (x < n),n < x:=by
      cases hd:l.dropWhile fun x=>decide (x < n) with
      | nil=>simp
      | cons y r =>
        rw [hd] at hne h2
        have hy:¬ y < n:=by
          have:=List.head?_dropWhile_not (fun x=>decide (x < n)) l
          rw [hd] at this
          simpa using this
        have hyn:y ≠ n:=fun h=>hne (by rw [h]; rfl)
        intro x hx
        rcases List.mem_cons.1 hx with rfl | hx
        · omega
        · have:=(List.pairwise_cons.1 h2).1 x hx; omega
    refine ⟨h1,List.pairwise_cons.2 ⟨hc,h2⟩,fun x hx y hy=>?_⟩
    rcases List.mem_cons.1 hy with rfl | hy
    · exact hb x hx
    · exact h3 x hx y hy
theorem fold_put (E:List Int):∀ (o:List Int),o.Pairwise (· < ·) → (E.foldl putS o).Pairwise (· < ·) ∧ ∀ x,x ∈ E.foldl putS o ↔ x ∈ o ∨ x ∈ E:=by
  induction E with
  | nil=>exact fun o h=>⟨h,fun x=>by simp⟩
  | cons e E ih =>
    intro o h
    obtain ⟨i1,i2⟩:=ih (putS o e) (putS_lt h e)
    refine ⟨i1,fun x=>(i2 x).trans ?_⟩
    rw [mem_putS,List.mem_cons]
    constructor
    · rintro ((h | h) | h)
      · exact .inr (.inl h)
      · exact .inl h
      · exact .inr (.inr h)
    · rintro (h | h | h)
      · exact .inl (.inr h)
      · exact .inl (.inl h)
      · exact .inr h
theorem bp_fold (l:List Gz):bpS l = ((chgS l).flatMap fun d=>c.edges (Zdc l d)).foldl putS [0]:=by
  obtain ⟨h1,h2⟩:=fold_put ((chgS l).flatMap fun d=>c.edges (Zdc l d)) [0] (List.pairwise_singleton _ _)
  obtain ⟨g1,g2⟩:=compact_sorted (c.sortI_sorted (Zcf l (chgS l)))
  refine lt_ext g1 h1 fun x=>?_
  rw [h2]
  refine (g2 x).trans ((List.mergeSort_perm ..).mem_iff.trans ?_)
  unfold Zcf
  simp
theorem sp_pandectref29_Put (l:List Int) (n:Int) (hl:l.length ≤ 1000000):Zbq Tryz.prog 55 [.sl 1 (l.map c.Za2),pI n] (.sl 1 ((putS l n).map c.Za2)):=by
  refine Zao ?_ (closed_ints _) (by simp only [Za1,List.mem_cons,List.not_mem_nil,or_false,forall_eq_or_imp,forall_eq,false_implies,implies_true]; repeat' (first  | exact cI _ | exact Zco _ | exact Za9 (by simp only [List.mem_cons,List.not_mem_nil,or_false,forall_eq]; first | exact cI _ | exact cS _ | exact Zav _) | refine And.intro ?_ ?_))
  refine Zar (vc:=c_pandectref29_Put) (ts:=[.t 4]) Go.Proofs.Tryz.func55 (by kernel_rfl) rfl rfl (Nat.le_of_ble_eq_true rfl) (by kernel_rfl) ?_
  unfold c_pandectref29_Put
  try dsimp only [ZM,ZO,ZN,ZG]
  refine Zad (Zaa [0,1] ?_)
  simp only [Zab,Zac,Zaf,pok,pval,VA.ev,Env.get,Env.put,Env.keep,Za3,Zae,Heap.nil,Nat.succ_ne_self,Nat.reduceEqDiff,ite_true,ite_false,true_and,reduceCtorEq,Nat.zero_add]
  refine Zad (Zaa [0,1,5] ?_)
  simp only [Zab,Zac,Zaf,pok,pval,VA.ev,Env.get,Env.put,Env.keep,Zae,Nat.succ_ne_self,Nat.reduceEqDiff,ite_true,ite_false,true_and,reduceCtorEq]
  refine Zad ?_
  refine Zaj ?_
  refine Za6 (σ:={ k:Nat // k ≤ l.length ∧ ∀ (j:Nat) (h:j < l.length),j < k → decide (l[j] < n) = true }) (fun s=>([(0,.sl 1 (l.map c.Za2)),(1,pI n),(5,pI s.1)],⟨[],0⟩)) (fun s=>l.length - s.1) ⟨0,Nat.zero_le _,fun j h hj=>by cases hj⟩ ?_ ?_ ?_
  · simp only [Env.get,Nat.succ_ne_self,Env.le,Nat.reduceEqDiff,ite_true,ite_false,true_and,and_true,reduceCtorEq]
    rfl
  · simp only [Heap.le,HL.le,Nat.le_refl,and_true]
  rintro ⟨k,hk,hpre⟩
  simp only []
  refine Zad ?_
  refine Zad (VW_mid (σ:={ b:Bool // b = true ↔ ∃ h:k < l.length,l[k] < n }) (fun b=>([(0,.sl 1 (l.map c.Za2)),(1,pI n),(5,pI k),(18,.bool b.1)],⟨[],0⟩)) (Zaa [0,1,5,18] ?_) (fun b=>?_))
  · by_cases h1:k < l.length
    · have e1:decide ((k:Int) < (l.length:Int)) = true:=by simpa using h1
      simp only [midQ,Zab,Zac,Zaz,Zaf,pok,pval,VA.ev,Env.get,Env.put,Env.keep,Zaw,isBool,aggV,intV,binV,Zah,isInt,numOf,lenV,Zag,Zap,Za0,Zas,Zba,PV.nth,PV.row,Heap.le,HL.le,Nat.le_refl,Nat.succ_ne_self,Env.le,List.length,List.getD_cons_zero,List.take,List.take_succ_cons,Nat.reduceEqDiff,Bool.false_eq_true,ite_true,ite_false,true_and,and_true,implies_true,reduceCtorEq,Nat.zero_add,List.length_cons,Int.toNat_natCast,List.length_map,e1,rowm h1,c.Za2]
      repeat (with_reducible refine And.intro ?_ ?_; first | omega | (with_reducible constructor <;> omega) | exact False.elim | exact True.intro)
      refine ⟨⟨decide (l[k] < n),by simp [h1]⟩,?_⟩
      try simp only [true_and]
      all_goals (repeat' (first | rfl | trivial | omega | (simp only []; omega) | refine And.intro ?_ ?_))
    · have e1:decide ((k:Int) < (l.length:Int)) = false:=by simp; omega
      simp only [midQ,Zab,Zac,Zbi,Zaf,pok,pval,VA.ev,Env.get,Env.put,Env.keep,Zaw,isBool,intV,binV,Zah,lenV,Zba,Heap.le,HL.le,Nat.le_refl,Nat.succ_ne_self,Env.le,Nat.reduceEqDiff,Bool.false_eq_true,ite_true,ite_false,true_and,and_true,reduceCtorEq,List.length_map,e1]
      refine ⟨⟨false,by simp [h1]⟩,?_⟩
      try simp only [true_and]
      all_goals (repeat' (first | rfl | trivial | omega | (simp only []; omega) | refine And.intro ?_ ?_))
  obtain ⟨b,hb⟩:=b
  simp only []
  refine Zai rfl (fun h1=>?_) (fun h1=>?_)
  · obtain ⟨ka,hlt⟩:=hb.1 h1
    refine Zak ?_
    try simp only [Zae,Heap.le,HL.le,Env.le,and_true]
    refine Zaj ?_
    refine Zaa [0,1,5] ?_
    simp only [Zab,Zac,Zaf,pok,pval,VA.ev,Env.get,Env.put,Env.keep,Zae,Zal,intV,binV,Zah,Nat.le_refl,Nat.succ_ne_self,Nat.reduceEqDiff,ite_true,ite_false,true_and,reduceCtorEq,w64 (n:=(k:Int) + 1) (by omega) (by omega)]
    refine ⟨⟨k + 1,ka,fun j h hj=>?_⟩,?_,?_⟩
    · by_cases hjk:j = k
      · subst hjk; simpa using hlt
      · exact hpre j h (by omega)
    · rfl
    · simp only []; omega
  have hno:¬ ∃ h:k < l.length,l[k] < n:=fun h=>by rw [hb.2 h] at h1; cases h1
  obtain ⟨t1,t2⟩:=tw_eq (fun x=>decide (x < n)) l k hk hpre (fun h=>by simpa using fun h2=>hno ⟨h,h2⟩)
  refine Za4 ?_
  try simp only [Zae,Zal,retQ,ite_true]
  refine Zad ?_
  refine Zad (VW_mid (σ:={ b:Bool // b = true ↔ (l.drop k).head? = some n }) (fun b=>([(0,.sl 1 (l.map c.Za2)),(1,pI n),(5,pI k),(32,.bool b.1)],⟨[],0⟩)) (Zaa [0,1,5,32] ?_) (fun b=>?_))
  · by_cases h1:k < l.length
    · have e1:decide ((k:Int) < (l.length:Int)) = true:=by simpa using h1
      simp only [midQ,Zab,Zac,Zaz,Zaf,pok,pval,VA.ev,Env.get,Env.put,Env.keep,Zaw,isBool,aggV,intV,binV,Zah,isInt,numOf,lenV,Zag,Zap,Za0,Zas,Zba,PV.nth,PV.row,Heap.le,HL.le,Nat.le_refl,Nat.succ_ne_self,Env.le,List.length,List.getD_cons_zero,List.take,List.take_succ_cons,Nat.reduceEqDiff,Bool.false_eq_true,ite_true,ite_false,true_and,and_true,implies_true,reduceCtorEq,Nat.zero_add,List.length_cons,Int.toNat_natCast,List.length_map,e1,rowm h1,c.Za2]
      repeat (with_reducible refine And.intro ?_ ?_; first | omega | (with_reducible constructor <;> omega) | exact False.elim | exact True.intro)
      refine ⟨⟨l[k] == n,by rw [List.head?_drop,List.getElem?_eq_getElem h1]; simp⟩,?_⟩
      try simp only [true_and]
      all_goals (repeat' (first | rfl | trivial | omega | (simp only []; omega) | refine And.intro ?_ ?_))
    · have e1:decide ((k:Int) < (l.length:Int)) = false:=by simp; omega
      simp only [midQ,Zab,Zac,Zbi,Zaf,pok,pval,VA.ev,Env.get,Env.put,Env.keep,Zaw,isBool,intV,binV,Zah,lenV,Zba,Heap.le,HL.le,Nat.le_refl,Nat.succ_ne_self,Env.le,Nat.reduceEqDiff,Bool.false_eq_true,ite_true,ite_false,true_and,and_true,reduceCtorEq,List.length_map,e1]
      refine ⟨⟨false,by rw [List.head?_drop,List.getElem?_eq_none (by omega)]; simp⟩,?_⟩
      try simp only [true_and]
      all_goals (repeat' (first | rfl | trivial | omega | (simp only []; omega) | refine And.intro ?_ ?_))
  obtain ⟨b,hb⟩:=b
  simp only []
  refine Zai rfl (fun h2=>?_) (fun h2=>?_)
  · refine Zad (Zaa [4] ?_)
    simp only [Zab,Zac,Zaf,pok,pval,VA.ev,Env.get,Env.put,Env.keep,Zae,Nat.succ_ne_self,Nat.reduceEqDiff,ite_true,ite_false,true_and,reduceCtorEq]
    refine Zaq ?_
    try simp only [Env.get,Zae,retQ,resV,Zau,RS.ev,RS.ok,ite_true,true_and,and_true]
    have e:putS l n = l:=if_pos (by rw [t2]; exact hb.1 h2)
    rw [e]; exact View.refl _ _
  have e:putS l n = l.take k ++ n :: l.drop k:=by
    unfold putS
    rw [t1,t2]
    exact if_neg fun h=>by rw [hb.2 h] at h2; cases h2
  refine Zak ?_
  try simp only [Zae]
  have hgl:(l.map c.Za2).length = l.length:=by simp
  have htl:((l.map c.Za2).take k).length = k:=by simp; omega
  have htt:((l.map c.Za2).take k).take k = (l.map c.Za2).take k:=by rw [List.take_take,Nat.min_self]
  refine Zad (Zaa [0,1,5,6] ?_)
  simp only [Zab,Zac,Zaf,pok,pval,VA.ev,Env.get,Env.put,Env.keep,Zae,numOf,loV,hiV,lenV,Zdt,sliceV,sliceOk,PV.cells,PV.fits,Heap.get,Heap.del,HL.get,HL.del,Heap.push,Nat.le_refl,Nat.succ_ne_self,Zbu,Zdo,Zbp,Zdu,Zbf,Zde,Zbm,Zbh,fxV,fxOk,List.map,List.set,List.replicate,List.length,List.take,List.drop,List.drop_zero,List.take_succ_cons,List.nil_append,Option.map,Nat.reduceEqDiff,Nat.reduceAdd,Nat.reduceLT,Nat.reduceLeDiff,ite_true,ite_false,true_and,and_true,reduceCtorEq,BEq.rfl,Nat.zero_add,Nat.add_zero,List.length_cons,List.length_nil,Int.toNat_natCast,hgl,htl,htt,Int.toNat_natCast,Nat.sub_zero,List.take_length]
  refine ⟨⟨by omega,by omega,hk⟩,by omega,by omega,by omega,by omega,?_⟩
  have hdl:((l.map c.Za2).drop k).length = l.length - k:=by simp
  have htk:((l.map c.Za2).take k ++ [[pI n]]).length = k + 1:=by simp; omega
  have htk2:((l.map c.Za2).take k ++ [[pI n]]).take (k + 1) = (l.map c.Za2).take k ++ [[pI n]]:=List.take_of_length_le (by omega)
  have hdd:((l.map c.Za2).drop k).take (l.length - k) = (l.map c.Za2).drop k:=List.take_of_length_le (by omega)
  refine Zad (Zaa [4] ?_)
  simp only [Zab,Zac,Zaf,pok,pval,VA.ev,Env.get,Env.put,Env.keep,Zae,numOf,loV,hiV,lenV,Zdt,sliceV,sliceOk,Heap.get,Heap.del,HL.get,HL.del,Heap.push,Nat.le_refl,Nat.succ_ne_self,Zbu,Zdo,Zbp,Zdu,Zbf,Zde,List.drop,Option.map,Nat.reduceEqDiff,Nat.reduceAdd,ite_true,ite_false,true_and,and_true,reduceCtorEq,Nat.zero_add,Int.toNat_natCast,hgl,htl,htt,Int.toNat_natCast,Nat.sub_zero,List.take_length,hdl,htk,htk2,hdd]
  refine ⟨⟨by omega,hk⟩,by omega,by omega,?_⟩
  refine Zaq ?_
  try simp only [Env.get,retQ,resV,Zau,RS.ev,RS.ok,ite_true,true_and,and_true]
  rw [e,List.map_append,List.map_cons,List.map_take,List.map_drop]
  have hh:((l.map c.Za2).take k ++ [[pI n]]) ++ (l.map c.Za2).drop k = (l.map c.Za2).take k ++ c.Za2 n :: (l.map c.Za2).drop k:=by
    rw [List.append_assoc]; rfl
  rw [← hh]
  exact View.own_all (fz:=false) (by simp [Heap.get,HL.get]) (by simp; omega)
theorem putS_fold_len (E:List Int):∀ o:List Int,(E.foldl putS o).length ≤ o.length + E.length:=by
  induction E with
  | nil=>exact fun o=>by simp
  | cons e E ih =>
    intro o
    have h1:=ih (putS o e)
    have h2:=putS_len o e
    simp only [List.foldl_cons,List.length_cons]
    omega
noncomputable def bpUp (l:List Gz) (i:Nat):List Int:=(((chgS l).take i).flatMap fun d=>c.edges (Zdc l d)).foldl putS [0]
noncomputable def bpIn (l:List Gz) (i j:Nat):List Int:=(c.edges ((Zdc l ((chgS l).getD i EI0)).take j)).foldl putS (bpUp l i)
theorem bpUp_step (l:List Gz) {i:Nat} (h:i < (chgS l).length):bpUp l (i + 1) = bpIn l i (Zdc l ((chgS l).getD i EI0)).length:=by
  unfold bpUp bpIn
  rw [take_one h EI0,List.flatMap_append,List.foldl_append,List.take_length]
  simp [bpUp]
theorem bpIn_step (l : List Gz) (i : Nat) {j : Nat} (h : j < (Zdc l ((chgS l).getD i EI0)).length) :
    bpIn l i (j + 1) = if (Zdc l ((chgS l).getD i EI0))[j].to < 1048577 then putS (putS (bpIn l i j) (Zdc l ((chgS l).getD i EI0))[j].frm) (Zdc l ((chgS l).getD i EI0))[j].to else putS (bpIn l i j) (Zdc l ((chgS l).getD i EI0))[j].frm:=by
  unfold bpIn
  rw [List.take_add_one,List.getElem?_eq_getElem h]
  unfold c.edges
  rw [List.flatMap_append,List.foldl_append]
  simp only [Option.toList_some,List.flatMap_cons,List.flatMap_nil,List.append_nil]
  split <;> rfl
theorem bpUp_len (l:List Gz) (i:Nat) (hd:(dds l).length ≤ 100):(bpUp l i).length ≤ 30000:=by
  unfold bpUp
  have h1:=putS_fold_len (((chgS l).take i).flatMap fun d=>c.edges (Zdc l d)) [0]
  have h2:=edgesS_len l ((chgS l).take i)
  have h4:=(chg_sub l).length_le
  rw [List.length_take] at h2
  have h6:min i (chgS l).length * (2 * ((dds l).length + 1)) ≤ 100 * (2 * (100 + 1)):=Nat.mul_le_mul (by omega) (by omega)
  unfold Zcf at h2
  simp only [List.length_cons,List.length_nil] at h1 h2
  omega
theorem bpIn_len (l:List Gz) (i j:Nat) (hd:(dds l).length ≤ 100):(bpIn l i j).length ≤ 40000:=by
  unfold bpIn
  have h1:=putS_fold_len (c.edges ((Zdc l ((chgS l).getD i EI0)).take j)) (bpUp l i)
  have h2:=bpUp_len l i hd
  have h3:=c.edges_len ((Zdc l ((chgS l).getD i EI0)).take j)
  have h4:=days_len l ((chgS l).getD i EI0)
  rw [List.length_take] at h3
  omega
theorem sp_pandectref29_Days (l:List Gz) (hs:Smal l) (hd:(dds l).length ≤ 100):Zbq Tryz.prog 27 [.sl 4 (l.map Gz.enc)] (.sl 1 ((bpS l).map c.Za2)):=by
  have hcl:=chg_len l
  refine Zao ?_ (closed_ints _) (by simp only [Za1,List.mem_cons,List.not_mem_nil,or_false,forall_eq_or_imp,forall_eq,false_implies,implies_true]; repeat' (first  | exact Zbw _ | exact Zco _ | refine And.intro ?_ ?_))
  refine Zar (vc:=c_pandectref29_Days) (ts:=[.t 2]) Go.Proofs.Tryz.func27 (by kernel_rfl) rfl rfl (Nat.le_of_ble_eq_true rfl) (by kernel_rfl) ?_
  unfold c_pandectref29_Days
  try dsimp only [ZM,ZO,ZN,ZG]
  refine Zad (Zaa [0] ?_)
  simp only [Zab,Zac,Zaf,pok,pval,VA.ev,Env.get,Env.put,Env.keep,Za3,Zae,Heap.nil,ite_true,ite_false,true_and,reduceCtorEq]
  refine Zad (Zaa [0,3] ?_)
  simp only [Zab,Zac,Zaf,pok,pval,VA.ev,Env.get,Env.put,Env.keep,Zae,PV.cells,PV.fits,Heap.push,Zbm,Zbh,List.set,List.replicate,Nat.reduceEqDiff,Nat.reduceLT,ite_true,ite_false,true_and,and_true,reduceCtorEq,BEq.rfl,Nat.zero_add]
  refine VW_freeze [(0,.sl 4 (l.map Gz.enc)),(3,.sl 1 ((bpUp l 0).map c.Za2))] ⟨View.refl _ _,View.own_all (fz:=false) (by simp [Heap.get,HL.get,bpUp,c.Za2,pI]) rfl,trivial⟩ ?_
  try simp only []
  refine Zad (Zaa [0,3,4] ?_)
  simp only [Zab,Zac,Zaf,pok,pval,VA.ev,Env.get,Env.put,Env.keep,Zae,Nat.succ_ne_self,List.map,Nat.reduceEqDiff,ite_true,ite_false,true_and,reduceCtorEq]
  refine Zat (sp_pandectref29_Changes l hs (by omega)) ?_
  skip
  refine Zad ?_
  refine Zad (Zaa [0,3,4,5] ?_)
  simp only [Zab,Zac,Zaf,pok,pval,VA.ev,Env.get,Env.put,Env.keep,Zae,Nat.succ_ne_self,Nat.reduceEqDiff,ite_true,ite_false,true_and,reduceCtorEq]
  refine Zaj ?_
  refine Za6 (σ:={ i:Nat // i ≤ (chgS l).length }) (fun s=>([(0,.sl 4 (l.map Gz.enc)),(3,.sl 1 ((bpUp l s.1).map c.Za2)),(4,.sl 28 ((chgS l).map EI.enc)),(5,pI s.1)],⟨[],1⟩)) (fun s=>(chgS l).length - s.1) ⟨0,Nat.zero_le _⟩ ?_ ?_ ?_
  · simp only [Env.get,Nat.succ_ne_self,Env.le,Nat.reduceEqDiff,ite_true,ite_false,true_and,and_true,reduceCtorEq]
    rfl
  · simp only [Heap.le,HL.le,Nat.le_refl,and_true]
  rintro ⟨i,hi⟩
  simp only []
  refine Zad ?_
  refine Zad (Zaa [0,3,4,5,14] ?_)
  simp only [Zab,Zac,Zaf,pok,pval,VA.ev,Env.get,Env.put,Env.keep,Zae,intV,binV,Zah,lenV,Zba,Heap.le,HL.le,Nat.succ_ne_self,Env.le,Nat.reduceEqDiff,ite_true,ite_false,true_and,and_true,reduceCtorEq,List.length_map]
  refine Zai rfl (fun h1=>?_) (fun h1=>?_)
  · refine Zak ?_
    try simp only [Zae]
    simp only [decide_eq_true_eq] at h1
    have ia:i < (chgS l).length:=by omega
    have hgd:(chgS l).getD i EI0 = (chgS l)[i]:=by rw [List.getD_eq_getElem?_getD,List.getElem?_eq_getElem ia]; rfl
    have hup:=bpUp_step l ia
    have hin:=fun j (h:j < (Zdc l ((chgS l).getD i EI0)).length)=>bpIn_step l i h
    have hil:=fun j=>bpIn_len l i j hd
    have hi0:bpIn l i 0 = bpUp l i:=by unfold bpIn; rfl
    have hdl:=days_len l ((chgS l).getD i EI0)
    rw [hgd] at hup hin hdl
    refine Zad ?_
    refine Zaj ?_
    refine Zad (Zaa [0,3,4,5,6] ?_)
    simp only [Zab,Zac,Zaf,pok,pval,VA.ev,Env.get,Env.put,Env.keep,Zae,aggV,isInt,numOf,lenV,Zag,Zap,Za0,Zas,PV.nth,PV.row,Nat.le_refl,Nat.succ_ne_self,List.map,Nat.reduceEqDiff,Bool.true_eq_false,ite_true,ite_false,true_and,and_true,reduceCtorEq,imp_self,Int.toNat_natCast,List.length_map,rowm ia,ei_t28,Zce]
    repeat (with_reducible refine And.intro ?_ ?_; first | omega | (with_reducible constructor <;> omega) | exact False.elim | exact True.intro)
    refine Zat (sp_pandectref29_Of _ l hs (by omega)) ?_
    skip
    refine Zad (Zaa [0,3,4,5,6,7] ?_)
    simp only [Zab,Zac,Zaf,pok,pval,VA.ev,Env.get,Env.put,Env.keep,Zae,Nat.succ_ne_self,Nat.reduceEqDiff,ite_true,ite_false,true_and,reduceCtorEq]
    generalize Zdc l (chgS l)[i] = D at hup hin hdl ⊢
    refine Zaj ?_
    refine Za6 (σ:={ j:Nat // j ≤ D.length }) (fun s=>([(0,.sl 4 (l.map Gz.enc)),(3,.sl 1 ((bpIn l i s.1).map c.Za2)),(4,.sl 28 ((chgS l).map EI.enc)),(5,pI i),(6,.sl 2 (D.map Sp.enc)),(7,pI s.1)],⟨[],1⟩)) (fun s=>D.length - s.1) ⟨0,Nat.zero_le _⟩ ?_ ?_ ?_
    · simp only [Env.get,Nat.succ_ne_self,Env.le,Nat.reduceEqDiff,ite_true,ite_false,true_and,and_true,reduceCtorEq]
      rw [hi0]
      exact ⟨rfl,rfl⟩
    · simp only [Heap.le,HL.le,Nat.le_refl,and_true]
    rintro ⟨j,hj⟩
    simp only []
    refine Zad ?_
    refine Zad (Zaa [0,3,4,5,6,7,26] ?_)
    simp only [Zab,Zac,Zaf,pok,pval,VA.ev,Env.get,Env.put,Env.keep,Zae,intV,binV,Zah,lenV,Zba,Heap.le,HL.le,Nat.succ_ne_self,Env.le,Nat.reduceEqDiff,ite_true,ite_false,true_and,and_true,reduceCtorEq,List.length_map]
    refine Zai rfl (fun h2=>?_) (fun h2=>?_)
    · refine Zak ?_
      try simp only [Zae]
      simp only [decide_eq_true_eq] at h2
      have ja:j < D.length:=by omega
      have hst:=hin j ja
      have hl1:=hil j
      refine Zad ?_
      refine Zaj ?_
      refine Zad (Zaa [0,3,4,5,6,7] ?_)
      simp only [Zab,Zac,Zaf,pok,pval,VA.ev,Env.get,Env.put,Env.keep,Zae,aggV,isInt,numOf,lenV,Zan,Zam,Zag,Zap,Za0,Zas,PV.nth,PV.row,Nat.succ_ne_self,List.map,List.length,List.getD_cons_zero,List.take,List.drop,List.take_succ_cons,Nat.reduceEqDiff,Nat.reduceAdd,Nat.reduceLeDiff,Bool.false_eq_true,ite_true,ite_false,true_and,and_true,implies_true,reduceCtorEq,Nat.zero_add,List.length_cons,Int.toNat_natCast,List.length_map,rowm ja,Sp.enc]
      repeat (with_reducible refine And.intro ?_ ?_; first | omega | (with_reducible constructor <;> omega) | exact False.elim | exact True.intro)
      refine Zat (sp_pandectref29_Put _ _ (by omega)) ?_
      skip
      have hl2:=putS_len (bpIn l i j) D[j].frm
      refine Zad (Zaa [0,3,4,5,6,7,41] ?_)
      simp only [Zab,Zac,Zaf,pok,pval,VA.ev,Env.get,Env.put,Env.keep,Zae,aggV,intV,binV,Zah,isInt,numOf,lenV,Zan,Zam,Zag,Zap,Za0,Zas,PV.nth,PV.row,Nat.le_refl,Nat.succ_ne_self,List.length,List.getD_cons_zero,List.take,List.drop,List.take_succ_cons,Nat.reduceEqDiff,Bool.false_eq_true,ite_true,ite_false,true_and,and_true,implies_true,reduceCtorEq,Nat.zero_add,List.length_cons,Int.toNat_natCast,List.length_map,rowm ja,Sp.enc]
      repeat (with_reducible refine And.intro ?_ ?_; first | omega | (with_reducible constructor <;> omega) | exact False.elim | exact True.intro)
      refine Zai rfl (fun h3=>?_) (fun h3=>?_)
      · simp only [decide_eq_true_eq] at h3
        rw [if_pos (by omega)] at hst
        refine Zaa [0,3,4,5,6,7] ?_
        simp only [Zab,Zac,Zaf,pok,pval,VA.ev,Env.get,Env.put,Env.keep,Zae,Zal,aggV,isInt,numOf,lenV,Zan,Zam,Zag,Zap,Za0,Zas,PV.nth,PV.row,Nat.le_refl,Nat.succ_ne_self,List.map,List.length,List.getD_cons_zero,List.take,List.drop,List.take_succ_cons,Nat.reduceEqDiff,Bool.false_eq_true,ite_true,ite_false,true_and,and_true,implies_true,reduceCtorEq,Nat.zero_add,List.length_cons,Int.toNat_natCast,List.length_map,rowm ja,Sp.enc]
        repeat (with_reducible refine And.intro ?_ ?_; first | omega | (with_reducible constructor <;> omega) | exact False.elim | exact True.intro)
        refine Zat (sp_pandectref29_Put _ _ (by omega)) ?_
        rw [← hst]
        skip
        refine Zaa [0,3,4,5,6,7] ?_
        simp only [Zab,Zac,Zaf,pok,pval,VA.ev,Env.get,Env.put,Env.keep,Zae,intV,binV,Zah,Nat.le_refl,Nat.succ_ne_self,Nat.reduceEqDiff,ite_true,ite_false,true_and,reduceCtorEq,w64 (n:=(j:Int) + 1) (by omega) (by omega)]
        refine ⟨⟨j + 1,ja⟩,?_,?_⟩
        · exact ⟨rfl,rfl⟩
        · simp only []; omega
      · simp only [decide_eq_false_iff_not] at h3
        rw [if_neg (by omega)] at hst
        rw [← hst]
        refine Zak ?_
        try simp only [Zae,Zal]
        refine Zaa [0,3,4,5,6,7] ?_
        simp only [Zab,Zac,Zaf,pok,pval,VA.ev,Env.get,Env.put,Env.keep,Zae,intV,binV,Zah,Nat.le_refl,Nat.succ_ne_self,Nat.reduceEqDiff,ite_true,ite_false,true_and,reduceCtorEq,w64 (n:=(j:Int) + 1) (by omega) (by omega)]
        refine ⟨⟨j + 1,ja⟩,?_,?_⟩
        · exact ⟨rfl,rfl⟩
        · simp only []; omega
    · simp only [decide_eq_false_iff_not] at h2
      obtain rfl:j = D.length:=by omega
      rw [← hup]
      refine Za4 ?_
      try simp only [Zae,Zal,retQ,Nat.succ_ne_self,ite_true,ite_false,reduceCtorEq]
      refine Zaa [0,3,4,5] ?_
      simp only [Zab,Zac,Zaf,pok,pval,VA.ev,Env.get,Env.put,Env.keep,Zae,intV,binV,Zah,Nat.le_refl,Nat.succ_ne_self,Nat.reduceEqDiff,ite_true,ite_false,true_and,reduceCtorEq,w64 (n:=(i:Int) + 1) (by omega) (by omega)]
      refine ⟨⟨i + 1,ia⟩,?_,?_⟩
      · exact ⟨rfl,rfl⟩
      · simp only []; omega
  · simp only [decide_eq_false_iff_not] at h1
    obtain rfl:i = (chgS l).length:=by omega
    refine Za4 ?_
    try simp only [Zae,Zal,retQ,ite_true]
    refine Zad (Zaa [2] ?_)
    simp only [Zab,Zac,Zaf,pok,pval,VA.ev,Env.get,Env.put,Env.keep,Zae,Nat.succ_ne_self,Nat.reduceEqDiff,ite_true,ite_false,true_and,reduceCtorEq]
    refine Zaq ?_
    try simp only [Env.get,retQ,resV,Zau,RS.ev,RS.ok,ite_true,true_and,and_true]
    have e:bpUp l (chgS l).length = bpS l:=by rw [bp_fold]; unfold bpUp; rw [List.take_length]
    rw [e]
    exact View.refl _ _
end Go.Proofs.YtehokmhebnkfdaaGreat.w
