import Derived.Test.YtehokmhebnkfdaaGreatH2
import Derived.Test.YtehokmhebnkfdaaGreatH8
set_option linter.all false
namespace Go.Proofs.YtehokmhebnkfdaaGreat.w
open Go Go.VM
set_option maxRecDepth 20000
set_option maxHeartbeats 0
set_option pp.deepTerms false
def c_pandectref28_Same:VC:=(.seq (.region [ZO 2 (.box 28 (.t 0)),ZO 3 (.box 28 (.t 1)),ZO 4 (.mv (.c (.bool false)))] false) (.seq (.region [ZO 5 (.faddr 0 (.t 2)),ZO 6 (.load false 1 (.t 5)),ZO 7 (.faddr 0 (.t 3)),ZO 8 (.load false 1 (.t 7)),ZO 9 (.bin .eql (.t 6) (.t 8)),ZM 10 9,ZG 11 (.faddr 1 (.t 2)) 10 true,ZG 12 (.load false 1 (.t 11)) 10 true,ZG 13 (.faddr 1 (.t 3)) 10 true,ZG 14 (.load false 1 (.t 13)) 10 true,ZG 15 (.bin .eql (.t 12) (.t 14)) 10 true,ZO 16 (.pick (.t 10) (.t 15) (.c (.bool false))),ZM 17 16,ZG 18 (.faddr 2 (.t 2)) 17 true,ZG 19 (.load false 1 (.t 18)) 17 true,ZG 20 (.faddr 2 (.t 3)) 17 true,ZG 21 (.load false 1 (.t 20)) 17 true,ZG 22 (.bin .eql (.t 19) (.t 21)) 17 true,ZO 23 (.pick (.t 17) (.t 22) (.c (.bool false))),ZM 24 23,ZG 25 (.faddr 3 (.t 2)) 24 true,ZG 26 (.load true 25 (.t 25)) 24 true,ZG 27 (.faddr 3 (.t 3)) 24 true,ZG 28 (.load true 25 (.t 27)) 24 true,ZG 29 (.call 63 [(.t 26),(.t 28)]) 24 true,ZO 30 (.pick (.t 24) (.t 29) (.c (.bool false))),ZM 4 30] false) .ret))
def c_pandectref28_Rows:VC:=(.seq (.region [ZO 4 (.mv (.c (.bool false)))] false) (.seq (.seq (.region [ZM 6 0,ZO 7 (.len false (.t 6)),ZM 8 1,ZO 9 (.len false (.t 8)),ZO 10 (.bin .neq (.t 7) (.t 9))] false) (.cond (.t 10) (.seq (.region [ZO 4 (.mv (.c (.bool false)))] false) .ret) .skip)) (.seq (.seq (.region [ZO 5 (.mv (.c (.int .i64 0)))] false) (.block 0 (.loop (.seq (.seq (.region [ZM 11 5,ZM 12 0,ZO 13 (.len false (.t 12)),ZO 14 (.bin .lss (.t 11) (.t 13))] false) (.cond (.t 14) .skip (.exit 0))) (.seq (.block 1 (.seq (.region [ZM 17 0,ZM 18 5,ZO 19 (.iaddr 28 (.t 17) (.t 18)),ZO 20 (.load true 28 (.t 19)),ZM 21 1,ZM 22 5,ZO 23 (.iaddr 28 (.t 21) (.t 22)),ZO 24 (.load true 28 (.t 23)),ZO 25 (.call 37 [(.t 20),(.t 24)]),ZO 26 (.un .not (.t 25))] true) (.cond (.t 26) (.seq (.region [ZO 4 (.mv (.c (.bool false)))] false) .ret) .skip))) (.region [ZM 15 5,ZO 16 (.bin .add (.t 15) (.c (.int .i64 1))),ZM 5 16] false)))))) (.seq (.region [ZO 4 (.mv (.c (.bool true)))] false) .ret))))
theorem ei_ext {a b:EI} (h1:a.act = b.act) (h2:a.item = b.item) (h3:a.day = b.day) (h4:a.it = b.it):a = b:=by cases a; cases b; simp_all
theorem sp_pandectref28_Same (a b:EI) (ha:a.ok) (hb:b.ok):Zbq Tryz.prog 37 [.agg a.enc,.agg b.enc] (.bool (eqB a b)):=by
  refine Zao ?_ (cB _) (by simp only [Za1,List.mem_cons,List.not_mem_nil,or_false,forall_eq_or_imp,forall_eq,false_implies,implies_true]; repeat' (first  | exact cB _ | exact Zax (EI.closed _) | refine And.intro ?_ ?_))
  refine Zar (vc:=c_pandectref28_Same) (ts:=[.t 4]) Go.Proofs.Tryz.func37 (by kernel_rfl) rfl rfl (Nat.le_of_ble_eq_true rfl) (by kernel_rfl) ?_
  unfold c_pandectref28_Same
  try dsimp only [ZM,ZO,ZN,ZG]
  refine Zad (Zaa [2,3] ?_)
  simp only [Zab,Zac,Zaf,pok,pval,VA.ev,Env.get,Env.put,Env.keep,Za3,Zae,PV.cells,PV.fits,Heap.push,Heap.nil,Nat.succ_ne_self,Nat.reduceEqDiff,Nat.reduceAdd,ite_true,ite_false,true_and,reduceCtorEq,BEq.rfl,Nat.zero_add,Zce]
  refine Zad (Zaa [4] ?_)
  cases e1:(a.act == b.act) with
  | false =>
    simp only [Zab,Zac,Zbi,Zaf,pok,pval,VA.ev,Env.get,Env.put,Env.keep,Zae,Zaw,isBool,aggV,intV,binV,Zah,Zan,Zam,Zag,Zap,PV.nth,PV.row,Heap.get,HL.get,Nat.succ_ne_self,List.length,List.getD_cons_zero,List.drop,Nat.reduceEqDiff,Nat.reduceLT,Nat.reduceLeDiff,Bool.false_eq_true,ite_true,ite_false,true_and,and_true,implies_true,reduceCtorEq,Nat.zero_add,Nat.add_zero,Zce,ei_act,e1]
    refine Zaq ?_
    try simp only [Env.get,retQ,resV,Zau,RS.ev,RS.ok,ite_true,true_and,and_true]
    rw [eqB_f (fun e=>by subst e; simp at e1)]
    exact View.refl _ _
  | true =>
    cases e2:(a.item == b.item) with
    | false =>
      simp only [Zab,Zac,Zaz,Zbi,Zaf,pok,pval,VA.ev,Env.get,Env.put,Env.keep,Zae,Zaw,isBool,aggV,intV,binV,Zah,Zan,Zam,Zag,Zap,PV.nth,PV.row,Heap.get,HL.get,Nat.succ_ne_self,List.length,List.getD_cons_zero,List.drop,Nat.reduceEqDiff,Nat.reduceLT,Nat.reduceLeDiff,Bool.false_eq_true,ite_true,ite_false,true_and,and_true,implies_true,reduceCtorEq,Nat.zero_add,Nat.add_zero,Zce,ei_act,ei_item,ei_l1,e1,e2]
      refine Zaq ?_
      try simp only [Env.get,retQ,resV,Zau,RS.ev,RS.ok,ite_true,true_and,and_true]
      rw [eqB_f (fun e=>by subst e; simp at e2)]
      exact View.refl _ _
    | true =>
      cases e3:(a.day == b.day) with
      | false =>
        simp only [Zab,Zac,Zaz,Zbi,Zaf,pok,pval,VA.ev,Env.get,Env.put,Env.keep,Zae,Zaw,isBool,aggV,intV,binV,Zah,Zan,Zam,Zag,Zap,PV.nth,PV.row,Heap.get,HL.get,Nat.succ_ne_self,List.length,List.getD_cons_zero,List.drop,Nat.reduceEqDiff,Nat.reduceLT,Nat.reduceLeDiff,Bool.false_eq_true,ite_true,ite_false,true_and,and_true,implies_true,reduceCtorEq,Nat.zero_add,Nat.add_zero,Zce,ei_act,ei_item,ei_l1,ei_day,ei_l2,e1,e2,e3]
        refine Zaq ?_
        try simp only [Env.get,retQ,resV,Zau,RS.ev,RS.ok,ite_true,true_and,and_true]
        rw [eqB_f (fun e=>by subst e; simp at e3)]
        exact View.refl _ _
      | true =>
        simp only [Zab,Zac,Zaz,Zaf,pok,pval,VA.ev,Env.get,Env.put,Env.keep,Zae,Zaw,isBool,aggV,intV,binV,Zah,Zan,Zam,Zag,Zap,PV.nth,PV.row,Heap.get,HL.get,Nat.le_refl,Nat.succ_ne_self,List.map,List.length,List.getD_cons_zero,List.drop,Nat.reduceEqDiff,Nat.reduceLT,Nat.reduceLeDiff,Bool.false_eq_true,Bool.true_eq_false,ite_true,ite_false,true_and,and_true,implies_true,reduceCtorEq,Nat.zero_add,Nat.add_zero,imp_self,Zce,ei_act,ei_item,ei_l1,ei_day,ei_l2,e1,e2,e3,ei_it,Zca,Zbr]
        refine Zat (sp_pandectref17_Same a.it b.it ha.2.2.2 hb.2.2.2) ?_
        have hh:eqB a.it b.it = eqB a b:=by
          simp only [beq_iff_eq] at e1 e2 e3
          by_cases h:a.it = b.it
          · rw [eqB_t h,eqB_t (ei_ext e1 e2 e3 h)]
          · rw [eqB_f h,eqB_f (fun e=>h (by rw [e]))]
        skip
        refine Zaq ?_
        try simp only [Env.get,retQ,resV,Zau,RS.ev,RS.ok,ite_true,true_and,and_true]
        rw [hh]
        exact View.refl _ _
theorem sp_pandectref28_Rows (l:List EI) (hl:l.length ≤ 1000000) (hok:∀ d ∈ l,d.ok):Zbq Tryz.prog 13 [.sl 28 (l.map EI.enc),.sl 28 (l.map EI.enc)] (.bool true):=by
  refine Zao ?_ (cB _) (by simp only [Za1,List.mem_cons,List.not_mem_nil,or_false,forall_eq_or_imp,forall_eq,false_implies,implies_true]; repeat' (first  | exact cB _ | exact Zav _ | exact Zay _ | refine And.intro ?_ ?_))
  refine Zar (vc:=c_pandectref28_Rows) (ts:=[.t 4]) Go.Proofs.Tryz.func13 (by kernel_rfl) rfl rfl (Nat.le_of_ble_eq_true rfl) (by kernel_rfl) ?_
  unfold c_pandectref28_Rows
  try dsimp only [ZM,ZO,ZN,ZG]
  refine Zad (Zaa [0,1] ?_)
  simp only [Zab,Zac,Zaf,pok,pval,VA.ev,Env.get,Env.put,Env.keep,Za3,Zae,Heap.nil,Nat.succ_ne_self,Nat.reduceEqDiff,ite_true,ite_false,true_and,reduceCtorEq,Nat.zero_add]
  refine Zad ?_
  refine Zad (Zaa [0,1,10] ?_)
  simp only [Zab,Zac,Zaf,pok,pval,VA.ev,Env.get,Env.put,Env.keep,Zae,intV,binV,Zah,lenV,Zba,Nat.succ_ne_self,Nat.reduceEqDiff,ite_true,ite_false,true_and,reduceCtorEq,List.length_map]
  refine Zai rfl (fun h1=>?_) (fun h1=>?_)
  · simp at h1
  refine Zak ?_
  try simp only [Zae]
  refine Zad ?_
  refine Zad (Zaa [0,1,5] ?_)
  simp only [Zab,Zac,Zaf,pok,pval,VA.ev,Env.get,Env.put,Env.keep,Zae,Nat.succ_ne_self,Nat.reduceEqDiff,ite_true,ite_false,true_and,reduceCtorEq]
  refine Zaj ?_
  refine Za6 (σ:={ i:Nat // i ≤ l.length }) (fun s=>([(0,.sl 28 (l.map EI.enc)),(1,.sl 28 (l.map EI.enc)),(5,pI s.1)],⟨[],0⟩)) (fun s=>l.length - s.1) ⟨0,Nat.zero_le _⟩ ?_ ?_ ?_
  · try simp only [Env.get,Nat.succ_ne_self,Env.le,Nat.reduceEqDiff,ite_true,ite_false,true_and,and_true,reduceCtorEq]
    all_goals (repeat' (first | rfl | trivial | omega | (simp only []; omega) | refine And.intro ?_ ?_))
  · try simp only [Heap.le,HL.le,Nat.le_refl,and_true]
    all_goals (repeat' (first | rfl | trivial | omega | (simp only []; omega) | refine And.intro ?_ ?_))
  rintro ⟨i,hi⟩
  simp only []
  refine Zad ?_
  refine Zad (Zaa [0,1,5,14] ?_)
  simp only [Zab,Zac,Zaf,pok,pval,VA.ev,Env.get,Env.put,Env.keep,Zae,intV,binV,Zah,lenV,Zba,Heap.le,HL.le,Nat.succ_ne_self,Env.le,Nat.reduceEqDiff,ite_true,ite_false,true_and,and_true,reduceCtorEq,List.length_map]
  refine Zai rfl (fun h2=>?_) (fun h2=>?_)
  · refine Zak ?_
    try simp only [Zae]
    simp only [decide_eq_true_eq] at h2
    have ia:i < l.length:=by omega
    have hk:=hok _ (List.getElem_mem ia)
    refine Zad ?_
    refine Zaj ?_
    refine Zad (Zb6 [0,1,5,26] (by simp [Heap.le,Heap.get,HL.le,HL.get]) ?_)
    simp only [Zbn,Zb5,QW,dok,dval,VOp.pure,VOp.simple,VOp.det,pok,pval,VA.ev,Env.get,Env.put,Env.keep,Zae,gd,aggV,unV,unOk,isInt,numOf,lenV,Zag,Zap,Za0,Zas,PV.nth,PV.row,Nat.le_refl,Nat.succ_ne_self,Nat.reduceEqDiff,Bool.true_eq_false,ite_true,ite_false,true_and,and_true,implies_true,forall_const,reduceCtorEq,imp_self,Int.toNat_natCast,List.length_map,rowm ia,ei_t28,Zce]
    repeat (with_reducible refine And.intro ?_ ?_; first | omega | (with_reducible constructor <;> omega) | exact False.elim | exact True.intro)
    refine ⟨_,.inl (sp_pandectref28_Same l[i] l[i] hk hk),?_⟩
    rw [eqB_t rfl]
    simp only [true_and,Bool.not_true]
    refine Zai rfl (fun h3=>by cases h3) (fun h3=>?_)
    refine Zak ?_
    try simp only [Zae,Zal]
    refine Zaa [0,1,5] ?_
    simp only [Zab,Zac,Zaf,pok,pval,VA.ev,Env.get,Env.put,Env.keep,Zae,intV,binV,Zah,Nat.le_refl,Nat.succ_ne_self,Nat.reduceEqDiff,ite_true,ite_false,true_and,reduceCtorEq,ad1 (a:=i) (by omega)]
    refine ⟨⟨i + 1,ia⟩,?_⟩
    try simp only [true_and]
    all_goals (repeat' (first | rfl | trivial | omega | (simp only []; omega) | refine And.intro ?_ ?_))
  · refine Za4 ?_
    try simp only [Zae,Zal,retQ,ite_true]
    refine Zad (Zaa [4] ?_)
    simp only [Zab,Zac,Zaf,pok,pval,VA.ev,Env.get,Env.put,Env.keep,Zae,Nat.succ_ne_self,Nat.reduceEqDiff,ite_true,ite_false,true_and,reduceCtorEq]
    refine Zaq ?_
    try simp only [Env.get,retQ,resV,Zau,RS.ev,RS.ok,ite_true,true_and,and_true]
    exact View.refl _ _
end Go.Proofs.YtehokmhebnkfdaaGreat.w
namespace Go.Proofs.YtehokmhebnkfdaaGreat.w
open Go Go.VM
set_option maxRecDepth 20000
set_option maxHeartbeats 0
theorem fst_sub:∀ (r:List Ac) (s:List Int),(fstA s r).Sublist r
  | [],_=>List.Sublist.slnil
  | x :: r,s=>by
    unfold fstA
    split
    · exact (fst_sub r s).cons x
    · exact (fst_sub r _).cons_cons x
theorem actsS_perm (row:List Ac):(Zb1 row).Perm (fstA [] row):=by
  have:=(fold_insA (fstA [] row) [] List.Pairwise.nil).2
  simpa [Zb1] using this
theorem mem_actsS {row:List Ac} {a:Ac} (h:a ∈ Zb1 row):a ∈ row:=(fst_sub row []).subset ((actsS_perm row).mem_iff.1 h)
theorem itemsS_perm {a b:List Ac} (h:a.Perm b):(Zbc a).length = (Zbc b).length:=(h.flatMap_right _).length_eq
theorem itemsS_sub {a b:List Ac} (h:a.Sublist b):(Zbc a).length ≤ (Zbc b).length:=by
  induction h with
  | slnil=>exact Nat.le_refl _
  | cons x _ ih=>simp only [Zbc,List.flatMap_cons,List.length_append] at ih ⊢; omega
  | cons_cons x _ ih=>simp only [Zbc,List.flatMap_cons,List.length_append] at ih ⊢; omega
theorem acts_items (row:List Ac):(Zbc (Zb1 row)).length ≤ (Zbc row).length:=by
  rw [itemsS_perm (actsS_perm row)]; exact itemsS_sub (fst_sub row [])
structure Nice (l : List Gz) : Prop where
  ok : ∀ g ∈ l, g.okZ
  len : l.length ≤ 1000
  row : (rowG l).length ≤ 1000000
  items : (Zbc (rowG l)).length ≤ 1000
theorem rowG_app (a b:List Gz):rowG (a ++ b) = rowG a ++ rowG b:=by simp [rowG]
theorem Nice.take {l:List Gz} (h:Nice l) (k:Nat):Nice (l.take k):=by
  refine ⟨fun g hg=>h.ok g (List.mem_of_mem_take hg),by have:=h.len; simp; omega,by have:=rowG_le l k; have:=h.row; omega,?_⟩
  have e:rowG l = rowG (l.take k) ++ rowG (l.drop k):=by rw [← rowG_app,List.take_append_drop]
  have:=h.items
  rw [e,itemsS_app,List.length_append] at this
  omega
theorem Nice.left {a b:List Gz} (h:Nice (a ++ b)):Nice a:=by
  have:=h.take a.length
  rwa [List.take_left] at this
theorem Nice.smal {l:List Gz} (h:Nice l):Smal l:=⟨by have:=h.len; omega,h.row,by have:=acts_items (rowG l); have:=h.items; omega⟩
theorem row_le8:∀ (l:List Gz),(∀ g ∈ l,g.acts.length ≤ 8) → (rowG l).length ≤ 8 * l.length
  | [],_=>by simp [rowG]
  | g :: r,h=>by
    have ih:=row_le8 r (fun x hx=>h x (List.mem_cons_of_mem _ hx))
    have:=h g List.mem_cons_self
    simp only [rowG,List.flatMap_cons,List.length_append,List.length_cons] at ih ⊢
    omega
theorem nice_of_few {m:Nat} {l:List Gz} (hm:m ≤ 1000) (hok:okL Gz.okZ l) (h:FewG m l):Nice l :=
  ⟨hok.2,by have:=h.1; omega,by have:=row_le8 l h.2.1; have:=h.1; omega,by have:=h.2.2; omega⟩
theorem by_ok {x:It} (h:x.ok):∀ k ∈ x.by',k.ok:=(it_ok h).by'
theorem fixOf_ok {x:It} (h:x.ok) {p:(Int × Int) × It} (hp:fixOf x = some p):p.2.ok:=by
  unfold fixOf at hp
  split at hp
  · split at hp
    · cases hp
    · rename_i b r hb
      split at hp
      · cases hp; exact by_ok h b (by rw [hb]; exact List.mem_cons_self)
      · cases hp
  · cases hp
theorem fixAt_ok (k:Int × Int):∀ (xs:List It) (o:Option It),(∀ x ∈ xs,x.ok) → (∀ y,o = some y → y.ok) → ∀ y,xs.foldl (fixAt k) o = some y → y.ok
  | [],o,_,ho,y,hy=>ho y hy
  | x :: r,o,hx,ho,y,hy=>by
    refine fixAt_ok k r (fixAt k o x) (fun z hz=>hx z (List.mem_cons_of_mem _ hz)) (fun z hz=>?_) y hy
    unfold fixAt at hz
    cases hf:fixOf x with
    | none=>rw [hf] at hz; exact ho z hz
    | some p =>
      rw [hf] at hz
      simp only at hz
      split at hz
      · cases hz; exact fixOf_ok (hx x List.mem_cons_self) hf
      · exact ho z hz
theorem corrS_ok {xs:List It} (hx:∀ x ∈ xs,x.ok) (k:Int × Int) {it:It} (h:it.ok):(corrS xs k it).ok:=by
  unfold corrS
  split
  · cases hf:xs.foldl (fixAt k) none with
    | none=>exact h
    | some y=>exact fixAt_ok k xs none hx (fun y hy=>by cases hy) y hf
  · exact h
theorem deed_mem {n d:Int}:∀ {l:List It} {k:Nat} {e:EI},e ∈ deedsFrom n d k l → ∃ j,∃ h:j < l.length,e = ⟨n,((k + j:Nat):Int),d,l[j]⟩
  | x :: r,k,e,h=>by
    rcases List.mem_cons.1 h with rfl | h'
    · exact ⟨0,by simp,by simp⟩
    · obtain ⟨j,hj,rfl⟩:=deed_mem h'
      refine ⟨j + 1,by simpa using hj,?_⟩
      simp; omega
theorem mem_deedsF {xs:List It} {acts:List Ac} {e:EI}:e ∈ Zcg xs acts ↔ ∃ a ∈ acts,∃ j,∃ h:j < a.items.length,e = ⟨a.number,(j:Nat),a.day,corrS xs (a.number,(j:Nat)) a.items[j]⟩:=by
  simp only [Zcg,List.mem_flatMap,List.mem_map]
  constructor
  · rintro ⟨a,ha,d,hd,rfl⟩
    obtain ⟨j,hj,rfl⟩:=deed_mem (by simpa [deeds] using hd)
    exact ⟨a,ha,j,hj,by simp [fixE]⟩
  · rintro ⟨a,ha,j,hj,rfl⟩
    refine ⟨a,ha,⟨a.number,(j:Nat),a.day,a.items[j]⟩,?_,rfl⟩
    have:=deed_get a j hj
    rw [← this]; exact List.getElem_mem _
theorem deeds_ok {acts:List Ac} (hok:∀ a ∈ acts,a.okZ) (hn:(Zbc acts).length ≤ 1000000):∀ d ∈ deedsS acts,d.ok:=by
  intro d hd
  obtain ⟨a,ha,j,hj,rfl⟩:=mem_deedsF.1 hd
  have h1:=(hok a ha).1
  have h2:=items_each acts a ha
  refine ⟨h1.1,by show i64 (j:Nat); rw [i64_iff]; omega,h1.2.2.1,corrS_ok (fun x hx=>?_) _ (h1.2.2.2.2.2 _ (List.getElem_mem hj))⟩
  simp only [Zbc,List.mem_flatMap] at hx
  obtain ⟨b,hb,hxb⟩:=hx
  exact (hok b hb).1.2.2.2.2.2 x hxb
theorem Nice.acts_ok {l:List Gz} (h:Nice l):∀ a ∈ Zb1 (rowG l),a.okZ:=by
  intro a ha
  have:=mem_actsS ha
  simp only [rowG,List.mem_flatMap] at this
  obtain ⟨g,hg,hag⟩:=this
  exact (h.ok g hg).2.2.2.2 a hag
theorem Nice.deeds_ok {l:List Gz} (h:Nice l):∀ d ∈ deedsS (Zb1 (rowG l)),d.ok:=w.deeds_ok h.acts_ok h.smal.items
end Go.Proofs.YtehokmhebnkfdaaGreat.w
