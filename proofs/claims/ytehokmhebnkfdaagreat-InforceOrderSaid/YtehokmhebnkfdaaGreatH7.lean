import Derived.Test.YtehokmhebnkfdaaGreatH5
import Derived.Test.YtehokmhebnkfdaaGreatVmAa
set_option linter.all false
namespace Go.Proofs.YtehokmhebnkfdaaGreat.w
open Go Go.VM
set_option maxRecDepth 20000
set_option maxHeartbeats 0
set_option pp.deepTerms false
def c_pandectref28_Few:VC:=(.seq (.region [ZO 4 (.mv (.c (.bool false)))] false) (.seq (.seq (.region [ZM 10 0,ZO 11 (.len false (.t 10)),ZO 12 (.bin .gtr (.t 11) (.c (.int .i64 8)))] false) (.cond (.t 12) (.seq (.region [ZO 4 (.mv (.c (.bool false)))] false) .ret) .skip)) (.seq (.region [ZO 5 (.mv (.c (.int .i64 0)))] false) (.seq (.seq (.region [ZO 6 (.mv (.c (.int .i64 0)))] false) (.block 0 (.loop (.seq (.seq (.region [ZM 13 6,ZM 14 0,ZO 15 (.len false (.t 14)),ZO 16 (.bin .lss (.t 13) (.t 15))] false) (.cond (.t 16) .skip (.exit 0))) (.seq (.block 1 (.seq (.seq (.region [ZM 19 0,ZM 20 6,ZO 21 (.iaddr 4 (.t 19) (.t 20)),ZO 22 (.faddr 3 (.t 21)),ZO 23 (.load false 1 (.t 22)),ZO 24 (.len false (.t 23)),ZO 25 (.bin .gtr (.t 24) (.c (.int .i64 8))),ZM 26 25,ZG 27 (.mv (.t 0)) 26 false,ZG 28 (.mv (.t 6)) 26 false,ZG 29 (.iaddr 4 (.t 27) (.t 28)) 26 false,ZG 30 (.faddr 2 (.t 29)) 26 false,ZG 31 (.load false 1 (.t 30)) 26 false,ZG 32 (.len true (.t 31)) 26 false,ZG 33 (.bin .gtr (.t 32) (.c (.int .i64 60))) 26 false,ZO 34 (.pick (.t 26) (.c (.bool true)) (.t 33))] false) (.cond (.t 34) (.seq (.region [ZO 4 (.mv (.c (.bool false)))] false) .ret) .skip)) (.seq (.region [ZO 7 (.mv (.c (.int .i64 0)))] false) (.block 2 (.loop (.seq (.seq (.region [ZM 35 7,ZM 36 0,ZM 37 6,ZO 38 (.iaddr 4 (.t 36) (.t 37)),ZO 39 (.faddr 3 (.t 38)),ZO 40 (.load false 1 (.t 39)),ZO 41 (.len false (.t 40)),ZO 42 (.bin .lss (.t 35) (.t 41))] false) (.cond (.t 42) .skip (.exit 2))) (.seq (.block 3 (.seq (.region [ZM 45 0,ZM 46 6,ZO 47 (.iaddr 4 (.t 45) (.t 46)),ZO 48 (.faddr 3 (.t 47)),ZO 49 (.load false 1 (.t 48)),ZM 50 7,ZO 51 (.iaddr 7 (.t 49) (.t 50)),ZO 52 (.load true 7 (.t 51)),ZO 8 (.alloc [(.int .i64 0),(.str []),(.int .i64 0),(.int .i64 0),(.int .i64 0),(.str []),.nilsl]),ZN (.store 7 (.t 8) (.t 52))] false) (.seq (.region [ZM 53 5,ZO 54 (.faddr 6 (.t 8)),ZO 55 (.load false 1 (.t 54)),ZO 56 (.len false (.t 55)),ZO 57 (.bin .add (.t 53) (.t 56)),ZM 5 57] false) (.seq (.seq (.region [ZM 58 5,ZM 59 1,ZO 60 (.bin .gtr (.t 58) (.t 59)),ZM 61 60,ZG 62 (.faddr 1 (.t 8)) 61 false,ZG 63 (.load false 1 (.t 62)) 61 false,ZG 64 (.len true (.t 63)) 61 false,ZG 65 (.bin .gtr (.t 64) (.c (.int .i64 100))) 61 false,ZO 66 (.pick (.t 61) (.c (.bool true)) (.t 65)),ZM 67 66,ZG 68 (.faddr 3 (.t 8)) 67 false,ZG 69 (.faddr 2 (.t 68)) 67 false,ZG 70 (.load false 1 (.t 69)) 67 false,ZG 71 (.len true (.t 70)) 67 false,ZG 72 (.bin .gtr (.t 71) (.c (.int .i64 60))) 67 false,ZO 73 (.pick (.t 67) (.c (.bool true)) (.t 72))] false) (.cond (.t 73) (.seq (.region [ZO 4 (.mv (.c (.bool false)))] false) .ret) .skip)) (.seq (.region [ZO 9 (.mv (.c (.int .i64 0)))] false) (.block 4 (.loop (.seq (.seq (.region [ZM 74 9,ZO 75 (.faddr 6 (.t 8)),ZO 76 (.load false 1 (.t 75)),ZO 77 (.len false (.t 76)),ZO 78 (.bin .lss (.t 74) (.t 77))] false) (.cond (.t 78) .skip (.exit 4))) (.seq (.block 5 (.seq (.region [ZO 81 (.faddr 6 (.t 8)),ZO 82 (.load false 1 (.t 81)),ZM 83 9,ZO 84 (.iaddr 25 (.t 82) (.t 83)),ZO 85 (.load true 25 (.t 84)),ZO 86 (.call 41 [(.t 85)]),ZO 87 (.un .not (.t 86))] false) (.cond (.t 87) (.seq (.region [ZO 4 (.mv (.c (.bool false)))] false) .ret) .skip))) (.region [ZM 79 9,ZO 80 (.bin .add (.t 79) (.c (.int .i64 1))),ZM 9 80] false)))))))))) (.region [ZM 43 7,ZO 44 (.bin .add (.t 43) (.c (.int .i64 1))),ZM 7 44] false)))))))) (.region [ZM 17 6,ZO 18 (.bin .add (.t 17) (.c (.int .i64 1))),ZM 6 18] false)))))) (.seq (.region [ZO 4 (.mv (.c (.bool true)))] false) .ret)))))
def FewG (m:Nat) (l:List Gz):Prop:=l.length ≤ 8 ∧ (∀ g ∈ l,g.acts.length ≤ 8) ∧ (Zba (rowG l)).length ≤ m
theorem itemsS_app (a b:List Ac):Zba (a ++ b) = Zba a ++ Zba b:=by simp [Zba]
theorem itemsS_one (a:Ac):Zba [a] = a.items:=by simp [Zba]
theorem gz_prior (x:Gz):((x.enc.drop 2).take 1).getD 0 .any = .str x.prior:=rfl
theorem gz_l2 (x:Gz):(x.enc.drop 2).length = 2:=rfl
theorem gz_l3 (x:Gz):(x.enc.drop 3).length = 1:=rfl
theorem ac_title (x:Ac):((x.enc.drop 1).take 1).getD 0 .any = .str x.title:=rfl
theorem ac_event (x:Ac):((x.enc.drop 5).take 1).getD 0 .any = .str x.start.event:=rfl
theorem ac_l1 (x:Ac):(x.enc.drop 1).length = 6:=rfl
theorem ac_l5 (x:Ac):(x.enc.drop 5).length = 2:=rfl
theorem few_false {h:Heap} {Z:Prop}:∃ p,View h (.bool false) p ∧ (∃ b,p = .bool b ∧ (b = true → Z)) ∧ Closed p:=⟨_,View.refl _ _,⟨false,rfl,fun h=>Bool.noConfusion h⟩,cB _⟩
theorem gz_acts0 (x:Gz):((x.enc.drop 3).take 1).getD 0 .any = .sl 7 (x.acts.map Ac.enc):=rfl
theorem ac_items0 (x:Ac):((x.enc.drop 6).take 1).getD 0 .any = .sl 25 (x.items.map It.enc):=rfl
theorem ac_d3 (x:Ac):(x.enc.drop 3).length = 4:=rfl
theorem sp_few28 (l:List Gz) (m:Nat) (hm:m ≤ 1000) (hok:okL Gz.okZ l):PCallS Tryz.prog 18 [.sl 4 (l.map Gz.enc),pI m] (fun p=>∃ b,p = .bool b ∧ (b = true → FewG m l)):=by
  refine Zdf ?_ (clo2 (Zbp _) (cI _))
  refine Zaq (vc:=c_pandectref28_Few) (ts:=[.t 4]) Go.Proofs.Tryz.func18 (by kernel_rfl) rfl rfl (Nat.le_of_ble_eq_true rfl) (by kernel_rfl) ?_
  unfold c_pandectref28_Few
  try dsimp only [ZM,ZO,ZN,ZG]
  refine Zac (Zaa [0,1] ?_)
  simp only [Zab,Zad,Zaf,pok,pval,VA.ev,Env.get,Env.put,Env.keep,Za2,Zae,Heap.nil,Nat.succ_ne_self,Nat.reduceEqDiff,ite_true,ite_false,true_and,reduceCtorEq,Nat.zero_add]
  refine Zac ?_
  refine Zac (Zaa [0,1,12] ?_)
  simp only [Zab,Zad,Zaf,pok,pval,VA.ev,Env.get,Env.put,Env.keep,Zae,intV,binV,Zah,lenV,Za8,Nat.succ_ne_self,Nat.reduceEqDiff,ite_true,ite_false,true_and,reduceCtorEq,List.length_map]
  refine Zai rfl (fun h1=>?_) (fun h1=>?_)
  · refine Zac (Zaa [4] ?_)
    simp only [Zab,Zad,Zaf,pok,pval,VA.ev,Env.get,Env.put,Env.keep,Zae,Nat.reduceEqDiff,ite_true,ite_false,true_and,reduceCtorEq]
    refine Zar ?_
    try simp only [Env.get,Zae,retQ,resV,Zau,RS.ev,RS.ok,ite_true,true_and,and_true]
    exact few_false
  refine Zak ?_
  try simp only [Zae]
  simp only [decide_eq_false_iff_not] at h1
  have hl8:l.length ≤ 8:=by omega
  refine Zac (Zaa [0,1,5] ?_)
  simp only [Zab,Zad,Zaf,pok,pval,VA.ev,Env.get,Env.put,Env.keep,Zae,Nat.succ_ne_self,Nat.reduceEqDiff,ite_true,ite_false,true_and,reduceCtorEq]
  refine Zac ?_
  refine Zac (Zaa [0,1,5,6] ?_)
  simp only [Zab,Zad,Zaf,pok,pval,VA.ev,Env.get,Env.put,Env.keep,Zae,Nat.succ_ne_self,Nat.reduceEqDiff,ite_true,ite_false,true_and,reduceCtorEq]
  refine Zaj ?_
  refine Za4 (σ:={ s:Nat × Nat // s.1 ≤ l.length ∧ (∀ g ∈ l.take s.1,g.acts.length ≤ 8) ∧ (Zba (rowG (l.take s.1))).length ≤ m }) (fun s=>([(0,.sl 4 (l.map Gz.enc)),(1,pI m),(5,pI (Zba (rowG (l.take s.1.1))).length),(6,pI s.1.1)],⟨[],s.1.2⟩)) (fun s=>l.length - s.1.1) ⟨(0,0),⟨Nat.zero_le _,fun g hg=>by simp at hg,by simp [rowG,Zba]⟩⟩ ?_ ?_ ?_
  · try simp only [Env.get,Nat.succ_ne_self,Env.le,List.take,Nat.reduceEqDiff,ite_true,ite_false,true_and,and_true,reduceCtorEq,List.length_nil,List.take_zero,rowG,Zba,List.flatMap_nil]
    all_goals (repeat' (first | rfl | trivial | omega | (simp only []; omega) | refine And.intro ?_ ?_))
  · try simp only [Heap.le,HL.le,Nat.le_refl,and_true]
    all_goals (repeat' (first | rfl | trivial | omega | (simp only []; omega) | refine And.intro ?_ ?_))
  rintro ⟨⟨i,t⟩,hi,hg8,hmi⟩
  simp only [] at hi hg8 hmi ⊢
  refine Zac ?_
  refine Zac (Zaa [0,1,5,6,16] ?_)
  simp only [Zab,Zad,Zaf,pok,pval,VA.ev,Env.get,Env.put,Env.keep,Zae,intV,binV,Zah,lenV,Za8,Heap.le,HL.le,Nat.succ_ne_self,Env.le,Nat.reduceEqDiff,ite_true,ite_false,true_and,and_true,reduceCtorEq,List.length_map]
  refine Zai rfl (fun h2=>?_) (fun h2=>?_)
  · refine Zak ?_
    try simp only [Zae]
    simp only [decide_eq_true_eq] at h2
    have ia:i < l.length:=by omega
    have hrow:=rowG_take ia
    have hgok:=hok.2 l[i] (List.getElem_mem ia)
    have rg:=rowm (enc:=Gz.enc) ia
    have hg8':l[i].acts.length ≤ 8 → ∀ g ∈ l.take (i + 1),g.acts.length ≤ 8:=by
      intro h g hg
      rw [List.take_add_one,List.getElem?_eq_getElem ia] at hg
      rcases List.mem_append.1 hg with h' | h'
      · exact hg8 g h'
      · simp only [Option.toList_some,List.mem_singleton] at h'; rw [h']; exact h
    generalize hgg:l[i] = g at hrow hgok rg hg8'
    generalize rowG (l.take i) = R at hrow hmi ⊢
    refine Zac ?_
    refine Zaj ?_
    refine Zac ?_
    refine VW_seqE (σ:={ b:Bool // b = false → g.acts.length ≤ 8 }) [0,1,5,6,34] (fun s=>[(0,.sl 4 (l.map Gz.enc)),(1,pI m),(5,pI (Zba R).length),(6,pI i),(34,.bool s.1)]) ?_ (fun b=>?_)
    · by_cases h8:g.acts.length ≤ 8
      · have e1:decide ((8:Int) < (g.acts.length:Int)) = false:=decide_eq_false (by omega)
        simp only [Zab,Zad,Za6,Zaf,pok,pval,VA.ev,Env.get,Env.put,Env.keep,Za1,isBool,aggV,intV,binV,Zah,isInt,numOf,lenV,Zao,Zan,Zag,Zap,Zax,Zas,Za8,PV.nth,PV.row,Nat.le_refl,Nat.succ_ne_self,Env.le,Nat.reduceEqDiff,Nat.reduceLeDiff,Bool.false_eq_true,ite_true,ite_false,true_and,and_true,implies_true,reduceCtorEq,Int.toNat_natCast,List.length_map,rg,gz_acts0,gz_l3,gz_len,gz_prior,gz_l2,e1]
        repeat (with_reducible refine And.intro ?_ ?_; first | omega | (with_reducible constructor <;> omega) | exact False.elim | exact True.intro)
        exact ⟨⟨_,fun _=>h8⟩,by first | trivial | rfl⟩
      · have e1:decide ((8:Int) < (g.acts.length:Int)) = true:=decide_eq_true (by omega)
        simp only [Zab,Zad,Zbz,Zaf,pok,pval,VA.ev,Env.get,Env.put,Env.keep,Za1,isBool,aggV,intV,binV,Zah,isInt,numOf,lenV,Zao,Zan,Zag,Zap,Zax,Zas,Za8,PV.nth,PV.row,Nat.le_refl,Nat.succ_ne_self,Env.le,Nat.reduceEqDiff,Bool.false_eq_true,ite_true,ite_false,true_and,and_true,implies_true,reduceCtorEq,Int.toNat_natCast,List.length_map,rg,gz_acts0,gz_l3,gz_len,gz_prior,gz_l2,e1]
        repeat (with_reducible refine And.intro ?_ ?_; first | omega | (with_reducible constructor <;> omega) | exact False.elim | exact True.intro)
        exact ⟨⟨true,fun h=>Bool.noConfusion h⟩,by first | trivial | rfl⟩
    obtain ⟨b,hb⟩:=b
    refine Zai rfl (fun h3=>?_) (fun h3=>?_)
    · refine Zac (Zaa [4] ?_)
      simp only [Zab,Zad,Zaf,pok,pval,VA.ev,Env.get,Env.put,Env.keep,Zae,Nat.succ_ne_self,Nat.reduceEqDiff,ite_true,ite_false,true_and,reduceCtorEq]
      refine Zar ?_
      try simp only [Env.get,Zae,Zal,retQ,resV,Zau,RS.ev,RS.ok,ite_true,true_and,and_true]
      exact few_false
    have h8:=hb h3
    refine Zak ?_
    try simp only [Zae]
    refine Zac (Zaa [0,1,5,6,7] ?_)
    simp only [Zab,Zad,Zaf,pok,pval,VA.ev,Env.get,Env.put,Env.keep,Zae,Nat.succ_ne_self,Nat.reduceEqDiff,ite_true,ite_false,true_and,reduceCtorEq]
    refine Zaj ?_
    refine Za4 (σ:={ s:Nat × Nat // s.1 ≤ g.acts.length ∧ (Zba (R ++ g.acts.take s.1)).length ≤ m }) (fun s=>([(0,.sl 4 (l.map Gz.enc)),(1,pI m),(5,pI (Zba (R ++ g.acts.take s.1.1)).length),(6,pI i),(7,pI s.1.1)],⟨[],s.1.2⟩)) (fun s=>g.acts.length - s.1.1) ⟨(0,t),⟨Nat.zero_le _,by simpa using hmi⟩⟩ ?_ ?_ ?_
    · try simp only [Env.get,Nat.succ_ne_self,Env.le,List.take,Nat.reduceEqDiff,ite_true,ite_false,true_and,and_true,reduceCtorEq,List.take_zero,List.append_nil]
      all_goals (repeat' (first | rfl | trivial | omega | (simp only []; omega) | refine And.intro ?_ ?_))
    · try simp only [Heap.le,HL.le,Nat.le_refl,and_true]
      all_goals (repeat' (first | rfl | trivial | omega | (simp only []; omega) | refine And.intro ?_ ?_))
    rintro ⟨⟨j,t⟩,hj,hmj⟩
    simp only [] at hj hmj ⊢
    refine Zac ?_
    refine Zac (Zaa [0,1,5,6,7,42] ?_)
    simp only [Zab,Zad,Zaf,pok,pval,VA.ev,Env.get,Env.put,Env.keep,Zae,aggV,intV,binV,Zah,isInt,numOf,lenV,Zao,Zan,Zag,Zap,Zax,Zas,Za8,PV.nth,PV.row,Heap.le,HL.le,Nat.le_refl,Nat.succ_ne_self,Env.le,Nat.reduceEqDiff,Bool.false_eq_true,ite_true,ite_false,true_and,and_true,implies_true,reduceCtorEq,Int.toNat_natCast,List.length_map,rg,gz_acts0,gz_l3,gz_len]
    repeat (with_reducible refine And.intro ?_ ?_; first | omega | (with_reducible constructor <;> omega) | exact False.elim | exact True.intro)
    refine Zai rfl (fun h4=>?_) (fun h4=>?_)
    · refine Zak ?_
      try simp only [Zae]
      simp only [decide_eq_true_eq] at h4
      have ja:j < g.acts.length:=by omega
      have hnext:Zba (R ++ g.acts.take (j + 1)) = Zba (R ++ g.acts.take j) ++ g.acts[j].items:=by
        rw [List.take_add_one,List.getElem?_eq_getElem ja,Option.toList_some,← List.append_assoc,itemsS_app,itemsS_one]
      have haok:=hgok.2.2.2.2 g.acts[j] (List.getElem_mem ja)
      have ra:=rowm (enc:=Ac.enc) ja
      generalize g.acts[j] = a at hnext haok ra
      have hai:a.items.length ≤ 1000000000000:=haok.2
      have hiok:=haok.1.2.2.2.2.2
      refine Zac ?_
      refine Zaj ?_
      refine Zac (Zaa [0,1,5,6,7,8] ?_)
      simp only [Zab,Zad,Zaf,pok,pval,VA.ev,Env.get,Env.put,Env.keep,Zae,aggV,isInt,numOf,lenV,Zao,Zan,Zag,Zap,Zax,Zas,PV.cells,PV.fits,overlay,PV.nth,PV.row,Heap.get,Heap.set,HL.get,HL.set,HL.del,Heap.push,Nat.le_refl,Nat.succ_ne_self,Zbh,Za9,List.set,List.length,List.getD_cons_zero,List.take,List.drop,List.drop_succ_cons,List.nil_append,Nat.reduceEqDiff,Nat.reduceAdd,Nat.reduceLT,Bool.false_eq_true,Bool.true_eq_false,ite_true,ite_false,true_and,and_true,implies_true,reduceCtorEq,BEq.rfl,Nat.zero_add,imp_self,Int.toNat_natCast,List.length_map,rg,gz_acts0,gz_l3,gz_len,ra,Zcs,Zb2,ac_drop,List.append_nil]
      repeat (with_reducible refine And.intro ?_ ?_; first | omega | (with_reducible constructor <;> omega) | exact False.elim | exact True.intro)
      refine Zac (Zaa [0,1,5,6,7,8] ?_)
      simp only [Zab,Zad,Zaf,pok,pval,VA.ev,Env.get,Env.put,Env.keep,Zae,aggV,intV,binV,Zah,lenV,Zao,Zan,Zag,Zap,Za8,PV.nth,PV.row,Heap.get,HL.get,Nat.le_refl,Nat.succ_ne_self,List.length,List.getD_cons_zero,Nat.reduceEqDiff,Nat.reduceLT,Bool.false_eq_true,ite_true,ite_false,true_and,and_true,implies_true,reduceCtorEq,Nat.zero_add,List.length_map,ac_items0,ac_l6,Zb2,adI (a:=(Zba (R ++ g.acts.take j)).length) (b:=a.items.length) (by omega)]
      refine Zac ?_
      refine VW_seqE (σ:={ b:Bool // b = false → (Zba (R ++ g.acts.take (j + 1))).length ≤ m }) [0,1,5,6,7,8,73] (fun s=>[(0,.sl 4 (l.map Gz.enc)),(1,pI m),(5,pI (Zba (R ++ g.acts.take (j + 1))).length),(6,pI i),(7,pI j),(8,.loc t 0 0),(73,.bool s.1)]) ?_ (fun b=>?_)
      · have hlen:(Zba (R ++ g.acts.take j)).length + a.items.length = (Zba (R ++ g.acts.take (j + 1))).length:=by rw [hnext,List.length_append]
        rw [hlen]
        generalize (Zba (R ++ g.acts.take (j + 1))).length = n1
        by_cases hn:n1 ≤ m
        · have e1:decide ((m:Int) < (n1:Int)) = false:=decide_eq_false (by omega)
          simp only [Zad,Za6,Zaf,pok,pval,VA.ev,Env.get,Env.put,Env.keep,Za1,isBool,aggV,intV,binV,Zah,lenV,Zao,Zan,Zag,Zap,Za8,PV.nth,PV.row,Heap.get,HL.get,Nat.succ_ne_self,Env.le,List.length,List.getD_cons_zero,Nat.reduceEqDiff,Nat.reduceLT,Nat.reduceLeDiff,Bool.false_eq_true,ite_true,ite_false,true_and,and_true,implies_true,reduceCtorEq,Nat.zero_add,e1,List.length_map,ac_title,ac_l1,ac_event,ac_l5,Zb2,ac_d3,List.drop_drop]
          repeat (with_reducible refine And.intro ?_ ?_; first | omega | (with_reducible constructor <;> omega) | exact False.elim | exact True.intro)
          refine Zbw rfl (fun g2=>?_) (fun g2=>?_)
          · simp only [Zab,Zad,Za6,Zaf,pok,pval,VA.ev,Env.get,Env.put,Za1,isBool,aggV,intV,binV,Zah,lenV,Zao,Zan,Zag,Zap,Za8,PV.nth,PV.row,Heap.get,HL.get,Nat.succ_ne_self,List.length,List.getD_cons_zero,Nat.reduceEqDiff,Nat.reduceAdd,Nat.reduceLT,Nat.reduceLeDiff,Bool.false_eq_true,ite_true,ite_false,true_and,and_true,implies_true,reduceCtorEq,Nat.zero_add,g2,List.length_map,ac_title,ac_l1,ac_event,ac_l5,Zb2,ac_d3,List.drop_drop]
            repeat (with_reducible refine And.intro ?_ ?_; first | omega | (with_reducible constructor <;> omega) | exact False.elim | exact True.intro)
            exact ⟨⟨_,fun _=>hn⟩,by first | trivial | rfl⟩
          · simp only [Zab,Zad,Zbz,Zaf,pok,pval,VA.ev,Env.get,Env.put,Za1,isBool,Nat.succ_ne_self,Nat.reduceEqDiff,ite_true,ite_false,true_and,and_true,reduceCtorEq,Bool.not_false,g2]
            exact ⟨⟨_,fun _=>hn⟩,by first | trivial | rfl⟩
        · have e1:decide ((m:Int) < (n1:Int)) = true:=decide_eq_true (by omega)
          simp only [Zab,Zad,Zbz,Zaf,pok,pval,VA.ev,Env.get,Env.put,Env.keep,Za1,isBool,intV,binV,Zah,Nat.succ_ne_self,Env.le,Nat.reduceEqDiff,ite_true,ite_false,true_and,and_true,reduceCtorEq,e1]
          exact ⟨⟨true,fun h=>Bool.noConfusion h⟩,by first | trivial | rfl⟩
      obtain ⟨b,hb⟩:=b
      refine Zai rfl (fun h5=>?_) (fun h5=>?_)
      · refine Zac (Zaa [4] ?_)
        simp only [Zab,Zad,Zaf,pok,pval,VA.ev,Env.get,Env.put,Env.keep,Zae,Nat.succ_ne_self,Nat.reduceEqDiff,ite_true,ite_false,true_and,reduceCtorEq]
        refine Zar ?_
        try simp only [Env.get,Zae,Zal,retQ,resV,Zau,RS.ev,RS.ok,ite_true,true_and,and_true]
        exact few_false
      have hn:=hb h5
      refine Zak ?_
      try simp only [Zae]
      refine Zac (Zaa [0,1,5,6,7,8,9] ?_)
      simp only [Zab,Zad,Zaf,pok,pval,VA.ev,Env.get,Env.put,Env.keep,Zae,Nat.succ_ne_self,Nat.reduceEqDiff,ite_true,ite_false,true_and,reduceCtorEq]
      refine Zaj ?_
      refine Za4 (σ:={ k:Nat // k ≤ a.items.length }) (fun s=>([(0,.sl 4 (l.map Gz.enc)),(1,pI m),(5,pI (Zba (R ++ g.acts.take (j + 1))).length),(6,pI i),(7,pI j),(8,.loc t 0 0),(9,pI s.1)],⟨[(t,.arr false 7 [a.enc])],t + 1⟩)) (fun s=>a.items.length - s.1) ⟨0,Nat.zero_le _⟩ ?_ ?_ ?_
      · try simp only [Env.get,Nat.succ_ne_self,Env.le,Nat.reduceEqDiff,ite_true,ite_false,true_and,and_true,reduceCtorEq]
        all_goals (repeat' (first | rfl | trivial | omega | (simp only []; omega) | refine And.intro ?_ ?_))
      · try simp only [Heap.get,Heap.le,HL.get,HL.le,Nat.le_refl,ite_true,and_true]
        all_goals (repeat' (first | rfl | trivial | omega | (simp only []; omega) | refine And.intro ?_ ?_))
      rintro ⟨k,hk⟩
      simp only []
      refine Zac ?_
      refine Zac (Zaa [0,1,5,6,7,8,9,78] ?_)
      simp only [Zab,Zad,Zaf,pok,pval,VA.ev,Env.get,Env.put,Env.keep,Zae,aggV,intV,binV,Zah,lenV,Zao,Zan,Zag,Zap,Za8,PV.nth,PV.row,Heap.get,Heap.le,HL.get,HL.le,Nat.le_refl,Nat.succ_ne_self,Env.le,List.length,List.getD_cons_zero,Nat.reduceEqDiff,Nat.reduceLT,Bool.false_eq_true,ite_true,ite_false,true_and,and_true,implies_true,reduceCtorEq,Nat.zero_add,List.length_map,ac_items0,ac_l6,Zb2]
      refine Zai rfl (fun h6=>?_) (fun h6=>?_)
      · refine Zak ?_
        try simp only [Zae]
        simp only [decide_eq_true_eq] at h6
        have ka:k < a.items.length:=by omega
        refine Zac ?_
        refine Zaj ?_
        refine Zac (Zaa [0,1,5,6,7,8,9,87] ?_)
        simp only [Zab,Zad,Zaf,pok,pval,VA.ev,Env.get,Env.put,Env.keep,Zae,aggV,unV,unOk,isInt,numOf,lenV,Zao,Zan,Zag,Zap,Zax,Zas,PV.nth,PV.row,Heap.get,HL.get,Nat.le_refl,Nat.succ_ne_self,List.map,List.length,List.getD_cons_zero,Nat.reduceEqDiff,Nat.reduceLT,Bool.false_eq_true,Bool.true_eq_false,ite_true,ite_false,true_and,and_true,implies_true,reduceCtorEq,Nat.zero_add,imp_self,Int.toNat_natCast,List.length_map,ac_items0,ac_l6,Zb2,rowm ka,Zcf,Zbt]
        repeat (with_reducible refine And.intro ?_ ?_; first | omega | (with_reducible constructor <;> omega) | exact False.elim | exact True.intro)
        refine Zdl (sp_few17 a.items[k] (hiok _ (List.getElem_mem ka))) ?_
        rintro p ⟨b1,rfl⟩
        try simp only [true_and]
        refine Zai rfl (fun h7=>?_) (fun h7=>?_)
        · refine Zac (Zaa [4] ?_)
          simp only [Zab,Zad,Zaf,pok,pval,VA.ev,Env.get,Env.put,Env.keep,Zae,Nat.succ_ne_self,Nat.reduceEqDiff,ite_true,ite_false,true_and,reduceCtorEq]
          refine Zar ?_
          try simp only [Env.get,Zae,Zal,retQ,resV,Zau,RS.ev,RS.ok,ite_true,true_and,and_true]
          exact few_false
        refine Zak ?_
        try simp only [Zae,Zal]
        refine Zaa [0,1,5,6,7,8,9] ?_
        simp only [Zab,Zad,Zaf,pok,pval,VA.ev,Env.get,Env.put,Env.keep,Zae,intV,binV,Zah,HL.get,Nat.le_refl,Nat.succ_ne_self,Nat.reduceEqDiff,ite_true,ite_false,true_and,and_true,reduceCtorEq,w64 (n:=(k:Int) + 1) (by omega) (by omega)]
        refine ⟨⟨k + 1,ka⟩,?_⟩
        try simp only []
        all_goals (repeat' (first | rfl | trivial | omega | (simp only []; omega) | refine And.intro ?_ ?_))
      · refine Zaz ?_
        try simp only [Zae,Zal,retQ,Nat.succ_ne_self,Nat.reduceEqDiff,ite_true,ite_false,reduceCtorEq]
        refine Zaa [0,1,5,6,7] ?_
        simp only [Zab,Zad,Zaf,pok,pval,VA.ev,Env.get,Env.put,Env.keep,Zae,intV,binV,Zah,Nat.succ_ne_self,Nat.reduceEqDiff,ite_true,ite_false,true_and,reduceCtorEq,ad1 (a:=j) (by omega)]
        refine ⟨⟨(j + 1,t + 1),⟨ja,hn⟩⟩,?_⟩
        try simp only [Nat.le_refl,true_and,and_true]
        all_goals (repeat' (first | rfl | trivial | omega | (simp only []; omega) | refine And.intro ?_ ?_))
    · simp only [decide_eq_false_iff_not] at h4
      obtain rfl:j = g.acts.length:=by omega
      rw [List.take_length] at hmj ⊢
      rw [← hrow] at hmj ⊢
      refine Zaz ?_
      try simp only [Zae,Zal,retQ,Nat.succ_ne_self,ite_true,ite_false,reduceCtorEq]
      refine Zaa [0,1,5,6] ?_
      simp only [Zab,Zad,Zaf,pok,pval,VA.ev,Env.get,Env.put,Env.keep,Zae,intV,binV,Zah,Nat.succ_ne_self,Nat.reduceEqDiff,ite_true,ite_false,true_and,reduceCtorEq,ad1 (a:=i) (by omega)]
      refine ⟨⟨(i + 1,t),⟨ia,hg8' h8,hmj⟩⟩,?_⟩
      try simp only [Nat.le_refl,true_and,and_true]
      all_goals (repeat' (first | rfl | trivial | omega | (simp only []; omega) | refine And.intro ?_ ?_))
  · simp only [decide_eq_false_iff_not] at h2
    obtain rfl:i = l.length:=by omega
    rw [List.take_length] at hg8 hmi
    refine Zaz ?_
    try simp only [Zae,Zal,retQ,ite_true]
    refine Zac (Zaa [4] ?_)
    simp only [Zab,Zad,Zaf,pok,pval,VA.ev,Env.get,Env.put,Env.keep,Zae,Nat.succ_ne_self,Nat.reduceEqDiff,ite_true,ite_false,true_and,reduceCtorEq]
    refine Zar ?_
    try simp only [Env.get,retQ,resV,Zau,RS.ev,RS.ok,ite_true,true_and,and_true]
    exact ⟨_,View.refl _ _,⟨true,rfl,fun _=>⟨hl8,hg8,hmi⟩⟩,cB _⟩
end Go.Proofs.YtehokmhebnkfdaaGreat.w
