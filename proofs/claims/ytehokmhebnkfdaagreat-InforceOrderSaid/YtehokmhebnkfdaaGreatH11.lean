import Derived.Test.YtehokmhebnkfdaaGreatQ3
import Derived.Test.YtehokmhebnkfdaaGreatVmP
set_option linter.all false
namespace Go.Proofs.YtehokmhebnkfdaaGreat.w
open Go Go.VM
set_option maxRecDepth 20000
set_option maxHeartbeats 0
set_option pp.deepTerms false
def c_pandectref28_Twice:VC:=(.seq (.region [ZO 2 (.mv (.c .nilsl))] false) (.seq (.region [ZM 8 0,ZO 9 (.call 43 [(.t 8)]),ZM 3 9] false) (.seq (.region [ZO 10 (.fx (.mk0 1) []),ZM 4 10] false) (.seq (.seq (.region [ZO 5 (.mv (.c (.int .i64 0)))] false) (.block 0 (.loop (.seq (.seq (.region [ZM 11 5,ZM 12 3,ZO 13 (.len false (.t 12)),ZO 14 (.bin .lss (.t 11) (.t 13))] false) (.cond (.t 14) .skip (.exit 0))) (.seq (.block 1 (.seq (.seq (.region [ZM 17 3,ZM 18 3,ZM 19 5,ZO 20 (.iaddr 7 (.t 18) (.t 19)),ZO 21 (.faddr 0 (.t 20)),ZO 22 (.load false 1 (.t 21)),ZO 23 (.call 44 [(.t 17),(.t 22)]),ZM 24 5,ZO 25 (.bin .eql (.t 23) (.t 24))] false) (.cond (.t 25) (.exit 1) .skip)) (.seq (.region [ZO 6 (.mv (.c (.int .i64 0)))] false) (.seq (.block 2 (.loop (.seq (.seq (.region [ZM 26 6,ZM 27 4,ZO 28 (.len false (.t 27)),ZO 29 (.bin .lss (.t 26) (.t 28)),ZM 30 29,ZG 31 (.mv (.t 4)) 30 true,ZG 32 (.mv (.t 6)) 30 true,ZG 33 (.iaddr 1 (.t 31) (.t 32)) 30 true,ZG 34 (.load false 1 (.t 33)) 30 true,ZG 35 (.mv (.t 3)) 30 true,ZG 36 (.mv (.t 5)) 30 true,ZG 37 (.iaddr 7 (.t 35) (.t 36)) 30 true,ZG 38 (.faddr 0 (.t 37)) 30 true,ZG 39 (.load false 1 (.t 38)) 30 true,ZG 40 (.bin .lss (.t 34) (.t 39)) 30 true,ZO 41 (.pick (.t 30) (.t 40) (.c (.bool false)))] true) (.cond (.t 41) .skip (.exit 2))) (.block 3 (.region [ZM 42 6,ZO 43 (.bin .add (.t 42) (.c (.int .i64 1))),ZM 6 43] false))))) (.seq (.region [ZM 44 6,ZM 45 4,ZO 46 (.len false (.t 45)),ZO 47 (.bin .eql (.t 44) (.t 46)),ZM 48 47,ZG 49 (.mv (.t 4)) 48 false,ZG 50 (.mv (.t 6)) 48 false,ZG 51 (.iaddr 1 (.t 49) (.t 50)) 48 false,ZG 52 (.load false 1 (.t 51)) 48 false,ZG 53 (.mv (.t 3)) 48 false,ZG 54 (.mv (.t 5)) 48 false,ZG 55 (.iaddr 7 (.t 53) (.t 54)) 48 false,ZG 56 (.faddr 0 (.t 55)) 48 false,ZG 57 (.load false 1 (.t 56)) 48 false,ZG 58 (.bin .neq (.t 52) (.t 57)) 48 false,ZO 59 (.pick (.t 48) (.c (.bool true)) (.t 58))] true) (.cond (.t 59) (.seq (.region [ZO 60 (.fx (.mk0 1) []),ZM 61 4,ZM 62 6,ZO 63 (.slice false 1 (.t 61) (some (.t 62)) none),ZO 64 (.app 1 8 [(.int .i64 0)] false (.t 60) (.t 63)),ZM 7 64] false) (.draw2 [ZM 65 4,ZM 66 6,ZO 67 (.slice false 1 (.t 65) none (some (.t 66))),ZM 68 3,ZM 69 5,ZO 70 (.iaddr 7 (.t 68) (.t 69)),ZO 71 (.faddr 0 (.t 70)),ZO 72 (.load false 1 (.t 71)),ZO 73 (.bslice 1 1 [(.int .i64 0)] [(0,(.t 72))]),ZO 74 (.app 1 8 [(.int .i64 0)] false (.t 67) (.t 73)),ZM 75 7,ZO 76 (.app 1 8 [(.int .i64 0)] false (.t 74) (.t 75)),ZM 4 76] [true,true,true,true,true,true,true,true,true,false,false,false,false])) .skip)))))) (.region [ZM 15 5,ZO 16 (.bin .add (.t 15) (.c (.int .i64 1))),ZM 5 16] false)))))) (.seq (.region [ZM 77 4,ZM 2 77] false) .ret)))))
def c_pandectref28_Once:VC:=(.seq (.region [ZO 2 (.mv (.c (.bool false)))] false) (.seq (.region [ZM 3 0,ZO 4 (.call 42 [(.t 3)]),ZO 5 (.len false (.t 4)),ZO 6 (.bin .eql (.t 5) (.c (.int .i64 0))),ZM 2 6] false) .ret))
def encN (x:Int):List PV:=[pI x]
def dupA:List Int → List Ac → List Int
  | _,[]=>[]
  | seen,x :: r=>if x.number ∈ seen then x.number :: dupA seen r else dupA (x.number :: seen) r
def putN (l:List Int) (n:Int):List Int:=if (l.dropWhile fun y=>decide (y < n)).head? = some n then l else (l.takeWhile fun y=>decide (y < n)) ++ n :: l.dropWhile fun y=>decide (y < n)
def twiceS (row:List Ac):List Int:=(dupA [] row).foldl putN []
theorem dupA_snoc:∀ (r:List Ac) (s:List Int) (x:Ac),dupA s (r ++ [x]) = dupA s r ++ if x.number ∈ s ∨ x.number ∈ r.map Ac.number then [x.number] else []
  | [],s,x=>by simp only [List.nil_append,dupA,List.map_nil,List.not_mem_nil,or_false]
  | y :: r,s,x=>by
    simp only [List.cons_append,dupA]
    split
    · rename_i hy
      rw [dupA_snoc r s x,List.cons_append]
      congr 2
      have:(x.number ∈ s ∨ x.number ∈ (y :: r).map Ac.number) ↔ (x.number ∈ s ∨ x.number ∈ r.map Ac.number):=by
        simp only [List.map_cons,List.mem_cons]
        constructor
        · rintro (h | h | h)
          · exact .inl h
          · rw [h]; exact .inl hy
          · exact .inr h
        · rintro (h | h)
          · exact .inl h
          · exact .inr (.inr h)
      simp only [this]
    · rw [dupA_snoc r (y.number :: s) x]
      congr 1
      have:(x.number ∈ y.number :: s ∨ x.number ∈ r.map Ac.number) ↔ (x.number ∈ s ∨ x.number ∈ (y :: r).map Ac.number):=by
        simp only [List.map_cons,List.mem_cons]
        constructor
        · rintro ((h | h) | h)
          · exact .inr (.inl h)
          · exact .inl h
          · exact .inr (.inr h)
        · rintro (h | h | h)
          · exact .inl (.inr h)
          · exact .inl (.inl h)
          · exact .inr h
      simp only [this]
theorem dupA_le:∀ (r:List Ac) (s:List Int),(dupA s r).length ≤ r.length
  | [],_=>Nat.le_refl _
  | x :: r,s=>by
    unfold dupA
    split
    · have:=dupA_le r s; simp only [List.length_cons]; omega
    · have:=dupA_le r (x.number :: s); simp only [List.length_cons]; omega
theorem putN_len (l:List Int) (n:Int):l.length ≤ (putN l n).length ∧ (putN l n).length ≤ l.length + 1 ∧ 0 < (putN l n).length:=by
  unfold putN
  split
  · rename_i h
    refine ⟨Nat.le_refl _,by omega,?_⟩
    cases l with
    | nil=>simp at h
    | cons x r=>simp
  · have:=congrArg List.length (List.takeWhile_append_dropWhile (p:=fun y=>decide (y < n)) (l:=l))
    simp only [List.length_append,List.length_cons] at this ⊢
    omega
theorem putN_fold:∀ (q l:List Int),l.length ≤ (q.foldl putN l).length ∧ (q.foldl putN l).length ≤ l.length + q.length
  | [],l=>by simp
  | x :: q,l=>by
    have h1:=putN_len l x
    have h2:=putN_fold q (putN l x)
    simp only [List.foldl_cons,List.length_cons]
    omega
theorem twN (n:Int):∀ (l:List Int) (k:Nat),(∀ y ∈ l.take k,y < n) → (k = l.length ∨ ∃ h:k < l.length,¬ l[k] < n) → (l.takeWhile fun y=>decide (y < n)) = l.take k ∧ (l.dropWhile fun y=>decide (y < n)) = l.drop k
  | [],k,_,_=>by simp
  | x :: r,0,_,h=>by
    rcases h with h | ⟨_,h⟩
    · simp at h
    · simp only [List.getElem_cons_zero] at h; simp [List.takeWhile_cons,List.dropWhile_cons,h]
  | x :: r,k + 1,h1,h2=>by
    have hx:=h1 x (by simp)
    have:=twN n r k (fun y hy=>h1 y (by simp [hy])) (by simpa using h2)
    simp [List.takeWhile_cons,List.dropWhile_cons,hx,this]
theorem sp_pandectref28_Twice (l:List Gz) (hl:l.length ≤ 1000000) (hr:(rowG l).length ≤ 1000000):Zbo Tryz.prog 42 [.sl 4 (l.map Gz.enc)] (.sl 1 ((twiceS (rowG l)).map encN)):=by
  refine Zam ?_ (Zcm _) (by simp only [Za0,List.mem_cons,List.not_mem_nil,or_false,forall_eq_or_imp,forall_eq,false_implies,implies_true]; repeat' (first  | exact Zbp _ | exact Zcm _ | refine And.intro ?_ ?_))
  refine Zaq (vc:=c_pandectref28_Twice) (ts:=[.t 2]) Go.Proofs.Tryz.func42 (by kernel_rfl) rfl rfl (Nat.le_of_ble_eq_true rfl) (by kernel_rfl) ?_
  unfold c_pandectref28_Twice
  try dsimp only [ZM,ZO,ZN,ZG]
  refine Zac (Zaa [0] ?_)
  simp only [Zab,Zad,Zaf,pok,pval,VA.ev,Env.get,Env.put,Env.keep,Za2,Zae,Heap.nil,ite_true,ite_false,true_and,reduceCtorEq]
  refine Zac (Zaa [3] ?_)
  simp only [Zab,Zad,Zaf,pok,pval,VA.ev,Env.get,Env.put,Env.keep,Zae,List.map,Nat.reduceEqDiff,ite_true,ite_false,true_and,reduceCtorEq]
  refine Zat (sp_pandectref28_all l hl hr) ?_
  unfold twiceS
  generalize rowG l = row at hr ⊢
  skip
  refine Zac (Zaa [3,4] ?_)
  simp only [Zab,Zad,Zaf,pok,pval,VA.ev,Env.get,Env.put,Env.keep,Zae,Heap.push,Nat.succ_ne_self,fxV,fxOk,List.map,Nat.reduceEqDiff,ite_true,ite_false,true_and,Nat.zero_add]
  refine Zac ?_
  refine Zac (Zaa [3,4,5] ?_)
  simp only [Zab,Zad,Zaf,pok,pval,VA.ev,Env.get,Env.put,Env.keep,Zae,Nat.succ_ne_self,Nat.reduceEqDiff,ite_true,ite_false,true_and]
  refine Zaj ?_
  refine Za4 (σ:={ s:Nat × Nat × Nat // s.1 ≤ row.length ∧ s.2.1 < s.2.2 }) (fun s=>([(3,.sl 7 (row.map Ac.enc)),(4,.own s.1.2.1 0 ((dupA [] (row.take s.1.1)).foldl putN []).length),(5,pI s.1.1)],⟨[(s.1.2.1,.arr false 1 (((dupA [] (row.take s.1.1)).foldl putN []).map encN))],s.1.2.2⟩)) (fun s=>row.length - s.1.1) ⟨(0,0,1),⟨Nat.zero_le _,by show 0 < 1; omega⟩⟩ ?_ ?_ ?_
  · try simp only [Env.get,Nat.succ_ne_self,Env.le,List.take,Nat.reduceEqDiff,ite_true,ite_false,true_and,and_true,List.length_nil,List.take_zero,dupA,List.foldl_nil]
    all_goals (repeat' (first | rfl | trivial | omega | (simp only []; omega) | refine And.intro ?_ ?_))
  · try simp only [Heap.get,Heap.le,HL.get,HL.le,Nat.le_refl,List.map,List.take,ite_true,and_true,List.take_zero,dupA,List.foldl_nil]
    all_goals (repeat' (first | rfl | trivial | omega | (simp only []; omega) | refine And.intro ?_ ?_))
  rintro ⟨⟨i,id,t⟩,hi,ht⟩
  simp only [] at hi ht ⊢
  refine Zac ?_
  refine Zac (Zaa [3,4,5,14] ?_)
  simp only [Zab,Zad,Zaf,pok,pval,VA.ev,Env.get,Env.put,Env.keep,Zae,intV,binV,Zah,lenV,Za8,Heap.get,Heap.le,HL.le,Nat.succ_ne_self,Env.le,Nat.reduceEqDiff,ite_true,ite_false,true_and,and_true,List.length_map]
  refine Zai rfl (fun h1=>?_) (fun h1=>?_)
  · refine Zak ?_
    try simp only [Zae]
    simp only [decide_eq_true_eq] at h1
    have ia:i < row.length:=by omega
    have hfs:=dupA_snoc (row.take i) [] row[i]
    have htk1:row.take (i + 1) = row.take i ++ [row[i]]:=by rw [List.take_add_one,List.getElem?_eq_getElem ia]; rfl
    rw [← htk1] at hfs
    have hspec:=firstS_spec row 0 i ia
    rw [Nat.zero_add] at hspec
    have hol:=putN_fold (dupA [] (row.take i)) []
    have hfl:=dupA_le (row.take i) []
    refine Zac ?_
    refine Zaj ?_
    refine Zac ?_
    refine Zac (Zaa [3,4,5,25] ?_)
    simp only [Zab,Zad,Zaf,pok,pval,VA.ev,Env.get,Env.put,Env.keep,Zae,aggV,intV,binV,Zah,strV,isInt,numOf,lenV,Zao,Zan,Zag,Zap,Zax,Zas,PV.nth,PV.row,Nat.succ_ne_self,List.map,List.drop,Nat.reduceEqDiff,Nat.reduceLeDiff,Bool.false_eq_true,ite_true,ite_false,true_and,and_true,implies_true,Int.toNat_natCast,List.length_map,rowm ia,ac_num,Zb2]
    repeat (with_reducible refine And.intro ?_ ?_; first | omega | (with_reducible constructor <;> omega) | exact False.elim | exact True.intro)
    refine Zat (sp_pandectref28_first row row[i].number hr) ?_
    try simp only [true_and]
    refine Zai rfl (fun h2=>?_) (fun h2=>?_)
    · simp only [beq_iff_eq] at h2
      have hnin:=hspec.1 h2
      rw [if_neg (by rintro (h | h); exact (List.not_mem_nil h).elim; exact hnin h),List.append_nil] at hfs
      refine Zaz ?_
      try simp only [Zae,Zal,retQ,Nat.succ_ne_self,ite_true,ite_false]
      refine Zaa [3,4,5] ?_
      simp only [Zab,Zad,Zaf,pok,pval,VA.ev,Env.get,Env.put,Env.keep,Zae,intV,binV,Zah,HL.get,Nat.succ_ne_self,Nat.reduceEqDiff,ite_true,ite_false,true_and,ad1 (a:=i) (by omega)]
      refine ⟨⟨(i + 1,id,t),⟨ia,ht⟩⟩,?_⟩
      rw [hfs]
      try simp only [Nat.le_refl,ite_true,true_and,and_true]
      all_goals (repeat' (first | rfl | trivial | omega | (simp only []; omega) | refine And.intro ?_ ?_))
    refine Zak ?_
    try simp only [Zae]
    simp only [beq_eq_false_iff_ne,ne_eq] at h2
    have hin:row[i].number ∈ (row.take i).map Ac.number:=Classical.byContradiction fun h=>h2 (hspec.2 h)
    rw [if_pos (.inr hin)] at hfs
    have hins:(dupA [] (row.take (i + 1))).foldl putN [] = putN ((dupA [] (row.take i)).foldl putN []) row[i].number:=by rw [hfs,List.foldl_append]; rfl
    generalize (dupA [] (row.take i)).foldl putN [] = out at hins hol ⊢
    have hol':out.length ≤ 1000000:=by simp only [List.length_nil,List.length_take] at hol hfl; omega
    have rr:=rowm (enc:=Ac.enc) ia
    generalize row[i] = x at hins rr
    refine Zac (Zaa [3,4,5,6] ?_)
    simp only [Zab,Zad,Zaf,pok,pval,VA.ev,Env.get,Env.put,Env.keep,Zae,Nat.succ_ne_self,Nat.reduceEqDiff,ite_true,ite_false,true_and]
    refine Zac ?_
    refine Zaj ?_
    refine Za4 (σ:={ k:Nat // k ≤ out.length ∧ ∀ y ∈ out.take k,y < x.number }) (fun s=>([(3,.sl 7 (row.map Ac.enc)),(4,.own id 0 out.length),(5,pI i),(6,pI s.1)],⟨[(id,.arr false 1 (out.map encN))],t⟩)) (fun s=>out.length - s.1) ⟨0,⟨Nat.zero_le _,fun y hy=>by simp at hy⟩⟩ ?_ ?_ ?_
    · try simp only [Env.get,Nat.succ_ne_self,Env.le,Nat.reduceEqDiff,ite_true,ite_false,true_and,and_true]
      all_goals (repeat' (first | rfl | trivial | omega | (simp only []; omega) | refine And.intro ?_ ?_))
    · try simp only [Heap.get,Heap.le,HL.get,HL.le,Nat.le_refl,ite_true,and_true]
      all_goals (repeat' (first | rfl | trivial | omega | (simp only []; omega) | refine And.intro ?_ ?_))
    rintro ⟨k,hk,hall⟩
    simp only [] at hk hall ⊢
    refine Zac ?_
    refine Zac ?_
    refine VW_mid (σ:={ b:Bool // (b = true → ∃ h:k < out.length,out[k] < x.number) ∧ (b = false → k = out.length ∨ ∃ h:k < out.length,¬ out[k] < x.number) }) (fun s=>([(3,.sl 7 (row.map Ac.enc)),(4,.own id 0 out.length),(5,pI i),(6,pI k),(41,.bool s.1)],⟨[(id,.arr false 1 (out.map encN))],t⟩)) ?_ (fun s=>?_)
    · refine Zb3 [3,4,5,6,41] (by simp [Heap.le,Heap.get,HL.le,HL.get]) ?_
      by_cases hko:k < out.length
      · have e0:decide ((k:Int) < (out.length:Int)) = true:=decide_eq_true (by omega)
        simp only [midQ,Zbb,Zbu,DrawW_y,QW,dok,dval,VOp.pure,VOp.simple,VOp.det,pok,pval,VA.ev,Env.get,Env.put,Env.keep,gd,Za1,isBool,aggV,intV,binV,Zah,isInt,numOf,lenV,Zao,Zan,Zag,Zap,Zax,Zas,Za8,PV.nth,PV.row,Heap.get,Heap.le,HL.get,HL.le,Nat.le_refl,Nat.succ_ne_self,Env.le,List.length,List.getD_cons_zero,List.take,List.drop,List.take_succ_cons,Nat.reduceEqDiff,Nat.reduceLeDiff,Bool.false_eq_true,ite_true,ite_false,true_and,and_true,implies_true,forall_const,Nat.zero_add,List.length_cons,Int.toNat_natCast,List.length_map,rr,rowm hko,e0,ac_num,Zb2,encN]
        repeat (with_reducible refine And.intro ?_ ?_; first | omega | (with_reducible constructor <;> omega) | exact False.elim | exact True.intro)
        refine ⟨⟨decide (out[k] < x.number),⟨fun h=>⟨hko,of_decide_eq_true h⟩,fun h=>.inr ⟨hko,of_decide_eq_false h⟩⟩⟩,?_⟩
        try simp only [encN]
        all_goals (repeat' (first | rfl | trivial | omega | (simp only []; omega) | refine And.intro ?_ ?_))
      · have e0:decide ((k:Int) < (out.length:Int)) = false:=decide_eq_false (by omega)
        simp only [midQ,Zbb,Zbu,DrawW_xt,QW,dok,dval,VOp.pure,VOp.simple,VOp.det,pok,pval,VA.ev,Env.get,Env.put,Env.keep,gd,Za1,isBool,intV,binV,Zah,lenV,Za8,Heap.get,Heap.le,HL.get,HL.le,Nat.le_refl,Nat.succ_ne_self,Env.le,Nat.reduceEqDiff,Bool.false_eq_true,ite_true,ite_false,true_and,and_true,implies_true,e0]
        refine ⟨⟨false,⟨fun h=>Bool.noConfusion h,fun _=>.inl (by omega)⟩⟩,?_⟩
        try simp only []
        all_goals (repeat' (first | rfl | trivial | omega | (simp only []; omega) | refine And.intro ?_ ?_))
    obtain ⟨b,hb1,hb2⟩:=s
    refine Zai rfl (fun h3=>?_) (fun h3=>?_)
    · obtain ⟨hko,hah⟩:=hb1 h3
      refine Zak ?_
      try simp only [Zae,Heap.get,Heap.le,HL.le,Env.le,and_true]
      refine Zaj ?_
      refine Zaa [3,4,5,6] ?_
      simp only [Zab,Zad,Zaf,pok,pval,VA.ev,Env.get,Env.put,Env.keep,Zae,Zal,intV,binV,Zah,HL.get,Nat.le_refl,Nat.succ_ne_self,Nat.reduceEqDiff,ite_true,ite_false,true_and,and_true,ad1 (a:=k) (by omega)]
      refine ⟨⟨k + 1,⟨hko,fun y hy=>?_⟩⟩,?_⟩
      · rw [List.take_add_one,List.getElem?_eq_getElem hko] at hy
        rcases List.mem_append.1 hy with h | h
        · exact hall y h
        · simp only [Option.toList_some,List.mem_singleton] at h; rw [h]; exact hah
      try simp only [true_and]
      all_goals (repeat' (first | rfl | trivial | omega | (simp only []; omega) | refine And.intro ?_ ?_))
    · have hend:=hb2 h3
      obtain ⟨e1,e2⟩:=twN x.number out k hall hend
      refine Zaz ?_
      try simp only [Zae,Zal,retQ,Nat.succ_ne_self,ite_true,ite_false,reduceCtorEq]
      refine Zac ?_
      refine VW_mid (σ:={ b:Bool // (b = true → putN out x.number = out.take k ++ x.number :: out.drop k) ∧ (b = false → putN out x.number = out) }) (fun s=>([(3,.sl 7 (row.map Ac.enc)),(4,.own id 0 out.length),(5,pI i),(6,pI k),(59,.bool s.1)],⟨[(id,.arr false 1 (out.map encN))],t⟩)) ?_ (fun s=>?_)
      · refine Zb3 [3,4,5,6,59] (by simp [Heap.le,Heap.get,HL.le,HL.get]) ?_
        by_cases hko:k < out.length
        · have e0:((k:Int) == (out.length:Int)) = false:=by rw [beq_eq_false_iff_ne]; omega
          have hhead:(out.drop k).head? = some out[k]:=by rw [List.drop_eq_getElem_cons hko]; rfl
          simp only [midQ,Zbb,Zbu,DrawW_y,QW,dok,dval,VOp.pure,VOp.simple,VOp.det,pok,pval,VA.ev,Env.get,Env.put,Env.keep,gd,Za1,isBool,aggV,intV,binV,Zah,isInt,numOf,lenV,Zao,Zan,Zag,Zap,Zax,Zas,Za8,PV.nth,PV.row,Heap.get,Heap.le,HL.get,HL.le,Nat.le_refl,Nat.succ_ne_self,Env.le,List.length,List.getD_cons_zero,List.take,List.drop,List.take_succ_cons,Nat.reduceEqDiff,Nat.reduceLeDiff,Bool.false_eq_true,ite_true,ite_false,true_and,and_true,implies_true,forall_const,Nat.zero_add,List.length_cons,Int.toNat_natCast,List.length_map,rr,rowm hko,e0,ac_num,Zb2,encN]
          repeat (with_reducible refine And.intro ?_ ?_; first | omega | (with_reducible constructor <;> omega) | exact False.elim | exact True.intro)
          refine ⟨⟨out[k] != x.number,⟨fun h=>?_,fun h=>?_⟩⟩,?_⟩
          · unfold putN
            rw [e1,e2,hhead,if_neg (by simpa using h)]
          · unfold putN
            rw [e1,e2,hhead,if_pos (by simpa using h)]
          try simp only [encN]
          all_goals (repeat' (first | rfl | trivial | omega | (simp only []; omega) | refine And.intro ?_ ?_))
        · obtain rfl:k = out.length:=by omega
          have e0:((out.length:Int) == (out.length:Int)) = true:=by simp
          simp only [midQ,Zbb,Zbu,DrawW_xf,QW,dok,dval,VOp.pure,VOp.simple,VOp.det,pok,pval,VA.ev,Env.get,Env.put,Env.keep,gd,Za1,isBool,intV,binV,Zah,lenV,Za8,Heap.get,Heap.le,HL.get,HL.le,Nat.le_refl,Nat.succ_ne_self,Env.le,Nat.reduceEqDiff,ite_true,ite_false,true_and,and_true,implies_true,BEq.rfl,e0,List.length_map]
          refine ⟨⟨true,⟨fun _=>?_,fun h=>Bool.noConfusion h⟩⟩,?_⟩
          · unfold putN
            rw [e1,e2,List.drop_length,if_neg (by simp)]
          try simp only []
          all_goals (repeat' (first | rfl | trivial | omega | (simp only []; omega) | refine And.intro ?_ ?_))
      obtain ⟨b2,hc1,hc2⟩:=s
      refine Zai rfl (fun h4=>?_) (fun h4=>?_)
      · have hput:=hc1 h4
        refine Zac (Zaa [3,4,5,6,7] ?_)
        have b1:(out.map encN).take out.length = out.map encN:=List.take_of_length_le (by simp)
        have b2:((out.map encN).drop k).take (out.length - k) = (out.map encN).drop k:=List.take_of_length_le (by simp)
        have b3:((out.map encN).drop k).length = out.length - k:=by simp
        have qi0:(id = t) = False:=eq_false (by omega)
        have qi1:(id = (t + 1)) = False:=eq_false (by omega)
        have qi2:(t = id) = False:=eq_false (by omega)
        have qi3:(t = (t + 1)) = False:=eq_false (by omega)
        have qi4:((t + 1) = id) = False:=eq_false (by omega)
        have qi5:((t + 1) = t) = False:=eq_false (by omega)
        simp only [Zab,Zad,Zaf,pok,pval,VA.ev,Env.get,Env.put,Env.keep,Zae,numOf,loV,hiV,lenV,Zc9,sliceV,sliceOk,Heap.get,Heap.del,HL.get,HL.del,Heap.push,Nat.le_refl,Nat.succ_ne_self,Zbq,Zc8,Zbk,Zda,Zbc,Zcw,fxV,fxOk,List.map,List.length,List.take,List.nil_append,Option.map,Nat.reduceEqDiff,ite_true,ite_false,true_and,and_true,Nat.zero_add,Nat.add_zero,List.length_nil,Int.toNat_natCast,List.length_map,b2,b3,qi0,qi1,qi2,qi3,qi4,qi5]
        repeat (with_reducible refine And.intro ?_ ?_; first | omega | (with_reducible constructor <;> omega) | exact False.elim | exact True.intro)
        refine VW_draw2A (t + 10) [3,4,5] ?_ ?_
        · try simp only [Heap.get,Heap.le,HL.get,HL.le,Nat.reduceLeDiff,ite_true,ite_false,and_true,qi0,qi1,qi2,qi3,qi4,qi5]
          all_goals (repeat' (first | rfl | trivial | omega | (simp only []; omega) | refine And.intro ?_ ?_))
        have b4:((out.map encN).take k).length = k:=by simp; omega
        have b5:((out.map encN).take k ++ [encN x.number]).length = k + 1:=by simp; omega
        have b6:((out.map encN).take k ++ [encN x.number]).take (k + 1) = (out.map encN).take k ++ [encN x.number]:=List.take_of_length_le (by rw [b5]; exact Nat.le_refl _)
        have b7:[pI x.number] = encN x.number:=rfl
        simp only [Zaf,QW,dok,dval,VOp.pure,VOp.simple,VOp.det,pok,pval,VA.ev,Env.get,Env.put,Env.keep,Zae,Zal,gd,aggV,isInt,numOf,loV,hiV,lenV,Zc9,sliceV,sliceOk,Zao,Zan,Zag,Zap,Zax,Zas,PV.cells,PV.fits,PV.nth,PV.row,Heap.get,Heap.del,Heap.le,HL.get,HL.del,HL.le,Heap.push,Nat.le_refl,Nat.add_eq_left,Nat.left_eq_add,Nat.succ_ne_self,Zbq,Zc8,Zbk,Zda,Zbc,Zcw,Zbj,Zbf,List.set,List.replicate,List.length,List.getD_cons_zero,List.getD_cons_succ,List.drop,Option.map,Nat.reduceEqDiff,Nat.reduceAdd,Nat.reduceLT,Nat.reduceLeDiff,Bool.false_eq_true,Bool.true_eq_false,ite_true,ite_false,true_and,and_true,implies_true,forall_const,reduceCtorEq,BEq.rfl,Nat.zero_add,Nat.add_zero,List.length_cons,Int.toNat_natCast,DrawA,List.length_map,qi0,qi1,qi2,qi3,qi4,qi5,b1,b2,b3,VOp.writes,rr,ac_num,Zb2,Nat.sub_zero,b7,b4,b5,b6,false_implies,implies_true]
        repeat (with_reducible refine And.intro ?_ ?_; first | omega | (with_reducible constructor <;> omega) | exact False.elim | exact True.intro)
        skip
        refine Zaa [3,4,5] ?_
        simp only [Zab,Zad,Zaf,pok,pval,VA.ev,Env.get,Env.put,Env.keep,Zae,intV,binV,Zah,HL.get,Nat.succ_ne_self,Nat.reduceEqDiff,ite_true,ite_false,true_and,ad1 (a:=i) (by omega)]
        refine ⟨⟨(i + 1,t + 1 + 1 + 1,t + 1 + 1 + 1 + 1),⟨ia,by show t + 1 + 1 + 1 < t + 1 + 1 + 1 + 1; omega⟩⟩,?_⟩
        rw [hins,hput,show (out.take k ++ x.number :: out.drop k).length = k + 1 + (out.length - k) by simp; omega,List.map_append,List.map_cons,List.map_take,List.map_drop]
        try simp only [Nat.le_refl,Nat.left_eq_add,List.cons_append,List.nil_append,Nat.reduceEqDiff,ite_true,ite_false,true_and,and_true,reduceCtorEq,qi0,qi1,qi2,qi3,qi4,qi5,List.append_assoc]
        all_goals (repeat' (first | rfl | trivial | omega | (simp only []; omega) | refine And.intro ?_ ?_))
      · have hput:=hc2 h4
        refine Zak ?_
        try simp only [Zae,Zal]
        refine Zaa [3,4,5] ?_
        simp only [Zab,Zad,Zaf,pok,pval,VA.ev,Env.get,Env.put,Env.keep,Zae,intV,binV,Zah,HL.get,Nat.succ_ne_self,Nat.reduceEqDiff,ite_true,ite_false,true_and,ad1 (a:=i) (by omega)]
        refine ⟨⟨(i + 1,id,t),⟨ia,ht⟩⟩,?_⟩
        rw [hins,hput]
        try simp only [Nat.le_refl,ite_true,true_and,and_true]
        all_goals (repeat' (first | rfl | trivial | omega | (simp only []; omega) | refine And.intro ?_ ?_))
  · simp only [decide_eq_false_iff_not] at h1
    obtain rfl:i = row.length:=by omega
    refine Zaz ?_
    try simp only [Zae,Zal,retQ,ite_true]
    refine Zac (Zaa [2] ?_)
    simp only [Zab,Zad,Zaf,pok,pval,VA.ev,Env.get,Env.put,Env.keep,Zae,Nat.succ_ne_self,Nat.reduceEqDiff,ite_true,ite_false,true_and]
    refine Zar ?_
    try simp only [Env.get,retQ,resV,Zau,RS.ev,RS.ok,ite_true,true_and,and_true]
    rw [List.take_length]
    exact View.own_all (fz:=false) (by simp [Heap.get,HL.get]) (by simp)
theorem sp_pandectref28_Once (l:List Gz) (hl:l.length ≤ 1000000) (hr:(rowG l).length ≤ 1000000):Zbo Tryz.prog 19 [.sl 4 (l.map Gz.enc)] (.bool (((twiceS (rowG l)).length:Int) == 0)):=by
  refine Zam ?_ (cB _) (by simp only [Za0,List.mem_cons,List.not_mem_nil,or_false,forall_eq_or_imp,forall_eq,false_implies,implies_true]; repeat' (first  | exact cB _ | exact Zbp _ | refine And.intro ?_ ?_))
  refine Zaq (vc:=c_pandectref28_Once) (ts:=[.t 2]) Go.Proofs.Tryz.func19 (by kernel_rfl) rfl rfl (Nat.le_of_ble_eq_true rfl) (by kernel_rfl) ?_
  unfold c_pandectref28_Once
  try dsimp only [ZM,ZO,ZN,ZG]
  refine Zac (Zaa [0] ?_)
  simp only [Zab,Zad,Zaf,pok,pval,VA.ev,Env.get,Env.put,Env.keep,Za2,Zae,Heap.nil,ite_true,ite_false,true_and,reduceCtorEq]
  refine Zac (Zaa [2] ?_)
  simp only [Zab,Zad,Zaf,pok,pval,VA.ev,Env.get,Env.put,Env.keep,Zae,intV,binV,Zah,lenV,Za8,Nat.succ_ne_self,List.map,Nat.reduceEqDiff,Bool.false_eq_true,ite_true,ite_false,true_and,reduceCtorEq]
  refine Zat (sp_pandectref28_Twice l hl hr) ?_
  try simp only [true_and,List.length_map]
  refine Zar ?_
  try simp only [Env.get,retQ,resV,Zau,RS.ev,RS.ok,ite_true,true_and,and_true]
  exact View.refl _ _
end Go.Proofs.YtehokmhebnkfdaaGreat.w
