import Derived.Test.YtjmekckcffckoabGreatDoorK1
import Derived.Test.YtjmekckcffckoabGreatDoorVmN
set_option linter.all false
namespace Go.Proofs.YtjmekckcffckoabGreatDoor.w
open Go Go.VM
set_option maxRecDepth 20000
set_option maxHeartbeats 0
set_option pp.deepTerms false
end Go.Proofs.YtjmekckcffckoabGreatDoor.w
namespace Go.Proofs.YtjmekckcffckoabGreatDoor.w
open Go Go.VM
set_option maxRecDepth 20000
set_option maxHeartbeats 0
set_option pp.deepTerms false
def Zcu:VC:=(.seq (.region [ZO 2 (.mv (.c (.str [])))] false) (.seq (.region [ZO 3 (.mv (.c .nilsl))] false) (.seq (.region [ZM 9 0,ZO 10 (.call 25 [(.t 9)]),ZM 4 10] false) (.seq (.seq (.region [ZO 5 (.mv (.c (.int .i64 0)))] false) (.block 0 (.loop (.seq (.seq (.region [ZM 11 5,ZM 12 4,ZO 13 (.len false (.t 12)),ZO 14 (.bin .lss (.t 11) (.t 13))] false) (.cond (.t 14) .skip (.exit 0))) (.block 1 (.seq (.region [ZM 15 5,ZO 16 (.bin .add (.t 15) (.c (.int .i64 1))),ZM 6 16] false) (.seq (.block 2 (.loop (.seq (.seq (.region [ZM 17 6,ZM 18 4,ZO 19 (.len false (.t 18)),ZO 20 (.bin .lss (.t 17) (.t 19)),ZM 21 20,ZG 22 (.mv (.t 4)) 21 true,ZG 23 (.mv (.t 6)) 21 true,ZG 24 (.iaddr 1 (.t 22) (.t 23)) 21 true,ZG 25 (.load false 1 (.t 24)) 21 true,ZG 26 (.mv (.t 4)) 21 true,ZG 27 (.mv (.t 6)) 21 true,ZG 28 (.bin .sub (.t 27) (.c (.int .i64 1))) 21 true,ZG 29 (.iaddr 1 (.t 26) (.t 28)) 21 true,ZG 30 (.load false 1 (.t 29)) 21 true,ZG 31 (.bin .add (.t 30) (.c (.int .i64 1))) 21 true,ZG 32 (.bin .eql (.t 25) (.t 31)) 21 true,ZO 33 (.pick (.t 21) (.t 32) (.c (.bool false)))] true) (.cond (.t 33) .skip (.exit 2))) (.block 3 (.region [ZM 34 6,ZO 35 (.bin .add (.t 34) (.c (.int .i64 1))),ZM 6 35] false))))) (.seq (.region [ZM 36 4,ZM 37 5,ZO 38 (.iaddr 1 (.t 36) (.t 37)),ZO 39 (.load false 1 (.t 38)),ZO 40 (.call 26 [(.t 39)]),ZM 41 4,ZM 42 6,ZO 43 (.bin .sub (.t 42) (.c (.int .i64 1))),ZO 44 (.iaddr 1 (.t 41) (.t 43)),ZO 45 (.load false 1 (.t 44)),ZO 46 (.call 26 [(.t 45)]),ZM 7 40,ZM 8 46] true) (.seq (.seq (.region [ZM 47 6,ZM 48 5,ZO 49 (.bin .sub (.t 47) (.t 48))] false) (.block 4 (.seq (.region [ZO 58 (.bin .eql (.t 49) (.c (.int .i64 1))),ZM 57 58] false) (.cond (.t 57) (.region [ZM 59 3,ZM 60 7,ZO 61 (.bslice 1 1 [(.str [])] [(0,(.t 60))]),ZO 62 (.app 1 16 [(.str [])] false (.t 59) (.t 61)),ZM 3 62] false) (.seq (.region [ZO 64 (.bin .eql (.t 49) (.c (.int .i64 2))),ZM 63 64] false) (.cond (.t 63) (.region [ZM 65 3,ZM 66 7,ZM 67 8,ZO 68 (.bslice 1 2 [(.str [])] [(0,(.t 66)),(1,(.t 67))]),ZO 69 (.app 1 16 [(.str [])] false (.t 65) (.t 68)),ZM 3 69] false) (.region [ZM 50 3,ZM 51 7,ZO 52 (.bin .add (.t 51) (.c (.str [32,116,111,32]))),ZM 53 8,ZO 54 (.bin .add (.t 52) (.t 53)),ZO 55 (.bslice 1 1 [(.str [])] [(0,(.t 54))]),ZO 56 (.app 1 16 [(.str [])] false (.t 50) (.t 55)),ZM 3 56] false))))))) (.region [ZM 70 6,ZM 5 70] false)))))))))) (.seq (.region [ZM 71 3,ZO 72 (.call 27 [(.t 71),(.c (.str [44,32]))]),ZM 2 72] false) .ret)))))
def strR (l:List Str):List (List PV):=l.map fun s=>[.str s]
theorem Zcg (l:List Str):(strR l).length = l.length:=List.length_map _
theorem strR_take (l:List Str):List.take l.length (strR l) = strR l:=List.take_of_length_le (by rw [Zcg]; exact Nat.le_refl _)
theorem strR_app (l m:List Str):strR l ++ strR m = strR (l ++ m):=by simp [strR]
theorem join_len (sep:Str) (m:Nat):∀ (l:List Str),(∀ s ∈ l,s.length ≤ m) → (Lib.join l sep).length ≤ l.length * (m + sep.length)
  | [],_=>by simp [Lib.join]
  | [x],h=>by
    have:=h x (by simp)
    rw [Lib.join_one]; simp; omega
  | x :: y :: r,h=>by
    have ih:=join_len sep m (y :: r) (fun s hs=>h s (List.mem_cons_of_mem _ hs))
    have hx:=h x List.mem_cons_self
    have e:Lib.join (x :: y :: r) sep = x ++ (sep ++ Lib.join (y :: r) sep):=by simp [Lib.join,List.intercalate]
    rw [e,List.length_append,List.length_append,List.length_cons]
    rw [Nat.add_mul]
    omega
theorem run_step {l:List Int} {a:Int} {k:Nat} (h:k ≤ Zcj a l):k < Zcj a l ↔ ∃ hk:k < l.length,l[k] = a + 1 + k:=by
  constructor
  · intro h1
    exact ⟨Nat.lt_of_lt_of_le h1 (runLen_le l a),runLen_at l a k h1⟩
  · rintro ⟨hk,e⟩
    rcases Nat.lt_or_eq_of_le h with h1 | rfl
    · exact h1
    · exact absurd e (runLen_stop l a hk)
theorem runT_small (a:Int) (k:Nat) (h0:i64 a) (h1:i64 (a + 1)) (h2:i64 (a + k)):∀ s ∈ runT a k,s.length ≤ 44:=by
  have l0:=itoa_len a h0
  have l1:=itoa_len _ h1
  have l2:=itoa_len _ h2
  intro s hs
  unfold runT at hs
  split at hs
  · simp at hs; subst hs; omega
  · split at hs
    · simp at hs; rcases hs with rfl | rfl <;> omega
    · simp at hs; subst hs; simp [toT]; omega
theorem partsI_nil:partsI [] = []:=rfl
theorem Zcq (l:List Int) (hl:l.length ≤ 100000) (hi:∀ x ∈ l,i64 x):PCall Tryz.prog 8 [.sl 1 (l.map fun x=>[pI x])] (.str (rangesS l)):=by
  have hOnce:=sp_concordance_once l (by omega)
  have hAl:=onceI_len l
  have hAlt:=onceI_lt l
  have hAi:∀ x ∈ Zcd l,-9223372036854775808 ≤ x ∧ x ≤ 9223372036854775807:=fun x hx=>i64_iff.1 (hi x ((mem_onceI l x).1 hx))
  refine Zcf ?_ (cS _) (by simp only [ClosedL,List.mem_cons,List.not_mem_nil,or_false,forall_eq_or_imp,forall_eq,false_implies,implies_true]; repeat' (first  | exact cI _ | exact cS _ | exact closed_sc _ | exact closed_ro (by simp only [List.mem_cons,List.not_mem_nil,or_false,forall_eq]; first | exact cI _ | exact cS _ | exact closed_eis _) | refine And.intro ?_ ?_))
  refine Zct (vc:=Zcu) (ts:=[.t 2]) Go.Proofs.Tryz.func8 (by kernel_rfl) rfl rfl (Nat.le_of_ble_eq_true rfl) (by kernel_rfl) ?_
  unfold Zcu
  try dsimp only [ZM,ZO,ZN,ZG]
  refine Za1 (Zac [0] ?_)
  simp only [Zaa,Zai,Zay,pok,pval,VA.ev,Env.get,Env.put,Env.keep,Za7,Zaz,Heap.nil,ite_true,ite_false,true_and,reduceCtorEq]
  refine Za1 (Zac [0,3] ?_)
  simp only [Zaa,Zai,Zay,pok,pval,VA.ev,Env.get,Env.put,Env.keep,Zaz,ite_true,ite_false,true_and,reduceCtorEq]
  refine VW_own0 3 1 rfl ?_
  try simp only [Env.put,Heap.push,Nat.zero_add]
  refine Za1 (Zac [3,4] ?_)
  simp only [Zaa,Zai,Zay,pok,pval,VA.ev,Env.get,Env.put,Env.keep,Zaz,Nat.succ_ne_self,List.map,Nat.reduceEqDiff,ite_true,ite_false,true_and,reduceCtorEq]
  refine Zcw hOnce ?_
  unfold rangesS
  generalize Zcd l = A at hAl hAlt hAi ⊢
  skip
  refine Za1 ?_
  refine Za1 (Zac [3,4,5] ?_)
  simp only [Zaa,Zai,Zay,pok,pval,VA.ev,Env.get,Env.put,Env.keep,Zaz,Nat.succ_ne_self,Nat.reduceEqDiff,ite_true,ite_false,true_and]
  refine Zb5 ?_
  refine Zcm (σ:={ s:(Nat × Nat × Nat) × List Str // s.1.1 ≤ A.length ∧ s.1.2.1 < s.1.2.2 ∧ s.2 ++ partsI (A.drop s.1.1) = partsI A ∧ s.2.length ≤ s.1.1 ∧ ∀ x ∈ s.2,x.length ≤ 44 }) (fun s=>([(3,.own s.1.1.2.1 0 s.1.2.length),(4,.sl 1 (A.map fun x=>[pI x])),(5,pI s.1.1.1)],⟨[(s.1.1.2.1,.arr false 1 (strR s.1.2))],s.1.1.2.2⟩)) (fun s=>A.length - s.1.1.1) ⟨((0,0,1),[]),by simp⟩ ?_ ?_ ?_
  · simp only [Env.get,Nat.succ_ne_self,Env.le,List.length,Nat.reduceEqDiff,ite_true,ite_false,true_and,and_true]
    rfl
  · simp only [Heap.get,Heap.le,HL.get,HL.le,Nat.le_refl,ite_true,true_and,and_true,Option.some.injEq]
    try rfl
  rintro ⟨⟨⟨k,id,n⟩,P⟩,hk,hid,hP,hPl,hPs⟩
  simp only [] at hk hid hP hPl hPs ⊢
  have qi0:(id = n) = False:=eq_false (by omega)
  have qi1:(id = (n + 1)) = False:=eq_false (by omega)
  have qi2:(n = id) = False:=eq_false (by omega)
  have qi3:(n = (n + 1)) = False:=eq_false (by omega)
  have qi4:((n + 1) = id) = False:=eq_false (by omega)
  have qi5:((n + 1) = n) = False:=eq_false (by omega)
  refine Za1 ?_
  refine Za1 (Zac [3,4,5,14] ?_)
  simp only [Zaa,Zai,Zay,pok,pval,VA.ev,Env.get,Env.put,Env.keep,Zaz,intV,binV,Zbk,lenV,Zbn,Heap.get,Heap.le,HL.le,Nat.succ_ne_self,Env.le,Nat.reduceEqDiff,ite_true,ite_false,true_and,and_true,List.length_map]
  refine Zca rfl (fun h1=>?_) (fun h1=>?_)
  · simp only [decide_eq_true_eq] at h1
    have ka:k < A.length:=by omega
    have hdrop:A.drop k = A[k] :: A.drop (k + 1):=List.drop_eq_getElem_cons ka
    have hat:∀ j (hj:k + 1 + j < A.length),(A.drop (k + 1))[j]'(by simp; omega) = A[k + 1 + j]:=fun j hj=>by simp
    refine Zcb ?_
    try simp only [Zaz]
    refine Zb5 ?_
    refine Za1 (Zac [3,4,5,6] ?_)
    simp only [Zaa,Zai,Zay,pok,pval,VA.ev,Env.get,Env.put,Env.keep,Zaz,intV,binV,Zbk,Nat.succ_ne_self,Nat.reduceEqDiff,ite_true,ite_false,true_and,w64 (n:=(k:Int) + 1) (by omega) (by omega)]
    have hRl:=runLen_le (A.drop (k + 1)) A[k]
    rw [List.length_drop] at hRl
    refine Za1 ?_
    refine Zb5 ?_
    refine Zcm (σ:={ j:Nat // j ≤ Zcj A[k] (A.drop (k + 1)) }) (fun s=>([(3,.own id 0 P.length),(4,.sl 1 (A.map fun x=>[pI x])),(5,pI k),(6,pI ((k + 1 + s.1:Nat):Int))],⟨[(id,.arr false 1 (strR P))],n⟩)) (fun s=>A.length - s.1) ⟨0,Nat.zero_le _⟩ ?_ ?_ ?_
    · try simp only [Env.get,Nat.succ_ne_self,Env.le,Nat.reduceEqDiff,ite_true,ite_false,true_and,and_true,Nat.add_zero,qi0,qi1,qi2,qi3,qi4,qi5]
      all_goals (repeat' (first | rfl | trivial | omega | (simp only []; omega) | refine And.intro ?_ ?_))
    · simp only [Heap.get,Heap.le,HL.get,HL.le,Nat.le_refl,ite_true,and_true]
    rintro ⟨j,hj⟩
    simp only []
    have hst:=run_step hj
    have cur:∃ hm:k + j < A.length,A[k + j] = A[k] + j:=by
      refine ⟨by omega,?_⟩
      cases j with
      | zero=>simp
      | succ j =>
        have:=runLen_at _ _ j (Nat.lt_of_succ_le hj)
        rw [hat j (by omega)] at this
        have e:k + (j + 1) = k + 1 + j:=by omega
        simp only [e,this]
        omega
    obtain ⟨hm,hcur⟩:=cur
    refine Za1 ?_
    refine Za1 (VW_mid (σ:={ b:Bool // b = true ↔ j < Zcj A[k] (A.drop (k + 1)) }) (fun b=>([(3,.own id 0 P.length),(4,.sl 1 (A.map fun x=>[pI x])),(5,pI k),(6,pI ((k + 1 + j:Nat):Int)),(33,.bool b.1)],⟨[(id,.arr false 1 (strR P))],n⟩)) (VW_drawS [3,4,5,6,33] (by simp [Heap.le,Heap.get,HL.le,HL.get]) ?_) (fun b=>?_))
    · by_cases h2:k + 1 + j < A.length
      · have e1:decide (((k + 1 + j:Nat):Int) < (A.length:Int)) = true:=by simpa using by omega
        have e2:IntKind.i64.wrap (((k + 1 + j:Nat):Int) - 1) = ((k + j:Nat):Int):=by rw [w64 (by omega) (by omega)]; omega
        have hlt:A[k + j] < A[k + 1 + j]:=List.pairwise_iff_getElem.1 hAlt _ _ _ _ (by omega)
        have hb:=hAi _ (List.getElem_mem h2)
        have hb2:=hAi _ (List.getElem_mem hm)
        simp only [midQ,Zad,Zas,Zau,QW,dok,dval,VOp.pure,VOp.simple,VOp.det,pok,pval,VA.ev,Env.get,Env.put,Env.keep,gd,Zbx,isBool,aggV,intV,binV,Zbk,isInt,numOf,lenV,Zae,Zbl,Za6,Zao,Zbn,PV.nth,PV.row,Heap.get,Heap.le,HL.get,HL.le,Nat.le_refl,Nat.succ_ne_self,Env.le,List.length,List.getD_cons_zero,List.take,List.take_succ_cons,Nat.reduceEqDiff,Bool.false_eq_true,ite_true,ite_false,true_and,and_true,implies_true,forall_const,Nat.zero_add,List.length_cons,Int.toNat_natCast,List.length_map,e1,e2,rowm h2,rowm hm,w64 (n:=A[k + j] + 1) (by omega) (by omega)]
        repeat (with_reducible refine And.intro ?_ ?_; first | omega | (with_reducible constructor <;> omega) | exact False.elim | exact True.intro)
        refine ⟨⟨A[k + 1 + j] == A[k + j] + 1,?_⟩,?_⟩
        · rw [hst,beq_iff_eq]
          constructor
          · intro e
            exact ⟨by simp; omega,by rw [hat j h2]; omega⟩
          · rintro ⟨_,e⟩
            rw [hat j h2] at e; omega
        · try simp only [qi0,qi1,qi2,qi3,qi4,qi5]
          all_goals (repeat' (first | rfl | trivial | omega | (simp only []; omega) | refine And.intro ?_ ?_))
      · have e1:decide (((k + 1 + j:Nat):Int) < (A.length:Int)) = false:=by simp; omega
        simp only [midQ,Zad,Zas,Zaf,QW,dok,dval,VOp.pure,VOp.simple,VOp.det,pok,pval,VA.ev,Env.get,Env.put,Env.keep,gd,Zbx,isBool,intV,binV,Zbk,lenV,Zbn,Heap.get,Heap.le,HL.get,HL.le,Nat.le_refl,Nat.succ_ne_self,Env.le,Nat.reduceEqDiff,Bool.false_eq_true,ite_true,ite_false,true_and,and_true,implies_true,List.length_map,e1]
        refine ⟨⟨false,?_⟩,?_⟩
        · rw [hst]
          constructor
          · intro h; cases h
          · rintro ⟨h,_⟩; simp at h; omega
        · try simp only [qi0,qi1,qi2,qi3,qi4,qi5]
          all_goals (repeat' (first | rfl | trivial | omega | (simp only []; omega) | refine And.intro ?_ ?_))
    obtain ⟨b,hb⟩:=b
    simp only []
    refine Zca rfl (fun h2=>?_) (fun h2=>?_)
    · have hj2:=hb.1 h2
      refine Zcb ?_
      try simp only [Zaz,Heap.get,Heap.le,HL.le,Env.le,and_true]
      refine Zb5 ?_
      refine Zac [3,4,5,6] ?_
      simp only [Zaa,Zai,Zay,pok,pval,VA.ev,Env.get,Env.put,Env.keep,Zaz,Za2,intV,binV,Zbk,HL.get,Nat.le_refl,Nat.succ_ne_self,Nat.reduceEqDiff,ite_true,ite_false,true_and,and_true,w64 (n:=((k + 1 + j:Nat):Int) + 1) (by omega) (by omega)]
      refine ⟨⟨j + 1,hj2⟩,?_⟩
      have e:((k + 1 + j:Nat):Int) + 1 = ((k + 1 + (j + 1):Nat):Int):=by omega
      try simp only [true_and,qi0,qi1,qi2,qi3,qi4,qi5,e]
      all_goals (repeat' (first | rfl | trivial | omega | (simp only []; omega) | refine And.intro ?_ ?_))
    have hjr:j = Zcj A[k] (A.drop (k + 1)):=by
      have:¬ j < Zcj A[k] (A.drop (k + 1)):=fun h=>by rw [hb.2 h] at h2; cases h2
      omega
    refine Zck ?_
    try simp only [Env.get,Zaz,Za2,retQ,HL.get,Nat.succ_ne_self,Nat.reduceEqDiff,ite_true,ite_false,true_and,reduceCtorEq]
    have e2:IntKind.i64.wrap (((k + 1 + j:Nat):Int) - 1) = ((k + j:Nat):Int):=by rw [w64 (by omega) (by omega)]; omega
    have b0:=hAi _ (List.getElem_mem ka)
    have b1:=hAi _ (List.getElem_mem hm)
    refine Za1 (VW_drawS [3,4,5,6,7,8] (by simp [Heap.le,Heap.get,HL.le,HL.get]) ?_)
    simp only [Zad,Zas,QW,dok,dval,VOp.pure,VOp.simple,VOp.det,pok,pval,VA.ev,Env.get,Env.put,Env.keep,Zaz,gd,aggV,intV,binV,Zbk,isInt,numOf,lenV,Zae,Zbl,Za6,Zao,PV.nth,PV.row,Nat.le_refl,Nat.succ_ne_self,List.length,List.getD_cons_zero,List.take,List.take_succ_cons,Nat.reduceEqDiff,Bool.false_eq_true,ite_true,ite_false,true_and,and_true,implies_true,forall_const,Nat.zero_add,List.length_cons,Int.toNat_natCast,List.length_map,e2,rowm ka,rowm hm]
    refine ⟨by omega,_,.inl (sp_strconv_Itoa _ (i64_iff.2 b0)),?_⟩
    skip
    refine ⟨by omega,_,.inl (sp_strconv_Itoa _ (i64_iff.2 b1)),?_⟩
    have hkA:partsI (A.drop k) = runT A[k] j ++ partsI (A.drop (k + 1 + j)):=by
      rw [hdrop,partsI_cons,← hjr,List.drop_drop]
    have hlast:Lib.itoa A[k + j] = Lib.itoa (A[k] + j):=by rw [hcur]
    have hN:(P ++ runT A[k] j) ++ partsI (A.drop (k + 1 + j)) = partsI A:=by rw [List.append_assoc,← hkA,hP]
    have hNl:(P ++ runT A[k] j).length ≤ k + 1 + j:=by
      have:=runT_len A[k] j
      rw [List.length_append]; omega
    have i1:A[k] + 1 ≤ 9223372036854775807 ∨ j = 0:=by
      rcases Nat.eq_zero_or_pos j with h | h
      · exact .inr h
      · left; omega
    have hNs:∀ x ∈ P ++ runT A[k] j,x.length ≤ 44:=by
      intro x hx
      rcases List.mem_append.1 hx with h | h
      · exact hPs x h
      · rcases i1 with h3 | h3
        · exact runT_small A[k] j (i64_iff.2 b0) (i64_iff.2 (by omega)) (i64_iff.2 (by omega)) x h
        · subst h3
          simp only [runT,if_pos,List.mem_singleton] at h
          subst h
          have:=itoa_len _ (i64_iff.2 b0)
          omega
    have fl:=itoa_len _ (i64_iff.2 b0)
    have ll:=itoa_len _ (i64_iff.2 b1)
    have hsub:IntKind.i64.wrap (((k + 1 + j:Nat):Int) - (k:Int)) = ((j + 1:Nat):Int):=by rw [w64 (by omega) (by omega)]; omega
    have htk:=strR_take P
    have hln:=Zcg P
    skip
    refine Za1 ?_
    refine Za1 (Zac [3,4,6,7,8,49] ?_)
    simp only [Zaa,Zai,Zay,pok,pval,VA.ev,Env.get,Env.put,Env.keep,Zaz,intV,binV,Zbk,Nat.succ_ne_self,Nat.reduceEqDiff,ite_true,ite_false,true_and,hsub]
    refine Zb5 ?_
    refine Za1 (Zac [3,4,6,7,8,49,57] ?_)
    simp only [Zaa,Zai,Zay,pok,pval,VA.ev,Env.get,Env.put,Env.keep,Zaz,intV,binV,Zbk,Nat.succ_ne_self,Nat.reduceEqDiff,ite_true,ite_false,true_and]
    refine Zca rfl (fun h3=>?_) (fun h3=>?_)
    · have hj0:j = 0:=by rw [beq_iff_eq] at h3; omega
      have hr:strR P ++ [[PV.str (Lib.itoa A[k])]] = strR (P ++ runT A[k] j):=by
        rw [← strR_app]; simp [runT,hj0,strR]
      have hrl:P.length + 1 = (P ++ runT A[k] j).length:=by simp [runT,hj0]
      refine Zac [3,4,6] ?_
      simp only [Zaa,Zai,Zay,pok,pval,VA.ev,Env.get,Env.put,Env.keep,Zaz,Za2,PV.cells,PV.fits,Heap.get,Heap.del,HL.get,HL.del,Heap.push,Nat.le_refl,Nat.succ_ne_self,Za3,Zbt,Zam,Zbu,Zaj,Zbs,Za0,Zal,List.set,List.replicate,List.length,List.take,List.drop,List.take_succ_cons,Nat.reduceEqDiff,Nat.reduceLT,Nat.reduceLeDiff,ite_true,ite_false,true_and,and_true,BEq.rfl,Nat.zero_add,List.length_cons,hln,htk,hr,qi0,qi1,qi2,qi3,qi4,qi5]
      refine ⟨by omega,by omega,?_⟩
      refine Zac [3,4,5] ?_
      simp only [Zaa,Zai,Zay,pok,pval,VA.ev,Env.get,Env.put,Env.keep,Zaz,Za2,HL.get,Nat.succ_ne_self,Nat.reduceEqDiff,ite_true,ite_false,true_and]
      refine ⟨⟨((k + 1 + j,n + 1,n + 1 + 1),P ++ runT A[k] j),(by show k + 1 + j ≤ A.length; omega),by simp,hN,hNl,hNs⟩,?_⟩
      simp only [← hrl]
      try simp only [Nat.le_refl,ite_true,ite_false,true_and,and_true,qi0,qi1,qi2,qi3,qi4,qi5]
      all_goals (repeat' (first | rfl | trivial | omega | (simp only []; omega) | refine And.intro ?_ ?_))
    · refine Za1 (Zac [3,4,6,7,8,63] ?_)
      simp only [Zaa,Zai,Zay,pok,pval,VA.ev,Env.get,Env.put,Env.keep,Zaz,intV,binV,Zbk,Nat.succ_ne_self,Nat.reduceEqDiff,ite_true,ite_false,true_and]
      refine Zca rfl (fun h4=>?_) (fun h4=>?_)
      · have hj1:j = 1:=by rw [beq_iff_eq] at h4; omega
        have e1:Lib.itoa A[k + j] = Lib.itoa (A[k] + 1):=by rw [hlast,hj1]; rfl
        have hr:strR P ++ [[PV.str (Lib.itoa A[k])],[PV.str (Lib.itoa A[k + j])]] = strR (P ++ runT A[k] j):=by
          rw [← strR_app,e1]; simp [runT,hj1,strR]
        have hrl:P.length + 2 = (P ++ runT A[k] j).length:=by simp [runT,hj1]
        refine Zac [3,4,6] ?_
        simp only [Zaa,Zai,Zay,pok,pval,VA.ev,Env.get,Env.put,Env.keep,Zaz,Za2,PV.cells,PV.fits,Heap.get,Heap.del,HL.get,HL.del,Heap.push,Nat.le_refl,Nat.succ_ne_self,Za3,Zbt,Zam,Zbu,Zaj,Zbs,Za0,Zal,List.set,List.replicate,List.length,List.take,List.drop,List.take_succ_cons,Nat.reduceEqDiff,Nat.reduceAdd,Nat.reduceLT,Nat.reduceLeDiff,ite_true,ite_false,true_and,and_true,BEq.rfl,Nat.zero_add,List.length_cons,hln,htk,hr,qi0,qi1,qi2,qi3,qi4,qi5]
        refine ⟨by omega,by omega,?_⟩
        refine Zac [3,4,5] ?_
        simp only [Zaa,Zai,Zay,pok,pval,VA.ev,Env.get,Env.put,Env.keep,Zaz,Za2,HL.get,Nat.succ_ne_self,Nat.reduceEqDiff,ite_true,ite_false,true_and]
        refine ⟨⟨((k + 1 + j,n + 1,n + 1 + 1),P ++ runT A[k] j),(by show k + 1 + j ≤ A.length; omega),by simp,hN,hNl,hNs⟩,?_⟩
        simp only [← hrl]
        try simp only [Nat.le_refl,ite_true,ite_false,true_and,and_true,qi0,qi1,qi2,qi3,qi4,qi5]
        all_goals (repeat' (first | rfl | trivial | omega | (simp only []; omega) | refine And.intro ?_ ?_))
      · have hj2:j ≠ 0 ∧ j ≠ 1:=by rw [beq_eq_false_iff_ne] at h3 h4; omega
        have hr:strR P ++ [[PV.str (Lib.itoa A[k] ++ [32,116,111,32] ++ Lib.itoa A[k + j])]] = strR (P ++ runT A[k] j):=by
          rw [← strR_app,hlast]; simp [runT,hj2.1,hj2.2,strR,toT]
        have hrl:P.length + 1 = (P ++ runT A[k] j).length:=by simp [runT,hj2.1,hj2.2]
        refine Zac [3,4,6] ?_
        simp only [Zaa,Zai,Zay,pok,pval,VA.ev,Env.get,Env.put,Env.keep,Zaz,Za2,binV,Zbk,strV,PV.cells,PV.fits,Heap.get,Heap.del,HL.get,HL.del,Heap.push,Nat.le_refl,Nat.succ_ne_self,Za3,Zbt,Zam,Zbu,Zaj,Zbs,Za0,Zal,List.set,List.replicate,List.length,List.take,List.drop,List.take_succ_cons,Nat.reduceEqDiff,Nat.reduceAdd,Nat.reduceLT,Nat.reduceLeDiff,ite_true,ite_false,true_and,and_true,BEq.rfl,Nat.zero_add,List.length_cons,hln,htk,hr,List.length_append,qi0,qi1,qi2,qi3,qi4,qi5]
        refine ⟨by omega,by omega,by omega,by omega,?_⟩
        refine Zac [3,4,5] ?_
        simp only [Zaa,Zai,Zay,pok,pval,VA.ev,Env.get,Env.put,Env.keep,Zaz,Za2,HL.get,Nat.succ_ne_self,Nat.reduceEqDiff,ite_true,ite_false,true_and]
        refine ⟨⟨((k + 1 + j,n + 1,n + 1 + 1),P ++ runT A[k] j),(by show k + 1 + j ≤ A.length; omega),by simp,hN,hNl,hNs⟩,?_⟩
        simp only [← hrl]
        try simp only [Nat.le_refl,ite_true,ite_false,true_and,and_true,qi0,qi1,qi2,qi3,qi4,qi5]
        all_goals (repeat' (first | rfl | trivial | omega | (simp only []; omega) | refine And.intro ?_ ?_))
  · simp only [decide_eq_false_iff_not] at h1
    obtain rfl:k = A.length:=by omega
    rw [List.drop_length,partsI_nil,List.append_nil] at hP
    subst hP
    have hjl:=join_len sepT 44 (partsI A) hPs
    have hm:(partsI A).length * (44 + sepT.length) ≤ 100000 * (44 + 2):=Nat.mul_le_mul (by omega) (by decide)
    refine Zck ?_
    try simp only [Zaz,Za2,retQ,ite_true]
    refine Za1 (Zac [2] ?_)
    simp only [Zaa,Zai,Zay,pok,pval,VA.ev,Env.get,Env.put,Env.keep,Zaz,Nat.succ_ne_self,List.map,Nat.reduceEqDiff,ite_true,ite_false,true_and]
    refine ACall_v [It.strs (partsI A),.str sepT] ⟨View.own_all (fz:=false) (by simp [Heap.get,HL.get]; rfl) (by simp),View.refl _ _,trivial⟩ (sp_strings_Join _ _ (by omega) (by omega)) (scalar_str _) ?_
    skip
    refine VW_ret ?_
    try simp only [Env.get,retQ,resV,Zbq,RS.ev,RS.ok,ite_true,true_and,and_true]
    exact View.refl _ _
end Go.Proofs.YtjmekckcffckoabGreatDoor.w
