import Derived.Test.YtjmekckcffckoaaDoorA2
import Derived.Test.YtjmekckcffckoaaDoorVmAj
set_option linter.all false
namespace Go.Proofs.YtjmekckcffckoaaDoor.w
open Go Go.VM
set_option maxRecDepth 20000
set_option maxHeartbeats 0
set_option pp.deepTerms false
def c_digest_Sum : VC := (.seq (.region [ZO 2 (.mv (.c (.str [])))] false) (.seq (.region [ZO 3 (.mv (.c (.int .u64 11400714819323198485)))] false) (.seq (.seq (.region [ZM 7 0,ZO 8 (.other ({ dst := some 8,op := Op.convert 9 45 (Operand.tmp 7),type := 45,pos := "digest.go:25",after := #[{ on := 0,ground := Ground.data }],guard := none } : Oper)),ZO 9 (.len false (.t 8)),ZO 10 (.mv (.c (.int .i64 0)))] false) (.block 0 (.loop (.seq (.region [ZO 11 (.bin .lss (.t 10) (.t 9))] false) (.seq (.cond (.t 11) .skip (.exit 0)) (.seq (.block 1 (.seq (.region [ZO 12 (.iaddr 1 (.t 8) (.t 10)),ZO 13 (.load false 1 (.t 12)),ZM 5 13] false) (.seq (.region [ZM 14 3,ZM 15 5,ZO 16 (.conv .u64 (.t 15)),ZO 17 (.bin .add (.t 14) (.t 16)),ZO 18 (.bin .add (.t 17) (.c (.int .u64 1))),ZO 19 (.bin .mul (.t 18) (.c (.int .u64 10723151780598845931))),ZM 3 19] false) (.region [ZM 20 3,ZM 21 3,ZO 22 (.bin .shr (.t 21) (.c (.int .u64 31))),ZO 23 (.bin .xor (.t 20) (.t 22)),ZM 3 23] false)))) (.region [ZO 24 (.bin .add (.t 10) (.c (.int .i64 1))),ZM 10 24] false))))))) (.seq (.region [ZM 25 3,ZO 26 (.call 25 [(.t 25),(.c (.int .i64 16))]),ZM 6 26] false) (.seq (.region [ZM 27 6,ZO 28 (.len true (.t 27)),ZO 29 (.bin .sub (.c (.int .i64 16)) (.t 28)),ZO 30 (.call 26 [(.c (.str [48])),(.t 29)]),ZM 31 6,ZO 32 (.bin .add (.t 30) (.t 31)),ZM 2 32] false) .ret)))))
def zeros (n:Nat):Str:=List.replicate n 48
theorem sum_pad (s:Str):(hexD (sumI s).toNat).length ≤ 16 ∧ zeros (16 - (hexD (sumI s).toNat).length) ++ hexD (sumI s).toNat = sumT s :=
  hexD_pad 16 _ (by decide) (by have := sumI_bound s; have e : (16 : Nat) ^ 16 = 18446744073709551616 := by decide
                                rw [e]; omega)
theorem sp_Sum (HF : ∀ h : Int, 0 ≤ h → h < 18446744073709551616 → Za8 Tryd.prog 25 [.int .u64 h, pI 16] (.str (hexD h.toNat)))
    (HR:∀ n:Nat,n ≤ 16 → Za8 Tryd.prog 26 [.str [48],pI n] (.str (zeros n))) (s:Str) (hs:s.length ≤ 1000000000):Za8 Tryd.prog 9 [.str s] (.str (sumT s)):=by
  refine Zai ?_ (cS _) (by simp only [Zax,List.mem_cons,List.not_mem_nil,or_false,forall_eq_or_imp,forall_eq,false_implies,implies_true]; repeat' (first  | exact cI _ | exact cS _ | exact Closed.of_scalar (Zbt _ _) | exact Zbd (by simp only [List.mem_cons,List.not_mem_nil,or_false,forall_eq]; first | exact cI _ | exact cS _ | exact Za9 _) | refine And.intro ?_ ?_))
  refine Zan (vc:=c_digest_Sum) (ts:=[.t 2]) Go.Proofs.Tryd.func9 (by kernel_rfl) rfl rfl (Nat.le_of_ble_eq_true rfl) (by kernel_rfl) ?_
  unfold c_digest_Sum
  try dsimp only [ZM,ZO,ZN,ZG]
  refine Zac (Zaa [0] ?_)
  simp only [Zab,Zad,Zaf,pok,pval,VA.ev,Env.get,Env.put,Env.keep,Za3,Zae,Heap.nil,ite_true,ite_false,true_and,reduceCtorEq]
  refine Zac (Zaa [0,3] ?_)
  simp only [Zab,Zad,Zaf,pok,pval,VA.ev,Env.get,Env.put,Env.keep,Zae,ite_true,ite_false,true_and,reduceCtorEq]
  refine Zac ?_
  refine Zac (Zaa [3,8,9,10] ?_)
  simp only [Zab,Zad,Zaf,pok,pval,VA.ev,Env.get,Env.put,Env.keep,Zae,lenV,Zcd,Nat.succ_ne_self,Nat.reduceEqDiff,Bool.false_eq_true,ite_true,ite_false,true_and,reduceCtorEq]
  refine OpS_bytes (el:=5) rfl Tryd.underlying9 (by kernel_rfl) (by kernel_rfl) rfl rfl ?_
  generalize hB:(s.map fun b=>[PV.int .u8 (b.toNat:Int)]) = B
  have hBl:B.length = s.length:=by rw [← hB,List.length_map]
  have hBg:∀ k (h:k < s.length),B.getD k [] = [PV.int .u8 (s[k].toNat:Int)]:=fun k h=>by rw [← hB]; simp [List.getD_eq_getElem?_getD,h]
  try simp only [true_and]
  refine Zam ?_
  refine Zb6 (σ:={ k:Nat // k ≤ s.length }) (fun k=>([(3,.int .u64 (sumI (s.take k.1))),(8,.sl 1 B),(9,pI B.length),(10,pI k.1)],⟨[],0⟩)) (fun k=>s.length - k.1) ⟨0,Nat.zero_le _⟩ ?_ ?_ ?_
  · try simp only [Env.get,Nat.succ_ne_self,Env.le,List.take,Nat.reduceEqDiff,ite_true,ite_false,true_and,and_true,true_and]
    all_goals (repeat' (first | rfl | trivial | omega | (simp only []; omega) | refine And.intro ?_ ?_))
  · simp only [Heap.le,HL.le,Nat.le_refl,and_true]
  rintro ⟨k,hk⟩
  simp only []
  refine Zac (Zaa [3,8,9,10,11] ?_)
  simp only [Zab,Zad,Zaf,pok,pval,VA.ev,Env.get,Env.put,Env.keep,Zae,intV,binV,Zal,Heap.le,HL.le,Nat.succ_ne_self,Env.le,Nat.reduceEqDiff,ite_true,ite_false,true_and,and_true,hBl]
  refine Zac ?_
  refine Zaj rfl (fun h1=>?_) (fun h1=>?_)
  · simp only [decide_eq_true_eq] at h1
    have ka:k < s.length:=by omega
    have hst:=sumI_step ka
    have hrow:=hBg k ka
    generalize hH:sumI (s.take k) = H at hst
    generalize s[k] = b at hst hrow
    have hb:b.toNat < 256:=b.toNat_lt
    have wb:IntKind.u64.wrap (b.toNat:Int) = (b.toNat:Int):=by
      have:IntKind.u64.wrap (b.toNat:Int) = (b.toNat:Int) % 18446744073709551616:=rfl
      rw [this]; omega
    have hA:IntKind.u64.wrap (IntKind.u64.wrap (IntKind.u64.wrap (H + (b.toNat:Int)) + 1) * 10723151780598845931) = mixA H b.toNat:=rfl
    refine Zap ?_
    try simp only [Zae]
    refine Zac ?_
    refine Zam ?_
    refine Zac (Zaa [3,5,8,9,10] ?_)
    simp only [Zab,Zad,Zaf,pok,pval,VA.ev,Env.get,Env.put,Env.keep,Zae,aggV,isInt,numOf,lenV,Zag,Zas,iaddrV,Zb5,PV.nth,PV.row,Nat.le_refl,Nat.succ_ne_self,List.length,List.getD_cons_zero,List.take,List.take_succ_cons,Nat.reduceEqDiff,Bool.false_eq_true,ite_true,ite_false,true_and,and_true,implies_true,Nat.zero_add,List.length_cons,Int.toNat_natCast,hBl,hrow]
    refine ⟨by omega,?_⟩
    refine Zac (Zaa [3,8,9,10] ?_)
    simp only [Zab,Zad,Zaf,pok,pval,VA.ev,Env.get,Env.put,Env.keep,Zae,intV,binV,Zal,convV,isInt,Nat.succ_ne_self,Nat.reduceEqDiff,ite_true,ite_false,true_and,wb,hA]
    refine Zaa [3,8,9,10] ?_
    simp only [Zab,Zad,Zaf,pok,pval,VA.ev,Env.get,Env.put,Env.keep,Zae,Zaw,intV,binV,Zal,Nat.succ_ne_self,Nat.reduceEqDiff,ite_true,ite_false,true_and,Int.reduceToNat]
    refine ⟨by decide,?_⟩
    refine Zaa [3,8,9,10] ?_
    simp only [Zab,Zad,Zaf,pok,pval,VA.ev,Env.get,Env.put,Env.keep,Zae,intV,binV,Zal,Nat.le_refl,Nat.succ_ne_self,Nat.reduceEqDiff,ite_true,ite_false,true_and,ad1 (a:=k) (by omega)]
    refine ⟨⟨k + 1,ka⟩,?_⟩
    try simp only [and_true,hst]
    all_goals (repeat' (first | rfl | trivial | omega | (simp only []; omega) | refine And.intro ?_ ?_))
  simp only [decide_eq_false_iff_not] at h1
  obtain rfl:k = s.length:=by omega
  rw [List.take_length]
  have hsb:=sumI_bound s
  obtain ⟨p1,p2⟩:=sum_pad s
  rw [← p2]
  have F:=HF (sumI s) hsb.1 hsb.2
  generalize hexD (sumI s).toNat = X at p1 F ⊢
  have R:=HR (16 - X.length) (by omega)
  have hz:(zeros (16 - X.length)).length = 16 - X.length:=by simp [zeros]
  generalize zeros (16 - X.length) = Z at R hz ⊢
  refine Zbs ?_
  try simp only [Zae,Zaw,retQ,ite_true]
  refine Zac (Zaa [6] ?_)
  simp only [Zab,Zad,Zaf,pok,pval,VA.ev,Env.get,Env.put,Env.keep,Zae,List.map,Nat.reduceEqDiff,ite_true,ite_false,true_and]
  refine Zaq F ?_
  skip
  refine Zac (Zaa [2] ?_)
  have e16:IntKind.i64.wrap (16 - (X.length:Int)) = ((16 - X.length:Nat):Int):=by rw [w64 (by omega) (by omega)]; omega
  simp only [Zab,Zad,Zaf,pok,pval,VA.ev,Env.get,Env.put,Env.keep,Zae,intV,binV,Zal,strV,lenV,Zcd,Nat.succ_ne_self,List.map,Nat.reduceEqDiff,ite_true,ite_false,true_and,e16]
  refine Zaq R ?_
  try simp only []
  refine ⟨by omega,?_⟩
  refine Zaz ?_
  try simp only [Env.get,retQ,resV,Zbc,RS.ev,RS.ok,ite_true,true_and,and_true]
  exact View.refl _ _
end Go.Proofs.YtjmekckcffckoaaDoor.w
