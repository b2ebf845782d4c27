import Derived.Test.YtjmekckcffckoaaDoorA2
import Derived.Test.YtjmekckcffckoaaDoorA3
import Derived.Test.YtjmekckcffckoaaDoorShAll
import Derived.Lib.AppendIntMem
import Derived.Lib.ItoaNum
import Derived.Lib.Join
import Derived.Test.YtjmekckcffckoaaDoorVmQ
import Derived.Test.YtjmekckcffckoaaDoorVmG
set_option linter.all false
namespace Go.Proofs.YtjmekckcffckoaaDoor.w
open Go Go.VM
set_option maxRecDepth 20000
set_option maxHeartbeats 0
set_option pp.deepTerms false
def c_pandectref12_Digits:VC:=(.seq (.region [ZO 2 (.mv (.c (.str [])))] false) (.seq (.seq (.region [ZM 3 0,ZO 4 (.bin .lss (.t 3) (.c (.int .i64 0)))] false) (.cond (.t 4) (.seq (.seq (.region [ZM 5 0,ZO 6 (.bin .gtr (.t 5) (.c (.int .i64 (-10))))] false) (.cond (.t 6) (.seq (.region [ZM 7 0,ZO 8 (.bin .sub (.c (.int .i64 48)) (.t 7)),ZO 9 (.conv .u8 (.t 8)),ZO 10 (.bslice 1 1 [(.int .u8 0)] [(0,(.t 9))]),ZO 11 (.px .b2s [(.t 10)]),ZO 12 (.bin .add (.c (.str [45])) (.t 11)),ZM 2 12] false) .ret) .skip)) (.seq (.region [ZM 13 0,ZO 14 (.bin .quo (.t 13) (.c (.int .i64 10))),ZO 15 (.call 32 [(.t 14)]),ZM 16 0,ZO 17 (.bin .rem (.t 16) (.c (.int .i64 10))),ZO 18 (.bin .sub (.c (.int .i64 48)) (.t 17)),ZO 19 (.conv .u8 (.t 18)),ZO 20 (.bslice 1 1 [(.int .u8 0)] [(0,(.t 19))]),ZO 21 (.px .b2s [(.t 20)]),ZO 22 (.bin .add (.t 15) (.t 21)),ZM 2 22] true) .ret)) .skip)) (.seq (.seq (.region [ZM 23 0,ZO 24 (.bin .lss (.t 23) (.c (.int .i64 10)))] false) (.cond (.t 24) (.seq (.region [ZM 25 0,ZO 26 (.bin .add (.c (.int .i64 48)) (.t 25)),ZO 27 (.conv .u8 (.t 26)),ZO 28 (.bslice 1 1 [(.int .u8 0)] [(0,(.t 27))]),ZO 29 (.px .b2s [(.t 28)]),ZM 2 29] false) .ret) .skip)) (.seq (.region [ZM 30 0,ZO 31 (.bin .quo (.t 30) (.c (.int .i64 10))),ZO 32 (.call 32 [(.t 31)]),ZM 33 0,ZO 34 (.bin .rem (.t 33) (.c (.int .i64 10))),ZO 35 (.bin .add (.c (.int .i64 48)) (.t 34)),ZO 36 (.conv .u8 (.t 35)),ZO 37 (.bslice 1 1 [(.int .u8 0)] [(0,(.t 36))]),ZO 38 (.px .b2s [(.t 37)]),ZO 39 (.bin .add (.t 32) (.t 38)),ZM 2 39] true) .ret))))
theorem known_pow:known.lookup 0 = some (Lib.pow10Tab.map fun z=>Value.int .u64 z):=by kernel_rfl
theorem sp_strconv_Itoa (n:Int) (hn:i64 n):Za2 Tryd.prog 69 [pI n] (.str (Lib.itoa n)):=by
  refine PCall_of (by kernel_rfl) (by intro x hx; rw [List.mem_singleton] at hx; subst hx; exact cI _) fun g w vals r ha=>?_
  obtain ⟨v,rfl,hv⟩:=args_1 ha
  obtain rfl:=hv.int_inv
  rw [i64_iff] at hn
  refine (Tryd.strconv_Itoa n (by omega) (by omega) w (var_known r known_pow (by kernel_rfl))).mono ?_
  rintro e w' ⟨rfl,k,os,rfl⟩
  exact ⟨_,rfl,fun g=>.str _ _ rfl,Lib.below_grow _ _ (Nat.le_refl _) _ _⟩
theorem join_none (a:Option Addr) (cap:Nat) (sep:Str) (w:World):Calls Tryd.prog 72 #[.slice a 0 cap,.string ⟨sep.toArray⟩] w fun e w'=>∃ v,e = .returned v ∧ (∀ g,Rep g v (.str (Lib.join [] sep))) ∧ RowKit.Below w.heap.size w w':=by
  refine (Tryd.strings_Join_none a cap _ w).mono ?_
  rintro e w' ⟨rfl,rfl⟩
  exact ⟨_,rfl,fun g=>.str _ _ (by simp [Lib.join,List.intercalate]),RowKit.Below.refl _ _⟩
theorem join_some (l : List Str) (sep : Str) (hl : l.length ≤ 1000000) (hlen : (Lib.join l sep).length ≤ 140737488355328) (b o cap : Nat) (w : World) (hc : l.length ≤ cap) (hb : b < w.heap.size)
    (hcells:∀ (j:Nat) (x:ByteArray),(l.map fun s=>(⟨s.toArray⟩:ByteArray))[j]? = some x → w.cell? ⟨b,o + j,none⟩ = some (.string x)) :
    Calls Tryd.prog 72 #[.slice (some ⟨b,o,none⟩) (l.map fun s=>(⟨s.toArray⟩:ByteArray)).length cap,.string ⟨sep.toArray⟩] w fun e w'=>∃ v,e = .returned v ∧ (∀ g,Rep g v (.str (Lib.join l sep))) ∧ RowKit.Below w.heap.size w w':=by
  have e2:((l.map fun s=>(⟨s.toArray⟩:ByteArray)).map (·.data.toList)) = l:=by rw [List.map_map]; simp [Function.comp_def]
  generalize (l.map fun s=>(⟨s.toArray⟩:ByteArray)) = xs at hcells e2 ⊢
  have hx:xs.length = l.length:=by rw [← e2]; simp
  have hj:Lib.join (xs.map (·.data.toList)) (ByteArray.mk sep.toArray).data.toList = Lib.join l sep:=by rw [e2]
  refine (Tryd.strings_Join b o cap xs ⟨sep.toArray⟩ w hcells hb (by omega) (by omega) (by rw [hj]; exact hlen)).mono ?_
  rintro e w' ⟨rfl,hw⟩
  exact ⟨_,rfl,fun g=>.str _ _ (by rw [hj]),hw⟩
theorem sp_strings_Join (l:List Str) (sep:Str) (hl:l.length ≤ 1000000) (hlen:(Lib.join l sep).length ≤ 140737488355328):Za2 Tryd.prog 72 [It.strs l,.str sep] (.str (Lib.join l sep)):=by
  refine PCall_of (by kernel_rfl) (by intro x hx; simp only [List.mem_cons,List.not_mem_nil,or_false] at hx; rcases hx with rfl | rfl; exact closed_strs _; exact cS _) ?_
  intro g w vals r ha
  obtain ⟨v,u,rfl,hv,hu⟩:=args_2 ha
  obtain ⟨s,rfl,hs⟩:=hu.str_inv
  rw [str_eq hs]
  rcases strs_cells r hv with ⟨a,cap,rfl,rfl⟩ | ⟨b,o,cap,rfl,hc,hb,hcells⟩
  · exact join_none a cap sep w
  · exact join_some l sep hl hlen b o cap w hc hb hcells
theorem sp_strings_Repeat (s:Str) (n:Nat) (hn:n ≤ 1000000) (hs:s.length ≤ 1000):Za2 Tryd.prog 26 [.str s,pI n] (.str (Lib.repeatL s n)):=by
  refine PCall_of (by kernel_rfl) (by intro x hx; simp only [List.mem_cons,List.not_mem_nil,or_false] at hx; rcases hx with rfl | rfl; exact cS _; exact cI _) fun g w vals r ha=>?_
  obtain ⟨v,u,rfl,hv,hu⟩:=args_2 ha
  obtain ⟨z,rfl,hz⟩:=hv.str_inv
  obtain rfl:=hu.int_inv
  rw [str_eq hz]
  have hm:s.length * n ≤ 1000 * 1000000:=Nat.mul_le_mul hs hn
  refine (Tryd.strings_Repeat ⟨s.toArray⟩ n w (by omega) (by show s.toArray.size * n ≤ _; rw [List.size_toArray]; omega)).mono ?_
  rintro e w' ⟨rfl,hb⟩
  exact ⟨_,rfl,fun g=>.str _ _ rfl,hb⟩
theorem itoa_pos_small {n:Int} (h0:0 ≤ n) (h:n < 10):Lib.itoa n = [UInt8.ofNat (48 + n.toNat)]:=by
  unfold Lib.itoa
  rw [if_neg (by omega),Lib.decDigits,dif_pos (by omega)]
theorem itoa_pos {n:Int} (h0:0 ≤ n) (h:¬ n < 10):Lib.itoa n = Lib.itoa (n.tdiv 10) ++ [UInt8.ofNat (48 + (n.tmod 10).toNat)]:=by
  unfold Lib.itoa
  have e1:n.tdiv 10 = n / 10:=Int.tdiv_eq_ediv_of_nonneg h0
  have e2:n.tmod 10 = n % 10:=Int.tmod_eq_emod_of_nonneg h0
  rw [if_neg (by omega),if_neg (by omega),Lib.decDigits,dif_neg (by omega),e1,e2]
  congr 2
  · omega
  · congr 2; omega
theorem itoa_neg_small {n:Int} (h0:n < 0) (h:-10 < n):Lib.itoa n = [45,UInt8.ofNat (48 - n).toNat]:=by
  unfold Lib.itoa
  rw [if_pos h0,Lib.decDigits,dif_pos (by omega)]
  congr 3; omega
theorem tdiv_neg {n:Int} (h0:n < 0):n.tdiv 10 = -((n.natAbs / 10:Nat):Int):=by
  have:n = -(n.natAbs:Int):=by omega
  rw [this,Int.neg_tdiv]
  congr 1
  rw [Int.natAbs_neg,Int.natAbs_natCast]
  exact Int.tdiv_eq_ediv_of_nonneg (by omega)
theorem tmod_neg {n:Int} (h0:n < 0):n.tmod 10 = -((n.natAbs % 10:Nat):Int):=by
  have:n = -(n.natAbs:Int):=by omega
  rw [this,Int.neg_tmod]
  congr 1
  rw [Int.natAbs_neg,Int.natAbs_natCast]
  exact Int.tmod_eq_emod_of_nonneg (by omega)
theorem itoa_neg {n:Int} (h0:n < 0) (h:¬ -10 < n):Lib.itoa n = Lib.itoa (n.tdiv 10) ++ [UInt8.ofNat (48 - n.tmod 10).toNat]:=by
  rw [tdiv_neg h0,tmod_neg h0]
  unfold Lib.itoa
  rw [if_pos h0,if_pos (by omega),Lib.decDigits,dif_neg (by omega)]
  have e:(-((n.natAbs / 10:Nat):Int)).natAbs = n.natAbs / 10:=by omega
  rw [e,List.cons_append]
  congr 3
  congr 1; omega
theorem Zbp (n:Int) (h:i64 n):(Lib.itoa n).length ≤ 20:=by
  rw [i64_iff] at h
  have d:∀ (k:Nat) (u:Nat),u < 10 ^ (k + 1) → (Lib.decDigits u).length ≤ k + 1:=by
    intro k
    induction k with
    | zero=>intro u hu; rw [Lib.decDigits,dif_pos (by omega)]; simp
    | succ k ih =>
      intro u hu
      rw [Lib.decDigits]
      split
      · simp
      · have:=ih (u / 10) (by rw [Nat.pow_succ] at hu; omega)
        simp; omega
  unfold Lib.itoa
  split
  · have:=d 18 n.natAbs (by simp; omega)
    simp; omega
  · have:=d 18 n.toNat (by simp; omega)
    omega
theorem byte_wrap {n:Int} (h0:0 ≤ n) (h1:n < 256):IntKind.u8.wrap n = n:=by
  simp [IntKind.wrap,IntKind.bits,IntKind.signed]; omega
theorem Zaw:∀ (k:Nat) (n:Int),n.natAbs < k → i64 n → Za2 Tryd.prog 32 [pI n] (.str (Lib.itoa n))
  | 0,_,h,_=>by cases h
  | k + 1,n,hk,hn=>by
    have hn':=i64_iff.1 hn
    have hl:=Zbp n hn
    refine Zah ?_ (cS _) (by simp only [Zau,List.mem_cons,List.not_mem_nil,or_false,forall_eq_or_imp,forall_eq,false_implies,implies_true]; repeat' (first  | exact cI _ | exact cS _ | exact Zbv (by simp only [List.mem_cons,List.not_mem_nil,or_false,forall_eq]; first | exact cI _ | exact cS _ | exact Zbq _) | refine And.intro ?_ ?_))
    refine Zal (vc:=c_pandectref12_Digits) (ts:=[.t 2]) Go.Proofs.Tryd.func32 (by kernel_rfl) rfl rfl (Nat.le_of_ble_eq_true rfl) (by kernel_rfl) ?_
    unfold c_pandectref12_Digits
    try dsimp only [ZM,ZO,ZN,ZG]
    refine Zac (Zaa [0] ?_)
    simp only [Zab,Zad,Zaf,pok,pval,VA.ev,Env.get,Env.put,Env.keep,Zav,Zae,Heap.nil,ite_true,ite_false,true_and,reduceCtorEq]
    refine Zac ?_
    refine Zac (Zaa [0,4] ?_)
    simp only [Zab,Zad,Zaf,pok,pval,VA.ev,Env.get,Env.put,Env.keep,Zae,intV,binV,Zak,Nat.reduceEqDiff,ite_true,ite_false,true_and,reduceCtorEq]
    refine Zaj rfl (fun h1=>?_) (fun h1=>?_)
    · simp only [decide_eq_true_eq] at h1
      refine Zac ?_
      refine Zac (Zaa [0,6] ?_)
      simp only [Zab,Zad,Zaf,pok,pval,VA.ev,Env.get,Env.put,Env.keep,Zae,intV,binV,Zak,Nat.reduceEqDiff,ite_true,ite_false,true_and,reduceCtorEq]
      refine Zaj rfl (fun h2=>?_) (fun h2=>?_)
      · simp only [decide_eq_true_eq] at h2
        refine Zac (Zaa [2] ?_)
        simp only [Zab,Zad,Zaf,pok,pval,VA.ev,Env.get,Env.put,Env.keep,Zae,intV,binV,Zak,strV,convV,isInt,PV.cells,PV.fits,Heap.get,HL.get,Heap.push,Nat.le_refl,Zbd,Zbg,pxV,pxOk,List.map,List.set,List.replicate,List.length,List.take,List.drop,List.take_succ_cons,List.cons_append,List.nil_append,Nat.reduceEqDiff,Nat.reduceAdd,Nat.reduceLT,Nat.reduceLeDiff,ite_true,ite_false,true_and,and_true,reduceCtorEq,BEq.rfl,Nat.zero_add,w64 (n:=48 - n) (by omega) (by omega),byte_wrap (n:=48 - n) (by omega) (by omega),bytesOk,isByte,byteRows,VM.byteOf]
        refine ⟨fun r hr=>by rw [List.mem_singleton] at hr; subst hr; trivial,?_⟩
        refine Zaq ?_
        try simp only [Env.get,Zae,retQ,resV,Za4,RS.ev,RS.ok,ite_true,true_and,and_true]
        rw [itoa_neg_small h1 h2]
        exact View.refl _ _
      simp only [decide_eq_false_iff_not] at h2
      have e1:=tdiv_neg h1
      have e2:=tmod_neg h1
      have hq:i64 (n.tdiv 10):=i64_iff.2 (by omega)
      refine Zam ?_
      try simp only [Zae]
      refine Zac (Zbz [2] (by simp [Heap.le,Heap.get,HL.le,HL.get]) ?_)
      simp only [Zba,Zbe,QW,dok,dval,VOp.pure,VOp.simple,VOp.det,pok,pval,VA.ev,Env.get,Env.put,Env.keep,Zae,gd,intV,binV,Zak,strV,convV,isInt,PV.cells,PV.fits,Nat.succ_ne_self,Zbd,Zbg,pxV,pxOk,List.map,List.set,List.replicate,Nat.reduceEqDiff,Nat.reduceLT,ite_true,ite_false,true_and,and_true,implies_true,forall_const,ne_eq,reduceCtorEq,BEq.rfl,w64 (n:=n.tdiv 10) (by omega) (by omega)]
      refine ⟨by omega,_,.inl (Zaw k _ (by omega) hq),by omega,?_⟩
      try simp only [List.map,List.length,Nat.reduceLeDiff,true_and,Nat.zero_add,List.length_cons,w64 (n:=48 - n.tmod 10) (by omega) (by omega),byte_wrap (n:=48 - n.tmod 10) (by omega) (by omega),bytesOk,isByte,byteRows,VM.byteOf]
      have hl2:=Zbp _ hq
      refine ⟨fun r hr=>by rw [List.mem_singleton] at hr; subst hr; trivial,by omega,?_⟩
      refine Zaq ?_
      try simp only [Env.get,Zae,retQ,resV,Za4,RS.ev,RS.ok,ite_true,true_and,and_true]
      rw [itoa_neg h1 h2]
      exact View.refl _ _
    simp only [decide_eq_false_iff_not] at h1
    refine Zam ?_
    try simp only [Zae]
    refine Zac ?_
    refine Zac (Zaa [0,24] ?_)
    simp only [Zab,Zad,Zaf,pok,pval,VA.ev,Env.get,Env.put,Env.keep,Zae,intV,binV,Zak,Nat.reduceEqDiff,ite_true,ite_false,true_and,reduceCtorEq]
    refine Zaj rfl (fun h3=>?_) (fun h3=>?_)
    · simp only [decide_eq_true_eq] at h3
      refine Zac (Zaa [2] ?_)
      simp only [Zab,Zad,Zaf,pok,pval,VA.ev,Env.get,Env.put,Env.keep,Zae,intV,binV,Zak,convV,isInt,PV.cells,PV.fits,Heap.get,HL.get,Heap.push,Nat.le_refl,Zbd,Zbg,pxV,pxOk,List.map,List.set,List.replicate,List.length,List.take,List.drop,List.take_succ_cons,Nat.reduceEqDiff,Nat.reduceLT,ite_true,ite_false,true_and,and_true,reduceCtorEq,BEq.rfl,Nat.zero_add,w64 (n:=48 + n) (by omega) (by omega),byte_wrap (n:=48 + n) (by omega) (by omega),bytesOk,isByte,byteRows,VM.byteOf]
      refine ⟨fun r hr=>by rw [List.mem_singleton] at hr; subst hr; trivial,?_⟩
      refine Zaq ?_
      try simp only [Env.get,Zae,retQ,resV,Za4,RS.ev,RS.ok,ite_true,true_and,and_true]
      rw [itoa_pos_small (by omega) h3]
      have e:(48 + n).toNat = 48 + n.toNat:=by omega
      rw [e]
      exact View.refl _ _
    simp only [decide_eq_false_iff_not] at h3
    have e1:n.tdiv 10 = n / 10:=Int.tdiv_eq_ediv_of_nonneg (by omega)
    have e2:n.tmod 10 = n % 10:=Int.tmod_eq_emod_of_nonneg (by omega)
    have hq:i64 (n.tdiv 10):=i64_iff.2 (by omega)
    refine Zam ?_
    try simp only [Zae]
    refine Zac (Zbz [2] (by simp [Heap.le,Heap.get,HL.le,HL.get]) ?_)
    simp only [Zba,Zbe,QW,dok,dval,VOp.pure,VOp.simple,VOp.det,pok,pval,VA.ev,Env.get,Env.put,Env.keep,Zae,gd,intV,binV,Zak,strV,convV,isInt,PV.cells,PV.fits,Nat.succ_ne_self,Zbd,Zbg,pxV,pxOk,List.map,List.set,List.replicate,Nat.reduceEqDiff,Nat.reduceLT,ite_true,ite_false,true_and,and_true,implies_true,forall_const,ne_eq,reduceCtorEq,BEq.rfl,w64 (n:=n.tdiv 10) (by omega) (by omega)]
    refine ⟨by omega,_,.inl (Zaw k _ (by omega) hq),by omega,?_⟩
    try simp only [List.map,List.length,Nat.reduceLeDiff,true_and,Nat.zero_add,List.length_cons,w64 (n:=48 + n.tmod 10) (by omega) (by omega),byte_wrap (n:=48 + n.tmod 10) (by omega) (by omega),bytesOk,isByte,byteRows,VM.byteOf]
    have hl2:=Zbp _ hq
    refine ⟨fun r hr=>by rw [List.mem_singleton] at hr; subst hr; trivial,by omega,?_⟩
    refine Zaq ?_
    try simp only [Env.get,retQ,resV,Za4,RS.ev,RS.ok,ite_true,true_and,and_true]
    rw [itoa_pos (by omega) h3]
    have e:(48 + n.tmod 10).toNat = 48 + (n.tmod 10).toNat:=by omega
    rw [e]
    exact View.refl _ _
theorem rep_zeros (n:Nat):Lib.repeatL [48] n = zeros n:=by
  have:=Lib.repeatL_replicate 48 1 n
  rw [Nat.mul_one] at this
  exact this
theorem Zcg (s:Str) (hs:s.length ≤ 1000000000):Za2 Tryd.prog 9 [.str s] (.str (sumT s)) :=
  sp_Sum sp_FormatUint (fun n hn=>by have:=sp_strings_Repeat [48] n (by omega) (by simp); rw [rep_zeros] at this; exact this) s hs
end Go.Proofs.YtjmekckcffckoaaDoor.w
namespace Go.Proofs.YtjmekckcffckoaaDoor.w
open Go Go.VM
set_option maxRecDepth 20000
set_option maxHeartbeats 0
set_option pp.deepTerms false
def c_pandectref12_piece:VC:=(.seq (.region [ZO 2 (.mv (.c (.str [])))] false) (.seq (.region [ZM 3 0,ZO 4 (.len true (.t 3)),ZO 5 (.call 32 [(.t 4)]),ZO 6 (.bin .add (.t 5) (.c (.str [58]))),ZM 7 0,ZO 8 (.bin .add (.t 6) (.t 7)),ZM 2 8] false) .ret))
def c_pandectref12_three:VC:=(.seq (.region [ZO 6 (.mv (.c (.str [])))] false) (.seq (.region [ZM 7 0,ZO 8 (.call 32 [(.t 7)]),ZO 9 (.bin .add (.t 8) (.c (.str [46]))),ZM 10 1,ZO 11 (.call 32 [(.t 10)]),ZO 12 (.bin .add (.t 9) (.t 11)),ZO 13 (.bin .add (.t 12) (.c (.str [46]))),ZM 14 2,ZO 15 (.call 32 [(.t 14)]),ZO 16 (.bin .add (.t 13) (.t 15)),ZM 6 16] false) .ret))
def c_pandectref12_row:VC:=(.seq (.region [ZO 4 (.mv (.c (.str [])))] false) (.seq (.region [ZM 7 0,ZO 8 (.len false (.t 7)),ZO 9 (.call 32 [(.t 8)]),ZM 5 9] false) (.seq (.seq (.region [ZO 6 (.mv (.c (.int .i64 0)))] false) (.block 0 (.loop (.seq (.seq (.region [ZM 10 6,ZM 11 0,ZO 12 (.len false (.t 11)),ZO 13 (.bin .lss (.t 10) (.t 12))] false) (.cond (.t 13) .skip (.exit 0))) (.seq (.block 1 (.seq (.region [ZM 16 5,ZM 17 0,ZM 18 6,ZO 19 (.iaddr 4 (.t 17) (.t 18)),ZO 20 (.faddr 0 (.t 19)),ZO 21 (.load false 1 (.t 20)),ZO 22 (.call 33 [(.t 21)]),ZO 23 (.bin .add (.c (.str [32])) (.t 22)),ZO 24 (.bin .add (.t 16) (.t 23)),ZM 5 24] false) (.seq (.region [ZM 25 1] false) (.cond (.t 25) (.region [ZM 26 5,ZM 27 0,ZM 28 6,ZO 29 (.iaddr 4 (.t 27) (.t 28)),ZO 30 (.faddr 1 (.t 29)),ZO 31 (.faddr 0 (.t 30)),ZO 32 (.load false 1 (.t 31)),ZM 33 0,ZM 34 6,ZO 35 (.iaddr 4 (.t 33) (.t 34)),ZO 36 (.faddr 1 (.t 35)),ZO 37 (.faddr 1 (.t 36)),ZO 38 (.load false 1 (.t 37)),ZM 39 0,ZM 40 6,ZO 41 (.iaddr 4 (.t 39) (.t 40)),ZO 42 (.faddr 1 (.t 41)),ZO 43 (.faddr 2 (.t 42)),ZO 44 (.load false 1 (.t 43)),ZO 45 (.call 31 [(.t 32),(.t 38),(.t 44)]),ZO 46 (.bin .add (.c (.str [64])) (.t 45)),ZO 47 (.bin .add (.t 26) (.t 46)),ZM 5 47] true) .skip)))) (.region [ZM 14 6,ZO 15 (.bin .add (.t 14) (.c (.int .i64 1))),ZM 6 15] false)))))) (.seq (.region [ZM 48 5,ZM 4 48] false) .ret))))
def c_pandectref12_Alone:VC:=(.seq (.region [ZO 2 (.box 8 (.t 0)),ZO 4 (.mv (.c (.str [])))] false) (.seq (.region [ZO 5 (.mv (.c (.str [])))] false) (.seq (.seq (.region [ZM 6 1] false) (.cond (.t 6) (.region [ZO 7 (.faddr 0 (.t 2)),ZO 8 (.faddr 0 (.t 7)),ZO 9 (.load false 1 (.t 8)),ZO 10 (.faddr 0 (.t 2)),ZO 11 (.faddr 1 (.t 10)),ZO 12 (.load false 1 (.t 11)),ZO 13 (.faddr 0 (.t 2)),ZO 14 (.faddr 2 (.t 13)),ZO 15 (.load false 1 (.t 14)),ZO 16 (.call 31 [(.t 9),(.t 12),(.t 15)]),ZO 17 (.bin .add (.t 16) (.c (.str [32]))),ZM 5 17] false) .skip)) (.seq (.region [ZM 18 5,ZO 19 (.faddr 3 (.t 2)),ZO 20 (.load false 1 (.t 19)),ZO 21 (.call 32 [(.t 20)]),ZO 22 (.bin .add (.t 18) (.t 21)),ZO 23 (.bin .add (.t 22) (.c (.str [32]))),ZO 24 (.faddr 4 (.t 2)),ZO 25 (.load false 1 (.t 24)),ZO 26 (.call 33 [(.t 25)]),ZO 27 (.bin .add (.t 23) (.t 26)),ZO 28 (.bin .add (.t 27) (.c (.str [10]))),ZO 29 (.faddr 5 (.t 2)),ZO 30 (.load false 1 (.t 29)),ZM 31 1,ZO 32 (.call 34 [(.t 30),(.t 31)]),ZO 33 (.bin .add (.t 28) (.t 32)),ZO 34 (.bin .add (.t 33) (.c (.str [10]))),ZO 35 (.faddr 6 (.t 2)),ZO 36 (.load false 1 (.t 35)),ZM 37 1,ZO 38 (.call 34 [(.t 36),(.t 37)]),ZO 39 (.bin .add (.t 34) (.t 38)),ZO 40 (.bin .add (.t 39) (.c (.str [10]))),ZM 4 40] true) .ret))))
def pieceT (s:Str):Str:=Lib.itoa (s.length:Int) ++ [58] ++ s
def Zcf (a b c:Int):Str:=Lib.itoa a ++ [46] ++ Lib.itoa b ++ [46] ++ Lib.itoa c
def wordT (m:Bool) (w:Wd):Str:=[32] ++ pieceT w.text ++ (if m then [64] ++ Zcf w.act w.item w.at' else [])
def rowT (m:Bool) (l:List Wd):Str:=Lib.itoa (l.length:Int) ++ l.flatMap (wordT m)
theorem rowT_step (m:Bool) {l:List Wd} {k:Nat} (h:k < l.length):(l.take (k + 1)).flatMap (wordT m) = (l.take k).flatMap (wordT m) ++ wordT m l[k]:=by
  rw [List.take_add_one,List.getElem?_eq_getElem h,List.flatMap_append]; simp
theorem nat_i64 {n:Nat} (h:n ≤ 1000000000000):i64 (n:Int):=i64_iff.2 (by omega)
theorem piece_len (s:Str) (h:s.length ≤ 1000000):(pieceT s).length ≤ s.length + 21:=by
  have:=Zbp _ (nat_i64 (n:=s.length) (by omega))
  unfold pieceT; simp; omega
theorem three_len {a b c:Int} (ha:i64 a) (hb:i64 b) (hc:i64 c):(Zcf a b c).length ≤ 62:=by
  have:=Zbp _ ha; have:=Zbp _ hb; have:=Zbp _ hc
  unfold Zcf; simp; omega
theorem sp_r_piece (s:Str) (hs:s.length ≤ 1000000):Za2 Tryd.prog 33 [.str s] (.str (pieceT s)):=by
  have A:=Zaw (s.length + 1) (s.length:Int) (by omega) (nat_i64 (by omega))
  have hl:=Zbp _ (nat_i64 (n:=s.length) (by omega))
  refine Zah ?_ (cS _) (by simp only [Zau,List.mem_cons,List.not_mem_nil,or_false,forall_eq_or_imp,forall_eq,false_implies,implies_true]; repeat' (first  | exact cS _ | refine And.intro ?_ ?_))
  refine Zal (vc:=c_pandectref12_piece) (ts:=[.t 2]) Go.Proofs.Tryd.func33 (by kernel_rfl) rfl rfl (Nat.le_of_ble_eq_true rfl) (by kernel_rfl) ?_
  unfold c_pandectref12_piece
  try dsimp only [ZM,ZO,ZN,ZG]
  refine Zac (Zaa [0] ?_)
  simp only [Zab,Zad,Zaf,pok,pval,VA.ev,Env.get,Env.put,Env.keep,Zav,Zae,Heap.nil,ite_true,ite_false,true_and,reduceCtorEq]
  refine Zac (Zaa [2] ?_)
  simp only [Zab,Zad,Zaf,pok,pval,VA.ev,Env.get,Env.put,Env.keep,Zae,intV,binV,Zak,strV,lenV,Zb5,Nat.succ_ne_self,List.map,Nat.reduceEqDiff,ite_true,ite_false,true_and,implies_true,reduceCtorEq,imp_self]
  refine Zan A ?_
  unfold pieceT
  generalize Lib.itoa (s.length:Int) = X at hl ⊢
  try simp only [List.length,Nat.reduceLeDiff,Nat.zero_add,List.length_append]
  refine ⟨by omega,by omega,?_⟩
  refine Zaq ?_
  try simp only [Env.get,retQ,resV,Za4,RS.ev,RS.ok,ite_true,true_and,and_true]
  exact View.refl _ _
theorem sp_r_three (a b c:Int) (ha:i64 a) (hb:i64 b) (hc:i64 c):Za2 Tryd.prog 31 [pI a,pI b,pI c] (.str (Zcf a b c)):=by
  have A:=Zaw (a.natAbs + 1) a (by omega) ha
  have B:=Zaw (b.natAbs + 1) b (by omega) hb
  have C:=Zaw (c.natAbs + 1) c (by omega) hc
  have l1:=Zbp _ ha
  have l2:=Zbp _ hb
  have l3:=Zbp _ hc
  refine Zah ?_ (cS _) (by simp only [Zau,List.mem_cons,List.not_mem_nil,or_false,forall_eq_or_imp,forall_eq,false_implies,implies_true]; repeat' (first  | exact cI _ | exact cS _ | exact Zbv (by simp only [List.mem_cons,List.not_mem_nil,or_false,forall_eq]; first | exact cI _ | exact cS _ | exact Zbq _) | refine And.intro ?_ ?_))
  refine Zal (vc:=c_pandectref12_three) (ts:=[.t 6]) Go.Proofs.Tryd.func31 (by kernel_rfl) rfl rfl (Nat.le_of_ble_eq_true rfl) (by kernel_rfl) ?_
  unfold c_pandectref12_three
  try dsimp only [ZM,ZO,ZN,ZG]
  refine Zac (Zaa [0,1,2] ?_)
  simp only [Zab,Zad,Zaf,pok,pval,VA.ev,Env.get,Env.put,Env.keep,Zav,Zae,Heap.nil,Nat.succ_ne_self,Nat.reduceEqDiff,Nat.reduceAdd,ite_true,ite_false,true_and,reduceCtorEq,Nat.zero_add]
  refine Zac (Zaa [6] ?_)
  simp only [Zab,Zad,Zaf,pok,pval,VA.ev,Env.get,Env.put,Env.keep,Zae,intV,binV,Zak,strV,Nat.succ_ne_self,List.map,Nat.reduceEqDiff,ite_true,ite_false,true_and,implies_true,reduceCtorEq,imp_self]
  refine Zan A ?_
  try simp only [List.length,Nat.reduceLeDiff,implies_true,reduceCtorEq,Nat.zero_add,imp_self]
  refine ⟨by omega,?_⟩
  refine Zan B ?_
  unfold Zcf
  generalize Lib.itoa a = X at l1 ⊢
  generalize Lib.itoa b = Y at l2 ⊢
  try simp only [List.length,Nat.reduceLeDiff,Nat.zero_add,List.length_append]
  refine ⟨by omega,by omega,?_⟩
  refine Zan C ?_
  generalize Lib.itoa c = Z at l3 ⊢
  try simp only [List.length,Nat.zero_add,List.length_append]
  refine ⟨by omega,?_⟩
  refine Zaq ?_
  try simp only [Env.get,retQ,resV,Za4,RS.ev,RS.ok,ite_true,true_and,and_true]
  exact View.refl _ _
theorem rowm {α:Type} {enc:α → List PV} {l:List α} {k:Nat} (h:k < l.length):(l.map enc).getD k [] = enc l[k]:=by simp [List.getD_eq_getElem?_getD,h]
theorem word_len (m:Bool) {w:Wd} (h:w.text.length ≤ 10000 ∧ i64 w.act ∧ i64 w.item ∧ i64 w.at'):(wordT m w).length ≤ 11000:=by
  have h1:=piece_len w.text (by omega)
  have h2:=three_len h.2.1 h.2.2.1 h.2.2.2
  unfold wordT
  cases m <;> simp <;> omega
theorem flat_len {m:Bool}:∀ {l:List Wd},(∀ w ∈ l,w.text.length ≤ 10000 ∧ i64 w.act ∧ i64 w.item ∧ i64 w.at') → (l.flatMap (wordT m)).length ≤ l.length * 11000
  | [],_=>by simp
  | w :: r,h=>by
    have h1:=word_len m (h w List.mem_cons_self)
    have h2:=flat_len (m:=m) (l:=r) fun x hx=>h x (List.mem_cons_of_mem _ hx)
    rw [List.flatMap_cons,List.length_append,List.length_cons,Nat.add_mul]
    omega
theorem sp_r_row (m:Bool) (l:List Wd) (hl:l.length ≤ 1000) (ht:∀ w ∈ l,w.text.length ≤ 10000 ∧ i64 w.act ∧ i64 w.item ∧ i64 w.at'):Za2 Tryd.prog 34 [.sl 4 (l.map Wd.enc),.bool m] (.str (rowT m l)):=by
  have A:=Zaw (l.length + 1) (l.length:Int) (by omega) (nat_i64 (by omega))
  have l1:=Zbp _ (nat_i64 (n:=l.length) (by omega))
  refine Zah ?_ (cS _) (by simp only [Zau,List.mem_cons,List.not_mem_nil,or_false,forall_eq_or_imp,forall_eq,false_implies,implies_true]; repeat' (first  | exact cS _ | exact cB _ | exact closed_gzs _ | exact Zax (fun w _=>Wd.closed w) | refine And.intro ?_ ?_))
  refine Zal (vc:=c_pandectref12_row) (ts:=[.t 4]) Go.Proofs.Tryd.func34 (by kernel_rfl) rfl rfl (Nat.le_of_ble_eq_true rfl) (by kernel_rfl) ?_
  unfold c_pandectref12_row
  try dsimp only [ZM,ZO,ZN,ZG]
  refine Zac (Zaa [0,1] ?_)
  simp only [Zab,Zad,Zaf,pok,pval,VA.ev,Env.get,Env.put,Env.keep,Zav,Zae,Heap.nil,Nat.succ_ne_self,Nat.reduceEqDiff,ite_true,ite_false,true_and,reduceCtorEq,Nat.zero_add]
  refine Zac (Zaa [0,1,5] ?_)
  simp only [Zab,Zad,Zaf,pok,pval,VA.ev,Env.get,Env.put,Env.keep,Zae,lenV,Zb5,Nat.succ_ne_self,List.map,Nat.reduceEqDiff,ite_true,ite_false,true_and,reduceCtorEq,List.length_map]
  refine Zan A ?_
  unfold rowT
  generalize Lib.itoa (l.length:Int) = X at l1 ⊢
  skip
  refine Zac ?_
  refine Zac (Zaa [0,1,5,6] ?_)
  simp only [Zab,Zad,Zaf,pok,pval,VA.ev,Env.get,Env.put,Env.keep,Zae,Nat.succ_ne_self,Nat.reduceEqDiff,ite_true,ite_false,true_and,reduceCtorEq]
  refine Zao ?_
  refine Zbs (σ:={ k:Nat // k ≤ l.length }) (fun k=>([(0,.sl 4 (l.map Wd.enc)),(1,.bool m),(5,.str (X ++ (l.take k.1).flatMap (wordT m))),(6,pI k.1)],⟨[],0⟩)) (fun k=>l.length - k.1) ⟨0,Nat.zero_le _⟩ ?_ ?_ ?_
  · try simp only [Env.get,Nat.succ_ne_self,Env.le,List.take,Nat.reduceEqDiff,ite_true,ite_false,true_and,and_true,reduceCtorEq,true_and]
    all_goals (repeat' (first | rfl | trivial | omega | (simp only []; omega) | refine And.intro ?_ ?_))
    simp
  · simp only [Heap.le,HL.le,Nat.le_refl,and_true]
  rintro ⟨k,hk⟩
  simp only []
  have hfl:=flat_len (m:=m) (l:=l.take k) fun w hw=>ht w (List.mem_of_mem_take hw)
  have hm:(l.take k).length * 11000 ≤ 1000 * 11000:=Nat.mul_le_mul (by rw [List.length_take]; omega) (Nat.le_refl _)
  refine Zac ?_
  refine Zac (Zaa [0,1,5,6,13] ?_)
  simp only [Zab,Zad,Zaf,pok,pval,VA.ev,Env.get,Env.put,Env.keep,Zae,intV,binV,Zak,lenV,Zb5,Heap.le,HL.le,Nat.succ_ne_self,Env.le,Nat.reduceEqDiff,ite_true,ite_false,true_and,and_true,reduceCtorEq,List.length_map]
  refine Zaj rfl (fun h1=>?_) (fun h1=>?_)
  · simp only [decide_eq_true_eq] at h1
    have ka:k < l.length:=by omega
    have hst:=rowT_step m ka
    have hw:=ht _ (List.getElem_mem ka)
    have hrow:(l.map Wd.enc).getD k [] = l[k].enc:=rowm ka
    generalize l[k] = w at hst hw hrow
    have P:=sp_r_piece w.text (by omega)
    have T:=sp_r_three w.act w.item w.at' hw.2.1 hw.2.2.1 hw.2.2.2
    have pl:=piece_len w.text (by omega)
    have tl:=three_len hw.2.1 hw.2.2.1 hw.2.2.2
    have hwt:wordT m w = [32] ++ pieceT w.text ++ (if m then [64] ++ Zcf w.act w.item w.at' else []):=rfl
    generalize pieceT w.text = PT at P pl hwt
    generalize Zcf w.act w.item w.at' = TT at T tl hwt
    generalize (l.take k).flatMap (wordT m) = F at hfl hst ⊢
    refine Zam ?_
    try simp only [Zae]
    refine Zac ?_
    refine Zao ?_
    refine Zac (Zaa [0,1,5,6] ?_)
    simp only [Zab,Zad,Zaf,pok,pval,VA.ev,Env.get,Env.put,Env.keep,Zae,aggV,intV,binV,Zak,strV,isInt,numOf,lenV,Za8,Za5,Zag,Zap,Zbx,Zbi,PV.nth,PV.row,Nat.succ_ne_self,List.map,List.length,List.getD_cons_zero,List.take,List.drop,List.take_succ_cons,Nat.reduceEqDiff,Nat.reduceAdd,Nat.reduceLeDiff,Bool.false_eq_true,ite_true,ite_false,true_and,and_true,implies_true,reduceCtorEq,Nat.zero_add,List.length_cons,Int.toNat_natCast,List.length_map,hrow,Wd.enc]
    refine ⟨by omega,?_⟩
    refine Zan P ?_
    try simp only [List.length,List.cons_append,List.nil_append,Nat.zero_add,List.length_cons]
    refine ⟨by omega,by simp; omega,?_⟩
    refine Zac (Zaa [0,1,5,6,25] ?_)
    simp only [Zab,Zad,Zaf,pok,pval,VA.ev,Env.get,Env.put,Env.keep,Zae,Nat.succ_ne_self,Nat.reduceEqDiff,ite_true,ite_false,true_and,reduceCtorEq]
    refine Zaj rfl (fun h2=>?_) (fun h2=>?_)
    · subst h2
      rw [if_pos rfl] at hwt
      refine Zbz [0,1,5,6] (by simp [Heap.le,Heap.get,HL.le,HL.get]) ?_
      simp only [Zba,Zbe,QW,dok,dval,VOp.pure,VOp.simple,VOp.det,pok,pval,VA.ev,Env.get,Env.put,Env.keep,Zae,Zat,gd,aggV,intV,binV,Zak,strV,isInt,numOf,lenV,Za8,Za5,Zag,Zap,Zbx,Zbi,PV.nth,PV.row,Nat.le_refl,Nat.succ_ne_self,List.length,List.getD_cons_zero,List.take,List.drop,List.take_succ_cons,Nat.reduceEqDiff,Nat.reduceAdd,Nat.reduceLeDiff,Bool.false_eq_true,ite_true,ite_false,true_and,and_true,implies_true,forall_const,reduceCtorEq,Nat.zero_add,List.length_cons,Int.toNat_natCast,List.length_map,hrow,Wd.enc]
      refine ⟨by omega,by omega,by omega,_,.inl T,?_⟩
      try simp only [List.length,List.cons_append,List.nil_append,Nat.zero_add,List.length_cons]
      refine ⟨by omega,by simp; omega,?_⟩
      refine Zaa [0,1,5,6] ?_
      simp only [Zab,Zad,Zaf,pok,pval,VA.ev,Env.get,Env.put,Env.keep,Zae,intV,binV,Zak,Nat.le_refl,Nat.succ_ne_self,Nat.reduceEqDiff,ite_true,ite_false,true_and,reduceCtorEq,ad1 (a:=k) (by omega)]
      refine ⟨⟨k + 1,ka⟩,?_⟩
      have hfin:X ++ (l.take (k + 1)).flatMap (wordT true) = X ++ F ++ 32 :: PT ++ 64 :: TT:=by rw [hst,hwt]; simp
      simp only [true_and,and_true,hfin]
      omega
    · subst h2
      rw [if_neg (by decide),List.append_nil] at hwt
      refine Zam ?_
      try simp only [Zae,Zat]
      refine Zaa [0,1,5,6] ?_
      simp only [Zab,Zad,Zaf,pok,pval,VA.ev,Env.get,Env.put,Env.keep,Zae,intV,binV,Zak,Nat.le_refl,Nat.succ_ne_self,Nat.reduceEqDiff,ite_true,ite_false,true_and,reduceCtorEq,ad1 (a:=k) (by omega)]
      refine ⟨⟨k + 1,ka⟩,?_⟩
      have hfin:X ++ (l.take (k + 1)).flatMap (wordT false) = X ++ F ++ 32 :: PT:=by rw [hst,hwt]; simp
      simp only [true_and,and_true,hfin]
      omega
  simp only [decide_eq_false_iff_not] at h1
  obtain rfl:k = l.length:=by omega
  rw [List.take_length]
  refine Zbo ?_
  try simp only [Zae,Zat,retQ,ite_true]
  refine Zac (Zaa [4] ?_)
  simp only [Zab,Zad,Zaf,pok,pval,VA.ev,Env.get,Env.put,Env.keep,Zae,Nat.succ_ne_self,Nat.reduceEqDiff,ite_true,ite_false,true_and,reduceCtorEq]
  refine Zaq ?_
  try simp only [Env.get,retQ,resV,Za4,RS.ev,RS.ok,ite_true,true_and,and_true]
  exact View.refl _ _
def Zbb (m:Bool) (u:Un):Str:=(if m then Zcf u.act u.item u.n ++ [32] else []) ++ Lib.itoa u.kind ++ [32] ++ pieceT u.label ++ [10] ++ rowT m u.head ++ [10] ++ rowT m u.words ++ [10]
structure SmalU (u : Un) : Prop where
  ok : i64 u.act ∧ i64 u.item ∧ i64 u.n ∧ i64 u.kind
  label : u.label.length ≤ 10000
  head : u.head.length ≤ 1000 ∧ ∀ w ∈ u.head, w.text.length ≤ 10000 ∧ i64 w.act ∧ i64 w.item ∧ i64 w.at'
  words : u.words.length ≤ 1000 ∧ ∀ w ∈ u.words, w.text.length ≤ 10000 ∧ i64 w.act ∧ i64 w.item ∧ i64 w.at'
theorem row_len (m:Bool) {l:List Wd} (hl:l.length ≤ 1000) (ht:∀ w ∈ l,w.text.length ≤ 10000 ∧ i64 w.act ∧ i64 w.item ∧ i64 w.at'):(rowT m l).length ≤ 20000000:=by
  have h1:=flat_len (m:=m) ht
  have h2:l.length * 11000 ≤ 1000 * 11000:=Nat.mul_le_mul hl (Nat.le_refl _)
  have h3:=Zbp _ (nat_i64 (n:=l.length) (by omega))
  unfold rowT
  rw [List.length_append]; omega
theorem sp_r_Alone (m:Bool) (u:Un) (hu:SmalU u):Za2 Tryd.prog 17 [.agg u.enc,.bool m] (.str (Zbb m u)):=by
  have D:=Zaw (u.kind.natAbs + 1) u.kind (by omega) hu.ok.2.2.2
  have T:=sp_r_three u.act u.item u.n hu.ok.1 hu.ok.2.1 hu.ok.2.2.1
  have P:=sp_r_piece u.label (by have:=hu.label; omega)
  have H:=sp_r_row m u.head hu.head.1 hu.head.2
  have W:=sp_r_row m u.words hu.words.1 hu.words.2
  have l1:=Zbp _ hu.ok.2.2.2
  have l2:=three_len hu.ok.1 hu.ok.2.1 hu.ok.2.2.1
  have l3:=piece_len u.label (by have:=hu.label; omega)
  have l4:=row_len m hu.head.1 hu.head.2
  have l5:=row_len m hu.words.1 hu.words.2
  have hl:=hu.label
  refine Zah ?_ (cS _) (by simp only [Zau,List.mem_cons,List.not_mem_nil,or_false,forall_eq_or_imp,forall_eq,false_implies,implies_true]; repeat' (first  | exact cS _ | exact cB _ | exact Zas (Un.closed _) | refine And.intro ?_ ?_))
  refine Zal (vc:=c_pandectref12_Alone) (ts:=[.t 4]) Go.Proofs.Tryd.func17 (by kernel_rfl) rfl rfl (Nat.le_of_ble_eq_true rfl) (by kernel_rfl) ?_
  unfold c_pandectref12_Alone
  try dsimp only [ZM,ZO,ZN,ZG]
  rw [Un.Zay]
  refine Zac (Zaa [1,2] ?_)
  simp only [Zab,Zad,Zaf,pok,pval,VA.ev,Env.get,Env.put,Env.keep,Zav,Zae,PV.cells,PV.fits,Heap.push,Heap.nil,Nat.succ_ne_self,List.length,Nat.reduceEqDiff,Nat.reduceAdd,ite_true,ite_false,true_and,reduceCtorEq,BEq.rfl,Nat.zero_add]
  refine Za9 [(1,.bool m),(2,.ro [pI u.act,pI u.item,pI u.n,pI u.kind,.str u.label,.sl 4 (u.head.map Wd.enc),.sl 4 (u.words.map Wd.enc),.sl 8 (u.kids.map Un.enc)])] ⟨View.refl _ _,View.loc (z:=8) (fz:=false) (es:=[[pI u.act,pI u.item,pI u.n,pI u.kind,.str u.label,.sl 4 (u.head.map Wd.enc),.sl 4 (u.words.map Wd.enc),.sl 8 (u.kids.map Un.enc)]]) rfl (by simp) rfl (by simp),trivial⟩ ?_
  have halone:Zbb m u = (if m then Zcf u.act u.item u.n ++ [32] else []) ++ Lib.itoa u.kind ++ [32] ++ pieceT u.label ++ [10] ++ rowT m u.head ++ [10] ++ rowT m u.words ++ [10]:=rfl
  rw [halone]
  generalize Zcf u.act u.item u.n = TT at T l2 ⊢
  generalize Lib.itoa u.kind = KT at D l1 ⊢
  generalize pieceT u.label = PT at P l3 ⊢
  generalize rowT m u.head = HT at H l4 ⊢
  generalize rowT m u.words = WT at W l5 ⊢
  generalize u.head.map Wd.enc = EH at H ⊢
  generalize u.words.map Wd.enc = EW at W ⊢
  generalize u.kids.map Un.enc = EK
  refine Zac (Zaa [1,2,5] ?_)
  simp only [Zab,Zad,Zaf,pok,pval,VA.ev,Env.get,Env.put,Env.keep,Zae,Nat.succ_ne_self,Nat.reduceEqDiff,ite_true,ite_false,true_and]
  refine Zac (VW_mid (σ:={ x:Str // x = (if m then TT ++ [32] else []) }) (fun x=>([(1,.bool m),(2,.ro [pI u.act,pI u.item,pI u.n,pI u.kind,.str u.label,.sl 4 EH,.sl 4 EW,.sl 8 EK]),(5,.str x.1)],⟨[],1⟩)) ?_ (fun x=>?_))
  · refine Zac (Zaa [1,2,5,6] ?_)
    simp only [Zab,Zad,Zaf,pok,pval,VA.ev,Env.get,Env.put,Env.keep,Zae,Nat.succ_ne_self,Nat.reduceEqDiff,ite_true,ite_false,true_and]
    refine Zaj rfl (fun h1=>?_) (fun h1=>?_)
    · subst h1
      refine Zaa [1,2,5] ?_
      simp only [midQ,Zab,Zad,Zaf,pok,pval,VA.ev,Env.get,Env.put,Env.keep,aggV,intV,binV,Zak,strV,Za8,Za5,Zag,Zap,PV.nth,Heap.le,HL.le,Nat.succ_ne_self,Env.le,List.map,List.length,List.getD_cons_zero,List.take,List.drop,List.take_succ_cons,Nat.reduceEqDiff,Nat.reduceAdd,Nat.reduceLeDiff,Bool.false_eq_true,ite_true,ite_false,true_and,and_true,implies_true,Nat.zero_add,List.length_cons]
      refine Zan T ?_
      try simp only [Nat.le_refl,List.length,Nat.reduceLeDiff,and_true,Nat.zero_add]
      exact ⟨by omega,⟨TT ++ [32],rfl⟩,rfl⟩
    · subst h1
      refine Zam ?_
      try simp only [midQ,Env.get,Heap.le,HL.le,Nat.le_refl,Nat.succ_ne_self,Env.le,Nat.reduceEqDiff,ite_true,ite_false,true_and,and_true]
      exact ⟨⟨[],rfl⟩,rfl⟩
  obtain ⟨x,hx⟩:=x
  have hxl:x.length ≤ 100:=by rw [hx]; split <;> simp <;> omega
  simp only [← hx]
  refine Zac (Zbz [4] (by simp [Heap.le,Heap.get,HL.le,HL.get]) ?_)
  simp only [Zba,Zbe,QW,dok,dval,VOp.pure,VOp.simple,VOp.det,pok,pval,VA.ev,Env.get,Env.put,Env.keep,Zae,gd,aggV,intV,binV,Zak,strV,Za8,Za5,Zag,Zap,PV.nth,Nat.succ_ne_self,List.length,List.getD_cons_zero,List.take,List.drop,List.take_succ_cons,Nat.reduceEqDiff,Nat.reduceAdd,Nat.reduceLeDiff,Bool.false_eq_true,ite_true,ite_false,true_and,and_true,implies_true,forall_const,reduceCtorEq,Nat.zero_add,List.length_cons,imp_self]
  refine ⟨_,.inl D,?_⟩
  try simp only [List.length,Nat.reduceLeDiff,implies_true,reduceCtorEq,Nat.zero_add,imp_self]
  refine ⟨by omega,by simp; omega,_,.inl P,?_⟩
  try simp only [List.length,Nat.reduceLeDiff,implies_true,reduceCtorEq,Nat.zero_add,imp_self]
  refine ⟨by simp; omega,by simp; omega,_,.inl H,?_⟩
  try simp only [List.length,Nat.reduceLeDiff,implies_true,reduceCtorEq,Nat.zero_add,imp_self]
  refine ⟨by simp; omega,by simp; omega,_,.inl W,?_⟩
  try simp only [List.length,Nat.reduceLeDiff,Nat.zero_add]
  refine ⟨by simp; omega,by simp; omega,?_⟩
  refine Zaq ?_
  try simp only [Env.get,retQ,resV,Za4,RS.ev,RS.ok,ite_true,true_and,and_true]
  exact View.refl _ _
end Go.Proofs.YtjmekckcffckoaaDoor.w
namespace Go.Proofs.YtjmekckcffckoaaDoor.w
open Go Go.VM
set_option maxRecDepth 20000
set_option maxHeartbeats 0
set_option pp.deepTerms false
def c_pandectref12_Says:VC:=(.seq (.region [ZO 1 (.box 8 (.t 0)),ZO 2 (.mv (.c (.str [])))] false) (.seq (.region [ZO 5 (.load true 8 (.t 1)),ZO 6 (.call 17 [(.t 5),(.c (.bool false))]),ZM 3 6] false) (.seq (.seq (.region [ZO 4 (.mv (.c (.int .i64 0)))] false) (.block 0 (.loop (.seq (.seq (.region [ZM 7 4,ZO 8 (.faddr 7 (.t 1)),ZO 9 (.load false 1 (.t 8)),ZO 10 (.len false (.t 9)),ZO 11 (.bin .lss (.t 7) (.t 10))] false) (.cond (.t 11) .skip (.exit 0))) (.seq (.block 1 (.region [ZM 14 3,ZO 15 (.faddr 7 (.t 1)),ZO 16 (.load false 1 (.t 15)),ZM 17 4,ZO 18 (.iaddr 8 (.t 16) (.t 17)),ZO 19 (.load true 8 (.t 18)),ZO 20 (.call 13 [(.t 19)]),ZO 21 (.bin .add (.t 14) (.t 20)),ZM 3 21] false)) (.region [ZM 12 4,ZO 13 (.bin .add (.t 12) (.c (.int .i64 1))),ZM 4 13] false)))))) (.seq (.region [ZM 22 3,ZO 23 (.call 10 [(.t 22)]),ZM 2 23] false) .ret))))
def c_pandectref12_Whole:VC:=(.seq (.region [ZO 1 (.box 8 (.t 0)),ZO 2 (.mv (.c (.str [])))] false) (.seq (.region [ZO 5 (.load true 8 (.t 1)),ZO 6 (.call 17 [(.t 5),(.c (.bool true))]),ZM 3 6] false) (.seq (.seq (.region [ZO 4 (.mv (.c (.int .i64 0)))] false) (.block 0 (.loop (.seq (.seq (.region [ZM 7 4,ZO 8 (.faddr 7 (.t 1)),ZO 9 (.load false 1 (.t 8)),ZO 10 (.len false (.t 9)),ZO 11 (.bin .lss (.t 7) (.t 10))] false) (.cond (.t 11) .skip (.exit 0))) (.seq (.block 1 (.region [ZM 14 3,ZO 15 (.faddr 7 (.t 1)),ZO 16 (.load false 1 (.t 15)),ZM 17 4,ZO 18 (.iaddr 8 (.t 16) (.t 17)),ZO 19 (.load true 8 (.t 18)),ZO 20 (.call 15 [(.t 19)]),ZO 21 (.bin .add (.t 14) (.t 20)),ZM 3 21] false)) (.region [ZM 12 4,ZO 13 (.bin .add (.t 12) (.c (.int .i64 1))),ZM 4 13] false)))))) (.seq (.region [ZM 22 3,ZO 23 (.call 10 [(.t 22)]),ZM 2 23] false) .ret))))
mutual
def saysT (m : Bool) : Un → Str
  | .mk a i n k l h w ks => sumT (Zbb m (.mk a i n k l h w ks) ++ saysL m ks)
def saysL (m : Bool) : List Un → Str
  | [] => []
  | k :: r => saysT m k ++ saysL m r
end
theorem saysT_eq (m:Bool) (u:Un):saysT m u = sumT (Zbb m u ++ saysL m u.kids):=by cases u; rw [saysT]; rfl
theorem saysT_len (m:Bool) (u:Un):(saysT m u).length = 16:=by rw [saysT_eq]; exact hexK_len 16 _
theorem saysL_flat (m:Bool):∀ l:List Un,saysL m l = l.flatMap (saysT m)
  | []=>by rw [saysL]; rfl
  | k :: r=>by rw [saysL,saysL_flat m r,List.flatMap_cons]
theorem saysL_len (m:Bool):∀ l:List Un,(saysL m l).length = l.length * 16
  | []=>by rw [saysL]; rfl
  | k :: r=>by rw [saysL,List.length_append,saysT_len,saysL_len m r,List.length_cons]; omega
theorem saysL_step (m:Bool) {l:List Un} {k:Nat} (h:k < l.length):saysL m (l.take (k + 1)) = saysL m (l.take k) ++ saysT m l[k]:=by
  rw [saysL_flat,saysL_flat,List.take_add_one,List.getElem?_eq_getElem h,List.flatMap_append]; simp
theorem alone_len (m:Bool) {u:Un} (h:SmalU u):(Zbb m u).length ≤ 50000000:=by
  have l1:=Zbp _ h.ok.2.2.2
  have l2:=three_len h.ok.1 h.ok.2.1 h.ok.2.2.1
  have l3:=piece_len u.label (by have:=h.label; omega)
  have l4:=row_len m h.head.1 h.head.2
  have l5:=row_len m h.words.1 h.words.2
  have hl:=h.label
  unfold Zbb
  cases m <;> simp <;> omega
inductive SmalT : Un → Prop
  | mk (u : Un) (h : SmalU u) (hk : u.kids.length ≤ 1000) (hs : ∀ k ∈ u.kids, SmalT k) : SmalT u
theorem sp_Says {u:Un} (hu:SmalT u):Za2 Tryd.prog 13 [.agg u.enc] (.str (saysT false u)):=by
  induction hu with
  | mk u h hk hs ih =>
    have A:=sp_r_Alone false u h
    have al:=alone_len false h
    have T:=sp_Text (Zbb false u ++ saysL false u.kids) (by rw [List.length_append,saysL_len]; omega)
    rw [saysT_eq]
    generalize Zbb false u = X at A al T
    refine Zah ?_ (cS _) (by simp only [Zau,List.mem_cons,List.not_mem_nil,or_false,forall_eq_or_imp,forall_eq,false_implies,implies_true]; repeat' (first  | exact cS _ | exact Zas (Un.closed _) | refine And.intro ?_ ?_))
    refine Zal (vc:=c_pandectref12_Says) (ts:=[.t 2]) Go.Proofs.Tryd.func13 (by kernel_rfl) rfl rfl (Nat.le_of_ble_eq_true rfl) (by kernel_rfl) ?_
    unfold c_pandectref12_Says
    try dsimp only [ZM,ZO,ZN,ZG]
    rw [Un.Zay] at A ⊢
    refine Zac (Zaa [1,2] ?_)
    simp only [Zab,Zad,Zaf,pok,pval,VA.ev,Env.get,Env.put,Env.keep,Zav,Zae,PV.cells,PV.fits,Heap.push,Heap.nil,Nat.succ_ne_self,List.length,Nat.reduceEqDiff,Nat.reduceAdd,ite_true,ite_false,true_and,reduceCtorEq,BEq.rfl,Nat.zero_add]
    refine Za9 [(1,.ro [pI u.act,pI u.item,pI u.n,pI u.kind,.str u.label,.sl 4 (u.head.map Wd.enc),.sl 4 (u.words.map Wd.enc),.sl 8 (u.kids.map Un.enc)])] ⟨View.loc (z:=8) (fz:=false) (es:=[[pI u.act,pI u.item,pI u.n,pI u.kind,.str u.label,.sl 4 (u.head.map Wd.enc),.sl 4 (u.words.map Wd.enc),.sl 8 (u.kids.map Un.enc)]]) rfl (by simp) rfl (by simp),trivial⟩ ?_
    refine Zac (Zaa [1,3] ?_)
    simp only [Zab,Zad,Zaf,pok,pval,VA.ev,Env.get,Env.put,Env.keep,Zae,aggV,Zag,Zap,PV.nth,Nat.le_refl,List.map,List.length,List.getD_cons_zero,List.take,List.take_succ_cons,Nat.reduceEqDiff,Nat.reduceAdd,Bool.true_eq_false,ite_true,ite_false,true_and,and_true,Nat.zero_add,List.length_cons,imp_self]
    refine Zan A ?_
    generalize u.head.map Wd.enc = EH
    generalize u.words.map Wd.enc = EW
    generalize u.kids = L at hk hs ih T
    skip
    refine Zac ?_
    refine Zac (Zaa [1,3,4] ?_)
    simp only [Zab,Zad,Zaf,pok,pval,VA.ev,Env.get,Env.put,Env.keep,Zae,Nat.succ_ne_self,Nat.reduceEqDiff,ite_true,ite_false,true_and]
    refine Zao ?_
    refine Zbs (σ:={ k:Nat // k ≤ L.length }) (fun k=>([(1,.ro [pI u.act,pI u.item,pI u.n,pI u.kind,.str u.label,.sl 4 EH,.sl 4 EW,.sl 8 (L.map Un.enc)]),(3,.str (X ++ saysL false (L.take k.1))),(4,pI k.1)],⟨[],1⟩)) (fun k=>L.length - k.1) ⟨0,Nat.zero_le _⟩ ?_ ?_ ?_
    · try simp only [Env.get,Nat.succ_ne_self,Env.le,List.take,Nat.reduceEqDiff,ite_true,ite_false,true_and,and_true,true_and]
      all_goals (repeat' (first | rfl | trivial | omega | (simp only []; omega) | refine And.intro ?_ ?_))
      simp [saysL]
    · simp only [Heap.le,HL.le,Nat.le_refl,and_true]
    rintro ⟨k,hkk⟩
    simp only []
    refine Zac ?_
    refine Zac (Zaa [1,3,4,11] ?_)
    simp only [Zab,Zad,Zaf,pok,pval,VA.ev,Env.get,Env.put,Env.keep,Zae,aggV,intV,binV,Zak,lenV,Za8,Za5,Zag,Zap,Zb5,PV.nth,Heap.le,HL.le,Nat.le_refl,Nat.succ_ne_self,Env.le,List.length,List.getD_cons_zero,List.take,List.drop,List.take_succ_cons,Nat.reduceEqDiff,Bool.false_eq_true,ite_true,ite_false,true_and,and_true,implies_true,Nat.zero_add,List.length_cons,List.length_map]
    refine Zaj rfl (fun h1=>?_) (fun h1=>?_)
    · simp only [decide_eq_true_eq] at h1
      have ka:k < L.length:=by omega
      have hst:=saysL_step false ka
      have hrow:(L.map Un.enc).getD k [] = L[k].enc:=rowm ka
      have R:=ih _ (List.getElem_mem ka)
      have hfl:=saysL_len false (L.take k)
      have htl:(L.take k).length = k:=by rw [List.length_take]; omega
      have hsl:=saysT_len false L[k]
      generalize L[k] = v at hst hrow R hsl
      rw [Un.Zay] at hrow R
      generalize saysT false v = V at hst R hsl
      generalize saysL false (L.take k) = F at hst hfl ⊢
      refine Zam ?_
      try simp only [Zae]
      refine Zac ?_
      refine Zao ?_
      refine Zaa [1,3,4] ?_
      simp only [Zab,Zad,Zaf,pok,pval,VA.ev,Env.get,Env.put,Env.keep,Zae,Zat,aggV,intV,binV,Zak,strV,isInt,numOf,lenV,Za8,Za5,Zag,Zap,Zbx,Zbi,PV.nth,PV.row,Nat.le_refl,Nat.succ_ne_self,List.map,List.length,List.getD_cons_zero,List.take,List.drop,List.take_succ_cons,Nat.reduceEqDiff,Nat.reduceAdd,Bool.false_eq_true,Bool.true_eq_false,ite_true,ite_false,true_and,and_true,implies_true,Nat.zero_add,List.length_cons,imp_self,Int.toNat_natCast,List.length_map,hrow]
      refine ⟨by omega,?_⟩
      refine Zan R ?_
      try simp only [List.length_append]
      refine ⟨by omega,?_⟩
      refine Zaa [1,3,4] ?_
      simp only [Zab,Zad,Zaf,pok,pval,VA.ev,Env.get,Env.put,Env.keep,Zae,intV,binV,Zak,Nat.le_refl,Nat.succ_ne_self,Nat.reduceEqDiff,ite_true,ite_false,true_and,ad1 (a:=k) (by omega)]
      refine ⟨⟨k + 1,ka⟩,?_⟩
      have hfin:X ++ saysL false (L.take (k + 1)) = X ++ F ++ V:=by rw [hst,List.append_assoc]
      simp only [true_and,and_true,hfin]
      omega
    simp only [decide_eq_false_iff_not] at h1
    obtain rfl:k = L.length:=by omega
    rw [List.take_length]
    refine Zbo ?_
    try simp only [Zae,Zat,retQ,ite_true]
    refine Zac (Zaa [2] ?_)
    simp only [Zab,Zad,Zaf,pok,pval,VA.ev,Env.get,Env.put,Env.keep,Zae,Nat.succ_ne_self,List.map,Nat.reduceEqDiff,ite_true,ite_false,true_and]
    refine Zan T ?_
    skip
    refine Zaq ?_
    try simp only [Env.get,retQ,resV,Za4,RS.ev,RS.ok,ite_true,true_and,and_true]
    exact View.refl _ _
theorem sp_Whole {u:Un} (hu:SmalT u):Za2 Tryd.prog 15 [.agg u.enc] (.str (saysT true u)):=by
  induction hu with
  | mk u h hk hs ih =>
    have A:=sp_r_Alone true u h
    have al:=alone_len true h
    have T:=sp_Text (Zbb true u ++ saysL true u.kids) (by rw [List.length_append,saysL_len]; omega)
    rw [saysT_eq]
    generalize Zbb true u = X at A al T
    refine Zah ?_ (cS _) (by simp only [Zau,List.mem_cons,List.not_mem_nil,or_false,forall_eq_or_imp,forall_eq,false_implies,implies_true]; repeat' (first  | exact cS _ | exact Zas (Un.closed _) | refine And.intro ?_ ?_))
    refine Zal (vc:=c_pandectref12_Whole) (ts:=[.t 2]) Go.Proofs.Tryd.func15 (by kernel_rfl) rfl rfl (Nat.le_of_ble_eq_true rfl) (by kernel_rfl) ?_
    unfold c_pandectref12_Whole
    try dsimp only [ZM,ZO,ZN,ZG]
    rw [Un.Zay] at A ⊢
    refine Zac (Zaa [1,2] ?_)
    simp only [Zab,Zad,Zaf,pok,pval,VA.ev,Env.get,Env.put,Env.keep,Zav,Zae,PV.cells,PV.fits,Heap.push,Heap.nil,Nat.succ_ne_self,List.length,Nat.reduceEqDiff,Nat.reduceAdd,ite_true,ite_false,true_and,reduceCtorEq,BEq.rfl,Nat.zero_add]
    refine Za9 [(1,.ro [pI u.act,pI u.item,pI u.n,pI u.kind,.str u.label,.sl 4 (u.head.map Wd.enc),.sl 4 (u.words.map Wd.enc),.sl 8 (u.kids.map Un.enc)])] ⟨View.loc (z:=8) (fz:=false) (es:=[[pI u.act,pI u.item,pI u.n,pI u.kind,.str u.label,.sl 4 (u.head.map Wd.enc),.sl 4 (u.words.map Wd.enc),.sl 8 (u.kids.map Un.enc)]]) rfl (by simp) rfl (by simp),trivial⟩ ?_
    refine Zac (Zaa [1,3] ?_)
    simp only [Zab,Zad,Zaf,pok,pval,VA.ev,Env.get,Env.put,Env.keep,Zae,aggV,Zag,Zap,PV.nth,Nat.le_refl,List.map,List.length,List.getD_cons_zero,List.take,List.take_succ_cons,Nat.reduceEqDiff,Nat.reduceAdd,Bool.true_eq_false,ite_true,ite_false,true_and,and_true,Nat.zero_add,List.length_cons,imp_self]
    refine Zan A ?_
    generalize u.head.map Wd.enc = EH
    generalize u.words.map Wd.enc = EW
    generalize u.kids = L at hk hs ih T
    skip
    refine Zac ?_
    refine Zac (Zaa [1,3,4] ?_)
    simp only [Zab,Zad,Zaf,pok,pval,VA.ev,Env.get,Env.put,Env.keep,Zae,Nat.succ_ne_self,Nat.reduceEqDiff,ite_true,ite_false,true_and]
    refine Zao ?_
    refine Zbs (σ:={ k:Nat // k ≤ L.length }) (fun k=>([(1,.ro [pI u.act,pI u.item,pI u.n,pI u.kind,.str u.label,.sl 4 EH,.sl 4 EW,.sl 8 (L.map Un.enc)]),(3,.str (X ++ saysL true (L.take k.1))),(4,pI k.1)],⟨[],1⟩)) (fun k=>L.length - k.1) ⟨0,Nat.zero_le _⟩ ?_ ?_ ?_
    · try simp only [Env.get,Nat.succ_ne_self,Env.le,List.take,Nat.reduceEqDiff,ite_true,ite_false,true_and,and_true,true_and]
      all_goals (repeat' (first | rfl | trivial | omega | (simp only []; omega) | refine And.intro ?_ ?_))
      simp [saysL]
    · simp only [Heap.le,HL.le,Nat.le_refl,and_true]
    rintro ⟨k,hkk⟩
    simp only []
    refine Zac ?_
    refine Zac (Zaa [1,3,4,11] ?_)
    simp only [Zab,Zad,Zaf,pok,pval,VA.ev,Env.get,Env.put,Env.keep,Zae,aggV,intV,binV,Zak,lenV,Za8,Za5,Zag,Zap,Zb5,PV.nth,Heap.le,HL.le,Nat.le_refl,Nat.succ_ne_self,Env.le,List.length,List.getD_cons_zero,List.take,List.drop,List.take_succ_cons,Nat.reduceEqDiff,Bool.false_eq_true,ite_true,ite_false,true_and,and_true,implies_true,Nat.zero_add,List.length_cons,List.length_map]
    refine Zaj rfl (fun h1=>?_) (fun h1=>?_)
    · simp only [decide_eq_true_eq] at h1
      have ka:k < L.length:=by omega
      have hst:=saysL_step true ka
      have hrow:(L.map Un.enc).getD k [] = L[k].enc:=rowm ka
      have R:=ih _ (List.getElem_mem ka)
      have hfl:=saysL_len true (L.take k)
      have htl:(L.take k).length = k:=by rw [List.length_take]; omega
      have hsl:=saysT_len true L[k]
      generalize L[k] = v at hst hrow R hsl
      rw [Un.Zay] at hrow R
      generalize saysT true v = V at hst R hsl
      generalize saysL true (L.take k) = F at hst hfl ⊢
      refine Zam ?_
      try simp only [Zae]
      refine Zac ?_
      refine Zao ?_
      refine Zaa [1,3,4] ?_
      simp only [Zab,Zad,Zaf,pok,pval,VA.ev,Env.get,Env.put,Env.keep,Zae,Zat,aggV,intV,binV,Zak,strV,isInt,numOf,lenV,Za8,Za5,Zag,Zap,Zbx,Zbi,PV.nth,PV.row,Nat.le_refl,Nat.succ_ne_self,List.map,List.length,List.getD_cons_zero,List.take,List.drop,List.take_succ_cons,Nat.reduceEqDiff,Nat.reduceAdd,Bool.false_eq_true,Bool.true_eq_false,ite_true,ite_false,true_and,and_true,implies_true,Nat.zero_add,List.length_cons,imp_self,Int.toNat_natCast,List.length_map,hrow]
      refine ⟨by omega,?_⟩
      refine Zan R ?_
      try simp only [List.length_append]
      refine ⟨by omega,?_⟩
      refine Zaa [1,3,4] ?_
      simp only [Zab,Zad,Zaf,pok,pval,VA.ev,Env.get,Env.put,Env.keep,Zae,intV,binV,Zak,Nat.le_refl,Nat.succ_ne_self,Nat.reduceEqDiff,ite_true,ite_false,true_and,ad1 (a:=k) (by omega)]
      refine ⟨⟨k + 1,ka⟩,?_⟩
      have hfin:X ++ saysL true (L.take (k + 1)) = X ++ F ++ V:=by rw [hst,List.append_assoc]
      simp only [true_and,and_true,hfin]
      omega
    simp only [decide_eq_false_iff_not] at h1
    obtain rfl:k = L.length:=by omega
    rw [List.take_length]
    refine Zbo ?_
    try simp only [Zae,Zat,retQ,ite_true]
    refine Zac (Zaa [2] ?_)
    simp only [Zab,Zad,Zaf,pok,pval,VA.ev,Env.get,Env.put,Env.keep,Zae,Nat.succ_ne_self,List.map,Nat.reduceEqDiff,ite_true,ite_false,true_and]
    refine Zan T ?_
    skip
    refine Zaq ?_
    try simp only [Env.get,retQ,resV,Za4,RS.ev,RS.ok,ite_true,true_and,and_true]
    exact View.refl _ _
end Go.Proofs.YtjmekckcffckoaaDoor.w
namespace Go.Proofs.YtjmekckcffckoaaDoor.w
open Go Go.VM
set_option maxRecDepth 20000
set_option maxHeartbeats 0
set_option pp.deepTerms false
def c_pandectref12_Less:VC:=(.seq (.region [ZO 2 (.box 3 (.t 0)),ZO 3 (.box 3 (.t 1)),ZO 4 (.mv (.c (.bool false)))] false) (.seq (.seq (.region [ZO 5 (.faddr 0 (.t 2)),ZO 6 (.load false 1 (.t 5)),ZO 7 (.faddr 0 (.t 3)),ZO 8 (.load false 1 (.t 7)),ZO 9 (.bin .neq (.t 6) (.t 8))] false) (.cond (.t 9) (.seq (.region [ZO 10 (.faddr 0 (.t 2)),ZO 11 (.load false 1 (.t 10)),ZO 12 (.faddr 0 (.t 3)),ZO 13 (.load false 1 (.t 12)),ZO 14 (.bin .lss (.t 11) (.t 13)),ZM 4 14] false) .ret) .skip)) (.seq (.seq (.region [ZO 15 (.faddr 1 (.t 2)),ZO 16 (.load false 1 (.t 15)),ZO 17 (.faddr 1 (.t 3)),ZO 18 (.load false 1 (.t 17)),ZO 19 (.bin .neq (.t 16) (.t 18))] false) (.cond (.t 19) (.seq (.region [ZO 20 (.faddr 1 (.t 2)),ZO 21 (.load false 1 (.t 20)),ZO 22 (.faddr 1 (.t 3)),ZO 23 (.load false 1 (.t 22)),ZO 24 (.bin .lss (.t 21) (.t 23)),ZM 4 24] false) .ret) .skip)) (.seq (.region [ZO 25 (.faddr 2 (.t 2)),ZO 26 (.load false 1 (.t 25)),ZO 27 (.faddr 2 (.t 3)),ZO 28 (.load false 1 (.t 27)),ZO 29 (.bin .lss (.t 26) (.t 28)),ZM 4 29] false) .ret))))
def c_pandectref12_Ids:VC:=(.seq (.region [ZO 4 (.mv (.c (.bool false)))] false) (.seq (.seq (.region [ZM 6 0,ZO 7 (.len false (.t 6)),ZM 8 1,ZO 9 (.len false (.t 8)),ZO 10 (.bin .neq (.t 7) (.t 9))] false) (.cond (.t 10) (.seq (.region [ZO 4 (.mv (.c (.bool false)))] false) .ret) .skip)) (.seq (.seq (.region [ZO 5 (.mv (.c (.int .i64 0)))] false) (.block 0 (.loop (.seq (.seq (.region [ZM 11 5,ZM 12 0,ZO 13 (.len false (.t 12)),ZO 14 (.bin .lss (.t 11) (.t 13))] false) (.cond (.t 14) .skip (.exit 0))) (.seq (.block 1 (.seq (.region [ZM 17 0,ZM 18 5,ZO 19 (.iaddr 3 (.t 17) (.t 18)),ZO 20 (.load true 3 (.t 19)),ZM 21 1,ZM 22 5,ZO 23 (.iaddr 3 (.t 21) (.t 22)),ZO 24 (.load true 3 (.t 23)),ZO 25 (.eqs true [.i,.i,.i] (.t 20) (.t 24))] true) (.cond (.t 25) (.seq (.region [ZO 4 (.mv (.c (.bool false)))] false) .ret) .skip))) (.region [ZM 15 5,ZO 16 (.bin .add (.t 15) (.c (.int .i64 1))),ZM 5 16] false)))))) (.seq (.region [ZO 4 (.mv (.c (.bool true)))] false) .ret))))
structure Idt where
  act : Int
  item : Int
  n : Int
  deriving DecidableEq, Inhabited
def Idt.enc (x:Idt):List PV:=[pI x.act,pI x.item,pI x.n]
def ltId (a b:Idt):Bool:=if a.act ≠ b.act then decide (a.act < b.act) else if a.item ≠ b.item then decide (a.item < b.item) else decide (a.n < b.n)
theorem closed_id (x:Idt):Closed (.agg x.enc):=Zas fun y hy=>by
  simp only [Idt.enc,List.mem_cons,List.not_mem_nil,or_false] at hy
  rcases hy with rfl | rfl | rfl <;> exact cI _
theorem closed_ids (l:List Idt):Closed (.sl 3 (l.map Idt.enc)):=Zax fun x _ y hy=>by
  simp only [Idt.enc,List.mem_cons,List.not_mem_nil,or_false] at hy
  rcases hy with rfl | rfl | rfl <;> exact cI _
theorem take_next {α:Type} {a b:List α} {k:Nat} (ha:k < a.length) (hb:k < b.length) (h:a.take k = b.take k) (e:a[k] = b[k]):a.take (k + 1) = b.take (k + 1):=by
  rw [List.take_add_one,List.take_add_one,List.getElem?_eq_getElem ha,List.getElem?_eq_getElem hb,h,e]
theorem sp_r_Less (a b:Idt):Za2 Tryd.prog 59 [.agg a.enc,.agg b.enc] (.bool (ltId a b)):=by
  refine Zah ?_ (cB _) (by intro y hy; simp only [List.mem_cons,List.not_mem_nil,or_false] at hy; rcases hy with rfl | rfl <;> exact closed_id _)
  unfold Idt.enc
  refine Zal (vc:=c_pandectref12_Less) (ts:=[.t 4]) Go.Proofs.Tryd.func59 (by kernel_rfl) rfl rfl (Nat.le_of_ble_eq_true rfl) (by kernel_rfl) ?_
  unfold c_pandectref12_Less
  try dsimp only [ZM,ZO,ZN,ZG]
  refine Zac (Zaa [2,3] ?_)
  simp only [Zab,Zad,Zaf,pok,pval,VA.ev,Env.get,Env.put,Env.keep,Zav,Zae,PV.cells,PV.fits,Heap.push,Heap.nil,Nat.succ_ne_self,List.length,Nat.reduceEqDiff,Nat.reduceAdd,ite_true,ite_false,true_and,reduceCtorEq,BEq.rfl,Nat.zero_add]
  refine Za9 [(2,.ro [pI a.act,pI a.item,pI a.n]),(3,.ro [pI b.act,pI b.item,pI b.n])] ⟨View.loc (z:=3) (fz:=false) (es:=[[pI a.act,pI a.item,pI a.n]]) rfl (by simp) rfl (by simp),View.loc (z:=3) (fz:=false) (es:=[[pI b.act,pI b.item,pI b.n]]) rfl (by simp) rfl (by simp),trivial⟩ ?_
  refine Zac ?_
  refine Zac (Zaa [2,3,9] ?_)
  simp only [Zab,Zad,Zaf,pok,pval,VA.ev,Env.get,Env.put,Env.keep,Zae,aggV,intV,binV,Zak,Za8,Za5,Zag,Zap,PV.nth,Nat.succ_ne_self,List.length,List.getD_cons_zero,List.take,List.drop,List.take_succ_cons,Nat.reduceEqDiff,Nat.reduceAdd,Nat.reduceLeDiff,Bool.false_eq_true,ite_true,ite_false,true_and,and_true,implies_true,Nat.zero_add,List.length_cons]
  refine Zaj rfl (fun h1=>?_) (fun h1=>?_)
  · refine Zac (Zaa [4] ?_)
    simp only [Zab,Zad,Zaf,pok,pval,VA.ev,Env.get,Env.put,Env.keep,Zae,aggV,intV,binV,Zak,Za8,Za5,Zag,Zap,PV.nth,Nat.succ_ne_self,List.length,List.getD_cons_zero,List.take,List.drop,List.take_succ_cons,Nat.reduceEqDiff,Nat.reduceAdd,Nat.reduceLeDiff,Bool.false_eq_true,ite_true,ite_false,true_and,and_true,implies_true,Nat.zero_add,List.length_cons]
    refine Zaq ?_
    try simp only [Env.get,Zae,retQ,resV,Za4,RS.ev,RS.ok,ite_true,true_and,and_true]
    have:ltId a b = decide (a.act < b.act):=by unfold ltId; rw [if_pos (by simpa using h1)]
    rw [this]
    exact View.refl _ _
  refine Zam ?_
  try simp only [Zae]
  refine Zac ?_
  refine Zac (Zaa [2,3,19] ?_)
  simp only [Zab,Zad,Zaf,pok,pval,VA.ev,Env.get,Env.put,Env.keep,Zae,aggV,intV,binV,Zak,Za8,Za5,Zag,Zap,PV.nth,Nat.succ_ne_self,List.length,List.getD_cons_zero,List.take,List.drop,List.take_succ_cons,Nat.reduceEqDiff,Nat.reduceAdd,Nat.reduceLeDiff,Bool.false_eq_true,ite_true,ite_false,true_and,and_true,implies_true,Nat.zero_add,List.length_cons]
  refine Zaj rfl (fun h2=>?_) (fun h2=>?_)
  · refine Zac (Zaa [4] ?_)
    simp only [Zab,Zad,Zaf,pok,pval,VA.ev,Env.get,Env.put,Env.keep,Zae,aggV,intV,binV,Zak,Za8,Za5,Zag,Zap,PV.nth,Nat.succ_ne_self,List.length,List.getD_cons_zero,List.take,List.drop,List.take_succ_cons,Nat.reduceEqDiff,Nat.reduceAdd,Nat.reduceLeDiff,Bool.false_eq_true,ite_true,ite_false,true_and,and_true,implies_true,Nat.zero_add,List.length_cons]
    refine Zaq ?_
    try simp only [Env.get,Zae,retQ,resV,Za4,RS.ev,RS.ok,ite_true,true_and,and_true]
    have:ltId a b = decide (a.item < b.item):=by unfold ltId; rw [if_neg (by simpa using h1),if_pos (by simpa using h2)]
    rw [this]
    exact View.refl _ _
  refine Zam ?_
  try simp only [Zae]
  refine Zac (Zaa [4] ?_)
  simp only [Zab,Zad,Zaf,pok,pval,VA.ev,Env.get,Env.put,Env.keep,Zae,aggV,intV,binV,Zak,Za8,Za5,Zag,Zap,PV.nth,Nat.le_refl,Nat.succ_ne_self,List.length,List.getD_cons_zero,List.take,List.drop,List.take_succ_cons,Nat.reduceEqDiff,Bool.false_eq_true,ite_true,ite_false,true_and,and_true,implies_true,Nat.zero_add,List.length_cons]
  refine Zaq ?_
  try simp only [Env.get,retQ,resV,Za4,RS.ev,RS.ok,ite_true,true_and,and_true]
  have:ltId a b = decide (a.n < b.n):=by unfold ltId; rw [if_neg (by simpa using h1),if_neg (by simpa using h2)]
  rw [this]
  exact View.refl _ _
theorem rowI {l:List Idt} {k:Nat} (h:k < l.length):(l.map Idt.enc).getD k [] = [pI l[k].act,pI l[k].item,pI l[k].n]:=rowm h
theorem sp_r_Ids (a b:List Idt) (ha:a.length ≤ 1000000000) (hb:b.length ≤ 1000000000):Za2 Tryd.prog 19 [.sl 3 (a.map Idt.enc),.sl 3 (b.map Idt.enc)] (.bool (decide (a = b))):=by
  refine Zah ?_ (cB _) (by intro y hy; simp only [List.mem_cons,List.not_mem_nil,or_false] at hy; rcases hy with rfl | rfl <;> exact closed_ids _)
  refine Zal (vc:=c_pandectref12_Ids) (ts:=[.t 4]) Go.Proofs.Tryd.func19 (by kernel_rfl) rfl rfl (Nat.le_of_ble_eq_true rfl) (by kernel_rfl) ?_
  unfold c_pandectref12_Ids
  try dsimp only [ZM,ZO,ZN,ZG]
  refine Zac (Zaa [0,1] ?_)
  simp only [Zab,Zad,Zaf,pok,pval,VA.ev,Env.get,Env.put,Env.keep,Zav,Zae,Heap.nil,Nat.succ_ne_self,Nat.reduceEqDiff,ite_true,ite_false,true_and,reduceCtorEq,Nat.zero_add]
  refine Zac ?_
  refine Zac (Zaa [0,1,10] ?_)
  simp only [Zab,Zad,Zaf,pok,pval,VA.ev,Env.get,Env.put,Env.keep,Zae,intV,binV,Zak,lenV,Zb5,Nat.succ_ne_self,Nat.reduceEqDiff,ite_true,ite_false,true_and,reduceCtorEq,List.length_map]
  refine Zaj rfl (fun h1=>?_) (fun h1=>?_)
  · refine Zac (Zaa [4] ?_)
    simp only [Zab,Zad,Zaf,pok,pval,VA.ev,Env.get,Env.put,Env.keep,Zae,Nat.reduceEqDiff,ite_true,ite_false,true_and,reduceCtorEq]
    refine Zaq ?_
    try simp only [Env.get,Zae,retQ,resV,Za4,RS.ev,RS.ok,ite_true,true_and,and_true]
    have:decide (a = b) = false:=by
      rw [decide_eq_false_iff_not]; rintro rfl; simp at h1
    rw [this]
    exact View.refl _ _
  have hlen : a.length = b.length := by have : (a.length : Int) = b.length := by simpa using h1
                                        omega
  refine Zam ?_
  try simp only [Zae]
  refine Zac ?_
  refine Zac (Zaa [0,1,5] ?_)
  simp only [Zab,Zad,Zaf,pok,pval,VA.ev,Env.get,Env.put,Env.keep,Zae,Nat.succ_ne_self,Nat.reduceEqDiff,ite_true,ite_false,true_and,reduceCtorEq]
  refine Zao ?_
  refine Zbs (σ:={ k:Nat // k ≤ a.length ∧ a.take k = b.take k }) (fun k=>([(0,.sl 3 (a.map Idt.enc)),(1,.sl 3 (b.map Idt.enc)),(5,pI k.1)],⟨[],0⟩)) (fun k=>a.length - k.1) ⟨0,by simp⟩ ?_ ?_ ?_
  · try simp only [Env.get,Nat.succ_ne_self,Env.le,Nat.reduceEqDiff,ite_true,ite_false,true_and,and_true,reduceCtorEq,true_and]
    all_goals (repeat' (first | rfl | trivial | omega | (simp only []; omega) | refine And.intro ?_ ?_))
  · simp only [Heap.le,HL.le,Nat.le_refl,and_true]
  rintro ⟨k,hk,hkt⟩
  simp only []
  refine Zac ?_
  refine Zac (Zaa [0,1,5,14] ?_)
  simp only [Zab,Zad,Zaf,pok,pval,VA.ev,Env.get,Env.put,Env.keep,Zae,intV,binV,Zak,lenV,Zb5,Heap.le,HL.le,Nat.succ_ne_self,Env.le,Nat.reduceEqDiff,ite_true,ite_false,true_and,and_true,reduceCtorEq,List.length_map]
  refine Zaj rfl (fun h2=>?_) (fun h2=>?_)
  · simp only [decide_eq_true_eq] at h2
    have ka:k < a.length:=by omega
    have kb:k < b.length:=by omega
    have r1:=rowI ka
    have r2:=rowI kb
    refine Zam ?_
    try simp only [Zae]
    refine Zac ?_
    refine Zao ?_
    refine Zac (Zbz [0,1,5,25] (by simp [Heap.le,Heap.get,HL.le,HL.get]) ?_)
    simp only [Zba,Zbe,QW,dok,dval,VOp.pure,VOp.simple,VOp.det,pok,pval,VA.ev,Env.get,Env.put,Env.keep,Zae,gd,aggV,isInt,numOf,lenV,Zag,Zap,Za6,isAggP,Zbx,Zbi,PV.nth,PV.row,Nat.le_refl,Nat.succ_ne_self,eqOk,ekOk,Za1,Zcc,List.length,List.getD_cons_zero,List.take,List.take_succ_cons,Nat.reduceEqDiff,Nat.reduceAdd,Bool.true_eq_false,ite_true,ite_false,true_and,and_true,implies_true,forall_const,reduceCtorEq,Nat.zero_add,List.length_cons,imp_self,Int.toNat_natCast,List.length_map,r1,r2]
    refine ⟨by omega,by omega,?_⟩
    refine Zaj rfl (fun h3=>?_) (fun h3=>?_)
    · have hne : a ≠ b := by
        rintro rfl
        simp at h3
      refine Zac (Zaa [4] ?_)
      simp only [Zab,Zad,Zaf,pok,pval,VA.ev,Env.get,Env.put,Env.keep,Zae,Nat.succ_ne_self,Nat.reduceEqDiff,ite_true,ite_false,true_and,reduceCtorEq]
      refine Zaq ?_
      try simp only [Env.get,Zae,Zat,retQ,resV,Za4,RS.ev,RS.ok,ite_true,true_and,and_true]
      rw [decide_eq_false hne]
      exact View.refl _ _
    have he:a[k] = b[k]:=by
      generalize a[k] = x at h3
      generalize b[k] = y at h3
      cases x; cases y
      simp at h3 ⊢
      omega
    refine Zam ?_
    try simp only [Zae,Zat]
    refine Zaa [0,1,5] ?_
    simp only [Zab,Zad,Zaf,pok,pval,VA.ev,Env.get,Env.put,Env.keep,Zae,intV,binV,Zak,Nat.le_refl,Nat.succ_ne_self,Nat.reduceEqDiff,ite_true,ite_false,true_and,reduceCtorEq,ad1 (a:=k) (by omega)]
    refine ⟨⟨k + 1,ka,take_next ka kb hkt he⟩,?_⟩
    try simp only [true_and]
    all_goals (repeat' (first | rfl | trivial | omega | (simp only []; omega) | refine And.intro ?_ ?_))
  simp only [decide_eq_false_iff_not] at h2
  have hab:a = b:=by
    rw [List.take_of_length_le (by omega),List.take_of_length_le (by omega)] at hkt
    exact hkt
  refine Zbo ?_
  try simp only [Zae,Zat,retQ,ite_true]
  refine Zac (Zaa [4] ?_)
  simp only [Zab,Zad,Zaf,pok,pval,VA.ev,Env.get,Env.put,Env.keep,Zae,Nat.succ_ne_self,Nat.reduceEqDiff,ite_true,ite_false,true_and,reduceCtorEq]
  refine Zaq ?_
  try simp only [Env.get,retQ,resV,Za4,RS.ev,RS.ok,ite_true,true_and,and_true]
  rw [decide_eq_true hab]
  exact View.refl _ _
end Go.Proofs.YtjmekckcffckoaaDoor.w
namespace Go.Proofs.YtjmekckcffckoaaDoor.w
open Go Go.VM
set_option maxRecDepth 20000
set_option maxHeartbeats 0
set_option pp.deepTerms false
def c_pandectref12_Put:VC:=(.seq (.region [ZO 3 (.box 3 (.t 1)),ZO 4 (.mv (.c .nilsl))] false) (.seq (.region [ZO 8 (.fx (.mk0 3) []),ZM 5 8] false) (.seq (.region [ZO 6 (.mv (.c (.bool false)))] false) (.seq (.seq (.region [ZO 7 (.mv (.c (.int .i64 0)))] false) (.block 0 (.loop (.seq (.seq (.region [ZM 9 7,ZM 10 0,ZO 11 (.len false (.t 10)),ZO 12 (.bin .lss (.t 9) (.t 11))] false) (.cond (.t 12) .skip (.exit 0))) (.seq (.block 1 (.seq (.seq (.region [ZM 15 6,ZO 16 (.un .not (.t 15)),ZM 17 16,ZG 18 (.mv (.t 0)) 17 true,ZG 19 (.mv (.t 7)) 17 true,ZG 20 (.iaddr 3 (.t 18) (.t 19)) 17 true,ZG 21 (.load true 3 (.t 20)) 17 true,ZG 22 (.load true 3 (.t 3)) 17 true,ZG 23 (.call 59 [(.t 21),(.t 22)]) 17 true,ZG 24 (.un .not (.t 23)) 17 true,ZO 25 (.pick (.t 17) (.t 24) (.c (.bool false)))] true) (.cond (.t 25) (.seq (.region [ZM 26 5,ZO 27 (.load true 3 (.t 3)),ZO 28 (.bslice 3 1 [(.int .i64 0),(.int .i64 0),(.int .i64 0)] [(0,(.t 27))]),ZO 29 (.app 3 24 [(.int .i64 0),(.int .i64 0),(.int .i64 0)] false (.t 26) (.t 28)),ZM 5 29] false) (.region [ZO 6 (.mv (.c (.bool true)))] false)) .skip)) (.seq (.region [ZM 30 0,ZM 31 7,ZO 32 (.iaddr 3 (.t 30) (.t 31)),ZO 33 (.load true 3 (.t 32)),ZO 34 (.load true 3 (.t 3)),ZO 35 (.eqs true [.i,.i,.i] (.t 33) (.t 34))] true) (.cond (.t 35) (.region [ZM 36 5,ZM 37 0,ZM 38 7,ZO 39 (.iaddr 3 (.t 37) (.t 38)),ZO 40 (.load true 3 (.t 39)),ZO 41 (.bslice 3 1 [(.int .i64 0),(.int .i64 0),(.int .i64 0)] [(0,(.t 40))]),ZO 42 (.app 3 24 [(.int .i64 0),(.int .i64 0),(.int .i64 0)] false (.t 36) (.t 41)),ZM 5 42] false) .skip)))) (.region [ZM 13 7,ZO 14 (.bin .add (.t 13) (.c (.int .i64 1))),ZM 7 14] false)))))) (.seq (.seq (.region [ZM 43 6,ZO 44 (.un .not (.t 43))] false) (.cond (.t 44) (.region [ZM 45 5,ZO 46 (.load true 3 (.t 3)),ZO 47 (.bslice 3 1 [(.int .i64 0),(.int .i64 0),(.int .i64 0)] [(0,(.t 46))]),ZO 48 (.app 3 24 [(.int .i64 0),(.int .i64 0),(.int .i64 0)] false (.t 45) (.t 47)),ZM 5 48] false) .skip)) (.seq (.region [ZM 49 5,ZM 4 49] false) .ret))))))
def putA (d:Idt) (s:Bool × List Idt) (x:Idt):Bool × List Idt:=if s.1 = false ∧ ltId x d = false then (true,s.2 ++ [d]) else s
def putB (d:Idt) (s:Bool × List Idt) (x:Idt):Bool × List Idt:=(s.1,if x = d then s.2 else s.2 ++ [x])
def putF (d:Idt) (l:List Idt):Bool × List Idt:=l.foldl (fun s x=>putB d (putA d s x) x) (false,[])
def putT (d:Idt) (l:List Idt):List Idt:=if (putF d l).1 then (putF d l).2 else (putF d l).2 ++ [d]
theorem putF_step (d:Idt) {l:List Idt} {k:Nat} (h:k < l.length):putF d (l.take (k + 1)) = putB d (putA d (putF d (l.take k)) l[k]) l[k]:=by
  unfold putF
  rw [List.take_add_one,List.getElem?_eq_getElem h,List.foldl_append]; rfl
theorem putF_len (d:Idt) (l:List Idt):(putF d l).2.length ≤ 2 * l.length:=by
  have:∀ (l:List Idt) (s:Bool × List Idt),(l.foldl (fun s x=>putB d (putA d s x) x) s).2.length ≤ s.2.length + 2 * l.length:=by
    intro l
    induction l with
    | nil=>intro s; simp
    | cons a r ih =>
      intro s
      rw [List.foldl_cons]
      have h1:=ih (putB d (putA d s a) a)
      have h2:(putB d (putA d s a) a).2.length ≤ s.2.length + 2:=by
        unfold putB putA
        split <;> split <;> simp
      simp only [List.length_cons]
      omega
  have:=this l (false,[])
  simpa [putF] using this
theorem sp_r_Put (d:Idt) (l:List Idt) (hl:l.length ≤ 1000000):Za2 Tryd.prog 43 [.sl 3 (l.map Idt.enc),.agg d.enc] (.sl 3 ((putT d l).map Idt.enc)):=by
  refine Zah ?_ (closed_ids _) (by intro y hy; simp only [List.mem_cons,List.not_mem_nil,or_false] at hy; rcases hy with rfl | rfl; exact closed_ids _; exact closed_id _)
  have hde:d.enc = [pI d.act,pI d.item,pI d.n]:=rfl
  have L:=fun x=>sp_r_Less x d
  refine Zal (vc:=c_pandectref12_Put) (ts:=[.t 4]) Go.Proofs.Tryd.func43 (by kernel_rfl) rfl rfl (Nat.le_of_ble_eq_true rfl) (by kernel_rfl) ?_
  unfold c_pandectref12_Put
  try dsimp only [ZM,ZO,ZN,ZG]
  refine Zac (Zaa [0,3] ?_)
  simp only [Zab,Zad,Zaf,pok,pval,VA.ev,Env.get,Env.put,Env.keep,Zav,Zae,PV.cells,PV.fits,Heap.push,Heap.nil,Nat.succ_ne_self,Nat.reduceEqDiff,ite_true,ite_false,true_and,reduceCtorEq,Nat.zero_add]
  refine ⟨rfl,?_⟩
  refine Za9 [(0,.sl 3 (l.map Idt.enc)),(3,.ro [pI d.act,pI d.item,pI d.n])] ?_ ?_
  · refine ⟨View.refl _ _,?_,trivial⟩
    exact View.loc (z:=3) (fz:=false) (es:=[[pI d.act,pI d.item,pI d.n]]) rfl (by simp) rfl (Nat.le_refl 3)
  refine Zac (Zaa [0,3,5] ?_)
  simp only [Zab,Zad,Zaf,pok,pval,VA.ev,Env.get,Env.put,Env.keep,Zae,Heap.push,fxV,fxOk,List.map,Nat.reduceEqDiff,Nat.reduceAdd,ite_true,ite_false,true_and,reduceCtorEq]
  refine Zac (Zaa [0,3,5,6] ?_)
  simp only [Zab,Zad,Zaf,pok,pval,VA.ev,Env.get,Env.put,Env.keep,Zae,Nat.succ_ne_self,Nat.reduceEqDiff,ite_true,ite_false,true_and,reduceCtorEq]
  refine Zac ?_
  refine Zac (Zaa [0,3,5,6,7] ?_)
  simp only [Zab,Zad,Zaf,pok,pval,VA.ev,Env.get,Env.put,Env.keep,Zae,Nat.succ_ne_self,Nat.reduceEqDiff,ite_true,ite_false,true_and,reduceCtorEq]
  refine Zao ?_
  refine Zbs (σ:={ k:Nat × Nat × Nat // k.1 ≤ l.length ∧ k.2.1 < k.2.2 }) (fun k=>([(0,.sl 3 (l.map Idt.enc)),(3,.ro [pI d.act,pI d.item,pI d.n]),(5,.own k.1.2.1 0 (putF d (l.take k.1.1)).2.length),(6,.bool (putF d (l.take k.1.1)).1),(7,pI k.1.1)],⟨[(k.1.2.1,.arr false 3 ((putF d (l.take k.1.1)).2.map Idt.enc))],k.1.2.2⟩)) (fun k=>l.length - k.1.1) ⟨(0,1,2),Nat.zero_le _,by simp⟩ ?_ ?_ ?_
  · try simp only [Env.get,Nat.succ_ne_self,Env.le,List.take,Nat.reduceEqDiff,ite_true,ite_false,true_and,and_true,reduceCtorEq,true_and]
    all_goals (repeat' (first | rfl | trivial | omega | (simp only []; omega) | refine And.intro ?_ ?_))
  · simp only [Heap.get,Heap.le,HL.get,HL.le,Nat.le_refl,List.take,ite_true,true_and,and_true,Option.some.injEq]
    rfl
  rintro ⟨⟨k,id,n⟩,hk,hid⟩
  simp only [] at hk hid ⊢
  have qi0:(id = n) = False:=eq_false (by omega)
  have qi1:(id = (n + 1)) = False:=eq_false (by omega)
  have qi2:(id = (n + 1 + 1)) = False:=eq_false (by omega)
  have qi3:(id = (n + 1 + 1 + 1)) = False:=eq_false (by omega)
  have qi4:(n = id) = False:=eq_false (by omega)
  have qi5:(n = (n + 1)) = False:=eq_false (by omega)
  have qi6:(n = (n + 1 + 1)) = False:=eq_false (by omega)
  have qi7:(n = (n + 1 + 1 + 1)) = False:=eq_false (by omega)
  have qi8:((n + 1) = id) = False:=eq_false (by omega)
  have qi9:((n + 1) = n) = False:=eq_false (by omega)
  have qi10:((n + 1) = (n + 1 + 1)) = False:=eq_false (by omega)
  have qi11:((n + 1) = (n + 1 + 1 + 1)) = False:=eq_false (by omega)
  have qi12:((n + 1 + 1) = id) = False:=eq_false (by omega)
  have qi13:((n + 1 + 1) = n) = False:=eq_false (by omega)
  have qi14:((n + 1 + 1) = (n + 1)) = False:=eq_false (by omega)
  have qi15:((n + 1 + 1) = (n + 1 + 1 + 1)) = False:=eq_false (by omega)
  have qi16:((n + 1 + 1 + 1) = id) = False:=eq_false (by omega)
  have qi17:((n + 1 + 1 + 1) = n) = False:=eq_false (by omega)
  have qi18:((n + 1 + 1 + 1) = (n + 1)) = False:=eq_false (by omega)
  have qi19:((n + 1 + 1 + 1) = (n + 1 + 1)) = False:=eq_false (by omega)
  refine Zac ?_
  refine Zac (Zaa [0,3,5,6,7,12] ?_)
  simp only [Zab,Zad,Zaf,pok,pval,VA.ev,Env.get,Env.put,Env.keep,Zae,intV,binV,Zak,lenV,Zb5,Heap.get,Heap.le,HL.le,Nat.succ_ne_self,Env.le,Nat.reduceEqDiff,ite_true,ite_false,true_and,and_true,reduceCtorEq,List.length_map,qi0,qi1,qi2,qi3,qi4,qi5,qi6,qi7,qi8,qi9,qi10,qi11,qi12,qi13,qi14,qi15,qi16,qi17,qi18,qi19]
  refine Zaj rfl (fun h1=>?_) (fun h1=>?_)
  · simp only [decide_eq_true_eq] at h1
    have ka:k < l.length:=by omega
    have hst:=putF_step d ka
    have hrow:=rowI ka
    have hfl:=putF_len d (l.take k)
    have htl:(l.take k).length = k:=by rw [List.length_take]; omega
    generalize l[k] = x at hst hrow
    have Lx:Za2 Tryd.prog 59 [.agg [pI x.act,pI x.item,pI x.n],.agg [pI d.act,pI d.item,pI d.n]] (.bool (ltId x d)):=L x
    generalize putF d (l.take k) = S at hst hfl ⊢
    obtain ⟨dn,O⟩:=S
    simp only [] at hfl ⊢
    refine Zam ?_
    try simp only [Zae]
    refine Zac ?_
    refine Zao ?_
    have hOl:O.length ≤ 2 * k:=by omega
    have htk:List.take O.length (O.map Idt.enc) = O.map Idt.enc:=List.take_of_length_le (by simp)
    refine Zac (VW_mid (σ:={ y:(Nat × Nat) × (Bool × List Idt) // y.1.1 < y.1.2 ∧ y.2 = putA d (dn,O) x ∧ y.2.2.length ≤ 2 * k + 1 }) (fun y=>([(0,.sl 3 (l.map Idt.enc)),(3,.ro [pI d.act,pI d.item,pI d.n]),(5,.own y.1.1.1 0 y.1.2.2.length),(6,.bool y.1.2.1),(7,pI k)],⟨[(y.1.1.1,.arr false 3 (y.1.2.2.map Idt.enc))],y.1.1.2⟩)) ?_ (fun y=>?_))
    · refine Zac (VW_mid (σ:={ b:Bool // b = (!dn && !ltId x d) }) (fun b=>([(0,.sl 3 (l.map Idt.enc)),(3,.ro [pI d.act,pI d.item,pI d.n]),(5,.own id 0 O.length),(6,.bool dn),(7,pI k),(25,.bool b.1)],⟨[(id,.arr false 3 (O.map Idt.enc))],n⟩)) (Zbz [0,3,5,6,7,25] (by simp [Heap.le,Heap.get,HL.le,HL.get]) ?_) (fun b=>?_))
      · cases dn with
        | true =>
          simp only [midQ,Zba,Zbe,DrawW_xt,QW,dok,dval,VOp.pure,VOp.simple,VOp.det,pok,pval,VA.ev,Env.get,Env.put,Env.keep,gd,pickV,isBool,unV,unOk,Heap.get,Heap.le,HL.get,HL.le,Nat.le_refl,Nat.succ_ne_self,Env.le,Nat.reduceEqDiff,Bool.false_eq_true,ite_true,ite_false,true_and,and_true,implies_true,reduceCtorEq,Bool.not_true,List.length_map,hrow,qi0,qi1,qi2,qi3,qi4,qi5,qi6,qi7,qi8,qi9,qi10,qi11,qi12,qi13,qi14,qi15,qi16,qi17,qi18,qi19]
          exact ⟨⟨false,by simp⟩,rfl⟩
        | false =>
          simp only [midQ,Zba,Zbe,DrawW_y,QW,dok,dval,VOp.pure,VOp.simple,VOp.det,pok,pval,VA.ev,Env.get,Env.put,Env.keep,gd,pickV,isBool,aggV,unV,unOk,isInt,numOf,lenV,Zag,Zap,Zbx,Zbi,PV.nth,PV.row,Heap.get,Heap.le,HL.get,HL.le,Nat.le_refl,Nat.succ_ne_self,Env.le,List.length,List.getD_cons_zero,List.take,List.take_succ_cons,Nat.reduceEqDiff,Nat.reduceAdd,Bool.true_eq_false,ite_true,ite_false,true_and,and_true,implies_true,forall_const,reduceCtorEq,Nat.zero_add,List.length_cons,imp_self,Int.toNat_natCast,Bool.not_false,List.length_map,hrow,qi0,qi1,qi2,qi3,qi4,qi5,qi6,qi7,qi8,qi9,qi10,qi11,qi12,qi13,qi14,qi15,qi16,qi17,qi18,qi19]
          refine ⟨by omega,_,.inl Lx,?_⟩
          try simp only [true_and]
          exact ⟨⟨!ltId x d,by simp⟩,rfl⟩
      obtain ⟨b,hb⟩:=b
      simp only []
      refine Zaj rfl (fun h2=>?_) (fun h2=>?_)
      · have hp : putA d (dn, O) x = (true, O ++ [d]) := by
          have e:(!dn && !ltId x d) = true:=by rw [← hb,h2]
          have hb':dn = false ∧ ltId x d = false:=by
            generalize ltId x d = q at e ⊢
            cases dn <;> cases q <;> simp at e ⊢
          unfold putA; rw [if_pos hb']
        refine Zac (Zaa [0,3,5,7] ?_)
        simp only [Zab,Zad,Zaf,pok,pval,VA.ev,Env.get,Env.put,Env.keep,Zae,aggV,Zag,Zap,PV.cells,PV.fits,PV.nth,Heap.get,Heap.del,HL.get,HL.del,Heap.push,Nat.le_refl,Nat.succ_ne_self,Zbh,oldId,Zbk,oldOk,Za3,srcOk,Zbd,Zbg,List.set,List.replicate,List.length,List.getD_cons_zero,List.take,List.drop,List.take_succ_cons,Nat.reduceEqDiff,Nat.reduceAdd,Nat.reduceLT,Nat.reduceLeDiff,Bool.true_eq_false,ite_true,ite_false,true_and,and_true,reduceCtorEq,BEq.rfl,Nat.zero_add,List.length_cons,imp_self,List.length_map,htk,qi0,qi1,qi2,qi3,qi4,qi5,qi6,qi7,qi8,qi9,qi10,qi11,qi12,qi13,qi14,qi15,qi16,qi17,qi18,qi19]
        refine ⟨by omega,by omega,?_⟩
        refine Zaa [0,3,5,6,7] ?_
        simp only [midQ,Zab,Zad,Zaf,pok,pval,VA.ev,Env.get,Env.put,Env.keep,Heap.get,Heap.le,HL.get,HL.le,Nat.succ_ne_self,Env.le,Nat.reduceEqDiff,ite_true,ite_false,true_and,and_true,reduceCtorEq,qi0,qi1,qi2,qi3,qi4,qi5,qi6,qi7,qi8,qi9,qi10,qi11,qi12,qi13,qi14,qi15,qi16,qi17,qi18,qi19]
        refine ⟨⟨((n + 1,n + 1 + 1),(true,O ++ [d])),by simp,hp.symm,by simp only [List.length_append,List.length_cons,List.length_nil]; omega⟩,?_⟩
        simp only [List.map_append,List.length_append,List.map_cons,List.map_nil,List.length_cons,List.length_nil]
        try simp only [Nat.le_refl,ite_true,ite_false,true_and,and_true,Option.some.injEq,qi0,qi1,qi2,qi3,qi4,qi5,qi6,qi7,qi8,qi9,qi10,qi11,qi12,qi13,qi14,qi15,qi16,qi17,qi18,qi19]
        all_goals (repeat' (first | rfl | trivial | omega | (simp only []; omega) | refine And.intro ?_ ?_))
      · have hp : putA d (dn, O) x = (dn, O) := by
          have e:(!dn && !ltId x d) = false:=by rw [← hb,h2]
          have hb':¬ (dn = false ∧ ltId x d = false):=by
            generalize ltId x d = q at e ⊢
            cases dn <;> cases q <;> simp at e ⊢
          unfold putA; rw [if_neg hb']
        refine Zam ?_
        try simp only [midQ,Env.get,Heap.get,Heap.le,HL.get,HL.le,Nat.succ_ne_self,Env.le,Nat.reduceEqDiff,ite_true,ite_false,true_and,and_true,reduceCtorEq]
        refine ⟨⟨((id,n),(dn,O)),hid,hp.symm,by simp only []; omega⟩,?_⟩
        try simp only [Nat.le_refl,ite_true,and_true,qi0,qi1,qi2,qi3,qi4,qi5,qi6,qi7,qi8,qi9,qi10,qi11,qi12,qi13,qi14,qi15,qi16,qi17,qi18,qi19]
        all_goals (repeat' (first | rfl | trivial | omega | (simp only []; omega) | refine And.intro ?_ ?_))
    obtain ⟨⟨⟨i2,n2⟩,dn2,O2⟩,hi2,hp2,hl2⟩:=y
    simp only [] at hi2 hp2 hl2 ⊢
    rw [← hp2] at hst
    have htk2:List.take O2.length (O2.map Idt.enc) = O2.map Idt.enc:=List.take_of_length_le (by simp)
    have qi0:(i2 = n2) = False:=eq_false (by omega)
    have qi1:(i2 = (n2 + 1)) = False:=eq_false (by omega)
    have qi2:(i2 = (n2 + 1 + 1)) = False:=eq_false (by omega)
    have qi3:(n2 = i2) = False:=eq_false (by omega)
    have qi4:(n2 = (n2 + 1)) = False:=eq_false (by omega)
    have qi5:(n2 = (n2 + 1 + 1)) = False:=eq_false (by omega)
    have qi6:((n2 + 1) = i2) = False:=eq_false (by omega)
    have qi7:((n2 + 1) = n2) = False:=eq_false (by omega)
    have qi8:((n2 + 1) = (n2 + 1 + 1)) = False:=eq_false (by omega)
    have qi9:((n2 + 1 + 1) = i2) = False:=eq_false (by omega)
    have qi10:((n2 + 1 + 1) = n2) = False:=eq_false (by omega)
    have qi11:((n2 + 1 + 1) = (n2 + 1)) = False:=eq_false (by omega)
    refine Zac (Zbz [0,3,5,6,7,35] (by simp [Heap.le,Heap.get,HL.le,HL.get]) ?_)
    simp only [Zba,Zbe,QW,dok,dval,VOp.pure,VOp.simple,VOp.det,pok,pval,VA.ev,Env.get,Env.put,Env.keep,Zae,gd,aggV,isInt,numOf,lenV,Zag,Zap,Za6,isAggP,Zbx,Zbi,PV.nth,PV.row,Nat.le_refl,Nat.succ_ne_self,eqOk,ekOk,Za1,Zcc,List.length,List.getD_cons_zero,List.take,List.take_succ_cons,Nat.reduceEqDiff,Nat.reduceAdd,Bool.true_eq_false,ite_true,ite_false,true_and,and_true,implies_true,forall_const,reduceCtorEq,Nat.zero_add,List.length_cons,imp_self,Int.toNat_natCast,List.length_map,hrow,qi0,qi1,qi2,qi3,qi4,qi5,qi6,qi7,qi8,qi9,qi10,qi11]
    refine ⟨by omega,?_⟩
    refine Zaj rfl (fun h3=>?_) (fun h3=>?_)
    · have hne : x ≠ d := by
        rintro rfl
        simp at h3
      have hB:putB d (dn2,O2) x = (dn2,O2 ++ [x]):=by unfold putB; rw [if_neg hne]
      rw [hB] at hst
      have hxe:x.enc = [pI x.act,pI x.item,pI x.n]:=rfl
      refine Zaa [0,3,5,6,7] ?_
      simp only [Zab,Zad,Zaf,pok,pval,VA.ev,Env.get,Env.put,Env.keep,Zae,Zat,aggV,isInt,numOf,lenV,Zag,Zap,Zbx,Zbi,PV.cells,PV.fits,PV.nth,PV.row,Heap.get,Heap.del,HL.get,HL.del,Heap.push,Nat.le_refl,Nat.succ_ne_self,Zbh,oldId,Zbk,oldOk,Za3,srcOk,Zbd,Zbg,List.set,List.replicate,List.length,List.getD_cons_zero,List.take,List.drop,List.take_succ_cons,Nat.reduceEqDiff,Nat.reduceAdd,Nat.reduceLT,Nat.reduceLeDiff,Bool.true_eq_false,ite_true,ite_false,true_and,and_true,reduceCtorEq,BEq.rfl,Nat.zero_add,List.length_cons,imp_self,Int.toNat_natCast,List.length_map,htk2,hrow,qi0,qi1,qi2,qi3,qi4,qi5,qi6,qi7,qi8,qi9,qi10,qi11]
      refine ⟨by omega,by omega,by omega,?_⟩
      refine Zaa [0,3,5,6,7] ?_
      simp only [Zab,Zad,Zaf,pok,pval,VA.ev,Env.get,Env.put,Env.keep,Zae,intV,binV,Zak,HL.get,Nat.succ_ne_self,Nat.reduceEqDiff,ite_true,ite_false,true_and,reduceCtorEq,ad1 (a:=k) (by omega),qi0,qi1,qi2,qi3,qi4,qi5,qi6,qi7,qi8,qi9,qi10,qi11]
      refine ⟨⟨(k + 1,n2 + 1,n2 + 1 + 1),ka,by simp⟩,?_⟩
      simp only [hst,List.map_append,List.length_append,List.map_cons,List.map_nil,List.length_cons,List.length_nil]
      try simp only [Nat.le_refl,ite_true,ite_false,true_and,and_true,Option.some.injEq,qi0,qi1,qi2,qi3,qi4,qi5,qi6,qi7,qi8,qi9,qi10,qi11]
      all_goals (repeat' (first | rfl | trivial | omega | (simp only []; omega) | refine And.intro ?_ ?_))
    · have he : x = d := by
        cases x; cases d
        simp at h3 ⊢
        omega
      have hB:putB d (dn2,O2) x = (dn2,O2):=by unfold putB; rw [if_pos he]
      rw [hB] at hst
      refine Zam ?_
      try simp only [Zae,Zat]
      refine Zaa [0,3,5,6,7] ?_
      simp only [Zab,Zad,Zaf,pok,pval,VA.ev,Env.get,Env.put,Env.keep,Zae,intV,binV,Zak,HL.get,Nat.succ_ne_self,Nat.reduceEqDiff,ite_true,ite_false,true_and,reduceCtorEq,ad1 (a:=k) (by omega),qi0,qi1,qi2,qi3,qi4,qi5,qi6,qi7,qi8,qi9,qi10,qi11]
      refine ⟨⟨(k + 1,i2,n2),ka,hi2⟩,?_⟩
      simp only [hst]
      try simp only [Nat.le_refl,ite_true,true_and,and_true,qi0,qi1,qi2,qi3,qi4,qi5,qi6,qi7,qi8,qi9,qi10,qi11]
      all_goals (repeat' (first | rfl | trivial | omega | (simp only []; omega) | refine And.intro ?_ ?_))
  simp only [decide_eq_false_iff_not] at h1
  obtain rfl:k = l.length:=by omega
  rw [List.take_length]
  have hfl:=putF_len d l
  have hP:putT d l = if (putF d l).1 then (putF d l).2 else (putF d l).2 ++ [d]:=rfl
  rw [hP]
  generalize putF d l = S at hfl ⊢
  obtain ⟨dn,O⟩:=S
  simp only [] at hfl ⊢
  have htk:List.take O.length (O.map Idt.enc) = O.map Idt.enc:=List.take_of_length_le (by simp)
  have qi0:(id = n) = False:=eq_false (by omega)
  have qi1:(id = (n + 1)) = False:=eq_false (by omega)
  have qi2:(id = (n + 1 + 1)) = False:=eq_false (by omega)
  have qi3:(n = id) = False:=eq_false (by omega)
  have qi4:(n = (n + 1)) = False:=eq_false (by omega)
  have qi5:(n = (n + 1 + 1)) = False:=eq_false (by omega)
  have qi6:((n + 1) = id) = False:=eq_false (by omega)
  have qi7:((n + 1) = n) = False:=eq_false (by omega)
  have qi8:((n + 1) = (n + 1 + 1)) = False:=eq_false (by omega)
  have qi9:((n + 1 + 1) = id) = False:=eq_false (by omega)
  have qi10:((n + 1 + 1) = n) = False:=eq_false (by omega)
  have qi11:((n + 1 + 1) = (n + 1)) = False:=eq_false (by omega)
  refine Zbo ?_
  try simp only [Zae,Zat,retQ,ite_true]
  refine Zac ?_
  refine Zac (Zaa [3,5,44] ?_)
  simp only [Zab,Zad,Zaf,pok,pval,VA.ev,Env.get,Env.put,Env.keep,Zae,unV,unOk,Nat.succ_ne_self,Nat.reduceEqDiff,ite_true,ite_false,true_and,reduceCtorEq,qi0,qi1,qi2,qi3,qi4,qi5,qi6,qi7,qi8,qi9,qi10,qi11]
  cases dn with
  | false =>
    refine Zaj (b:=true) rfl (fun _=>?_) (fun h=>by cases h)
    refine Zaa [5] ?_
    simp only [Zab,Zad,Zaf,pok,pval,VA.ev,Env.get,Env.put,Env.keep,Zae,aggV,Zag,Zap,PV.cells,PV.fits,PV.nth,Heap.get,Heap.del,HL.get,HL.del,Heap.push,Nat.le_refl,Nat.succ_ne_self,Zbh,oldId,Zbk,oldOk,Za3,srcOk,Zbd,Zbg,List.set,List.replicate,List.length,List.getD_cons_zero,List.take,List.drop,List.take_succ_cons,Nat.reduceEqDiff,Nat.reduceAdd,Nat.reduceLT,Nat.reduceLeDiff,Bool.false_eq_true,Bool.true_eq_false,ite_true,ite_false,true_and,and_true,BEq.rfl,Nat.zero_add,List.length_cons,imp_self,Bool.not_false,List.length_map,htk,qi0,qi1,qi2,qi3,qi4,qi5,qi6,qi7,qi8,qi9,qi10,qi11]
    refine ⟨by omega,by omega,?_⟩
    refine Zac (Zaa [4] ?_)
    simp only [Zab,Zad,Zaf,pok,pval,VA.ev,Env.get,Env.put,Env.keep,Zae,Nat.succ_ne_self,Nat.reduceEqDiff,ite_true,ite_false,true_and,qi0,qi1,qi2,qi3,qi4,qi5,qi6,qi7,qi8,qi9,qi10,qi11]
    refine Zaq ?_
    try simp only [Env.get,retQ,resV,Za4,RS.ev,RS.ok,ite_true,true_and,and_true]
    have e:O.map Idt.enc ++ [[pI d.act,pI d.item,pI d.n]] = (O ++ [d]).map Idt.enc:=by rw [List.map_append]; rfl
    rw [← e]
    exact View.own_all (fz:=false) (by simp [Heap.get,HL.get]) (by simp)
  | true =>
    refine Zaj (b:=false) rfl (fun h=>by cases h) (fun _=>?_)
    refine Zam ?_
    try simp only [Zae,ite_true,Bool.not_true]
    refine Zac (Zaa [4] ?_)
    simp only [Zab,Zad,Zaf,pok,pval,VA.ev,Env.get,Env.put,Env.keep,Zae,Nat.succ_ne_self,Nat.reduceEqDiff,ite_true,ite_false,true_and,qi0,qi1,qi2,qi3,qi4,qi5,qi6,qi7,qi8,qi9,qi10,qi11]
    refine Zaq ?_
    try simp only [Env.get,retQ,resV,Za4,RS.ev,RS.ok,ite_true,true_and,and_true]
    exact View.own_all (fz:=false) (by simp [Heap.get,HL.get]) (by simp)
end Go.Proofs.YtjmekckcffckoaaDoor.w
namespace Go.Proofs.YtjmekckcffckoaaDoor.w
open Go Go.VM
set_option maxRecDepth 20000
set_option maxHeartbeats 0
set_option pp.deepTerms false
def c_pandectref12_Units:VC:=(.seq (.region [ZO 1 (.box 8 (.t 0)),ZO 2 (.mv (.c .nilsl))] false) (.seq (.region [ZO 5 (.load true 8 (.t 1)),ZO 6 (.bslice 8 1 [(.int .i64 0),(.int .i64 0),(.int .i64 0),(.int .i64 0),(.str []),.nilsl,.nilsl,.nilsl] [(0,(.t 5))]),ZM 3 6] false) (.seq (.seq (.region [ZO 4 (.mv (.c (.int .i64 0)))] false) (.block 0 (.loop (.seq (.seq (.region [ZM 7 4,ZO 8 (.faddr 7 (.t 1)),ZO 9 (.load false 1 (.t 8)),ZO 10 (.len false (.t 9)),ZO 11 (.bin .lss (.t 7) (.t 10))] false) (.cond (.t 11) .skip (.exit 0))) (.seq (.block 1 (.region [ZM 14 3,ZO 15 (.faddr 7 (.t 1)),ZO 16 (.load false 1 (.t 15)),ZM 17 4,ZO 18 (.iaddr 8 (.t 16) (.t 17)),ZO 19 (.load true 8 (.t 18)),ZO 20 (.call 22 [(.t 19)]),ZO 21 (.app 8 120 [(.int .i64 0),(.int .i64 0),(.int .i64 0),(.int .i64 0),(.str []),.nilsl,.nilsl,.nilsl] false (.t 14) (.t 20)),ZM 3 21] false)) (.region [ZM 12 4,ZO 13 (.bin .add (.t 12) (.c (.int .i64 1))),ZM 4 13] false)))))) (.seq (.region [ZM 22 3,ZM 2 22] false) .ret))))
mutual
def unitsT : Un → List Un
  | .mk a i n k l h w ks => .mk a i n k l h w ks :: unitsL ks
def unitsL : List Un → List Un
  | [] => []
  | k :: r => unitsT k ++ unitsL r
end
theorem Zb1 (u:Un):unitsT u = u :: unitsL u.kids:=by cases u; rw [unitsT]; rfl
theorem Zb6:∀ l:List Un,unitsL l = l.flatMap unitsT
  | []=>by rw [unitsL]; rfl
  | k :: r=>by rw [unitsL,Zb6 r,List.flatMap_cons]
theorem unitsL_step {l:List Un} {k:Nat} (h:k < l.length):unitsL (l.take (k + 1)) = unitsL (l.take k) ++ unitsT l[k]:=by
  rw [Zb6,Zb6,List.take_add_one,List.getElem?_eq_getElem h,List.flatMap_append]; simp
theorem unitsL_take (l:List Un) (k:Nat):(unitsL (l.take k)).length ≤ (unitsL l).length:=by
  have:unitsL l = unitsL (l.take k) ++ unitsL (l.drop k):=by rw [Zb6,Zb6,Zb6,← List.flatMap_append,List.take_append_drop]
  rw [this]; simp
def unK (u:Un) (k:Nat):List Un:=u :: unitsL (u.kids.take k)
theorem closed_uns (l:List Un):Closed (.sl 8 (l.map Un.enc)):=Zax fun u _ y hy=>Un.closed u y hy
inductive KidT : Un → Prop
  | mk (u : Un) (hk : u.kids.length ≤ 1000) (hs : ∀ k ∈ u.kids, KidT k) : KidT u
theorem SmalT.kidT {u:Un} (h:SmalT u):KidT u:=by
  induction h with
  | mk u h hk hs ih=>exact .mk u hk ih
theorem sp_r_Units {u:Un} (hu:KidT u) (hn:(unitsT u).length ≤ 100000):Za2 Tryd.prog 22 [.agg u.enc] (.sl 8 ((unitsT u).map Un.enc)):=by
  induction hu with
  | mk u hk hs ih =>
    rw [Zb1] at hn ⊢
    simp only [List.length_cons] at hn
    refine Zah ?_ (closed_uns _) (by simp only [Zau,List.mem_cons,List.not_mem_nil,or_false,forall_eq_or_imp,forall_eq,false_implies,implies_true]; repeat' (first  | exact Zas (Un.closed _) | exact Zax (fun w _=>Un.closed w) | refine And.intro ?_ ?_))
    refine Zal (vc:=c_pandectref12_Units) (ts:=[.t 2]) Go.Proofs.Tryd.func22 (by kernel_rfl) rfl rfl (Nat.le_of_ble_eq_true rfl) (by kernel_rfl) ?_
    unfold c_pandectref12_Units
    try dsimp only [ZM,ZO,ZN,ZG]
    have hcellsE:∀ v:Un,v.enc = [pI v.act,pI v.item,pI v.n,pI v.kind,.str v.label,.sl 4 (v.head.map Wd.enc),.sl 4 (v.words.map Wd.enc),.sl 8 (v.kids.map Un.enc)]:=Un.Zay
    rw [Un.Zay]
    refine Zac (Zaa [1,2] ?_)
    simp only [Zab,Zad,Zaf,pok,pval,VA.ev,Env.get,Env.put,Env.keep,Zav,Zae,PV.cells,PV.fits,Heap.push,Heap.nil,Nat.succ_ne_self,List.map,List.length,Nat.reduceEqDiff,Nat.reduceAdd,ite_true,ite_false,true_and,reduceCtorEq,BEq.rfl,Nat.zero_add]
    refine Za9 [(1,.ro [pI u.act,pI u.item,pI u.n,pI u.kind,.str u.label,.sl 4 (u.head.map Wd.enc),.sl 4 (u.words.map Wd.enc),.sl 8 (u.kids.map Un.enc)])] ⟨View.loc (z:=8) (fz:=false) (es:=[[pI u.act,pI u.item,pI u.n,pI u.kind,.str u.label,.sl 4 (u.head.map Wd.enc),.sl 4 (u.words.map Wd.enc),.sl 8 (u.kids.map Un.enc)]]) rfl (by simp) rfl (by simp),trivial⟩ ?_
    refine Zac (Zaa [1,3] ?_)
    simp only [Zab,Zad,Zaf,pok,pval,VA.ev,Env.get,Env.put,Env.keep,Zae,aggV,Zag,Zap,PV.cells,PV.fits,PV.nth,Heap.push,Nat.le_refl,Zbd,Zbg,List.set,List.replicate,List.length,List.getD_cons_zero,List.take,List.take_succ_cons,Nat.reduceEqDiff,Nat.reduceAdd,Nat.reduceLT,Bool.true_eq_false,ite_true,ite_false,true_and,and_true,BEq.rfl,Nat.zero_add,List.length_cons,imp_self]
    refine Zac ?_
    refine Zac (Zaa [1,3,4] ?_)
    simp only [Zab,Zad,Zaf,pok,pval,VA.ev,Env.get,Env.put,Env.keep,Zae,Nat.succ_ne_self,Nat.reduceEqDiff,ite_true,ite_false,true_and]
    refine Zao ?_
    refine Zbs (σ:={ k:Nat × Nat × Nat // k.1 ≤ u.kids.length ∧ k.2.1 < k.2.2 }) (fun k=>([(1,.ro [pI u.act,pI u.item,pI u.n,pI u.kind,.str u.label,.sl 4 (u.head.map Wd.enc),.sl 4 (u.words.map Wd.enc),.sl 8 (u.kids.map Un.enc)]),(3,.own k.1.2.1 0 (unK u k.1.1).length),(4,pI k.1.1)],⟨[(k.1.2.1,.arr false 8 ((unK u k.1.1).map Un.enc))],k.1.2.2⟩)) (fun k=>u.kids.length - k.1.1) ⟨(0,1,2),Nat.zero_le _,by simp⟩ ?_ ?_ ?_
    · try simp only [Env.get,Nat.succ_ne_self,Env.le,Nat.reduceEqDiff,ite_true,ite_false,true_and,and_true,true_and]
      all_goals (repeat' (first | rfl | trivial | omega | (simp only []; omega) | refine And.intro ?_ ?_))
    · simp only [Heap.get,Heap.le,HL.get,HL.le,Nat.le_refl,ite_true,true_and,and_true,Option.some.injEq]
      simp [unK,unitsL,Un.Zay]
    rintro ⟨⟨k,id,n⟩,hkk,hid⟩
    simp only [] at hkk hid ⊢
    have qi0:(id = n) = False:=eq_false (by omega)
    have qi1:(id = (n + 1)) = False:=eq_false (by omega)
    have qi2:(n = id) = False:=eq_false (by omega)
    have qi3:(n = (n + 1)) = False:=eq_false (by omega)
    have qi4:((n + 1) = id) = False:=eq_false (by omega)
    have qi5:((n + 1) = n) = False:=eq_false (by omega)
    refine Zac ?_
    refine Zac (Zaa [1,3,4,11] ?_)
    simp only [Zab,Zad,Zaf,pok,pval,VA.ev,Env.get,Env.put,Env.keep,Zae,aggV,intV,binV,Zak,lenV,Za8,Za5,Zag,Zap,Zb5,PV.nth,Heap.get,Heap.le,HL.le,Nat.le_refl,Nat.succ_ne_self,Env.le,List.length,List.getD_cons_zero,List.take,List.drop,List.take_succ_cons,Nat.reduceEqDiff,Bool.false_eq_true,ite_true,ite_false,true_and,and_true,implies_true,Nat.zero_add,List.length_cons,List.length_map,qi0,qi1,qi2,qi3,qi4,qi5]
    refine Zaj rfl (fun h1=>?_) (fun h1=>?_)
    · simp only [decide_eq_true_eq] at h1
      have ka:k < u.kids.length:=by omega
      have hst:=unitsL_step ka
      have htk:=unitsL_take u.kids (k + 1)
      have hrow:(u.kids.map Un.enc).getD k [] = u.kids[k].enc:=rowm ka
      rw [hst,List.length_append] at htk
      have R:=ih _ (List.getElem_mem ka) (by omega)
      generalize u.kids[k] = v at hst hrow R htk
      rw [Un.Zay] at hrow R
      have hU:(unK u k).map Un.enc ++ (unitsT v).map Un.enc = (unK u (k + 1)).map Un.enc:=by unfold unK; rw [hst]; simp
      have hUl:(unK u k).length + (unitsT v).length = (unK u (k + 1)).length:=by unfold unK; rw [hst]; simp; omega
      have hb:(unK u k).length ≤ 200000:=by unfold unK; simp; omega
      generalize unitsT v = V at hU hUl R htk
      generalize (unK u k) = O at hU hUl hb ⊢
      have htO:List.take O.length (O.map Un.enc) = O.map Un.enc:=List.take_of_length_le (by simp)
      refine Zam ?_
      try simp only [Zae]
      refine Zac ?_
      refine Zao ?_
      refine Zaa [1,3,4] ?_
      simp only [Zab,Zad,Zaf,pok,pval,VA.ev,Env.get,Env.put,Env.keep,Zae,Zat,aggV,isInt,numOf,lenV,Za8,Za5,Zag,Zap,Zbx,Zbi,PV.nth,PV.row,Heap.get,Heap.del,Heap.push,Nat.le_refl,Nat.succ_ne_self,Zbh,oldId,Zbk,oldOk,Za3,srcOk,List.map,List.length,List.getD_cons_zero,List.take,List.drop,List.take_succ_cons,Nat.reduceEqDiff,Nat.reduceAdd,Bool.false_eq_true,Bool.true_eq_false,ite_true,ite_false,true_and,and_true,implies_true,Nat.zero_add,List.length_cons,imp_self,Int.toNat_natCast,List.length_map,hrow,qi0,qi1,qi2,qi3,qi4,qi5]
      refine ⟨by omega,?_⟩
      refine Zan R ?_
      try simp only [HL.get,HL.del,Nat.le_refl,ite_true,true_and,and_true,List.length_map,htO,hU,qi0,qi1,qi2,qi3,qi4,qi5]
      refine ⟨by omega,by omega,?_⟩
      refine Zaa [1,3,4] ?_
      simp only [Zab,Zad,Zaf,pok,pval,VA.ev,Env.get,Env.put,Env.keep,Zae,intV,binV,Zak,HL.get,Nat.succ_ne_self,Nat.reduceEqDiff,ite_true,ite_false,true_and,ad1 (a:=k) (by omega),qi0,qi1,qi2,qi3,qi4,qi5]
      refine ⟨⟨(k + 1,n,n + 1),ka,by simp⟩,?_⟩
      simp only [← hUl]
      try simp only [Nat.le_refl,ite_true,true_and,and_true,qi0,qi1,qi2,qi3,qi4,qi5]
      all_goals (repeat' (first | rfl | trivial | omega | (simp only []; omega) | refine And.intro ?_ ?_))
    simp only [decide_eq_false_iff_not] at h1
    obtain rfl:k = u.kids.length:=by omega
    have hfinU:unK u u.kids.length = u :: unitsL u.kids:=by unfold unK; rw [List.take_length]
    rw [hfinU]
    refine Zbo ?_
    try simp only [Zae,Zat,retQ,List.map,List.length,ite_true]
    refine Zac (Zaa [2] ?_)
    simp only [Zab,Zad,Zaf,pok,pval,VA.ev,Env.get,Env.put,Env.keep,Zae,Nat.succ_ne_self,Nat.reduceEqDiff,ite_true,ite_false,true_and,qi0,qi1,qi2,qi3,qi4,qi5]
    refine Zaq ?_
    try simp only [Env.get,retQ,resV,Za4,RS.ev,RS.ok,ite_true,true_and,and_true]
    exact View.own_all (fz:=false) (by simp [Heap.get,HL.get]) (by simp)
end Go.Proofs.YtjmekckcffckoaaDoor.w
