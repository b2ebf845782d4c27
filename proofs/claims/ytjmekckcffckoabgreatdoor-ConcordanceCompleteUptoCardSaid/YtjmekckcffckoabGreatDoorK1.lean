import Derived.Test.YtjmekckcffckoabGreatDoorO3
import Derived.Shelf.Strings.SlTrimAscii
import Derived.Lib.AppendIntMem
import Derived.Test.YtjmekckcffckoabGreatDoorVmA
import Derived.Test.YtjmekckcffckoabGreatDoorVmAc
set_option linter.all false
namespace Go.Proofs.YtjmekckcffckoabGreatDoor.w
open Go Go.VM
set_option maxRecDepth 20000
set_option maxHeartbeats 0
set_option pp.deepTerms false
def c_concordance_bare:VC:=(.seq (.region [ZO 2 (.mv (.c (.str [])))] false) (.seq (.region [ZM 3 0,ZO 4 (.call 57 [(.t 3),(.c (.str [40]))]),ZO 5 (.call 56 [(.t 4),(.c (.str [44,59,46,58,41]))]),ZM 2 5] false) .ret))
theorem known_pow:known.lookup 1 = some (Lib.pow10Tab.map fun z=>Value.int .u64 z):=by kernel_rfl
theorem sp_strconv_Itoa (n:Int) (hn:i64 n):PCall Tryz.prog 26 [pI n] (.str (Lib.itoa n)):=by
  refine PCall_of (by kernel_rfl) (by intro x hx; rw [List.mem_singleton] at hx; subst hx; exact cI _) fun g w vals r ha=>?_
  obtain ⟨v,rfl,hv⟩:=args_1 ha
  obtain rfl:=hv.int_inv
  rw [i64_iff] at hn
  refine (Tryz.strconv_Itoa n (by omega) (by omega) w (var_known r known_pow (by kernel_rfl))).mono ?_
  rintro e w' ⟨rfl,k,os,rfl⟩
  exact ⟨_,rfl,fun g=>.str _ _ rfl,Lib.below_grow _ _ (Nat.le_refl _) _ _⟩
theorem join_none (a:Option Addr) (cap:Nat) (sep:Str) (w:World):Calls Tryz.prog 27 #[.slice a 0 cap,.string ⟨sep.toArray⟩] w fun e w'=>∃ v,e = .returned v ∧ (∀ g,Rep g v (.str (Lib.join [] sep))) ∧ RowKit.Below w.heap.size w w':=by
  refine (Tryz.strings_Join_none a cap _ w).mono ?_
  rintro e w' ⟨rfl,rfl⟩
  exact ⟨_,rfl,fun g=>.str _ _ (by simp [Lib.join,List.intercalate]),RowKit.Below.refl _ _⟩
theorem join_some (l : List Str) (sep : Str) (hl : l.length ≤ 1000000) (hlen : (Lib.join l sep).length ≤ 140737488355328) (b o cap : Nat) (w : World) (hc : l.length ≤ cap) (hb : b < w.heap.size)
    (hcells:∀ (j:Nat) (x:ByteArray),(l.map fun s=>(⟨s.toArray⟩:ByteArray))[j]? = some x → w.cell? ⟨b,o + j,none⟩ = some (.string x)) :
    Calls Tryz.prog 27 #[.slice (some ⟨b,o,none⟩) (l.map fun s=>(⟨s.toArray⟩:ByteArray)).length cap,.string ⟨sep.toArray⟩] w fun e w'=>∃ v,e = .returned v ∧ (∀ g,Rep g v (.str (Lib.join l sep))) ∧ RowKit.Below w.heap.size w w':=by
  have e2:((l.map fun s=>(⟨s.toArray⟩:ByteArray)).map (·.data.toList)) = l:=by rw [List.map_map]; simp [Function.comp_def]
  generalize (l.map fun s=>(⟨s.toArray⟩:ByteArray)) = xs at hcells e2 ⊢
  have hx:xs.length = l.length:=by rw [← e2]; simp
  have hj:Lib.join (xs.map (·.data.toList)) (ByteArray.mk sep.toArray).data.toList = Lib.join l sep:=by rw [e2]
  refine (Tryz.strings_Join b o cap xs ⟨sep.toArray⟩ w hcells hb (by omega) (by omega) (by rw [hj]; exact hlen)).mono ?_
  rintro e w' ⟨rfl,hw⟩
  exact ⟨_,rfl,fun g=>.str _ _ (by rw [hj]),hw⟩
theorem sp_strings_Join (l:List Str) (sep:Str) (hl:l.length ≤ 1000000) (hlen:(Lib.join l sep).length ≤ 140737488355328):PCall Tryz.prog 27 [It.strs l,.str sep] (.str (Lib.join l sep)):=by
  refine PCall_of (by kernel_rfl) (by intro x hx; simp only [List.mem_cons,List.not_mem_nil,or_false] at hx; rcases hx with rfl | rfl; exact closed_strs _; exact cS _) ?_
  intro g w vals r ha
  obtain ⟨v,u,rfl,hv,hu⟩:=args_2 ha
  obtain ⟨s,rfl,hs⟩:=hu.str_inv
  rw [str_eq hs]
  rcases strs_cells r hv with ⟨a,cap,rfl,rfl⟩ | ⟨b,o,cap,rfl,hc,hb,hcells⟩
  · exact join_none a cap sep w
  · exact join_some l sep hl hlen b o cap w hc hb hcells
theorem sp_strings_Repeat (s:Str) (n:Nat) (hn:n ≤ 1000000) (hs:s.length ≤ 1000):PCall Tryz.prog 48 [.str s,pI n] (.str (Lib.repeatL s n)):=by
  refine PCall_of (by kernel_rfl) (by intro x hx; simp only [List.mem_cons,List.not_mem_nil,or_false] at hx; rcases hx with rfl | rfl; exact cS _; exact cI _) fun g w vals r ha=>?_
  obtain ⟨v,u,rfl,hv,hu⟩:=args_2 ha
  obtain ⟨z,rfl,hz⟩:=hv.str_inv
  obtain rfl:=hu.int_inv
  rw [str_eq hz]
  have hm:s.length * n ≤ 1000 * 1000000:=Nat.mul_le_mul hs hn
  refine (Tryz.strings_Repeat ⟨s.toArray⟩ n w (by omega) (by show s.toArray.size * n ≤ _; rw [List.size_toArray]; omega)).mono ?_
  rintro e w' ⟨rfl,hb⟩
  exact ⟨_,rfl,fun g=>.str _ _ rfl,hb⟩
def behindT:Str:=[44,59,46,58,41]
theorem sp_strings_TrimLeft (s:Str):PCall Tryz.prog 57 [.str s,.str [40]] (.str (Lib.trimLeftB s 40)):=by
  refine PCall_of (by kernel_rfl) (by intro x hx; simp only [List.mem_cons,List.not_mem_nil,or_false] at hx; rcases hx with rfl | rfl <;> exact cS _) fun g w vals r ha=>?_
  obtain ⟨v,u,rfl,hv,hu⟩:=args_2 ha
  obtain ⟨z,rfl,hz⟩:=hv.str_inv
  obtain ⟨y,rfl,hy⟩:=hu.str_inv
  rw [str_eq hz,str_eq hy]
  refine (Tryz.strings_TrimLeft_one ⟨s.toArray⟩ 40 (by decide) w).mono ?_
  rintro e w' ⟨rfl,rfl⟩
  exact ⟨_,rfl,fun g=>.str _ _ rfl,RowKit.Below.refl _ _⟩
theorem sp_strings_TrimRight (s:Str) (hs:s.length ≤ 1000000):PCall Tryz.prog 56 [.str s,.str behindT] (.str (Lib.trimRightS s behindT)):=by
  refine PCall_of (by kernel_rfl) (by intro x hx; simp only [List.mem_cons,List.not_mem_nil,or_false] at hx; rcases hx with rfl | rfl <;> exact cS _) fun g w vals r ha=>?_
  obtain ⟨v,u,rfl,hv,hu⟩:=args_2 ha
  obtain ⟨z,rfl,hz⟩:=hv.str_inv
  obtain ⟨y,rfl,hy⟩:=hu.str_inv
  rw [str_eq hz,str_eq hy]
  refine (Any.strings_TrimRight_laid Tryz.lays162 (by kernel_rfl) ⟨s.toArray⟩ ⟨behindT.toArray⟩ w (by show s.toArray.size ≤ _; rw [List.size_toArray]; omega) (by decide) (ascii_of_all (by decide))).mono ?_
  rintro e w' ⟨rfl,hb⟩
  exact ⟨_,rfl,fun g=>.str _ _ rfl,hb⟩
def bareS (s:Str):Str:=Lib.trimRightS (Lib.trimLeftB s 40) behindT
theorem trimLeftB_len (s:Str) (c:UInt8):(Lib.trimLeftB s c).length ≤ s.length:=by
  unfold Lib.trimLeftB
  exact (List.dropWhile_sublist _).length_le
theorem sp_concordance_bare (s:Str) (hs:s.length ≤ 1000000):PCall Tryz.prog 28 [.str s] (.str (bareS s)):=by
  have h1:=trimLeftB_len s 40
  refine Zcf ?_ (cS _) (by simp only [ClosedL,List.mem_cons,List.not_mem_nil,or_false,forall_eq_or_imp,forall_eq,false_implies,implies_true]; repeat' (first  | exact cS _ | refine And.intro ?_ ?_))
  refine Zct (vc:=c_concordance_bare) (ts:=[.t 2]) Go.Proofs.Tryz.func28 (by kernel_rfl) rfl rfl (Nat.le_of_ble_eq_true rfl) (by kernel_rfl) ?_
  unfold c_concordance_bare
  try dsimp only [ZM,ZO,ZN,ZG]
  refine Za1 (Zac [0] ?_)
  simp only [Zaa,Zai,Zay,pok,pval,VA.ev,Env.get,Env.put,Env.keep,Za7,Zaz,Heap.nil,ite_true,ite_false,true_and,reduceCtorEq]
  refine Za1 (Zac [2] ?_)
  simp only [Zaa,Zai,Zay,pok,pval,VA.ev,Env.get,Env.put,Env.keep,Zaz,Nat.succ_ne_self,List.map,Nat.reduceEqDiff,ite_true,ite_false,true_and,reduceCtorEq]
  refine Zcw (sp_strings_TrimLeft s) ?_
  skip
  refine Zcw (sp_strings_TrimRight _ (by omega)) ?_
  skip
  refine VW_ret ?_
  try simp only [Env.get,retQ,resV,Zbq,RS.ev,RS.ok,ite_true,true_and,and_true]
  exact View.refl _ _
theorem itoa_len (n:Int) (h:i64 n):(Lib.itoa n).length ≤ 20:=by
  rw [i64_iff] at h
  have d:∀ (k:Nat) (u:Nat),u < 10 ^ (k + 1) → (Lib.decDigits u).length ≤ k + 1:=by
    intro k
    induction k with
    | zero=>intro u hu; rw [Lib.decDigits,dif_pos (by omega)]; simp
    | succ k ih =>
      intro u hu
      rw [Lib.decDigits]
      split
      · simp
      · have:=ih (u / 10) (by rw [Nat.pow_succ] at hu; omega)
        simp; omega
  unfold Lib.itoa
  split
  · have:=d 18 n.natAbs (by simp; omega)
    simp; omega
  · have:=d 18 n.toNat (by simp; omega)
    omega
end Go.Proofs.YtjmekckcffckoabGreatDoor.w
