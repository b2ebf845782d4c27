import Derived.Test.YtihfbefagcdpmaaDoorP0
import Derived.Shelf.GgClosure.StringsIndexFunc
import Derived.Lib.Repeat
import Derived.Test.YtihfbefagcdpmaaDoorVmAc
import Derived.Test.YtihfbefagcdpmaaDoorVmG
import Derived.Test.YtihfbefagcdpmaaDoorVmU
import Derived.Test.YtihfbefagcdpmaaDoorSh
import Derived.Lib.AppendIntMem
import Derived.Test.YtihfbefagcdpmaaDoorVmA
import Derived.Test.YtihfbefagcdpmaaDoorProg
import Derived.KernelRfl
set_option linter.all false
namespace Go.VM
open Go
theorem decode_low (s:ByteArray) (i:Nat) (h:(s.get! i).toNat < 128):Utf8.decode s i = ((s.get! i).toNat,1):=by
  simp [Utf8.decode,h]
theorem decode_high (s:ByteArray) (i:Nat) (h:¬ (s.get! i).toNat < 128):128 ≤ (Utf8.decode s i).1:=by
  have h':¬ (s.get! (i + 0)).toNat < 0x80:=h
  unfold Utf8.decode
  simp only [h',if_false,Utf8.runeError]
  repeat' split
  all_goals first | omega | (simp only []; omega) | (simp_all; omega) | skip
def onRune (q:UInt8 → Bool) (x:Nat):Bool:=decide (x < 128) && q (UInt8.ofNat x)
theorem get!_at (s:ByteArray) (i:Nat) (h:i < s.size):s.get! i = s.data.toList[i]'(by simpa using h):=by
  have h2:i < s.data.size:=h
  have:s.get! i = s.data[i]!:=rfl
  rw [this,getElem!_pos s.data i h2,Array.getElem_toList]
theorem idx_from (q : UInt8 → Bool) (hq : ∀ b, q b = true → b.toNat < 128) (s : ByteArray) : ∀ (f pos : Nat), s.size ≤ pos + f → pos ≤ s.size →
    Lib.idxFuncFrom (fun x=>!(onRune q x)) true s f pos = (let k:=pos + ((s.data.toList.drop pos).takeWhile q).length; if k < s.size then (k:Int) else -1)
  | f,pos,hf,hp=>by
    by_cases hlt:pos < s.size
    · obtain ⟨f',rfl⟩:∃ f',f = f' + 1:=⟨f - 1,by omega⟩
      have hl:pos < s.data.toList.length:=by simpa using hlt
      rw [List.drop_eq_getElem_cons hl,List.takeWhile_cons]
      have hg:=get!_at s pos hlt
      rw [← hg]
      simp only [Lib.idxFuncFrom,hlt,if_true]
      by_cases h1:(s.get! pos).toNat < 128
      · rw [decode_low s pos h1]
        have e1:onRune q (s.get! pos).toNat = q (s.get! pos):=by simp [onRune,h1]
        simp only [e1]
        by_cases h2:q (s.get! pos) = true
        · rw [h2]
          simp only [Bool.not_true,Bool.false_eq_true,if_false,if_true]
          rw [idx_from q hq s f' (pos + 1) (by omega) (by omega)]
          simp only [List.length_cons]
          rw [show pos + 1 + ((s.data.toList.drop (pos + 1)).takeWhile q).length = pos + (((s.data.toList.drop (pos + 1)).takeWhile q).length + 1) by omega]
        · rw [Bool.not_eq_true] at h2
          rw [h2]
          simp [hlt]
      · have h2:=decode_high s pos h1
        have e1:onRune q (Utf8.decode s pos).1 = false:=by simp [onRune]; omega
        have e2:q (s.get! pos) = false:=by
          cases e:q (s.get! pos) with
          | false=>rfl
          | true=>exact absurd (hq _ e) h1
        simp [e1,e2,hlt]
    · have e1:s.data.toList.drop pos = []:=List.drop_eq_nil_of_le (by simp; exact Nat.le_of_not_lt hlt)
      rw [Lib.idxFuncFrom_end _ _ _ _ _ hlt,e1]
      exact (if_neg (by simpa using hlt)).symm
theorem idx_bytes (q:UInt8 → Bool) (hq:∀ b,q b = true → b.toNat < 128) (l:Str):Lib.idxFunc (fun x=>!(onRune q x)) true ⟨l.toArray⟩ = if (l.takeWhile q).length < l.length then ((l.takeWhile q).length:Int) else -1:=by
  have e0:(⟨l.toArray⟩:ByteArray).size = l.length:=by show l.toArray.size = _; simp
  have:=idx_from q hq ⟨l.toArray⟩ l.length 0 (by rw [e0]; omega) (by omega)
  unfold Lib.idxFunc
  rw [e0,this,e0]
  simp
theorem isD_low (b:UInt8) (h:isD b = true):b.toNat < 128:=by simp [isD] at h; omega
theorem isU_low (b:UInt8) (h:isU b = true):b.toNat < 128:=by simp [isU] at h; omega
theorem idx_digits (s:Str):Lib.idxFunc (fun x=>!(onRune isD x)) true ⟨s.toArray⟩ = if (dgs s).length < s.length then ((dgs s).length:Int) else -1:=idx_bytes isD isD_low s
theorem takeWhile_all {q:UInt8 → Bool}:∀ {l:Str},(l.takeWhile q).length < l.length ↔ l.all q = false
  | []=>by simp
  | a :: r=>by
    rw [List.takeWhile_cons]
    by_cases h:q a = true
    · rw [if_pos h,List.length_cons,List.length_cons,Nat.succ_lt_succ_iff,takeWhile_all,List.all_cons,h,Bool.true_and]
    · rw [Bool.not_eq_true] at h; simp [h]
theorem idx_caps (s:Str):decide (0 ≤ Lib.idxFunc (fun x=>!(onRune isU x)) true ⟨s.toArray⟩) = !(s.all isU):=by
  rw [idx_bytes isU isU_low]
  by_cases h:(s.takeWhile isU).length < s.length
  · rw [if_pos h,takeWhile_all.1 h]; simp
  · rw [if_neg h]
    have:s.all isU = true:=by
      cases e:s.all isU with
      | true=>rfl
      | false=>exact absurd (takeWhile_all.2 e) h
    rw [this]; simp
theorem decFrom_val:∀ (l:Str) (acc:Nat),(∀ b ∈ l,isD b = true) → Lib.decFrom acc l = some (l.foldl (fun n b=>10 * n + (b.toNat - 48)) acc)
  | [],acc,_=>rfl
  | b :: r,acc,h=>by
    have hb:=h b (by simp)
    have hd:Lib.digitVal b = some (b.toNat - 48):=by
      simp only [isD,Bool.and_eq_true,decide_eq_true_eq] at hb
      simp [Lib.digitVal,hb]
    simp only [Lib.decFrom,hd,List.foldl_cons]
    rw [decFrom_val r _ (fun x hx=>h x (by simp [hx])),Nat.mul_comm acc 10]
theorem atoi_val (l:Str) (h:∀ b ∈ l,isD b = true) (hne:l ≠ []):Lib.atoi l = some ((val l:Nat):Int):=by
  cases l with
  | nil=>exact absurd rfl hne
  | cons b r =>
    have hb:=h b (by simp)
    simp only [isD,Bool.and_eq_true,decide_eq_true_eq] at hb
    have h45:(b == 45) = false:=by
      rw [beq_eq_false_iff_ne]; intro e; subst e; exact absurd hb.1 (by decide)
    have h43:(b == 43) = false:=by
      rw [beq_eq_false_iff_ne]; intro e; subst e; exact absurd hb.1 (by decide)
    simp only [Lib.atoi,h45,h43,Lib.decNat,List.isEmpty_cons,Bool.false_eq_true,if_false]
    rw [decFrom_val _ _ h]; rfl
theorem repeatL_one_byte (b:UInt8):∀ n,Lib.repeatL [b] n = List.replicate n b
  | 0=>rfl
  | n + 1=>by rw [Lib.repeatL,repeatL_one_byte b n,List.replicate_succ]; rfl
end Go.VM
namespace Go.Proofs.YtihfbefagcdpmaaDoor.w
open Go Go.VM
set_option maxRecDepth 20000
set_option maxHeartbeats 0
set_option pp.deepTerms false
def c_label_parted_1:VC:=(.seq (.region [ZO 2 (.mv (.c (.bool false)))] false) (.seq (.region [ZM 3 0,ZO 4 (.bin .lss (.t 3) (.c (.int .i32 48))),ZM 5 4,ZG 6 (.mv (.t 0)) 5 false,ZG 7 (.bin .gtr (.t 6) (.c (.int .i32 57))) 5 false,ZO 8 (.pick (.t 5) (.c (.bool true)) (.t 7)),ZM 2 8] false) .ret))
def c_label_Valid_1:VC:=(.seq (.region [ZO 2 (.mv (.c (.bool false)))] false) (.seq (.region [ZM 3 0,ZO 4 (.bin .lss (.t 3) (.c (.int .i32 65))),ZM 5 4,ZG 6 (.mv (.t 0)) 5 false,ZG 7 (.bin .gtr (.t 6) (.c (.int .i32 90))) 5 false,ZO 8 (.pick (.t 5) (.c (.bool true)) (.t 7)),ZM 2 8] false) .ret))
theorem onRune_D (x:Nat):(!(onRune isD x)) = (decide ((x:Int) < 48) || decide ((57:Int) < x)):=by
  by_cases h:x < 128
  · have:(UInt8.ofNat x).toNat = x:=ofNat_toNat (by omega)
    simp only [onRune,isD,this,h,decide_true,Bool.true_and,Bool.not_and]
    by_cases h1:48 ≤ x <;> by_cases h2:x ≤ 57 <;> simp [h1,h2] <;> omega
  · simp only [onRune,h,decide_false,Bool.false_and,Bool.not_false]
    symm; simp; omega
theorem onRune_U (x:Nat):(!(onRune isU x)) = (decide ((x:Int) < 65) || decide ((90:Int) < x)):=by
  by_cases h:x < 128
  · have:(UInt8.ofNat x).toNat = x:=ofNat_toNat (by omega)
    simp only [onRune,isU,this,h,decide_true,Bool.true_and,Bool.not_and]
    by_cases h1:65 ≤ x <;> by_cases h2:x ≤ 90 <;> simp [h1,h2] <;> omega
  · simp only [onRune,h,decide_false,Bool.false_and,Bool.not_false]
    symm; simp; omega
theorem sp_label_parted_1 (x:Nat):Za8 Tryd.prog 45 [.int .i32 x] (.bool (!(onRune isD x))):=by
  rw [onRune_D]
  refine Zaj ?_ (cB _) (by simp only [Zat,List.mem_cons,List.not_mem_nil,or_false,forall_eq_or_imp,forall_eq,false_implies,implies_true]; repeat' (first  | exact cB _ | exact Closed.of_scalar (scalar_int _ _) | refine And.intro ?_ ?_))
  refine Zar (vc:=c_label_parted_1) (ts:=[.t 2]) Go.Proofs.Tryd.func45 (by kernel_rfl) rfl rfl (Nat.le_of_ble_eq_true rfl) (by kernel_rfl) ?_
  unfold c_label_parted_1
  try dsimp only [ZM,ZO,ZN,ZG]
  refine Zac (Zaa [0] ?_)
  simp only [Zab,Zad,Zaf,pok,pval,VA.ev,Env.get,Env.put,Env.keep,Za1,Zae,Heap.nil,ite_true,ite_false,true_and,reduceCtorEq]
  refine Zac (Zaa [2] ?_)
  simp only [Zad,Zaf,pok,pval,VA.ev,Env.get,Env.put,Env.keep,Zae,intV,binV,Zan,Nat.reduceEqDiff,ite_true,ite_false,true_and,reduceCtorEq]
  refine OpsW_split rfl (fun g=>?_) (fun g=>?_)
  · simp only [Zab,Zad,Zbc,Zaf,pok,pval,VA.ev,Env.get,Env.put,Za4,isBool,intV,binV,Zan,Nat.succ_ne_self,Nat.reduceEqDiff,Bool.false_eq_true,ite_true,ite_false,true_and,reduceCtorEq,g]
    refine Zal ?_
    try simp only [Env.get,retQ,resV,Zas,RS.ev,RS.ok,ite_true,true_and,and_true]
    rw [Bool.false_or]
    exact View.refl _ _
  · simp only [Zab,Zad,OpsW_xf,Zaf,pok,pval,VA.ev,Env.get,Env.put,Za4,isBool,Nat.succ_ne_self,Nat.reduceEqDiff,ite_true,ite_false,true_and,reduceCtorEq,Bool.not_false,g]
    refine Zal ?_
    try simp only [Env.get,retQ,resV,Zas,RS.ev,RS.ok,ite_true,true_and,and_true]
    rw [Bool.true_or]
    exact View.refl _ _
theorem sp_label_Valid_1 (x:Nat):Za8 Tryd.prog 31 [.int .i32 x] (.bool (!(onRune isU x))):=by
  rw [onRune_U]
  refine Zaj ?_ (cB _) (by simp only [Zat,List.mem_cons,List.not_mem_nil,or_false,forall_eq_or_imp,forall_eq,false_implies,implies_true]; repeat' (first  | exact cB _ | exact Closed.of_scalar (scalar_int _ _) | refine And.intro ?_ ?_))
  refine Zar (vc:=c_label_Valid_1) (ts:=[.t 2]) Go.Proofs.Tryd.func31 (by kernel_rfl) rfl rfl (Nat.le_of_ble_eq_true rfl) (by kernel_rfl) ?_
  unfold c_label_Valid_1
  try dsimp only [ZM,ZO,ZN,ZG]
  refine Zac (Zaa [0] ?_)
  simp only [Zab,Zad,Zaf,pok,pval,VA.ev,Env.get,Env.put,Env.keep,Za1,Zae,Heap.nil,ite_true,ite_false,true_and,reduceCtorEq]
  refine Zac (Zaa [2] ?_)
  simp only [Zad,Zaf,pok,pval,VA.ev,Env.get,Env.put,Env.keep,Zae,intV,binV,Zan,Nat.reduceEqDiff,ite_true,ite_false,true_and,reduceCtorEq]
  refine OpsW_split rfl (fun g=>?_) (fun g=>?_)
  · simp only [Zab,Zad,Zbc,Zaf,pok,pval,VA.ev,Env.get,Env.put,Za4,isBool,intV,binV,Zan,Nat.succ_ne_self,Nat.reduceEqDiff,Bool.false_eq_true,ite_true,ite_false,true_and,reduceCtorEq,g]
    refine Zal ?_
    try simp only [Env.get,retQ,resV,Zas,RS.ev,RS.ok,ite_true,true_and,and_true]
    rw [Bool.false_or]
    exact View.refl _ _
  · simp only [Zab,Zad,OpsW_xf,Zaf,pok,pval,VA.ev,Env.get,Env.put,Za4,isBool,Nat.succ_ne_self,Nat.reduceEqDiff,ite_true,ite_false,true_and,reduceCtorEq,Bool.not_false,g]
    refine Zal ?_
    try simp only [Env.get,retQ,resV,Zas,RS.ev,RS.ok,ite_true,true_and,and_true]
    rw [Bool.true_or]
    exact View.refl _ _
theorem grows_of {P:Program} {f:FuncId} {p:Nat → Bool} (H:∀ x:Nat,Za8 P f [.int .i32 x] (.bool (p x))) {g:Gh} {w:World} (r:Rel g w Heap.nil):PredGrows P f #[] p w:=by
  intro W x _ hb
  obtain ⟨r',_⟩:=r.below (memExt_below r hb) hb
  refine ((H x).2.2 _ W (#[encR x] ++ #[]) r' ⟨rfl,fun j hj=>?_⟩).mono ?_
  · obtain rfl:j = 0:=by simp at hj; omega
    exact .int .i32 x
  · rintro e w' ⟨v,m',rfl,hv,_,hb'⟩
    obtain rfl:=hv.bool_inv
    exact ⟨rfl,hb'⟩
theorem fn0_inv {g:Gh} {u:Value} {f:FuncId} (h:Rep g u (.fn (.func f) [] [])):u = .func (.func f) #[] #[]:=by
  obtain ⟨fs,cs,rfl,h1,h2⟩:=h.fn_inv
  have e1:fs = #[]:=Array.eq_empty_of_size_eq_zero h1.1
  have e2:cs = #[]:=Array.eq_empty_of_size_eq_zero h2.1
  rw [e1,e2]
theorem sp_IndexFunc (s:Str):Za8 Tryd.prog 44 [.str s,.fn (.func 45) [] []] (pI (if (dgs s).length < s.length then ((dgs s).length:Int) else -1)):=by
  refine PCall_of (by kernel_rfl) (by intro x hx; simp only [List.mem_cons,List.not_mem_nil,or_false] at hx; rcases hx with rfl | rfl; exact cS _; exact closed_fn0 _) fun g w vals r ha=>?_
  obtain ⟨v,u,rfl,hv,hu⟩:=args_2 ha
  obtain ⟨z,rfl,hs⟩:=hv.str_inv
  obtain rfl:=fn0_inv hu
  rw [str_eq hs]
  refine (Any.strings_IndexFunc_grows Tryd.laysIndexFunc _ #[] (enters_of Tryd.func45 (by kernel_rfl) rfl) (fun x=>!(onRune isD x)) _ w (grows_of sp_label_parted_1 r)).mono ?_
  rintro e w' ⟨rfl,hb⟩
  rw [idx_digits]
  exact ⟨_,rfl,fun g=>.int _ _,hb⟩
theorem sp_ContainsFunc (s:Str):Za8 Tryd.prog 32 [.str s,.fn (.func 31) [] []] (.bool (!(s.all isU))):=by
  refine PCall_of (by kernel_rfl) (by intro x hx; simp only [List.mem_cons,List.not_mem_nil,or_false] at hx; rcases hx with rfl | rfl; exact cS _; exact closed_fn0 _) fun g w vals r ha=>?_
  obtain ⟨v,u,rfl,hv,hu⟩:=args_2 ha
  obtain ⟨z,rfl,hs⟩:=hv.str_inv
  obtain rfl:=fn0_inv hu
  rw [str_eq hs]
  refine (Any.strings_ContainsFunc_grows Tryd.laysContainsFunc _ #[] (enters_of Tryd.func31 (by kernel_rfl) rfl) (fun x=>!(onRune isU x)) _ w (grows_of sp_label_Valid_1 r)).mono ?_
  rintro e w' ⟨rfl,hb⟩
  rw [idx_caps]
  exact ⟨_,rfl,fun g=>.bool _,hb⟩
theorem below_bytes (w:World) (t:TypeId) (s:ByteArray):RowKit.Below w.heap.size w (Lib.bytesWorld w t s):=⟨rfl,rfl,rfl,by rw [Lib.bytesWorld_size]; omega,fun j hj=>Lib.bytesWorld_at_old w t s j hj⟩
theorem sp_Atoi (s:Str) (hd:∀ b ∈ s,isD b = true) (hne:s ≠ []) (hl:s.length ≤ 18):Za8 Tryd.prog 29 [.str s] (.tup [pI (val s),.nilif]):=by
  refine PCall_of (by kernel_rfl) (by intro x hx; rw [List.mem_singleton] at hx; subst hx; exact cS _) fun g w vals r ha=>?_
  obtain ⟨v,rfl,hv⟩:=args_1 ha
  obtain ⟨z,rfl,hs⟩:=hv.str_inv
  rw [str_eq hs]
  refine (Any.strconv_Atoi Tryd.laysAtoi ⟨s.toArray⟩ (val s:Nat) (by show s.toArray.size ≤ 18; simpa using hl) (atoi_val s hd hne) w).mono ?_
  rintro e w' ⟨rfl,t,rfl⟩
  refine ⟨_,rfl,fun g=>.tup _ _ rfl fun j hj=>?_,below_bytes _ _ _⟩
  match j with
  | 0=>exact .int _ _
  | 1=>exact .nilif
theorem extraR:Builder.Extra Tryd.prog Tryd.laysRepeat_ren where
  sizeBuilder:=by kernel_rfl
  liesBuilder:=by kernel_rfl
  t5:=Tryd.underlying5
  a5:=Tryd.isAgg5
  z5:=Tryd.sizeOf5
  v5:=Tryd.zeroValue5
  infoByte:=by kernel_rfl
  cellsByte:=by kernel_rfl
  sizeByte:=by kernel_rfl
  neB5:=by decide
theorem sp_Repeat (b:UInt8) (n:Nat) (hn:n ≤ 1000000):Za8 Tryd.prog 51 [.str [b],pI n] (.str (List.replicate n b)):=by
  refine PCall_of (by kernel_rfl) (by intro x hx; simp only [List.mem_cons,List.not_mem_nil,or_false] at hx; rcases hx with rfl | rfl; exact cS _; exact cI _) fun g w vals r ha=>?_
  obtain ⟨v,u,rfl,hv,hu⟩:=args_2 ha
  obtain ⟨z,rfl,hs⟩:=hv.str_inv
  obtain rfl:=hu.int_inv
  rw [str_eq hs]
  refine (Any.strings_Repeat Tryd.laysRepeat extraR ⟨[b].toArray⟩ n w (by omega) (by show [b].toArray.size * n ≤ _; simp; omega)).mono ?_
  rintro e w' ⟨rfl,hb⟩
  exact ⟨_,rfl,fun g=>.str _ _ (by rw [← repeatL_one_byte]),hb⟩
theorem known_pow:known.lookup 2 = some (Lib.pow10Tab.map fun z=>Value.int .u64 z):=by kernel_rfl
theorem sp_Itoa (n:Nat) (hn:n ≤ 9223372036854775807):Za8 Tryd.prog 50 [pI n] (.str (Lib.decDigits n)):=by
  refine PCall_of (by kernel_rfl) (by intro x hx; rw [List.mem_singleton] at hx; subst hx; exact cI _) fun g w vals r ha=>?_
  obtain ⟨v,rfl,hv⟩:=args_1 ha
  obtain rfl:=hv.int_inv
  refine (Any.strconv_Itoa Tryd.laysItoa n (by omega) (by omega) w (var_known r known_pow (by kernel_rfl))).mono ?_
  rintro e w' ⟨rfl,k,os,rfl⟩
  refine ⟨_,rfl,fun g=>.str _ _ ?_,?_⟩
  · have:¬ (n:Int) < 0:=by omega
    simp [Lib.itoa,this]
  · exact Lib.below_grow _ _ (Nat.le_refl _) _ _
end Go.Proofs.YtihfbefagcdpmaaDoor.w
namespace Go.VM
open Go
theorem tw_at {q:UInt8 → Bool}:∀ {s:Str} {k:Nat},k < (s.takeWhile q).length → q (s.getD k 0) = true
  | [],k,h=>by simp at h
  | a :: r,k,h=>by
    rw [List.takeWhile_cons] at h
    split at h
    · cases k with
      | zero=>simpa
      | succ k=>simpa using tw_at (s:=r) (k:=k) (by simpa using h)
    · simp at h
theorem tw_end {q:UInt8 → Bool}:∀ {s:Str},(s.takeWhile q).length < s.length → q (s.getD (s.takeWhile q).length 0) = false
  | [],h=>by simp at h
  | a :: r,h=>by
    rw [List.takeWhile_cons] at h ⊢
    split at h
    · rename_i e
      rw [if_pos e,List.length_cons,List.getD_cons_succ]
      exact tw_end (by simpa using h)
    · rename_i e; rw [if_neg e]; simpa using e
theorem dgs_at {s:Str} {k:Nat} (h:k < (dgs s).length):48 ≤ (s.getD k 0).toNat ∧ (s.getD k 0).toNat ≤ 57:=by
  have:=tw_at (q:=isD) h; simpa [isD] using this
theorem dgs_end {s:Str} (h:(dgs s).length < s.length):¬ (48 ≤ (s.getD (dgs s).length 0).toNat ∧ (s.getD (dgs s).length 0).toNat ≤ 57):=by
  have:=tw_end (q:=isD) h
  intro k
  have e:isD (s.getD (dgs s).length 0) = true:=by unfold isD; rw [decide_eq_true k.1,decide_eq_true k.2]; rfl
  rw [show (s.takeWhile isD).length = (dgs s).length from rfl,e] at this; cases this
theorem dgs_le (s:Str):(dgs s).length ≤ s.length:=by rw [← dgs_len s]; omega
theorem getD_caps (s:Str) (i:Nat):(caps s).getD i 0 = s.getD ((dgs s).length + i) 0:=by
  rw [caps_drop,List.getD_eq_getElem?_getD,List.getElem?_drop,← List.getD_eq_getElem?_getD]
theorem all_at {l:Str}:l.all isU = true ↔ ∀ i,i < l.length → isU (l.getD i 0) = true:=by
  rw [List.all_eq_true]
  constructor
  · intro h i hi
    rw [List.getD_eq_getElem?_getD,List.getElem?_eq_getElem hi]; exact h _ (List.getElem_mem hi)
  · intro h b hb
    obtain ⟨i,hi,rfl⟩:=List.mem_iff_getElem.1 hb
    have:=h i hi
    rw [List.getD_eq_getElem?_getD,List.getElem?_eq_getElem hi] at this; exact this
theorem head_getD {s:Str} (h:s ≠ []):(s.head? != some 48) = !decide ((s.getD 0 0).toNat = 48):=by
  cases s with
  | nil=>exact absurd rfl h
  | cons b r =>
    simp only [List.head?_cons,List.getD_cons_zero]
    by_cases e:b = 48
    · subst e; rfl
    · have:b.toNat ≠ 48:=fun h=>e (u8_inj h)
      simp [e,this]
theorem val_take (s:Str) (k:Nat) (h:k < (dgs s).length):val (s.take (k + 1)) = 10 * val (s.take k) + ((s.getD k 0).toNat - 48):=by
  have hl:=dgs_le s
  have e:s.take (k + 1) = s.take k ++ [s.getD k 0]:=by
    rw [List.take_add_one,List.getElem?_eq_getElem (by omega),List.getD_eq_getElem?_getD,List.getElem?_eq_getElem (by omega)]; rfl
  rw [e,val_snoc]
theorem val_take_lt (s:Str) (k:Nat) (h:k ≤ (dgs s).length):val (s.take k) < 10 ^ k:=by
  have hl:=dgs_le s
  have:=val_lt (s.take k) (fun b hb=>?_)
  · rwa [List.length_take,Nat.min_eq_left (by omega)] at this
  · refine dgs_all s b ?_
    rw [dgs_take]
    exact List.mem_of_mem_take (i:=k) (by rw [List.take_take,Nat.min_eq_left h]; exact hb)
end Go.VM
namespace Go.Proofs.YtihfbefagcdpmaaDoor.w
open Go Go.VM
set_option maxRecDepth 20000
set_option maxHeartbeats 0
set_option pp.deepTerms false
def c_pandectref03_digits:VC:=(.seq (.region [ZO 2 (.mv (.c (.int .i64 0)))] false) (.seq (.region [ZO 3 (.mv (.c (.int .i64 0)))] false) (.seq (.block 0 (.loop (.seq (.seq (.region [ZM 4 3,ZM 5 0,ZO 6 (.len true (.t 5)),ZO 7 (.bin .lss (.t 4) (.t 6)),ZM 8 7,ZG 9 (.mv (.t 0)) 8 true,ZG 10 (.mv (.t 3)) 8 true,ZG 11 (.idx (.t 9) (.t 10)) 8 true,ZG 12 (.bin .geq (.t 11) (.c (.int .u8 48))) 8 true,ZO 13 (.pick (.t 8) (.t 12) (.c (.bool false))),ZM 14 13,ZG 15 (.mv (.t 0)) 14 true,ZG 16 (.mv (.t 3)) 14 true,ZG 17 (.idx (.t 15) (.t 16)) 14 true,ZG 18 (.bin .leq (.t 17) (.c (.int .u8 57))) 14 true,ZO 19 (.pick (.t 14) (.t 18) (.c (.bool false)))] false) (.cond (.t 19) .skip (.exit 0))) (.block 1 (.region [ZM 20 3,ZO 21 (.bin .add (.t 20) (.c (.int .i64 1))),ZM 3 21] false))))) (.seq (.region [ZM 22 3,ZM 2 22] false) .ret))))
def c_pandectref03_May:VC:=(.seq (.region [ZO 2 (.mv (.c (.bool false)))] false) (.seq (.region [ZM 5 0,ZO 6 (.call 30 [(.t 5)]),ZM 3 6] false) (.seq (.seq (.region [ZM 7 3,ZO 8 (.bin .lss (.t 7) (.c (.int .i64 1))),ZM 9 8,ZG 10 (.mv (.t 3)) 9 false,ZG 11 (.bin .gtr (.t 10) (.c (.int .i64 4))) 9 false,ZO 12 (.pick (.t 9) (.c (.bool true)) (.t 11)),ZM 13 12,ZG 14 (.mv (.t 0)) 13 false,ZG 15 (.idx (.t 14) (.c (.int .i64 0))) 13 false,ZG 16 (.bin .eql (.t 15) (.c (.int .u8 48))) 13 false,ZO 17 (.pick (.t 13) (.c (.bool true)) (.t 16)),ZM 18 17,ZG 19 (.mv (.t 0)) 18 false,ZG 20 (.len true (.t 19)) 18 false,ZG 21 (.mv (.t 3)) 18 false,ZG 22 (.bin .sub (.t 20) (.t 21)) 18 false,ZG 23 (.bin .gtr (.t 22) (.c (.int .i64 3))) 18 false,ZO 24 (.pick (.t 18) (.c (.bool true)) (.t 23))] false) (.cond (.t 24) (.seq (.region [ZO 2 (.mv (.c (.bool false)))] false) .ret) .skip)) (.seq (.seq (.region [ZM 25 3,ZM 4 25] false) (.block 0 (.loop (.seq (.seq (.region [ZM 26 4,ZM 27 0,ZO 28 (.len true (.t 27)),ZO 29 (.bin .lss (.t 26) (.t 28))] false) (.cond (.t 29) .skip (.exit 0))) (.seq (.block 1 (.seq (.region [ZM 32 0,ZM 33 4,ZO 34 (.idx (.t 32) (.t 33)),ZO 35 (.bin .lss (.t 34) (.c (.int .u8 65))),ZM 36 35,ZG 37 (.mv (.t 0)) 36 false,ZG 38 (.mv (.t 4)) 36 false,ZG 39 (.idx (.t 37) (.t 38)) 36 false,ZG 40 (.bin .gtr (.t 39) (.c (.int .u8 90))) 36 false,ZO 41 (.pick (.t 36) (.c (.bool true)) (.t 40))] false) (.cond (.t 41) (.seq (.region [ZO 2 (.mv (.c (.bool false)))] false) .ret) .skip))) (.region [ZM 30 4,ZO 31 (.bin .add (.t 30) (.c (.int .i64 1))),ZM 4 31] false)))))) (.seq (.region [ZO 2 (.mv (.c (.bool true)))] false) .ret)))))
def c_pandectref03_Split:VC:=(.seq (.region [ZO 2 (.mv (.c (.int .i64 0))),ZO 3 (.mv (.c (.str [])))] false) (.seq (.seq (.region [ZM 7 0,ZO 8 (.call 14 [(.t 7)]),ZO 9 (.un .not (.t 8))] false) (.cond (.t 9) (.seq (.region [ZO 2 (.mv (.c (.int .i64 0))),ZO 3 (.mv (.c (.str [])))] false) .ret) .skip)) (.seq (.region [ZO 4 (.mv (.c (.int .i64 0)))] false) (.seq (.region [ZM 10 0,ZO 11 (.call 30 [(.t 10)]),ZM 5 11] false) (.seq (.seq (.region [ZO 6 (.mv (.c (.int .i64 0)))] false) (.block 0 (.loop (.seq (.seq (.region [ZM 12 6,ZM 13 5,ZO 14 (.bin .lss (.t 12) (.t 13))] false) (.cond (.t 14) .skip (.exit 0))) (.seq (.block 1 (.region [ZM 17 4,ZO 18 (.bin .mul (.c (.int .i64 10)) (.t 17)),ZM 19 0,ZM 20 6,ZO 21 (.idx (.t 19) (.t 20)),ZO 22 (.bin .sub (.t 21) (.c (.int .u8 48))),ZO 23 (.conv .i64 (.t 22)),ZO 24 (.bin .add (.t 18) (.t 23)),ZM 4 24] false)) (.region [ZM 15 6,ZO 16 (.bin .add (.t 15) (.c (.int .i64 1))),ZM 6 16] false)))))) (.seq (.region [ZM 25 4,ZM 26 0,ZM 27 5,ZO 28 (.slice true 0 (.t 26) (some (.t 27)) none),ZM 2 25,ZM 3 28] true) .ret))))))
def c_pandectref03_Compare:VC:=(.seq (.region [ZO 4 (.mv (.c (.int .i64 0)))] false) (.seq (.seq (.region [ZM 10 0,ZM 11 1,ZO 12 (.bin .eql (.t 10) (.t 11))] false) (.cond (.t 12) (.seq (.region [ZO 4 (.mv (.c (.int .i64 0)))] false) .ret) .skip)) (.seq (.region [ZM 13 0,ZM 14 1,ZO 15 (.bin .lss (.t 13) (.t 14)),ZM 5 15] false) (.seq (.seq (.region [ZM 16 0,ZO 17 (.call 14 [(.t 16)]),ZM 18 17,ZG 19 (.mv (.t 1)) 18 true,ZG 20 (.call 14 [(.t 19)]) 18 true,ZO 21 (.pick (.t 18) (.t 20) (.c (.bool false)))] false) (.cond (.t 21) (.seq (.region [ZM 23 0,ZO 24 (.call 12 [(.t 23)]),ZM 22 24,ZO 25 (.ext (.t 22) 0),ZO 26 (.ext (.t 22) 1),ZM 6 25,ZM 7 26] false) (.seq (.region [ZM 28 1,ZO 29 (.call 12 [(.t 28)]),ZM 27 29,ZO 30 (.ext (.t 27) 0),ZO 31 (.ext (.t 27) 1),ZM 8 30,ZM 9 31] false) (.region [ZM 32 6,ZM 33 8,ZO 34 (.bin .lss (.t 32) (.t 33)),ZM 35 34,ZG 36 (.mv (.t 6)) 35 false,ZG 37 (.mv (.t 8)) 35 false,ZG 38 (.bin .eql (.t 36) (.t 37)) 35 false,ZG 39 (.mv (.t 38)) 35 false,ZG 40 (.mv (.t 7)) 39 true,ZG 41 (.mv (.t 9)) 39 true,ZG 42 (.bin .lss (.t 40) (.t 41)) 39 true,ZG 43 (.pick (.t 39) (.t 42) (.c (.bool false))) 35 false,ZO 44 (.pick (.t 35) (.c (.bool true)) (.t 43)),ZM 5 44] false))) (.seq (.region [ZM 45 0,ZO 46 (.call 14 [(.t 45)]),ZM 47 1,ZO 48 (.call 14 [(.t 47)]),ZO 49 (.binb .neq (.t 46) (.t 48))] false) (.cond (.t 49) (.region [ZM 50 0,ZO 51 (.call 14 [(.t 50)]),ZM 5 51] false) .skip)))) (.seq (.seq (.region [ZM 52 5] false) (.cond (.t 52) (.seq (.region [ZO 4 (.mv (.c (.int .i64 (-1))))] false) .ret) .skip)) (.seq (.region [ZO 4 (.mv (.c (.int .i64 1)))] false) .ret))))))
theorem sp_pandectref03_digits (s:Str) (hl:s.length ≤ 1000000):Za8 Tryd.prog 30 [.str s] (pI (dgs s).length):=by
  have hdl:=dgs_le s
  refine Zaj ?_ (cI _) (by simp only [Zat,List.mem_cons,List.not_mem_nil,or_false,forall_eq_or_imp,forall_eq,false_implies,implies_true]; repeat' (first  | exact cI _ | exact cS _ | exact Zbb (by simp only [List.mem_cons,List.not_mem_nil,or_false,forall_eq]; first | exact cI _ | exact cS _ | exact Za5 _) | refine And.intro ?_ ?_))
  refine Zar (vc:=c_pandectref03_digits) (ts:=[.t 2]) Go.Proofs.Tryd.func30 (by kernel_rfl) rfl rfl (Nat.le_of_ble_eq_true rfl) (by kernel_rfl) ?_
  unfold c_pandectref03_digits
  try dsimp only [ZM,ZO,ZN,ZG]
  refine Zac (Zaa [0] ?_)
  simp only [Zab,Zad,Zaf,pok,pval,VA.ev,Env.get,Env.put,Env.keep,Za1,Zae,Heap.nil,ite_true,ite_false,true_and,reduceCtorEq]
  refine Zac (Zaa [0,3] ?_)
  simp only [Zab,Zad,Zaf,pok,pval,VA.ev,Env.get,Env.put,Env.keep,Zae,ite_true,ite_false,true_and,reduceCtorEq]
  refine Zac ?_
  refine Za0 ?_
  refine VW_loop (σ:={ k:Nat // k ≤ (dgs s).length }) (fun x=>([(0,.str s),(3,pI x.1)],⟨[],0⟩)) (fun x=>s.length - x.1) ⟨0,Nat.zero_le _⟩ ?_ ?_ ?_
  · simp only [Env.get,Env.le,ite_true,ite_false,true_and,and_true,reduceCtorEq]
    rfl
  · simp only [Heap.le,HL.le,Nat.le_refl,and_true]
  rintro ⟨k,hk⟩
  simp only []
  refine Zac ?_
  refine VW_seqE (σ:={ b:Bool // b = decide (k < (dgs s).length) }) [0,3,19] (fun b=>[(0,.str s),(3,pI k),(19,.bool b.1)]) ?_ ?_
  · by_cases c1:k < s.length
    · have e1:decide ((k:Int) < (s.length:Int)) = true:=by simp; omega
      by_cases c2:48 ≤ (s.getD k 0).toNat
      · have e2:decide ((48:Int) ≤ ((s.getD k 0).toNat:Int)) = true:=by simp only [decide_eq_true_eq]; omega
        simp only [Zab,Zad,Zbc,Zaf,pok,pval,VA.ev,Env.get,Env.put,Env.keep,Za4,isBool,intV,binV,Zan,isInt,numOf,lenV,idxV,idxOk,lenOk,Nat.succ_ne_self,Env.le,Nat.reduceEqDiff,ite_true,ite_false,true_and,and_true,reduceCtorEq,Int.toNat_natCast,e1,e2]
        repeat (with_reducible refine And.intro ?_ ?_; first | omega | (with_reducible constructor <;> omega) | exact False.elim | exact True.intro)
        refine ⟨⟨decide (((s.getD k 0).toNat:Int) ≤ 57),?_⟩,rfl⟩
        · by_cases c:k < (dgs s).length
          · have:=dgs_at c
            rw [decide_eq_true c,decide_eq_true_eq]; omega
          · obtain rfl:k = (dgs s).length:=by omega
            have:=dgs_end c1
            rw [decide_eq_false c,decide_eq_false_iff_not]; omega
      · have e2:decide ((48:Int) ≤ ((s.getD k 0).toNat:Int)) = false:=by simp only [decide_eq_false_iff_not]; omega
        have c:¬ k < (dgs s).length:=fun c=>c2 (dgs_at c).1
        simp only [Zab,Zad,Zbc,OpsW_xt,Zaf,pok,pval,VA.ev,Env.get,Env.put,Env.keep,Za4,isBool,intV,binV,Zan,isInt,numOf,lenV,idxV,idxOk,lenOk,Nat.succ_ne_self,Env.le,Nat.reduceEqDiff,Bool.false_eq_true,ite_true,ite_false,true_and,and_true,reduceCtorEq,Int.toNat_natCast,e1,e2]
        repeat (with_reducible refine And.intro ?_ ?_; first | omega | (with_reducible constructor <;> omega) | exact False.elim | exact True.intro)
        exact ⟨⟨false,(decide_eq_false c).symm⟩,rfl⟩
    · have e1:decide ((k:Int) < (s.length:Int)) = false:=by simp; omega
      simp only [Zab,Zad,OpsW_xt,Zaf,pok,pval,VA.ev,Env.get,Env.put,Env.keep,Za4,isBool,intV,binV,Zan,lenV,lenOk,Nat.succ_ne_self,Env.le,Nat.reduceEqDiff,Bool.false_eq_true,ite_true,ite_false,true_and,and_true,reduceCtorEq,e1]
      exact ⟨⟨false,(decide_eq_false (by omega)).symm⟩,rfl⟩
  rintro ⟨b,hb⟩
  simp only []
  refine Zai rfl (fun h1=>?_) (fun h1=>?_)
  · have c:k < (dgs s).length:=by rw [h1] at hb; exact of_decide_eq_true hb.symm
    refine Zak ?_
    try simp only [Zae,Heap.le,HL.le,Env.le,and_true]
    refine Za0 ?_
    refine Zaa [0,3] ?_
    simp only [Zab,Zad,Zaf,pok,pval,VA.ev,Env.get,Env.put,Env.keep,Zae,Za2,intV,binV,Zan,Nat.le_refl,Nat.reduceEqDiff,ite_true,ite_false,true_and,reduceCtorEq,w64 (n:=(k:Int) + 1) (by omega) (by omega)]
    refine ⟨⟨k + 1,c⟩,?_,?_⟩
    · simp
    · simp only []; omega
  · have c:¬ k < (dgs s).length:=by rw [h1] at hb; exact of_decide_eq_false hb.symm
    obtain rfl:k = (dgs s).length:=by omega
    refine VW_exit ?_
    try simp only [Zae,Za2,retQ,ite_true]
    refine Zac (Zaa [2] ?_)
    simp only [Zab,Zad,Zaf,pok,pval,VA.ev,Env.get,Env.put,Env.keep,Zae,Nat.succ_ne_self,Nat.reduceEqDiff,ite_true,ite_false,true_and,reduceCtorEq]
    refine Zal ?_
    try simp only [Env.get,retQ,resV,Zas,RS.ev,RS.ok,ite_true,true_and,and_true]
    exact View.refl _ _
theorem caps_len' (s:Str):(caps s).length = s.length - (dgs s).length:=by have:=dgs_len s; omega
def mayA (s:Str):Bool:=decide (1 ≤ (dgs s).length) && decide ((dgs s).length ≤ 4) && (s.head? != some 48) && decide ((caps s).length ≤ 3)
theorem may_A (s:Str):may s = (mayA s && (caps s).all isU):=rfl
theorem Zbj (s:Str) (hl:s.length ≤ 1000000):Za8 Tryd.prog 14 [.str s] (.bool (may s)):=by
  have hdl:=dgs_le s
  have hcl:=caps_len' s
  refine Zaj ?_ (cB _) (by simp only [Zat,List.mem_cons,List.not_mem_nil,or_false,forall_eq_or_imp,forall_eq,false_implies,implies_true]; repeat' (first  | exact cS _ | exact cB _ | refine And.intro ?_ ?_))
  refine Zar (vc:=c_pandectref03_May) (ts:=[.t 2]) Go.Proofs.Tryd.func14 (by kernel_rfl) rfl rfl (Nat.le_of_ble_eq_true rfl) (by kernel_rfl) ?_
  unfold c_pandectref03_May
  try dsimp only [ZM,ZO,ZN,ZG]
  refine Zac (Zaa [0] ?_)
  simp only [Zab,Zad,Zaf,pok,pval,VA.ev,Env.get,Env.put,Env.keep,Za1,Zae,Heap.nil,ite_true,ite_false,true_and,reduceCtorEq]
  refine Zac (Zaa [0,3] ?_)
  simp only [Zab,Zad,Zaf,pok,pval,VA.ev,Env.get,Env.put,Env.keep,Zae,List.map,Nat.reduceEqDiff,ite_true,ite_false,true_and,reduceCtorEq]
  refine Zah (sp_pandectref03_digits s hl) ?_
  skip
  refine Zac ?_
  refine VW_seqE (σ:={ b:Bool // b = !(mayA s) }) [0,3,24] (fun b=>[(0,.str s),(3,pI (dgs s).length),(24,.bool b.1)]) ?_ ?_
  · by_cases c1:(dgs s).length < 1
    · have e1:decide (((dgs s).length:Int) < 1) = true:=by simp only [decide_eq_true_eq]; omega
      simp only [Zab,Zad,OpsW_xf,Zaf,pok,pval,VA.ev,Env.get,Env.put,Env.keep,Za4,isBool,intV,binV,Zan,Nat.succ_ne_self,Env.le,Nat.reduceEqDiff,ite_true,ite_false,true_and,and_true,reduceCtorEq,e1]
      exact ⟨⟨true,by unfold mayA; rw [decide_eq_false (show ¬ 1 ≤ (dgs s).length by omega)]; rfl⟩,rfl⟩
    have e1:decide (((dgs s).length:Int) < 1) = false:=by simp only [decide_eq_false_iff_not]; omega
    by_cases c2:(dgs s).length > 4
    · have e2:decide ((4:Int) < ((dgs s).length:Int)) = true:=by simp only [decide_eq_true_eq]; omega
      simp only [Zab,Zad,Zbc,OpsW_xf,Zaf,pok,pval,VA.ev,Env.get,Env.put,Env.keep,Za4,isBool,intV,binV,Zan,Nat.succ_ne_self,Env.le,Nat.reduceEqDiff,Bool.false_eq_true,ite_true,ite_false,true_and,and_true,reduceCtorEq,e1,e2]
      exact ⟨⟨true,by unfold mayA; rw [decide_eq_false (show ¬ (dgs s).length ≤ 4 by omega),Bool.and_false]; rfl⟩,rfl⟩
    have e2:decide ((4:Int) < ((dgs s).length:Int)) = false:=by simp only [decide_eq_false_iff_not]; omega
    have hne:s ≠ []:=by intro e; subst e; exact c1 (by simp [dgs])
    have hh:=head_getD hne
    have hp:0 < s.length:=by cases s with | nil=>exact absurd rfl hne | cons=>simp
    by_cases c3:(s.getD 0 0).toNat = 48
    · have e3:(((s.getD 0 0).toNat:Int) == 48) = true:=by simp only [beq_iff_eq]; omega
      simp only [Zab,Zad,Zbc,OpsW_xf,Zaf,pok,pval,VA.ev,Env.get,Env.put,Env.keep,Za4,isBool,intV,binV,Zan,isInt,numOf,lenV,idxV,idxOk,Nat.succ_ne_self,Env.le,Nat.reduceEqDiff,Bool.false_eq_true,ite_true,ite_false,true_and,and_true,reduceCtorEq,e1,e2,e3,Int.toNat_zero]
      repeat (with_reducible refine And.intro ?_ ?_; first | omega | (with_reducible constructor <;> omega) | exact False.elim | exact True.intro)
      refine ⟨⟨true,?_⟩,rfl⟩
      rw [decide_eq_true c3] at hh
      simp only [mayA,hh]; simp
    have e3:(((s.getD 0 0).toNat:Int) == 48) = false:=by rw [beq_eq_false_iff_ne]; omega
    simp only [Zab,Zad,Zbc,Zaf,pok,pval,VA.ev,Env.get,Env.put,Env.keep,Za4,isBool,intV,binV,Zan,isInt,numOf,lenV,idxV,idxOk,lenOk,Nat.succ_ne_self,Env.le,Nat.reduceEqDiff,Bool.false_eq_true,ite_true,ite_false,true_and,and_true,reduceCtorEq,e1,e2,e3,Int.toNat_zero,w64 (n:=(s.length:Int) - (dgs s).length) (by omega) (by omega)]
    repeat (with_reducible refine And.intro ?_ ?_; first | omega | (with_reducible constructor <;> omega) | exact False.elim | exact True.intro)
    refine ⟨⟨decide ((3:Int) < (s.length:Int) - (dgs s).length),?_⟩,rfl⟩
    rw [decide_eq_false c3] at hh
    simp only [mayA,hh,hcl]
    rw [decide_eq_true (show 1 ≤ (dgs s).length by omega),decide_eq_true (show (dgs s).length ≤ 4 by omega)]
    simp only [Bool.true_and,Bool.not_false]
    by_cases c4:s.length - (dgs s).length ≤ 3
    · rw [decide_eq_true c4]; simp only [Bool.not_true,decide_eq_false_iff_not]; omega
    · rw [decide_eq_false c4]; simp only [Bool.not_false,decide_eq_true_eq]; omega
  rintro ⟨b,hb⟩
  simp only []
  refine Zai rfl (fun h1=>?_) (fun h1=>?_)
  · rw [h1] at hb
    refine Zac (Zaa [2] ?_)
    simp only [Zab,Zad,Zaf,pok,pval,VA.ev,Env.get,Env.put,Env.keep,Zae,Nat.succ_ne_self,Nat.reduceEqDiff,ite_true,ite_false,true_and,reduceCtorEq]
    refine Zal ?_
    try simp only [Env.get,Zae,retQ,resV,Zas,RS.ev,RS.ok,ite_true,true_and,and_true]
    have e:may s = false:=by rw [may_A,show mayA s = false by cases h:mayA s; rfl; rw [h] at hb; cases hb]; rfl
    rw [e]; exact View.refl _ _
  rw [h1] at hb
  have hA:mayA s = true:=by cases h:mayA s; rw [h] at hb; cases hb; rfl
  refine Zak ?_
  try simp only [Zae]
  refine Zac ?_
  refine Zac (Zaa [0,4] ?_)
  simp only [Zab,Zad,Zaf,pok,pval,VA.ev,Env.get,Env.put,Env.keep,Zae,Nat.reduceEqDiff,ite_true,ite_false,true_and,reduceCtorEq]
  refine Za0 ?_
  refine VW_loop (σ:={ k:Nat // k ≤ (caps s).length ∧ ∀ j,j < k → isU ((caps s).getD j 0) = true }) (fun x=>([(0,.str s),(4,pI ((dgs s).length + x.1:Nat))],⟨[],0⟩)) (fun x=>(caps s).length - x.1) ⟨0,Nat.zero_le _,fun j h=>by cases h⟩ ?_ ?_ ?_
  · simp only [Env.get,Env.le,ite_true,ite_false,and_true,reduceCtorEq,Nat.add_zero]
  · simp only [Heap.le,HL.le,Nat.le_refl,and_true]
  rintro ⟨k,hk,hall⟩
  simp only []
  have hgd:=getD_caps s k
  refine Zac ?_
  refine Zac (Zaa [0,4,29] ?_)
  simp only [Zab,Zad,Zaf,pok,pval,VA.ev,Env.get,Env.put,Env.keep,Zae,intV,binV,Zan,lenV,lenOk,Heap.le,HL.le,Nat.succ_ne_self,Env.le,Nat.reduceEqDiff,ite_true,ite_false,true_and,and_true,reduceCtorEq]
  refine Zai rfl (fun h2=>?_) (fun h2=>?_)
  · have hk':k < (caps s).length:=by simp only [decide_eq_true_eq] at h2; omega
    refine Zak ?_
    try simp only [Zae]
    refine Zac ?_
    refine Za0 ?_
    have hsk:(dgs s).length + k < s.length:=by omega
    refine VW_seqE (σ:={ b:Bool // b = !(isU ((caps s).getD k 0)) }) [0,4,41] (fun b=>[(0,.str s),(4,pI ((dgs s).length + k:Nat)),(41,.bool b.1)]) ?_ ?_
    · rw [hgd]
      by_cases c1:(s.getD ((dgs s).length + k) 0).toNat < 65
      · have e1:decide (((s.getD ((dgs s).length + k) 0).toNat:Int) < 65) = true:=by simp only [decide_eq_true_eq]; omega
        simp only [Zab,Zad,OpsW_xf,Zaf,pok,pval,VA.ev,Env.get,Env.put,Env.keep,Za4,isBool,intV,binV,Zan,isInt,numOf,lenV,idxV,idxOk,Nat.succ_ne_self,Env.le,Nat.reduceEqDiff,ite_true,ite_false,true_and,and_true,reduceCtorEq,Int.toNat_natCast,e1]
        repeat (with_reducible refine And.intro ?_ ?_; first | omega | (with_reducible constructor <;> omega) | exact False.elim | exact True.intro)
        exact ⟨⟨true,by simp only [isU]; rw [decide_eq_false (show ¬ 65 ≤ (s.getD ((dgs s).length + k) 0).toNat by omega)]; rfl⟩,rfl⟩
      · have e1:decide (((s.getD ((dgs s).length + k) 0).toNat:Int) < 65) = false:=by simp only [decide_eq_false_iff_not]; omega
        simp only [Zab,Zad,Zbc,Zaf,pok,pval,VA.ev,Env.get,Env.put,Env.keep,Za4,isBool,intV,binV,Zan,isInt,numOf,lenV,idxV,idxOk,Nat.succ_ne_self,Env.le,Nat.reduceEqDiff,Bool.false_eq_true,ite_true,ite_false,true_and,and_true,reduceCtorEq,Int.toNat_natCast,e1]
        repeat (with_reducible refine And.intro ?_ ?_; first | omega | (with_reducible constructor <;> omega) | exact False.elim | exact True.intro)
        refine ⟨⟨decide ((90:Int) < ((s.getD ((dgs s).length + k) 0).toNat:Int)),?_⟩,rfl⟩
        simp only [isU]
        rw [decide_eq_true (show 65 ≤ (s.getD ((dgs s).length + k) 0).toNat by omega),Bool.true_and]
        by_cases c2:(s.getD ((dgs s).length + k) 0).toNat ≤ 90
        · rw [decide_eq_true c2,decide_eq_false (by omega)]; rfl
        · rw [decide_eq_false c2,decide_eq_true (by omega)]; rfl
    rintro ⟨b,hb2⟩
    simp only []
    refine Zai rfl (fun h3=>?_) (fun h3=>?_)
    · rw [h3] at hb2
      refine Zac (Zaa [2] ?_)
      simp only [Zab,Zad,Zaf,pok,pval,VA.ev,Env.get,Env.put,Env.keep,Zae,Nat.reduceEqDiff,ite_true,ite_false,true_and,reduceCtorEq]
      refine Zal ?_
      try simp only [Env.get,Zae,Za2,retQ,resV,Zas,RS.ev,RS.ok,ite_true,true_and,and_true]
      have e:may s = false:=by
        rw [may_A,hA,Bool.true_and]
        cases h:(caps s).all isU with
        | false=>rfl
        | true=>rw [all_at.1 h k hk'] at hb2; cases hb2
      rw [e]; exact View.refl _ _
    rw [h3] at hb2
    refine Zak ?_
    try simp only [Zae,Za2]
    refine Zaa [0,4] ?_
    simp only [Zab,Zad,Zaf,pok,pval,VA.ev,Env.get,Env.put,Env.keep,Zae,intV,binV,Zan,Nat.le_refl,Nat.reduceEqDiff,ite_true,ite_false,true_and,reduceCtorEq,w64 (n:=(((dgs s).length + k:Nat):Int) + 1) (by omega) (by omega)]
    refine ⟨⟨k + 1,hk',fun j hj=>?_⟩,?_,?_⟩
    · by_cases e:j = k
      · subst e; cases h:isU ((caps s).getD j 0); rw [h] at hb2; cases hb2; rfl
      · exact hall j (by omega)
    · simp only [pI,PV.int.injEq,true_and]; omega
    · simp only []; omega
  · have hk':k = (caps s).length:=by simp only [decide_eq_false_iff_not] at h2; omega
    refine VW_exit ?_
    try simp only [Zae,Za2,retQ,ite_true]
    refine Zac (Zaa [2] ?_)
    simp only [Zab,Zad,Zaf,pok,pval,VA.ev,Env.get,Env.put,Env.keep,Zae,Nat.reduceEqDiff,ite_true,ite_false,true_and,reduceCtorEq]
    refine Zal ?_
    try simp only [Env.get,retQ,resV,Zas,RS.ev,RS.ok,ite_true,true_and,and_true]
    have e:may s = true:=by
      rw [may_A,hA,Bool.true_and,all_at]; rw [← hk']; exact hall
    rw [e]; exact View.refl _ _
theorem wrap8 {x:Nat} (h1:48 ≤ x) (h2:x ≤ 57):IntKind.u8.wrap ((x:Int) - 48) = ((x - 48:Nat):Int):=by
  simp [IntKind.wrap,IntKind.bits,IntKind.signed]; omega
def splitN (s:Str):Int:=if may s = true then (num s:Int) else 0
def splitC (s:Str):Str:=if may s = true then caps s else []
theorem closed_is (n:Int) (c:Str):Closed (.tup [pI n,.str c]):=closed_tup (by simp only [List.mem_cons,List.not_mem_nil,or_false,forall_eq_or_imp,forall_eq]; exact ⟨cI _,cS _⟩)
theorem sp_pandectref03_Split (s:Str) (hl:s.length ≤ 1000000):Za8 Tryd.prog 12 [.str s] (.tup [pI (splitN s),.str (splitC s)]):=by
  have hdl:=dgs_le s
  refine Zaj ?_ (closed_is _ _) (by simp only [Zat,List.mem_cons,List.not_mem_nil,or_false,forall_eq_or_imp,forall_eq,false_implies,implies_true]; repeat' (first  | exact cI _ | exact cS _ | exact Zbb (by simp only [List.mem_cons,List.not_mem_nil,or_false,forall_eq]; first | exact cI _ | exact cS _ | exact Za5 _) | refine And.intro ?_ ?_))
  refine Zar (vc:=c_pandectref03_Split) (ts:=[.t 2,.t 3]) Go.Proofs.Tryd.func12 (by kernel_rfl) rfl rfl (Nat.le_of_ble_eq_true rfl) (by kernel_rfl) ?_
  unfold c_pandectref03_Split
  try dsimp only [ZM,ZO,ZN,ZG]
  refine Zac (Zaa [0] ?_)
  simp only [Zab,Zad,Zaf,pok,pval,VA.ev,Env.get,Env.put,Env.keep,Za1,Zae,Heap.nil,ite_true,ite_false,true_and,reduceCtorEq]
  refine Zac ?_
  refine Zac (Zaa [0,9] ?_)
  simp only [Zab,Zad,Zaf,pok,pval,VA.ev,Env.get,Env.put,Env.keep,Zae,unV,unOk,List.map,Nat.reduceEqDiff,ite_true,ite_false,true_and,reduceCtorEq]
  refine Zah (Zbj s hl) ?_
  try simp only [true_and]
  refine Zai rfl (fun h1=>?_) (fun h1=>?_)
  · refine Zac (Zaa [2,3] ?_)
    simp only [Zab,Zad,Zaf,pok,pval,VA.ev,Env.get,Env.put,Env.keep,Zae,Nat.succ_ne_self,Nat.reduceEqDiff,ite_true,ite_false,true_and,reduceCtorEq]
    refine Zal ?_
    try simp only [Env.get,Zae,retQ,resV,Zas,RS.ev,RS.ok,Nat.succ_ne_self,List.map,Nat.reduceEqDiff,ite_true,ite_false,true_and,and_true]
    have e:may s = false:=by cases h:may s; rfl; rw [h] at h1; cases h1
    simp only [splitN,splitC,e,Bool.false_eq_true,if_false]
    exact View.refl _ _
  have hm:may s = true:=by cases h:may s; rw [h] at h1; cases h1; rfl
  have h4:=(may_iff.1 hm).2.1
  refine Zak ?_
  try simp only [Zae]
  refine Zac (Zaa [0,4] ?_)
  simp only [Zab,Zad,Zaf,pok,pval,VA.ev,Env.get,Env.put,Env.keep,Zae,Nat.reduceEqDiff,ite_true,ite_false,true_and,reduceCtorEq]
  refine Zac (Zaa [0,4,5] ?_)
  simp only [Zab,Zad,Zaf,pok,pval,VA.ev,Env.get,Env.put,Env.keep,Zae,Nat.succ_ne_self,List.map,Nat.reduceEqDiff,ite_true,ite_false,true_and,reduceCtorEq]
  refine Zah (sp_pandectref03_digits s hl) ?_
  skip
  refine Zac ?_
  refine Zac (Zaa [0,4,5,6] ?_)
  simp only [Zab,Zad,Zaf,pok,pval,VA.ev,Env.get,Env.put,Env.keep,Zae,Nat.succ_ne_self,Nat.reduceEqDiff,ite_true,ite_false,true_and,reduceCtorEq]
  refine Za0 ?_
  refine VW_loop (σ:={ k:Nat // k ≤ (dgs s).length }) (fun x=>([(0,.str s),(4,pI (val (s.take x.1))),(5,pI (dgs s).length),(6,pI x.1)],⟨[],0⟩)) (fun x=>(dgs s).length - x.1) ⟨0,Nat.zero_le _⟩ ?_ ?_ ?_
  · simp only [Env.get,Nat.succ_ne_self,Env.le,List.take,Nat.reduceEqDiff,ite_true,ite_false,true_and,and_true,reduceCtorEq]
    exact ⟨rfl,rfl⟩
  · simp only [Heap.le,HL.le,Nat.le_refl,and_true]
  rintro ⟨k,hk⟩
  simp only []
  refine Zac ?_
  refine Zac (Zaa [0,4,5,6,14] ?_)
  simp only [Zab,Zad,Zaf,pok,pval,VA.ev,Env.get,Env.put,Env.keep,Zae,intV,binV,Zan,Heap.le,HL.le,Nat.succ_ne_self,Env.le,Nat.reduceEqDiff,ite_true,ite_false,true_and,and_true,reduceCtorEq]
  refine Zai rfl (fun h2=>?_) (fun h2=>?_)
  · have hk':k < (dgs s).length:=by simp only [decide_eq_true_eq] at h2; omega
    obtain ⟨d1,d2⟩:=dgs_at hk'
    have hv:=val_take s k hk'
    have hvl:=val_take_lt s k hk
    have hp:10 ^ k ≤ 10 ^ 4:=Nat.pow_le_pow_right (by omega) (by omega)
    refine Zak ?_
    try simp only [Zae]
    refine Zac ?_
    refine Za0 ?_
    have e1:IntKind.u8.wrap (((s.getD k 0).toNat:Int) - 48) = (((s.getD k 0).toNat - 48:Nat):Int):=wrap8 d1 d2
    have e2:IntKind.i64.wrap (10 * (val (s.take k):Int)) = ((10 * val (s.take k):Nat):Int):=by rw [w64 (by omega) (by omega)]; omega
    have e3:IntKind.i64.wrap (((10 * val (s.take k):Nat):Int) + (((s.getD k 0).toNat - 48:Nat):Int)) = (val (s.take (k + 1)):Int):=by rw [w64 (by omega) (by omega)]; omega
    have e4:IntKind.i64.wrap (((s.getD k 0).toNat - 48:Nat):Int) = (((s.getD k 0).toNat - 48:Nat):Int):=w64 (by omega) (by omega)
    refine Zaa [0,4,5,6] ?_
    simp only [Zab,Zad,Zaf,pok,pval,VA.ev,Env.get,Env.put,Env.keep,Zae,Za2,intV,binV,Zan,convV,isInt,numOf,lenV,idxV,idxOk,Nat.succ_ne_self,Nat.reduceEqDiff,ite_true,ite_false,true_and,and_true,reduceCtorEq,Int.toNat_natCast,e1,e2,e4,e3]
    repeat (with_reducible refine And.intro ?_ ?_; first | omega | (with_reducible constructor <;> omega) | exact False.elim | exact True.intro)
    refine Zaa [0,4,5,6] ?_
    simp only [Zab,Zad,Zaf,pok,pval,VA.ev,Env.get,Env.put,Env.keep,Zae,intV,binV,Zan,Nat.le_refl,Nat.succ_ne_self,Nat.reduceEqDiff,ite_true,ite_false,true_and,reduceCtorEq,w64 (n:=(k:Int) + 1) (by omega) (by omega)]
    refine ⟨⟨k + 1,hk'⟩,?_,?_⟩
    · simp
    · simp only []; omega
  · have hk':k = (dgs s).length:=by simp only [decide_eq_false_iff_not] at h2; omega
    subst hk'
    refine VW_exit ?_
    try simp only [Zae,Za2,retQ,ite_true]
    refine Zac (VW_drawS [2,3] (by simp [Heap.le,Heap.get,HL.le,HL.get]) ?_)
    simp only [DrawW_nil,DrawW_n,QW,dok,dval,VOp.pure,VOp.simple,VOp.det,pok,pval,VA.ev,Env.get,Env.put,Env.keep,Zae,gd,numOf,loV,hiV,lenV,boundOk,sliceV,sliceOk,Nat.le_refl,Nat.succ_ne_self,Option.map,Nat.reduceEqDiff,ite_true,ite_false,true_and,and_true,implies_true,forall_const,reduceCtorEq,Int.toNat_natCast]
    repeat (with_reducible refine And.intro ?_ ?_; first | omega | (with_reducible constructor <;> omega) | exact False.elim | exact True.intro)
    refine Zal ?_
    try simp only [Env.get,retQ,resV,Zas,RS.ev,RS.ok,Nat.succ_ne_self,List.map,Nat.reduceEqDiff,ite_true,ite_false,true_and,and_true]
    have e2:List.take (s.length - (dgs s).length) (List.drop (dgs s).length s) = caps s:=by
      rw [caps_drop,List.take_of_length_le (by simp)]
    rw [← dgs_take,e2]
    simp only [splitN,splitC,hm,if_true]
    exact View.refl _ _
theorem sp_pandectref03_Compare (a b:Str) (ha:a.length ≤ 1000000) (hb:b.length ≤ 1000000):Za8 Tryd.prog 16 [.str a,.str b] (pI (cmpL a b)):=by
  have A:=Zbj a ha
  have B:=Zbj b hb
  have SA:=sp_pandectref03_Split a ha
  have SB:=sp_pandectref03_Split b hb
  refine Zaj ?_ (cI _) (by simp only [Zat,List.mem_cons,List.not_mem_nil,or_false,forall_eq_or_imp,forall_eq,false_implies,implies_true]; repeat' (first  | exact cI _ | exact cS _ | exact Zbb (by simp only [List.mem_cons,List.not_mem_nil,or_false,forall_eq]; first | exact cI _ | exact cS _ | exact Za5 _) | refine And.intro ?_ ?_))
  refine Zar (vc:=c_pandectref03_Compare) (ts:=[.t 4]) Go.Proofs.Tryd.func16 (by kernel_rfl) rfl rfl (Nat.le_of_ble_eq_true rfl) (by kernel_rfl) ?_
  unfold c_pandectref03_Compare
  try dsimp only [ZM,ZO,ZN,ZG]
  refine Zac (Zaa [0,1] ?_)
  simp only [Zab,Zad,Zaf,pok,pval,VA.ev,Env.get,Env.put,Env.keep,Za1,Zae,Heap.nil,Nat.succ_ne_self,Nat.reduceEqDiff,ite_true,ite_false,true_and,reduceCtorEq,Nat.zero_add]
  refine Zac ?_
  refine Zac (Zaa [0,1,12] ?_)
  simp only [Zab,Zad,Zaf,pok,pval,VA.ev,Env.get,Env.put,Env.keep,Zae,binV,Zan,strV,Nat.succ_ne_self,Nat.reduceEqDiff,ite_true,ite_false,true_and,reduceCtorEq]
  refine Zai rfl (fun h1=>?_) (fun h1=>?_)
  · refine Zac (Zaa [4] ?_)
    simp only [Zab,Zad,Zaf,pok,pval,VA.ev,Env.get,Env.put,Env.keep,Zae,Nat.reduceEqDiff,ite_true,ite_false,true_and,reduceCtorEq]
    refine Zal ?_
    try simp only [Env.get,Zae,retQ,resV,Zas,RS.ev,RS.ok,ite_true,true_and,and_true]
    have e:a = b:=by simpa using h1
    rw [cmpL_zero.2 e]
    exact View.refl _ _
  have hne:a ≠ b:=by simpa using h1
  refine Zak ?_
  try simp only [Zae]
  refine Zac (Zaa [0,1,5] ?_)
  simp only [Zab,Zad,Zaf,pok,pval,VA.ev,Env.get,Env.put,Env.keep,Zae,binV,Zan,strV,Nat.succ_ne_self,Nat.reduceEqDiff,ite_true,ite_false,true_and,reduceCtorEq,bytesLess_eq]
  refine Zac ?_
  refine VW_mid (σ:={ x:Bool // x = true ↔ ltL a b }) (fun x=>([(5,.bool x.1)],⟨[],0⟩)) ?_ ?_
  · refine Zac (Zaa [0,1,5,21] ?_)
    cases hma:may a <;> cases hmb:may b <;> rw [hma] at A <;> rw [hmb] at B
    · simp only [Zad,Zaf,pok,pval,VA.ev,Env.get,Env.put,Env.keep,Zae,Nat.succ_ne_self,List.map,Nat.reduceEqDiff,ite_true,ite_false,true_and,reduceCtorEq]
      refine Zah A ?_
      try simp only [Zab,Zad,OpsW_xt,Zaf,pok,pval,VA.ev,Env.get,Env.put,Za4,isBool,Nat.succ_ne_self,Nat.reduceEqDiff,Bool.false_eq_true,ite_true,ite_false,true_and,reduceCtorEq]
      refine Zai rfl (fun h2=>by cases h2) (fun _=>?_)
      refine Zac (Zaa [0,5,49] ?_)
      simp only [Zab,Zad,Zaf,pok,pval,VA.ev,Env.get,Env.put,Env.keep,Zae,binbV,boolV,binbOk,Nat.succ_ne_self,List.map,Nat.reduceEqDiff,ite_true,ite_false,true_and,reduceCtorEq]
      refine Zah A ?_
      skip
      refine Zah B ?_
      try simp only [true_and,bne_self_eq_false]
      refine Zai rfl (fun h2=>by cases h2) (fun _=>?_)
      refine Zak ?_
      try simp only [midQ,Env.get,Heap.le,HL.le,Nat.le_refl,Env.le,Nat.reduceEqDiff,ite_true,ite_false,and_true,reduceCtorEq]
      refine ⟨⟨decide (a < b),?_⟩,rfl⟩
      unfold ltL; simp [hma,hmb]
    · simp only [Zad,Zaf,pok,pval,VA.ev,Env.get,Env.put,Env.keep,Zae,Nat.succ_ne_self,List.map,Nat.reduceEqDiff,ite_true,ite_false,true_and,reduceCtorEq]
      refine Zah A ?_
      try simp only [Zab,Zad,OpsW_xt,Zaf,pok,pval,VA.ev,Env.get,Env.put,Za4,isBool,Nat.succ_ne_self,Nat.reduceEqDiff,Bool.false_eq_true,ite_true,ite_false,true_and,reduceCtorEq]
      refine Zai rfl (fun h2=>by cases h2) (fun _=>?_)
      refine Zac (Zaa [0,5,49] ?_)
      simp only [Zab,Zad,Zaf,pok,pval,VA.ev,Env.get,Env.put,Env.keep,Zae,binbV,boolV,binbOk,Nat.succ_ne_self,List.map,Nat.reduceEqDiff,ite_true,ite_false,true_and,reduceCtorEq]
      refine Zah A ?_
      skip
      refine Zah B ?_
      try simp only [true_and]
      refine Zai (b:=true) rfl (fun _=>?_) (fun h2=>by cases h2)
      refine Zaa [5] ?_
      simp only [midQ,Zab,Zad,Zaf,pok,pval,VA.ev,Env.get,Env.put,Env.keep,Heap.le,HL.le,Env.le,List.map,Nat.reduceEqDiff,ite_true,ite_false,true_and,and_true,reduceCtorEq]
      refine Zah A ?_
      try simp only [Nat.le_refl,and_true]
      refine ⟨⟨false,?_⟩,rfl⟩
      unfold ltL; simp [hma,hmb]
    · simp only [Zad,Zaf,pok,pval,VA.ev,Env.get,Env.put,Env.keep,Zae,Nat.succ_ne_self,List.map,Nat.reduceEqDiff,ite_true,ite_false,true_and,reduceCtorEq]
      refine Zah A ?_
      try simp only [Zab,Zad,Zbc,Zaf,pok,pval,VA.ev,Env.get,Env.put,Za4,isBool,Nat.succ_ne_self,List.map,Nat.reduceEqDiff,ite_true,ite_false,true_and,reduceCtorEq]
      refine Zah B ?_
      skip
      refine Zai rfl (fun h2=>by cases h2) (fun _=>?_)
      refine Zac (Zaa [0,5,49] ?_)
      simp only [Zab,Zad,Zaf,pok,pval,VA.ev,Env.get,Env.put,Env.keep,Zae,binbV,boolV,binbOk,Nat.succ_ne_self,List.map,Nat.reduceEqDiff,ite_true,ite_false,true_and,reduceCtorEq]
      refine Zah A ?_
      skip
      refine Zah B ?_
      try simp only [true_and]
      refine Zai (b:=true) rfl (fun _=>?_) (fun h2=>by cases h2)
      refine Zaa [5] ?_
      simp only [midQ,Zab,Zad,Zaf,pok,pval,VA.ev,Env.get,Env.put,Env.keep,Heap.le,HL.le,Env.le,List.map,Nat.reduceEqDiff,ite_true,ite_false,true_and,and_true,reduceCtorEq]
      refine Zah A ?_
      try simp only [Nat.le_refl,and_true]
      refine ⟨⟨true,?_⟩,rfl⟩
      unfold ltL; simp [hma,hmb]
    · have ena:splitN a = (num a:Int):=by simp [splitN,hma]
      have enb:splitN b = (num b:Int):=by simp [splitN,hmb]
      have eca:splitC a = caps a:=by simp [splitC,hma]
      have ecb:splitC b = caps b:=by simp [splitC,hmb]
      rw [ena,eca] at SA
      rw [enb,ecb] at SB
      simp only [Zad,Zaf,pok,pval,VA.ev,Env.get,Env.put,Env.keep,Zae,Nat.succ_ne_self,List.map,Nat.reduceEqDiff,ite_true,ite_false,true_and,reduceCtorEq]
      refine Zah A ?_
      try simp only [Zab,Zad,Zbc,Zaf,pok,pval,VA.ev,Env.get,Env.put,Za4,isBool,Nat.succ_ne_self,List.map,Nat.reduceEqDiff,ite_true,ite_false,true_and,reduceCtorEq]
      refine Zah B ?_
      skip
      refine Zai rfl (fun _=>?_) (fun h2=>by cases h2)
      refine Zac (Zaa [1,6,7] ?_)
      simp only [Zab,Zad,Zaf,pok,pval,VA.ev,Env.get,Env.put,Env.keep,Zae,extV,extOk,PV.nth,Nat.succ_ne_self,List.map,Nat.reduceEqDiff,ite_true,ite_false,true_and,reduceCtorEq]
      refine Zah SA ?_
      try simp only [List.length,List.getD_cons_zero,List.getD_cons_succ,Nat.reduceAdd,Nat.reduceLT,true_and,Nat.zero_add]
      refine Zac (Zaa [6,7,8,9] ?_)
      simp only [Zab,Zad,Zaf,pok,pval,VA.ev,Env.get,Env.put,Env.keep,Zae,extV,extOk,PV.nth,Nat.succ_ne_self,List.map,Nat.reduceEqDiff,ite_true,ite_false,true_and]
      refine Zah SB ?_
      try simp only [List.length,List.getD_cons_zero,List.getD_cons_succ,Nat.reduceAdd,Nat.reduceLT,true_and,Nat.zero_add]
      refine Zaa [5] ?_
      rcases Nat.lt_trichotomy (num a) (num b) with c | c | c
      · have e1:decide ((num a:Int) < (num b:Int)) = true:=by simp only [decide_eq_true_eq]; omega
        simp only [midQ,Zab,Zad,OpsW_xf,OpsW_u,Zaf,pok,pval,VA.ev,Env.get,Env.put,Env.keep,Za4,isBool,intV,binV,Zan,Heap.le,HL.le,Nat.le_refl,Nat.succ_ne_self,Env.le,Nat.reduceEqDiff,ite_true,ite_false,true_and,and_true,e1]
        refine ⟨⟨true,?_⟩,rfl⟩
        rw [Zbh hma hmb]; simp [c]
      · have e1:decide ((num a:Int) < (num b:Int)) = false:=by simp only [decide_eq_false_iff_not]; omega
        have e2:((num a:Int) == (num b:Int)) = true:=by rw [c]; exact BEq.rfl
        simp only [midQ,Zab,Zad,Zbc,Zaf,pok,pval,VA.ev,Env.get,Env.put,Env.keep,Za4,isBool,intV,binV,Zan,strV,Heap.le,HL.le,Nat.le_refl,Nat.succ_ne_self,Env.le,Nat.reduceEqDiff,Bool.false_eq_true,ite_true,ite_false,true_and,and_true,e1,e2,bytesLess_eq]
        refine ⟨⟨decide (caps a < caps b),?_⟩,rfl⟩
        rw [Zbh hma hmb]; simp [c]
      · have e1:decide ((num a:Int) < (num b:Int)) = false:=by simp only [decide_eq_false_iff_not]; omega
        have e2:((num a:Int) == (num b:Int)) = false:=by rw [beq_eq_false_iff_ne]; omega
        simp only [midQ,Zab,Zad,Zbc,OpsW_xt,Zaf,pok,pval,VA.ev,Env.get,Env.put,Env.keep,Za4,isBool,intV,binV,Zan,Heap.le,HL.le,Nat.le_refl,Nat.succ_ne_self,Env.le,Nat.reduceEqDiff,Bool.false_eq_true,ite_true,ite_false,true_and,and_true,e1,e2]
        refine ⟨⟨false,?_⟩,rfl⟩
        rw [Zbh hma hmb]; simp; omega
  rintro ⟨x,hx⟩
  simp only []
  refine Zac ?_
  refine Zac (Zaa [52] ?_)
  simp only [Zab,Zad,Zaf,pok,pval,VA.ev,Env.get,Env.put,Env.keep,Zae,Nat.reduceEqDiff,ite_true,ite_false,true_and]
  refine Zai rfl (fun h6=>?_) (fun h6=>?_)
  · refine Zac (Zaa [4] ?_)
    simp only [Zab,Zad,Zaf,pok,pval,VA.ev,Env.get,Env.put,Env.keep,Zae,Nat.reduceEqDiff,ite_true,ite_false,true_and]
    refine Zal ?_
    try simp only [Env.get,Zae,retQ,resV,Zas,RS.ev,RS.ok,ite_true,true_and,and_true]
    rw [cmpL_eq,if_pos (hx.1 h6)]
    exact View.refl _ _
  refine Zak ?_
  try simp only [Zae]
  refine Zac (Zaa [4] ?_)
  simp only [Zab,Zad,Zaf,pok,pval,VA.ev,Env.get,Env.put,Env.keep,Zae,Nat.reduceEqDiff,ite_true,ite_false,true_and]
  refine Zal ?_
  try simp only [Env.get,retQ,resV,Zas,RS.ev,RS.ok,ite_true,true_and,and_true]
  rw [cmpL_eq,if_neg (fun h=>by rw [hx.2 h] at h6; cases h6),if_neg hne]
  exact View.refl _ _
end Go.Proofs.YtihfbefagcdpmaaDoor.w
namespace Go.Proofs.YtihfbefagcdpmaaDoor.w
open Go Go.VM
set_option maxRecDepth 20000
set_option maxHeartbeats 0
set_option pp.deepTerms false
def c_pandectref03_Same:VC:=(.seq (.region [ZO 4 (.mv (.c (.bool false)))] false) (.seq (.seq (.region [ZM 6 0,ZO 7 (.len false (.t 6)),ZM 8 1,ZO 9 (.len false (.t 8)),ZO 10 (.bin .neq (.t 7) (.t 9))] false) (.cond (.t 10) (.seq (.region [ZO 4 (.mv (.c (.bool false)))] false) .ret) .skip)) (.seq (.seq (.region [ZO 5 (.mv (.c (.int .i64 0)))] false) (.block 0 (.loop (.seq (.seq (.region [ZM 11 5,ZM 12 0,ZO 13 (.len false (.t 12)),ZO 14 (.bin .lss (.t 11) (.t 13))] false) (.cond (.t 14) .skip (.exit 0))) (.seq (.block 1 (.seq (.region [ZM 17 0,ZM 18 5,ZO 19 (.iaddr 1 (.t 17) (.t 18)),ZO 20 (.load false 1 (.t 19)),ZM 21 1,ZM 22 5,ZO 23 (.iaddr 1 (.t 21) (.t 22)),ZO 24 (.load false 1 (.t 23)),ZO 25 (.bin .neq (.t 20) (.t 24))] true) (.cond (.t 25) (.seq (.region [ZO 4 (.mv (.c (.bool false)))] false) .ret) .skip))) (.region [ZM 15 5,ZO 16 (.bin .add (.t 15) (.c (.int .i64 1))),ZM 5 16] false)))))) (.seq (.region [ZO 4 (.mv (.c (.bool true)))] false) .ret))))
theorem byte_inc (b:UInt8):VM.byteOf [PV.int .u8 (IntKind.u8.wrap ((b.toNat:Int) + 1))] = b + 1:=by
  show UInt8.ofNat (Int.toNat (IntKind.u8.wrap ((b.toNat:Int) + 1))) = b + 1
  apply UInt8.toNat_inj.1
  have hb:b.toNat < 256:=b.toNat_lt
  rw [UInt8.toNat_add]
  simp [IntKind.wrap,IntKind.bits,IntKind.signed]
  omega
theorem sp_pandectref03_Same (a b:List Str) (hl:a.length ≤ 1000000):Za8 Tryd.prog 25 [It.strs a,It.strs b] (.bool (decide (a = b))):=by
  unfold It.strs
  refine Zaj ?_ (cB _) (by simp only [Zat,List.mem_cons,List.not_mem_nil,or_false,forall_eq_or_imp,forall_eq,false_implies,implies_true]; repeat' (first  | exact cS _ | exact cB _ | exact closed_strs _ | refine And.intro ?_ ?_))
  refine Zar (vc:=c_pandectref03_Same) (ts:=[.t 4]) Go.Proofs.Tryd.func25 (by kernel_rfl) rfl rfl (Nat.le_of_ble_eq_true rfl) (by kernel_rfl) ?_
  unfold c_pandectref03_Same
  try dsimp only [ZM,ZO,ZN,ZG]
  refine Zac (Zaa [0,1] ?_)
  simp only [Zab,Zad,Zaf,pok,pval,VA.ev,Env.get,Env.put,Env.keep,Za1,Zae,Heap.nil,Nat.succ_ne_self,Nat.reduceEqDiff,ite_true,ite_false,true_and,reduceCtorEq,Nat.zero_add]
  refine Zac ?_
  refine Zac (Zaa [0,1,10] ?_)
  simp only [Zab,Zad,Zaf,pok,pval,VA.ev,Env.get,Env.put,Env.keep,Zae,intV,binV,Zan,lenV,lenOk,Nat.succ_ne_self,Nat.reduceEqDiff,ite_true,ite_false,true_and,reduceCtorEq,List.length_map]
  refine Zai rfl (fun h1=>?_) (fun h1=>?_)
  · refine Zac (Zaa [4] ?_)
    simp only [Zab,Zad,Zaf,pok,pval,VA.ev,Env.get,Env.put,Env.keep,Zae,Nat.reduceEqDiff,ite_true,ite_false,true_and,reduceCtorEq]
    refine Zal ?_
    try simp only [Env.get,Zae,retQ,resV,Zas,RS.ev,RS.ok,ite_true,true_and,and_true]
    have:a.length ≠ b.length:=by simp only [bne_iff_ne] at h1; omega
    rw [decide_eq_false (len_ne this)]
    exact View.refl _ _
  have hlen:a.length = b.length:=by simp only [bne_eq_false_iff_eq] at h1; omega
  refine Zak ?_
  try simp only [Zae]
  refine Zac ?_
  refine Zac (Zaa [0,1,5] ?_)
  simp only [Zab,Zad,Zaf,pok,pval,VA.ev,Env.get,Env.put,Env.keep,Zae,Nat.succ_ne_self,Nat.reduceEqDiff,ite_true,ite_false,true_and,reduceCtorEq]
  refine Za0 ?_
  refine VW_loop (σ:={ k:Nat // k ≤ a.length ∧ a.take k = b.take k }) (fun x=>([(0,.sl 1 (a.map fun s=>[.str s])),(1,.sl 1 (b.map fun s=>[.str s])),(5,pI x.1)],⟨[],0⟩)) (fun x=>a.length - x.1) ⟨0,Nat.zero_le _,rfl⟩ ?_ ?_ ?_
  · simp only [Env.get,Nat.succ_ne_self,Env.le,Nat.reduceEqDiff,ite_true,ite_false,true_and,and_true,reduceCtorEq]
    rfl
  · simp only [Heap.le,HL.le,Nat.le_refl,and_true]
  rintro ⟨k,hk,hpre⟩
  simp only []
  refine Zac ?_
  refine Zac (Zaa [0,1,5,14] ?_)
  simp only [Zab,Zad,Zaf,pok,pval,VA.ev,Env.get,Env.put,Env.keep,Zae,intV,binV,Zan,lenV,lenOk,Heap.le,HL.le,Nat.succ_ne_self,Env.le,Nat.reduceEqDiff,ite_true,ite_false,true_and,and_true,reduceCtorEq,List.length_map]
  refine Zai rfl (fun h2=>?_) (fun h2=>?_)
  · have ka:k < a.length:=by simp only [decide_eq_true_eq] at h2; omega
    have kb:k < b.length:=by omega
    refine Zak ?_
    try simp only [Zae]
    refine Zac ?_
    refine Za0 ?_
    refine Zac (VW_drawS [0,1,5,25] (by simp [Heap.le,Heap.get,HL.le,HL.get]) ?_)
    simp only [DrawW_nil,DrawW_n,QW,dok,dval,VOp.pure,VOp.simple,VOp.det,pok,pval,VA.ev,Env.get,Env.put,Env.keep,Zae,gd,aggV,binV,Zan,strV,isInt,numOf,lenV,Za3,locOk,iaddrV,iaddrOk,PV.nth,PV.row,Nat.le_refl,Nat.succ_ne_self,List.length,List.getD_cons_zero,List.take,List.take_succ_cons,Nat.reduceEqDiff,Bool.false_eq_true,ite_true,ite_false,true_and,and_true,implies_true,forall_const,reduceCtorEq,Nat.zero_add,List.length_cons,Int.toNat_natCast,List.length_map,rowm ka,rowm kb]
    repeat (with_reducible refine And.intro ?_ ?_; first | omega | (with_reducible constructor <;> omega) | exact False.elim | exact True.intro)
    refine Zai rfl (fun h3=>?_) (fun h3=>?_)
    · refine Zac (Zaa [4] ?_)
      simp only [Zab,Zad,Zaf,pok,pval,VA.ev,Env.get,Env.put,Env.keep,Zae,Nat.succ_ne_self,Nat.reduceEqDiff,ite_true,ite_false,true_and,reduceCtorEq]
      refine Zal ?_
      try simp only [Env.get,Zae,Za2,retQ,resV,Zas,RS.ev,RS.ok,ite_true,true_and,and_true]
      rw [decide_eq_false (get_ne ka kb (by simpa using h3))]
      exact View.refl _ _
    refine Zak ?_
    try simp only [Zae,Za2]
    have he:a[k] = b[k]:=by simpa using h3
    refine Zaa [0,1,5] ?_
    simp only [Zab,Zad,Zaf,pok,pval,VA.ev,Env.get,Env.put,Env.keep,Zae,intV,binV,Zan,Nat.le_refl,Nat.succ_ne_self,Nat.reduceEqDiff,ite_true,ite_false,true_and,reduceCtorEq,w64 (n:=(k:Int) + 1) (by omega) (by omega)]
    refine ⟨⟨k + 1,ka,take_step hpre ka kb he⟩,?_,?_⟩
    · rfl
    · simp only []; omega
  · have ka:k = a.length:=by simp only [decide_eq_false_iff_not] at h2; omega
    refine VW_exit ?_
    try simp only [Zae,Za2,retQ,ite_true]
    refine Zac (Zaa [4] ?_)
    simp only [Zab,Zad,Zaf,pok,pval,VA.ev,Env.get,Env.put,Env.keep,Zae,Nat.succ_ne_self,Nat.reduceEqDiff,ite_true,ite_false,true_and,reduceCtorEq]
    refine Zal ?_
    try simp only [Env.get,retQ,resV,Zas,RS.ev,RS.ok,ite_true,true_and,and_true]
    rw [decide_eq_true (take_all hlen (by rw [← ka]; exact hpre))]
    exact View.refl _ _
end Go.Proofs.YtihfbefagcdpmaaDoor.w
