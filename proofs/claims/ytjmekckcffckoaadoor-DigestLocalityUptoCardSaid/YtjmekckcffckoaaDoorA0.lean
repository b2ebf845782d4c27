import Derived.Test.YtjmekckcffckoaaDoorVmD
import Derived.Lib.Repeat
set_option linter.all false
namespace Go.Proofs.YtjmekckcffckoaaDoor.w
open Go Go.VM
set_option maxRecDepth 20000
def mixA (h b:Int):Int:=IntKind.u64.wrap (IntKind.u64.wrap (IntKind.u64.wrap (h + b) + 1) * 10723151780598845931)
def mixI (h b:Int):Int:=IntKind.u64.wrap (BitVec.ofInt 64 (mixA h b) ^^^ BitVec.ofInt 64 ((mixA h b).fdiv (2 ^ 31))).toNat
def sumI (s:Str):Int:=s.foldl (fun h b=>mixI h b.toNat) 11400714819323198485
theorem sumI_step {s:Str} {k:Nat} (h:k < s.length):sumI (s.take (k + 1)) = mixI (sumI (s.take k)) s[k].toNat:=by
  unfold sumI
  rw [List.take_add_one,List.getElem?_eq_getElem h,List.foldl_append]; rfl
theorem wrap_u64 (n:Int):0 ≤ IntKind.u64.wrap n ∧ IntKind.u64.wrap n < 18446744073709551616:=by
  have h:IntKind.u64.wrap n = n % 18446744073709551616:=rfl
  rw [h]
  omega
theorem sumI_bound (s:Str):0 ≤ sumI s ∧ sumI s < 18446744073709551616:=by
  rcases List.eq_nil_or_concat s with rfl | ⟨q,b,rfl⟩
  · decide
  · have:sumI (q.concat b) = mixI (sumI q) b.toNat:=by unfold sumI; rw [List.concat_eq_append,List.foldl_append]; rfl
    rw [this]
    exact wrap_u64 _
def sgn (n:Nat):UInt8:=if n < 10 then UInt8.ofNat (48 + n) else UInt8.ofNat (87 + n)
def hexD (n:Nat):Str:=if h:n < 16 then [sgn n] else hexD (n / 16) ++ [sgn (n % 16)]
termination_by n
decreasing_by omega
def hexK:Nat → Nat → Str
  | 0,_=>[]
  | k + 1,n=>hexK k (n / 16) ++ [sgn (n % 16)]
theorem hexK_zero:∀ k,hexK k 0 = List.replicate k 48
  | 0=>rfl
  | k + 1=>by
    unfold hexK
    rw [Nat.zero_div,hexK_zero k,List.replicate_succ']
    rfl
theorem hexK_len:∀ k n,(hexK k n).length = k
  | 0,_=>rfl
  | k + 1,n=>by unfold hexK; rw [List.length_append,hexK_len k]; rfl
theorem hexD_pad:∀ (k n:Nat),1 ≤ k → n < 16 ^ k → (hexD n).length ≤ k ∧ List.replicate (k - (hexD n).length) 48 ++ hexD n = hexK k n
  | 0,_,h,_=>by omega
  | k + 1,n,_,hn=>by
    by_cases h:n < 16
    · have e:hexD n = [sgn n]:=by rw [hexD,dif_pos h]
      have e2:n / 16 = 0:=by omega
      have e3:n % 16 = n:=by omega
      rw [e]
      refine ⟨by simp,?_⟩
      unfold hexK
      rw [e2,e3,hexK_zero]
      simp
    · have e:hexD n = hexD (n / 16) ++ [sgn (n % 16)]:=by rw [hexD,dif_neg h]
      have hk:1 ≤ k:=by
        rcases Nat.eq_zero_or_pos k with rfl | h1
        · simp at hn; omega
        · exact h1
      have hd:n / 16 < 16 ^ k:=by
        rw [Nat.pow_succ] at hn
        exact Nat.div_lt_of_lt_mul (by rw [Nat.mul_comm]; exact hn)
      obtain ⟨h1,h2⟩:=hexD_pad k (n / 16) hk hd
      rw [e]
      refine ⟨by simp; omega,?_⟩
      unfold hexK
      rw [← h2,List.length_append,← List.append_assoc]
      simp
def sumT (s:Str):Str:=hexK 16 (sumI s).toNat
end Go.Proofs.YtjmekckcffckoaaDoor.w
