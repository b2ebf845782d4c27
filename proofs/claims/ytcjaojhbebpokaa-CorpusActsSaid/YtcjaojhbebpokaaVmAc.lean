/-
  The check that a drawn region's order does not matter, in an order that is cheap for long regions: the same answer.
-/
import Derived.Test.YtcjaojhbebpokaaVmB
set_option linter.all false
namespace Go.VM
open Go
theorem behind_one {ops : Array Oper} {listed : Array Bool} {k j : Nat} (h : behindB ops listed 1 k j = true) : behindB ops listed ops.size k j = true := by
  have hs : 0 < ops.size := by
    simp only [behindB] at h
    cases e : ops[j]? with
    | none => rw [e] at h; cases h
    | some o =>
      have := (Array.getElem?_eq_some_iff.1 e).1
      omega
  obtain ⟨n, hn⟩ : ∃ n, ops.size = n + 1 := ⟨ops.size - 1, by omega⟩
  rw [hn]
  simp only [behindB] at h ⊢
  cases e : ops[j]? with
  | none => rw [e] at h; cases h
  | some o =>
    rw [e] at h
    simp only [Bool.and_false, Bool.or_false, Array.any_eq_true, Bool.and_eq_true] at h ⊢
    obtain ⟨i, hi, h1, h2⟩ := h
    exact ⟨i, hi, h1, by rw [h2]; rfl⟩
def freeQ (ops : Array Oper) (q : List VOper) (listed : Array Bool) (k : Nat) : Bool :=
  (List.range ops.size).all fun j => j == k || listed.getD j true ||
    ((match q[k]?, q[j]? with
    | some x, some y => x.apart y && !(x.op.simple && y.op.simple) && (!x.op.simple || y.op.det)
    | _, _ => false) || (behindB ops listed 1 k j || behindB ops listed ops.size k j))
theorem freeQ_eq (ops : Array Oper) (q : List VOper) (listed : Array Bool) (k : Nat) : freeQ ops q listed k = freeB ops q listed k := by
  unfold freeQ freeB
  congr 1
  funext j
  have h := @behind_one ops listed k j
  generalize behindB ops listed 1 k j = d at h ⊢
  generalize behindB ops listed ops.size k j = B at h ⊢
  generalize (j == k) = x
  generalize listed.getD j true = y
  generalize q[k]? = o1
  generalize q[j]? = o2
  rcases o1 with _ | o1 <;> rcases o2 with _ | o2
  · cases d <;> cases B <;> simp_all
  · cases d <;> cases B <;> simp_all
  · cases d <;> cases B <;> simp_all
  · simp only []
    generalize (o1.apart o2 && !(o1.op.simple && o2.op.simple) && (!o1.op.simple || o2.op.det)) = m
    cases m <;> cases d <;> cases B <;> simp_all
def drawQ (ops : Array Oper) (q : List VOper) : Nat → Nat → Array Bool → Bool
  | 0, _, listed => (Region.ready .any ops listed).isEmpty
  | n + 1, k, listed => (Region.ready .any ops listed).contains k && freeQ ops q listed k && q.all (fun o => o.op.closed) && drawQ ops q n (k + 1) (listed.setIfInBounds k true)
theorem drawQ_eq (ops : Array Oper) (q : List VOper) : ∀ (n k : Nat) (listed : Array Bool), drawQ ops q n k listed = drawB ops q n k listed
  | 0, _, _ => rfl
  | n + 1, k, listed => by simp only [drawQ, drawB, freeQ_eq, drawQ_eq ops q n]
def cCodeQ (P : Program) (N : Nat) : Code → Option VC
  | .skip => some .skip
  | .region id ops draw => match cOpers P N ops ops.toList with
    | some q => if draw then (if P.follows .mixedOrders && drawQ ops q ops.size 0 (Array.replicate ops.size false) then (if q.any (fun o => o.op.writes) then some (.draw2 q (lateL ops q)) else some (.region q true)) else some (.other (.region id ops draw))) else some (.region q false)
    | none => none
  | .seq a b => match cCodeQ P N a, cCodeQ P N b with
    | some x, some y => some (.seq x y)
    | _, _ => none
  | .cond c a b => match cA c, cCodeQ P N a, cCodeQ P N b with
    | some v, some x, some y => some (.cond v x y)
    | _, _, _ => none
  | .block id c => (cCodeQ P N c).map (.block id)
  | .loop c => (cCodeQ P N c).map .loop
  | .exit id => some (.exit id)
  | .ret => some .ret
  | c => some (.other c)
theorem cCodeQ_eq (P : Program) (N : Nat) (c : Code) : cCodeQ P N c = cCode P N c := by
  induction c using cCodeQ.induct P N <;> (try unfold cCodeQ cCode) <;> simp_all [drawQ_eq]
theorem ACall_fnQ {P : Program} {h : Heap} {f : FuncId} {fn : Func} {c : Code} {vc : VC} {ts : List RS} {args : List PV} {K : PV → Heap → Prop} (hf : P.funcs[f]? = some fn) (hok : fnOk P f = true) (hb : fn.body = some c) (hr : rsOf P fn.results.toList = some ts)
    (hn : args.length ≤ fn.ntmps) (hc : cCodeQ P fn.ntmps c = some vc) (H : VW P fn.ntmps vc (retQ ts K) (argEnv 0 args) h) : ACall P f args h K :=
  ACall_fn hf hok hb hr hn (by rw [← cCodeQ_eq]; exact hc) H
end Go.VM

