import Derived.Test.YtjmekckcffckoabGreatDoorVmP
import Derived.Test.YtjmekckcffckoabGreatDoorVmA
import Derived.SizedLaws
set_option linter.all false
namespace Go.VM
open Go
def Light {H:Type} (P:Program) (t:TypeId) (d:DataW H):Prop:=∀ n ∈ d.weights P t,n ≤ reachBytes
structure ReadsZ (P : Program) (W : World) (n : Nat) (t : TypeId) {α : Type} (ok : α → Prop) (enc : α → List PV) : Prop where
  run : ∀ (_ : KnownW W) (H : Type) (en : TypeId × Value → H) (base : Nat) (spare : Nat → Bool) (held : Bool) (cs : List Value) (x : DataW H × List MemPlace), DataW.trod en P W base spare held n t cs = some x → Light P t x.1 → ∃ a, ok a ∧ CRep (g0 W) cs (enc a)
section
variable {P : Program} {W : World} {n : Nat} {t : TypeId}
theorem Reads.z {α:Type} {ok:α → Prop} {enc:α → List PV} (h:Reads P W n t ok enc):ReadsZ P W n t ok enc:=⟨fun hk H en base spare held cs x hx _=>h.run hk H en base spare held cs x hx⟩
theorem ReadsZ.map {α β:Type} {ok:α → Prop} {enc:α → List PV} {ok':β → Prop} {enc':β → List PV} (f:α → β) (h:ReadsZ P W n t ok enc) (ho:∀ a,ok a → ok' (f a)) (he:∀ a,enc' (f a) = enc a):ReadsZ P W n t ok' enc' :=
  ⟨fun hk H en base spare held cs x hx hz=>by
    obtain ⟨a,a1,a2⟩:=h.run hk H en base spare held cs x hx hz
    exact ⟨f a,ho a a1,by rw [he]; exact a2⟩⟩
structure FReadsZ (P : Program) (W : World) (n : Nat) (fs : List Field) (o : Nat) {α : Type} (ok : α → Prop) (enc : α → List PV) : Prop where
  run : ∀ (_ : KnownW W) (H : Type) (en : TypeId × Value → H) (base : Nat) (spare : Nat → Bool) (held : Bool) (cs : List Value),
    (∀ f ∈ fs, ∃ x, DataW.trod en P W base spare held n f.type ((cs.drop f.offset).take (P.cellsOf f.type)) = some x ∧ Light P f.type x.1) → ∃ a, ok a ∧ CRep (g0 W) ((cs.drop o).take (enc a).length) (enc a)
theorem ReadsZ.one (hk : KnownW W) {α : Type} {ok : α → Prop} {enc : α → PV} {H : Type} {en : TypeId × Value → H} {base : Nat} {spare : Nat → Bool} {held : Bool} {v : Value} {d : DataW H} {ps : List MemPlace}
    (h:∀ n,ReadsZ P W n t ok (fun a=>[enc a])) (hv:v.cells = #[v]) (hd:DataW.Trod en P W base spare held t v d ps) (hw:Light P t d):∃ a,ok a ∧ Rep (g0 W) v (enc a):=by
  obtain ⟨fuel,hx⟩:=hd
  obtain ⟨a,a1,a2,a3⟩:=(h fuel).run hk H en base spare held _ _ hx hw
  rw [hv] at a3
  exact ⟨a,a1,(a3 0 (by simp)).2⟩
theorem ReadsZ.agg (hk : KnownW W) {α : Type} {ok : α → Prop} {enc : α → List PV} {H : Type} {en : TypeId × Value → H} {base : Nat} {spare : Nat → Bool} {held : Bool} {vs : Array Value} {d : DataW H} {ps : List MemPlace}
    (h:∀ n,ReadsZ P W n t ok enc) (hd:DataW.Trod en P W base spare held t (.agg vs) d ps) (hw:Light P t d):∃ a,ok a ∧ Rep (g0 W) (.agg vs) (.agg (enc a)):=by
  obtain ⟨fuel,hx⟩:=hd
  obtain ⟨a,a1,a2,a3⟩:=(h fuel).run hk H en base spare held _ _ hx hw
  simp only [Value.cells] at a2 a3
  refine ⟨a,a1,.agg _ _ (by simpa using a2) (fun j hj=>?_) (fun j hj=>?_)⟩
  · have:=(a3 j hj).1; simpa [Array.getD_eq_getD_getElem?] using this
  · have:=(a3 j hj).2; simpa [Array.getD_eq_getD_getElem?] using this
end
end Go.VM
