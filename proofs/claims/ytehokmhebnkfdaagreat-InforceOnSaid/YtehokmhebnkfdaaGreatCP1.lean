import Derived.Test.YtehokmhebnkfdaaGreatCTu
set_option linter.all false
namespace Go.Proofs.YtehokmhebnkfdaaGreat.c
open Go Go.VM
theorem find_snoc (p:EI → Bool) (l:List EI) (x:EI):(l ++ [x]).find? p = (l.find? p).or (if p x then some x else none):=by
  rw [List.find?_append]
  simp only [List.find?_cons,List.find?_nil]
  cases p x <;> rfl
theorem sp_ext {l m:List Sp} (h1:Canon l) (h2:Canon m) (h:∀ d,memS l d ↔ memS m d):l = m:=Zcd.unique h1 h2 h
end Go.Proofs.YtehokmhebnkfdaaGreat.c
