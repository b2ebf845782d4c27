import Derived.Test.YtehokmhebnkfdaaGreatQ2
import Derived.Test.YtehokmhebnkfdaaGreatCTu
set_option linter.all false
namespace Go.Proofs.YtehokmhebnkfdaaGreat.w
open Go Go.VM
def isChg (d:EI):Bool:=decide (0 ≤ d.it.kind) && decide (d.it.kind ≤ 6)
abbrev dds (l:List Gz):List EI:=deedsS (Zbr (rowG l))
def chgS (l:List Gz):List EI:=(dds l).filter isChg
def startA (acts:List Ac) (n:Int):Sta:=match acts.find? (fun a=>a.number == n) with
  | some a=>a.start
  | none=>⟨0,0,[]⟩
noncomputable def Zcj (l:List Gz) (d:EI):List Sp:=c.Zc7 (startA (Zbr (rowG l)) d.act) d (dds l)
def startM (acts:List Ac):List (PV × PV):=acts.map fun a=>(pI a.number,.agg a.start.enc)
theorem startM_find (n:Int):∀ acts:List Ac,Zb9 (pI n) (startM acts) = (acts.find? fun a=>a.number == n).map fun a=>.agg a.start.enc
  | []=>rfl
  | x :: r=>by
    have ih:=startM_find n r
    simp only [startM,List.map_cons,Zb9,Zdj,PV.cells,Zbe,Zb8,Bool.and_true,List.find?_cons] at ih ⊢
    by_cases h:x.number = n
    · subst h; simp
    · have h1:(n == x.number) = false:=by simpa using fun e=>h e.symm
      have h2:(x.number == n) = false:=by simpa using h
      rw [h1,h2,ih]; simp
theorem startM_put (a:Ac):∀ acts:List Ac,(∀ b ∈ acts,b.number ≠ a.number) → mapPut (pI a.number) (.agg a.start.enc) (startM acts) = startM (acts ++ [a])
  | [],_=>rfl
  | x :: r,h=>by
    have ih:=startM_put a r (fun b hb=>h b (by simp [hb]))
    have h0:=h x (by simp)
    simp only [startM,List.map_cons,mapPut,Zdj,PV.cells,Zbe,Zb8,Bool.and_true,List.cons_append] at ih ⊢
    have h1:(a.number == x.number) = false:=by simpa using fun e=>h0 e.symm
    rw [h1,ih]; simp
theorem startM_keys (n:Int) (acts:List Ac):keysOk (.one .i) (pI n) (startM acts):=by
  refine ⟨rfl,fun p hp=>?_⟩
  simp only [startM,List.mem_map] at hp
  obtain ⟨x,_,rfl⟩:=hp
  rfl
theorem startM_look (n:Int) (acts:List Ac):lookV (.agg [.int .i64 0,.int .i64 0,.str []]) false (Zb9 (pI n) (startM acts)) = .agg (startA acts n).enc:=by
  rw [startM_find]
  unfold startA
  cases acts.find? (fun a=>a.number == n) <;> rfl
theorem acts_apart {row:List Ac} {k:Nat} (hk:k < (Zbr row).length):∀ b ∈ (Zbr row).take k,b.number ≠ (Zbr row)[k].number:=by
  intro b hb
  obtain ⟨j,hj,rfl⟩:=List.mem_iff_getElem.1 hb
  rw [List.length_take] at hj
  rw [List.getElem_take]
  exact List.pairwise_iff_getElem.1 (acts_num row) j k (by omega) hk (by omega)
theorem chg_kind {d:EI}:isChg d = true ↔ 0 ≤ d.it.kind ∧ d.it.kind ≤ 6:=by simp [isChg]
theorem days_canon (l:List Gz) (d:EI):Canon (Zcj l d):=(c.force_canon _ _ _).1
theorem days_len (l:List Gz) (d:EI):(Zcj l d).length ≤ (dds l).length + 1:=(c.force_canon _ _ _).2
theorem chg_sub (l:List Gz):(chgS l).Sublist (dds l):=List.filter_sublist
end Go.Proofs.YtehokmhebnkfdaaGreat.w
