import Derived.Test.YtjmekckcffckoaaDoorVmG
import Derived.Test.YtjmekckcffckoaaDoorVmQ
set_option linter.all false
namespace Go.VM
open Go
section
variable {P : Program} {N : Nat} {ops : Array Oper} {q : List VOper} {hqf : Nat → Heap} {Z : Nat → Heap → Heap → Prop}
def DrawC (P:Program) (hq:Heap) (c:Nat):Nat → List VOper → (Env → Heap → Prop) → Env → Heap → Prop
  | _,[],K,e,h=>K e h
  | k,o :: r,K,e,h=>match k == c with
    | true=>o.guard = none ∧ Zaf P e h o.op (fun v h'=>hq.le h' ∧ DrawC P hq c (k + 1) r K (e.put o.dst v) h')
    | false=>match o.op.simple,o.guard with
      | true,none=>Zaf P e h o.op (fun v h'=>hq.le h' ∧ DrawC P hq c (k + 1) r K (e.put o.dst v) h')
      | true,some _=>False
      | false,none=>QW P hq e o.op true (fun v=>DrawC P hq c (k + 1) r K (e.put o.dst v) h)
      | false,some (d,want)=>(match guardOf want (e.get d) with
        | some b=>QW P hq e o.op b (fun v=>DrawC P hq c (k + 1) r K (e.put o.dst v) h)
        | none=>False)
def lastB (q:List VOper) (c:Nat):Bool :=
  match q[c]? with
  | some x=>!x.op.simple && !x.op.det && x.guard.isNone && (List.range q.length).all fun j=>decide (j ≤ c) || (match q[j]? with | some y=>!x.apart y | none=>true)
  | none=>false
theorem lex_soundC {hq : Heap} {c : Nat} (hlast : lastB q c = true) {K : Env → Heap → Prop} (hK : Inv K) (hlen : ops.size = q.length) : ∀ (l : List VOper) (k : Nat) (listed : Array Bool) (e : Env) (h : Heap), (∀ j, l[j]? = q[k + j]?) → (∀ j, j < k → listed.getD j true = true) →
    drawB ops q l.length k listed = true → (∀ o ∈ q,o.op.closed = true) → DrawC P hq c k l K e h → AAny P ops q (fun _=>hq) (fun _ _ h'=>hq.le h') (c :: Zb1 q) K l.length listed e h
  | [],_,listed,e,h,_,_,hB,_,H=>⟨by simpa [drawB] using hB,H⟩
  | o :: l,k,listed,e,h,hl,hli,hB,hc,H=>by
    have h0:q[k]? = some o:=by simpa using (hl 0).symm
    have hkl:k < q.length:=(List.getElem?_eq_some_iff.1 h0).1
    simp only [List.length_cons,drawB,Bool.and_eq_true] at hB
    obtain ⟨⟨⟨hr,hf⟩,_⟩,hB'⟩:=hB
    have hl':∀ j,l[j]? = q[(k + 1) + j]?:=fun j=>by have:=hl (j + 1); simpa [Nat.add_assoc,Nat.add_comm 1 j] using this
    have hli':∀ j,j < k + 1 → (listed.setIfInBounds k true).getD j true = true:=fun j hj=>by
      by_cases hjk:k = j
      · subst hjk
        rcases Nat.lt_or_ge k listed.size with h' | h'
        · simp [h']
        · simp [Array.getD_eq_getD_getElem?,Array.getElem?_eq_none (show (listed.setIfInBounds k true).size ≤ k by simpa using h')]
      · rw [getD_set_ne true hjk]; exact hli j (by omega)
    have hEj:∀ (j:Nat) (oj:VOper),q[j]? = some oj → (j ∈ Zb1 q ↔ oj.op.simple = true):=by
      intro j oj hj
      have hjl:j < q.length:=(List.getElem?_eq_some_iff.1 hj).1
      simp only [Zb1,List.mem_filter,List.mem_range,effAt,hj]
      exact ⟨fun h=>h.2,fun h=>⟨hjl,h⟩⟩
    have hE:=hEj k o h0
    unfold lastB at hlast
    cases hqc:q[c]? with
    | none=>rw [hqc] at hlast; cases hlast
    | some oc =>
    rw [hqc] at hlast
    simp only [Bool.and_eq_true,Bool.not_eq_true',List.all_eq_true,List.mem_range,Bool.or_eq_true,decide_eq_true_eq] at hlast
    obtain ⟨⟨⟨c1,c2⟩,c3⟩,c4⟩:=hlast
    have hlast':lastB q c = true:=by
      unfold lastB
      rw [hqc]
      simp only [Bool.and_eq_true,Bool.not_eq_true',List.all_eq_true,List.mem_range,Bool.or_eq_true,decide_eq_true_eq]
      exact ⟨⟨⟨c1,c2⟩,c3⟩,c4⟩
    have ih:∀ e' h',DrawC P hq c (k + 1) l K e' h' → AAny P ops q (fun _=>hq) (fun _ _ h'=>hq.le h') (c :: Zb1 q) K l.length (listed.setIfInBounds k true) e' h' :=
      fun e' h' H'=>lex_soundC hlast' hK hlen l (k + 1) _ e' h' hl' hli' hB' hc H'
    refine AAny.first hK hc hlen h0 l.length listed e h ?_ (by simpa using hr) ?_
    · intro j oj goj hj hgj hjk hun hno
      have hjl:j < ops.size:=(Array.getElem?_eq_some_iff.1 hgj).1
      have hkj:k < j:=by
        rcases Nat.lt_or_ge k j with h' | h'
        · exact h'
        · have:=hli j (by omega); rw [hun] at this; cases this
      simp only [freeB,List.all_eq_true,List.mem_range] at hf
      have hfj:=hf j hjl
      rw [h0,hj,hun] at hfj
      simp only [hno,Bool.or_false,Bool.or_eq_true,beq_iff_eq,Bool.and_eq_true,Bool.not_eq_true',Bool.and_eq_false_iff] at hfj
      rcases hfj with hfj | hfj
      · exact absurd hfj hjk
      · obtain ⟨⟨g1,g2⟩,g3⟩:=hfj
        by_cases hkc:k = c
        · exfalso
          subst hkc
          rw [h0] at hqc
          simp only [Option.some.injEq] at hqc
          subst hqc
          rcases c4 j (by omega) with h' | h'
          · omega
          · rw [hj] at h'
            simp only [Bool.not_eq_true'] at h'
            rw [g1] at h'; cases h'
        · have kE:k ∈ c :: Zb1 q ↔ o.op.simple = true:=by simp [hkc,hE]
          refine ⟨g1,fun ⟨x1,x2⟩=>?_,fun x1=>?_⟩
          · have s1:=kE.1 x1
            rcases List.mem_cons.1 x2 with x2 | x2
            · subst x2
              rw [hj] at hqc
              simp only [Option.some.injEq] at hqc
              subst hqc
              rcases g3 with g3 | g3
              · rw [s1] at g3; cases g3
              · rw [c2] at g3; cases g3
            · rw [hEj j oj hj] at x2
              rcases g2 with g2 | g2
              · rw [s1] at g2; cases g2
              · rw [x2] at g2; cases g2
          · have x1':=kE.1 x1
            refine ⟨x1',?_⟩
            rcases g3 with g3 | g3
            · rw [x1'] at g3; cases g3
            · rw [g3]; rfl
    · have hq2 : ∀ b, k ≠ c → gOf o e b → QW P hq e o.op b (fun v => DrawC P hq c (k + 1) l K (e.put o.dst v) h) → o.op.simple = false → Zb0 P (fun _ => hq) (fun _ _ h' => hq.le h') (c :: Zb1 q) k o e h (AAny P ops q (fun _ => hq) (fun _ _ h' => hq.le h') (c :: Zb1 q) K l.length (listed.setIfInBounds k true)) := by
        intro b hkc hg hQ hs
        have hnE:k ∉ c :: Zb1 q:=fun hh=>by
          rcases List.mem_cons.1 hh with hh | hh
          · exact hkc hh
          · have:=hE.1 hh; rw [hs] at this; cases this
        refine (Zb7 hnE).2 ⟨b,hg,?_⟩
        unfold QW at hQ
        split at hQ
        · rename_i hd
          exact ⟨_,fun hh=>det_quiet hd (hQ.1 hh),ih _ _ hQ.2⟩
        · obtain ⟨v,v1,v2⟩:=hQ
          exact ⟨v,v1,ih _ _ v2⟩
      simp only [DrawC] at H
      split at H
      · rename_i hkc
        exact (Zce (List.mem_cons.2 (.inl (by simpa using hkc)))).2 ⟨H.1,H.2.mono fun v h' kk=>⟨kk.1,ih _ _ kk.2⟩⟩
      · rename_i hkc
        have hkc':k ≠ c:=by simpa using hkc
        split at H
        · rename_i hs hg
          exact (Zce (List.mem_cons_of_mem _ (hE.2 hs))).2 ⟨hg,H.mono fun v h' kk=>⟨kk.1,ih _ _ kk.2⟩⟩
        · exact H.elim
        · rename_i hs hg
          exact hq2 true hkc' (by simp [gOf,hg]) H hs
        · rename_i hs hg
          split at H
          · rename_i b hgc
            exact hq2 b hkc' (by simp [gOf,hg,hgc]) H hs
          · exact H.elim
theorem DrawC_at {P:Program} {hq:Heap} {c:Nat} {dst:Option Nat} {op:VOp} {r:List VOper} {K:Env → Heap → Prop} {e:Env} {h:Heap}:DrawC P hq c c (⟨dst,op,none⟩ :: r) K e h = Zaf P e h op (fun v h'=>hq.le h' ∧ DrawC P hq c (c + 1) r K (e.put dst v) h'):=by
  simp only [DrawC,beq_self_eq_true,true_and]
theorem DrawC_n {P : Program} {hq : Heap} {c k : Nat} {dst : Option Nat} {op : VOp} {r : List VOper} {K : Env → Heap → Prop} {e : Env} {h : Heap} (hk : (k == c) = false) : DrawC P hq c k (⟨dst, op, none⟩ :: r) K e h = (match op.simple with
    | true=>Zaf P e h op (fun v h'=>hq.le h' ∧ DrawC P hq c (k + 1) r K (e.put dst v) h')
    | false=>QW P hq e op true (fun v=>DrawC P hq c (k + 1) r K (e.put dst v) h)):=by
  cases hs:op.simple <;> simp only [DrawC,hk,hs]
theorem DrawC_nil {P:Program} {hq:Heap} {c k:Nat} {K:Env → Heap → Prop} {e:Env} {h:Heap}:DrawC P hq c k [] K e h = K e h:=rfl
end
end Go.VM
namespace Go.VM
open Go
section
variable {P : Program} {N : Nat} {q : List VOper}
theorem VW_drawC {Q : Exit → Env → Heap → Prop} {e : Env} {h : Heap} (c : Nat) (hq : Heap) (l : List Nat) (hlast : lastB q c = true) (hl : hq.le h)
    (H:DrawC P hq c 0 q (fun e' h'=>Q .normal (Env.keep l e') h') e h):VW P N (.region q true) Q e h:=by
  intro cc hc
  cases cc
  case region id ops draw =>
    obtain ⟨p,h3,h' | h' | h'⟩:=cCode_region hc
    · obtain ⟨_,h'⟩:=h'
      simp at h'
    · obtain ⟨hd,hB,h' | h'⟩:=h'
      · obtain ⟨_,h'⟩:=h'
        simp only [VC.region.injEq] at h'
        obtain ⟨h',_⟩:=h'
        subst h'
        subst hd
        simp only [Bool.and_eq_true] at hB
        obtain ⟨hm,hB⟩:=hB
        obtain ⟨hlen,_⟩:=cOpers_get h3
        rw [Array.length_toList] at hlen
        have hcl:∀ o ∈ q,o.op.closed = true:=by
          cases q with
          | nil=>intro o ho; cases ho
          | cons x xs =>
            rw [hlen] at hB
            simp only [List.length_cons,drawB,Bool.and_eq_true] at hB
            exact fun o ho=>List.all_eq_true.1 hB.1.2 o ho
        intro g w a r he hd hs
        refine wp_region_any hm ?_
        have hany:=lex_soundC (P:=P) hlast (K:=fun e' h'=>Q .normal (Env.keep l e') h') (fun e1 e2 h1 hee hk=>by have hk':Q .normal (Env.keep l e1) h1:=hk; rw [keep_eqv hee l] at hk'; exact hk') hlen q 0 (Array.replicate ops.size false) e h (fun j=>by simp) (fun j hj=>absurd hj (Nat.not_lt_zero _)) (by rw [← hlen]; exact hB) hcl H
        rw [← hlen] at hany
        exact any_sound (N:=N) h3 (fun _ h=>Heap.le hq h) (fun _ _ _ _ hi _ _ _=>.inl hi) (fun _ _ _ hi _ _=>hi) (fun _ _ _ _ _ _ _ hz=>hz) (Q:=fun x a' w'=>∃ g' e' h',Q x e' h' ∧ Rel g' w' h' ∧ Zar g' a' e' ∧ a'.defers = [] ∧ a'.tmps.size = N ∧ Evo g w h g' w' h') (g0:=g) (w0:=w) (h0:=h)
          (fun g' w' h' a' e' k1 k2 k3 k4 k5 k6=>⟨g',_,h',k1,k2,k3.keep l,k4,k5,k6⟩) _ _ e h hany hl g _ a (r.drew _) he hd hs (Evo.drew _ _ _ _)
      · cases h'
    · obtain ⟨c,h'⟩:=h'; cases h'
  all_goals
    simp only [cCode,Option.map_eq_some_iff] at hc
    first
    | (simp at hc; done)
    | (split at hc <;> simp at hc)
end
end Go.VM
namespace Go.VM
open Go
def Off (L:List (Nat × AB)) (t:Nat):Prop:=∀ q ∈ L,q.1 ≠ t
theorem Off.get {L:List (Nat × AB)} {t:Nat} (h:Off L t):HL.get L t = none:=HL.get_no fun q hq e=>h q hq e.symm
theorem Off.del:∀ {L:List (Nat × AB)} {t:Nat},Off L t → HL.del L t = L
  | [],_,_=>rfl
  | (k,v) :: r,t,h=>by
    have hk:¬ k = t:=h (k,v) (by simp)
    simp only [HL.del,if_neg hk]
    rw [Off.del (L:=r) (t:=t) (fun q hq=>h q (by simp [hq]))]
theorem Off.lt {L:List (Nat × AB)} {t u:Nat} (h:∀ q ∈ L,q.1 < t) (hu:t ≤ u):Off L u:=fun q hq e=>by have:=h q hq; omega
end Go.VM
