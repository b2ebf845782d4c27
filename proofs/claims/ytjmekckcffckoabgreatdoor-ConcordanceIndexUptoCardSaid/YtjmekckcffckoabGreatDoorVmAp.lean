import Derived.Test.YtjmekckcffckoabGreatDoorVmA
set_option linter.all false
namespace Go.VM
open Go
section
variable {P : Program} {N : Nat} {hqf : Nat → Heap} {Z : Nat → Heap → Heap → Prop} {E : List Nat} {ops : Array Oper} {q : List VOper}
def freeL (ops:Array Oper) (q:List VOper) (listed:Array Bool) (k:Nat):Bool :=
  (List.range ops.size).all fun j=>j == k || listed.getD j true ||
    Zcv ops listed ops.size k j ||
    (match q[k]?,q[j]? with
    | some x,some y=>x.apart y && !(x.op.simple && y.op.simple) && (!x.op.simple || (y.op.det || x.op.sure))
    | _,_=>false)
def drawL (ops:Array Oper) (q:List VOper):Nat → Nat → Array Bool → Bool
  | 0,_,listed=>(Region.ready .any ops listed).isEmpty
  | n + 1,k,listed=>(Region.ready .any ops listed).contains k && freeL ops q listed k && q.all (fun o=>o.op.closed) && drawL ops q n (k + 1) (listed.setIfInBounds k true)
theorem lex_soundL {K : Env → Heap → Prop} (hK : Inv K) (hlen : ops.size = q.length) : ∀ (l : List VOper) (k : Nat) (listed : Array Bool) (e : Env) (h : Heap), (∀ j, l[j]? = q[k + j]?) →
    drawL ops q l.length k listed = true → (∀ o ∈ q,o.op.closed = true) → DrawG P hqf Z k l K e h → AAny P ops q hqf Z (effIdx q) K l.length listed e h
  | [],_,listed,e,h,_,hB,_,H=>⟨by simpa [drawL] using hB,H⟩
  | o :: l,k,listed,e,h,hl,hB,hc,H=>by
    have h0:q[k]? = some o:=by simpa using (hl 0).symm
    have hkl:k < q.length:=(List.getElem?_eq_some_iff.1 h0).1
    simp only [List.length_cons,drawL,Bool.and_eq_true] at hB
    obtain ⟨⟨⟨hr,hf⟩,_⟩,hB'⟩:=hB
    have hl':∀ j,l[j]? = q[(k + 1) + j]?:=fun j=>by have:=hl (j + 1); simpa [Nat.add_assoc,Nat.add_comm 1 j] using this
    have hE:k ∈ effIdx q ↔ o.op.simple = true:=by
      simp only [effIdx,List.mem_filter,List.mem_range,effAt,h0]
      exact ⟨fun h=>h.2,fun h=>⟨hkl,h⟩⟩
    have hEj:∀ (j:Nat) (oj:VOper),q[j]? = some oj → (j ∈ effIdx q ↔ oj.op.simple = true):=by
      intro j oj hj
      have hjl:j < q.length:=(List.getElem?_eq_some_iff.1 hj).1
      simp only [effIdx,List.mem_filter,List.mem_range,effAt,hj]
      exact ⟨fun h=>h.2,fun h=>⟨hjl,h⟩⟩
    refine AAny.first hK hc hlen h0 l.length listed e h ?_ (by simpa using hr) ?_
    · intro j oj goj hj hgj hjk hun hno
      have hjl:j < ops.size:=(Array.getElem?_eq_some_iff.1 hgj).1
      simp only [freeL,List.all_eq_true,List.mem_range] at hf
      have hfj:=hf j hjl
      rw [h0,hj,hun] at hfj
      simp only [hno,Bool.or_false,Bool.or_eq_true,beq_iff_eq,Bool.and_eq_true,Bool.not_eq_true',Bool.and_eq_false_iff] at hfj
      rcases hfj with hfj | hfj
      · exact absurd hfj hjk
      · obtain ⟨⟨g1,g2⟩,g3⟩:=hfj
        refine ⟨g1,fun ⟨x1,x2⟩=>?_,fun x1=>?_⟩
        · rw [hE] at x1; rw [hEj j oj hj] at x2
          rcases g2 with g2 | g2
          · rw [x1] at g2; cases g2
          · rw [x2] at g2; cases g2
        · have x1':=hE.1 x1
          refine ⟨x1',?_⟩
          rcases g3 with g3 | g3
          · rw [x1'] at g3; cases g3
          · rw [Bool.or_eq_true]; exact g3
    · have ih : ∀ e' h', DrawG P hqf Z (k + 1) l K e' h' → AAny P ops q hqf Z (effIdx q) K l.length (listed.setIfInBounds k true) e' h' :=
        fun e' h' H'=>lex_soundL hK hlen l (k + 1) _ e' h' hl' hB' hc H'
      have hq2:∀ c,gOf o e c → QW P (hqf k) e o.op c (fun v=>DrawG P hqf Z (k + 1) l K (e.put o.dst v) h) → o.op.simple = false → AStep P hqf Z (effIdx q) k o e h (AAny P ops q hqf Z (effIdx q) K l.length (listed.setIfInBounds k true)):=by
        intro c hg hQ hs
        have hnE:k ∉ effIdx q:=fun hh=>by have:=hE.1 hh; rw [hs] at this; cases this
        refine (AStep_q hnE).2 ⟨c,hg,?_⟩
        unfold QW at hQ
        split at hQ
        · rename_i hd
          exact ⟨_,fun hh=>det_quiet hd (hQ.1 hh),ih _ _ hQ.2⟩
        · obtain ⟨v,v1,v2⟩:=hQ
          exact ⟨v,v1,ih _ _ v2⟩
      simp only [DrawG] at H
      split at H
      · rename_i hs hg
        exact (AStep_E (hE.2 hs)).2 ⟨hg,H.mono fun v h' kk=>⟨kk.1,ih _ _ kk.2⟩⟩
      · exact H.elim
      · rename_i hs hg
        exact hq2 true (by simp [gOf,hg]) H hs
      · rename_i hs hg
        split at H
        · rename_i c hgc
          exact hq2 c (by simp [gOf,hg,hgc]) H hs
        · exact H.elim
theorem VW_drawL {Q : Exit → Env → Heap → Prop} {e : Env} {h : Heap} {id : Nat} {ops : Array Oper} {q : List VOper} (l : List Nat) (hq : Heap) (hl : hq.le h) (h3 : cOpers P N ops ops.toList = some q) (hB : (P.follows .mixedOrders && drawL ops q ops.size 0 (Array.replicate ops.size false)) = true)
    (H:Zc1 P hq q (fun e' h'=>Q .normal (Env.keep l e') h') e h):VW P N (.other (.region id ops true)) Q e h:=by
  intro c hc
  have hc':c = .region id ops true:=by
    cases c
    case region id' ops' draw' =>
      obtain ⟨p,h3',h' | h' | h'⟩:=cCode_region hc
      · obtain ⟨_,h'⟩:=h'; cases h'
      · obtain ⟨_,_,h' | h'⟩:=h'
        · obtain ⟨_,h'⟩:=h'; cases h'
        · cases h'
      · simp only [cCode] at hc
        rw [h3'] at hc
        simp only at hc
        split at hc
        · split at hc
          · split at hc <;> simp at hc
          · simpa using hc
        · simp at hc
    all_goals
      simp only [cCode,Option.map_eq_some_iff] at hc
      first
      | (simp at hc; done)
      | (split at hc <;> simp at hc; done)
      | (simpa using hc)
  subst hc'
  simp only [Bool.and_eq_true] at hB
  obtain ⟨hm,hB⟩:=hB
  obtain ⟨hlen,_⟩:=cOpers_get h3
  rw [Array.length_toList] at hlen
  have hcl:∀ o ∈ q,o.op.closed = true:=by
    cases q with
    | nil=>intro o ho; cases ho
    | cons x xs =>
      rw [hlen] at hB
      simp only [List.length_cons,drawL,Bool.and_eq_true] at hB
      exact fun o ho=>List.all_eq_true.1 hB.1.2 o ho
  intro g w a r he hd hs
  refine wp_region_any hm ?_
  have hany:=lex_soundL (P:=P) (K:=fun e' h'=>Q .normal (Env.keep l e') h') (fun e1 e2 h1 hee hk=>by have hk':Q .normal (Env.keep l e1) h1:=hk; rw [keep_eqv hee l] at hk'; exact hk') hlen q 0 (Array.replicate ops.size false) e h (fun j=>by simp) (by rw [← hlen]; exact hB) hcl H.toG
  rw [← hlen] at hany
  exact any_sound (N:=N) h3 (fun _ h=>hq.le h) (fun _ _ _ _ hi _ _ _=>.inl hi) (fun _ _ _ hi _ _=>hi) (fun _ _ _ _ _ _ _ hz=>hz) (Q:=fun x a' w'=>∃ g' e' h',Q x e' h' ∧ Rel g' w' h' ∧ Zcb g' a' e' ∧ a'.defers = [] ∧ a'.tmps.size = N ∧ Evo g w h g' w' h') (g0:=g) (w0:=w) (h0:=h)
    (fun g' w' h' a' e' k1 k2 k3 k4 k5 k6=>⟨g',_,h',k1,k2,k3.keep l,k4,k5,k6⟩) _ _ e h hany hl g _ a (r.drew _) he hd hs (Evo.drew _ _ _ _)
end
end Go.VM
