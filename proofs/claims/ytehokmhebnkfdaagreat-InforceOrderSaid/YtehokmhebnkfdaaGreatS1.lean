import Derived.Test.YtehokmhebnkfdaaGreatVmA
set_option linter.all false
namespace Go.VM
open Go
section
variable {α : Type} {le : α → α → Prop}
def seg (d:Nat → α) (a b:Nat):List α:=(List.range' a (b - a)).map d
theorem mem_seg {d:Nat → α} {a b:Nat} {x:α}:x ∈ seg d a b ↔ ∃ i,a ≤ i ∧ i < b ∧ d i = x:=by
  simp only [seg,List.mem_map,List.mem_range'_1]
  constructor
  · rintro ⟨i,⟨h1,h2⟩,h3⟩; exact ⟨i,h1,by omega,h3⟩
  · rintro ⟨i,h1,h2,h3⟩; exact ⟨i,⟨h1,by omega⟩,h3⟩
theorem Zdq (d:Nat → α) {a m b:Nat} (h1:a ≤ m) (h2:m ≤ b):seg d a b = seg d a m ++ seg d m b:=by
  simp only [seg,← List.map_append]
  congr 1
  have:=List.range'_append_1 (s:=a) (m:=m - a) (n:=b - m)
  rw [show a + (m - a) = m by omega,show m - a + (b - m) = b - a by omega] at this
  exact this.symm
theorem seg_congr {d d':Nat → α} {a b:Nat} (h:∀ i,a ≤ i → i < b → d' i = d i):seg d' a b = seg d a b:=by
  simp only [seg]
  refine List.map_congr_left fun i hi=>?_
  have:=List.mem_range'_1.1 hi
  exact h i this.1 (by omega)
theorem seg_shift {d d':Nat → α} {a b a':Nat} (h:∀ i,i < b - a → d' (a' + i) = d (a + i)):seg d' a' (a' + (b - a)) = seg d a b:=by
  simp only [seg,Nat.add_sub_cancel_left]
  rw [List.range'_eq_map_range,List.range'_eq_map_range,List.map_map,List.map_map]
  refine List.map_congr_left fun i hi=>?_
  exact h i (List.mem_range.1 hi)
def Srt (le:α → α → Prop) (d:Nat → α) (a b:Nat):Prop:=∀ i j,a ≤ i → i < j → j < b → le (d i) (d j)
def Same (d d':Nat → α) (a b:Nat):Prop:=∀ i,i < a ∨ b ≤ i → d' i = d i
structure Mrg (le : α → α → Prop) (d d' : Nat → α) (a m b : Nat) : Prop where
  out : Same d d' a b
  perm : (seg d' a b).Perm (seg d a b)
  srt : Srt le d a m → Srt le d m b → Srt le d' a b
structure Rot (d d' : Nat → α) (s m e : Nat) : Prop where
  out : Same d d' s e
  fst : ∀ i, i < e - m → d' (s + i) = d (m + i)
  snd : ∀ i, i < m - s → d' (s + (e - m) + i) = d (s + i)
theorem Rot.perm {d d':Nat → α} {s m e:Nat} (h:Rot d d' s m e) (h1:s ≤ m) (h2:m ≤ e):(seg d' s e).Perm (seg d s e):=by
  rw [Zdq d' (show s ≤ s + (e - m) by omega) (show s + (e - m) ≤ e by omega),Zdq d h1 h2]
  have e1:seg d' s (s + (e - m)) = seg d m e:=seg_shift h.fst
  have e2:seg d' (s + (e - m)) e = seg d s m:=by
    have:=seg_shift (a':=s + (e - m)) h.snd
    rwa [show s + (e - m) + (m - s) = e by omega] at this
  rw [e1,e2]
  exact List.perm_append_comm
structure Swp (d d' : Nat → α) (a b n : Nat) : Prop where
  fst : ∀ i, i < n → d' (a + i) = d (b + i)
  snd : ∀ i, i < n → d' (b + i) = d (a + i)
  out : ∀ i, (i < a ∨ a + n ≤ i) → (i < b ∨ b + n ≤ i) → d' i = d i
theorem Rot.last {d d':Nat → α} {m i:Nat} (hi:i ≤ m) (h:Swp d d' (m - i) m i):Rot d d' (m - i) m (m + i):=by
  refine ⟨fun k hk=>h.out k (by omega) (by omega),fun k hk=>h.fst k (by omega),fun k hk=>?_⟩
  have:=h.snd k (by omega)
  rwa [show m - i + (m + i - m) + k = m + k by omega]
theorem Rot.left {d d1 d':Nat → α} {m i j:Nat} (hi:i ≤ m) (hij:j < i) (h:Swp d d1 (m - i) m j) (hr:Rot d1 d' (m - (i - j)) m (m + j)):Rot d d' (m - i) m (m + j):=by
  refine ⟨fun k hk=>?_,fun k hk=>?_,fun k hk=>?_⟩
  · rw [hr.out k (by omega),h.out k (by omega) (by omega)]
  · rw [hr.out _ (by omega),h.fst k (by omega)]
  · rcases Nat.lt_or_ge k j with h1 | h1
    · have:=hr.fst k (by omega)
      rw [show m - i + (m + j - m) + k = m - (i - j) + k by omega,this,h.snd k h1]
    · have:=hr.snd (k - j) (by omega)
      rw [show m - (i - j) + (m + j - m) + (k - j) = m - i + (m + j - m) + k by omega] at this
      rw [this,show m - (i - j) + (k - j) = m - i + k by omega,h.out _ (by omega) (by omega)]
theorem Rot.right {d d1 d':Nat → α} {m i j:Nat} (hi:i ≤ m) (hij:i < j) (h:Swp d d1 (m - i) (m + j - i) i) (hr:Rot d1 d' (m - i) m (m + (j - i))):Rot d d' (m - i) m (m + j):=by
  refine ⟨fun k hk=>?_,fun k hk=>?_,fun k hk=>?_⟩
  · rw [hr.out k (by omega),h.out k (by omega) (by omega)]
  · rcases Nat.lt_or_ge k (j - i) with h1 | h1
    · rw [hr.fst k (by omega),h.out _ (by omega) (by omega)]
    · have:=hr.snd (k - (j - i)) (by omega)
      rw [show m - i + (m + (j - i) - m) + (k - (j - i)) = m - i + k by omega] at this
      rw [this,h.fst _ (by omega)]
      congr 1; omega
  · have:=h.snd k (by omega)
    rw [hr.out _ (by omega),show m - i + (m + j - m) + k = m + j - i + k by omega,this]
theorem Mrg.of_sorted {d:Nat → α} {a m b:Nat} (h:Srt le d a m → Srt le d m b → Srt le d a b):Mrg le d d a m b:=⟨fun _ _=>rfl,.refl _,h⟩
theorem Mrg.join {d d1 d2 d3 : Nat → α} {a s m e b mid : Nat} (hle : ∀ {x y z}, le x y → le y z → le x z) (h1 : a ≤ s) (h2 : s ≤ m) (h3 : m ≤ e) (h4 : e ≤ b) (hm : mid = s + (e - m))
    (hr:Rot d d1 s m e) (m1:Mrg le d1 d2 a s mid) (m2:Mrg le d2 d3 mid e b)
    (x1:Srt le d a m → Srt le d m b → s = a ∨ e = b ∨ le (d (s - 1)) (d e)) (x2:Srt le d a m → Srt le d m b → s = m ∨ e = m ∨ le (d (e - 1)) (d s)):Mrg le d d3 a m b:=by
  have p1:(seg d1 a b).Perm (seg d a b):=by
    rw [Zdq d1 (show a ≤ s by omega) (show s ≤ b by omega),Zdq d1 (show s ≤ e by omega) h4,Zdq d (show a ≤ s by omega) (show s ≤ b by omega),Zdq d (show s ≤ e by omega) h4,
      seg_congr (d:=d) (d':=d1) (a:=a) (b:=s) (fun i _ hi=>hr.out i (.inl hi)),seg_congr (d:=d) (d':=d1) (a:=e) (b:=b) (fun i hi _=>hr.out i (.inr hi))]
    exact (List.Perm.append_left _ ((hr.perm h2 h3).append_right _))
  have q1:seg d2 mid b = seg d1 mid b:=seg_congr fun i hi _=>m1.out i (.inr hi)
  have q2:seg d3 a mid = seg d2 a mid:=seg_congr fun i _ hi=>m2.out i (.inl hi)
  refine ⟨fun i hi=>?_,?_,fun sA sB=>?_⟩
  · rw [m2.out i (by omega),m1.out i (by omega),hr.out i (by omega)]
  · refine List.Perm.trans ?_ p1
    rw [Zdq d3 (show a ≤ mid by omega) (show mid ≤ b by omega),Zdq d1 (show a ≤ mid by omega) (show mid ≤ b by omega),q2,← q1]
    exact m1.perm.append m2.perm
  · have sl:∀ i,a ≤ i → i < s → d1 i = d i:=fun i _ hi=>hr.out i (.inl hi)
    have sr:∀ i,e ≤ i → i < b → d1 i = d i:=fun i hi _=>hr.out i (.inr hi)
    have s2:Srt le d2 a mid:=by
      refine m1.srt (fun i j hi hij hj=>?_) (fun i j hi hij hj=>?_)
      · rw [sl i hi (by omega),sl j (by omega) hj]; exact sA i j hi hij (by omega)
      · have e1:=hr.fst (i - s) (by omega)
        have e2:=hr.fst (j - s) (by omega)
        rw [show s + (i - s) = i by omega] at e1
        rw [show s + (j - s) = j by omega] at e2
        rw [e1,e2]; exact sB _ _ (by omega) (by omega) (by omega)
    have s3:Srt le d3 mid b:=by
      refine m2.srt (fun i j hi hij hj=>?_) (fun i j hi hij hj=>?_)
      · rw [m1.out i (.inr hi),m1.out j (.inr (by omega))]
        have e1:=hr.snd (i - mid) (by omega)
        have e2:=hr.snd (j - mid) (by omega)
        rw [show s + (e - m) + (i - mid) = i by omega] at e1
        rw [show s + (e - m) + (j - mid) = j by omega] at e2
        rw [e1,e2]; exact sA _ _ (by omega) (by omega) (by omega)
      · rw [m1.out i (.inr (by omega)),m1.out j (.inr (by omega)),sr i hi (by omega),sr j (by omega) hj]
        exact sB i j (by omega) hij hj
    intro i j hi hij hj
    by_cases hjm:j < mid
    · rw [m2.out i (.inl (by omega)),m2.out j (.inl hjm)]; exact s2 i j hi hij hjm
    by_cases him:mid ≤ i
    · exact s3 i j him hij hj
    have xi:d3 i ∈ seg d1 a mid:=m1.perm.mem_iff.1 (q2 ▸ mem_seg.2 ⟨i,hi,by omega,rfl⟩)
    have yj:d3 j ∈ seg d1 mid b:=q1 ▸ (m2.perm.mem_iff.1 (mem_seg.2 ⟨j,by omega,hj,rfl⟩))
    obtain ⟨k,k1,k2,k3⟩:=mem_seg.1 xi
    obtain ⟨n,n1,n2,n3⟩:=mem_seg.1 yj
    rw [← k3,← n3]
    have lA:∀ u v,a ≤ u → u ≤ v → v < m → u = v ∨ le (d u) (d v):=fun u v h h' h''=>by
      rcases Nat.lt_or_ge u v with hh | hh
      · exact .inr (sA u v h hh h'')
      · exact .inl (by omega)
    have lB:∀ u v,m ≤ u → u ≤ v → v < b → u = v ∨ le (d u) (d v):=fun u v h h' h''=>by
      rcases Nat.lt_or_ge u v with hh | hh
      · exact .inr (sB u v h hh h'')
      · exact .inl (by omega)
    have trL:∀ u v w,(u = v ∨ le (d u) (d v)) → le (d v) (d w) → le (d u) (d w):=fun u v w h h'=>by
      rcases h with rfl | h
      · exact h'
      · exact hle h h'
    have trR:∀ u v w,le (d u) (d v) → (v = w ∨ le (d v) (d w)) → le (d u) (d w):=fun u v w h h'=>by
      rcases h' with rfl | h'
      · exact h
      · exact hle h h'
    have src1:(∃ u,a ≤ u ∧ u < s ∧ d1 k = d u) ∨ (∃ u,m ≤ u ∧ u < e ∧ d1 k = d u):=by
      by_cases hk:k < s
      · exact .inl ⟨k,k1,hk,sl k k1 hk⟩
      · have e1:=hr.fst (k - s) (by omega)
        rw [show s + (k - s) = k by omega] at e1
        exact .inr ⟨m + (k - s),by omega,by omega,e1⟩
    have src2:(∃ u,s ≤ u ∧ u < m ∧ d1 n = d u) ∨ (∃ u,e ≤ u ∧ u < b ∧ d1 n = d u):=by
      by_cases hn:n < e
      · have e1:=hr.snd (n - mid) (by omega)
        rw [show s + (e - m) + (n - mid) = n by omega] at e1
        exact .inl ⟨s + (n - mid),by omega,by omega,e1⟩
      · exact .inr ⟨n,by omega,n2,sr n (by omega) n2⟩
    rcases src1 with ⟨u,u1,u2,u3⟩ | ⟨u,u1,u2,u3⟩ <;> rcases src2 with ⟨v,v1,v2,v3⟩ | ⟨v,v1,v2,v3⟩ <;> rw [u3,v3]
    · exact sA u v u1 (by omega) v2
    · rcases x1 sA sB with h | h | h
      · omega
      · omega
      · exact trR _ _ _ (trL _ _ _ (lA u (s - 1) u1 (by omega) (by omega)) h) (lB e v h3 v1 v2)
    · rcases x2 sA sB with h | h | h
      · omega
      · omega
      · exact trR _ _ _ (trL _ _ _ (lB u (e - 1) u1 (by omega) (by omega)) h) (lA s v h1 v1 v2)
    · exact sB u v u1 (by omega) v2
theorem Swp.one {d:Nat → α} {d':Nat → α} {k:Nat} (h1:d' k = d (k + 1)) (h2:d' (k + 1) = d k) (ho:∀ i,i ≠ k → i ≠ k + 1 → d' i = d i):Swp d d' k (k + 1) 1 :=
  ⟨fun i hi => by obtain rfl : i = 0 := by omega
                  exact h1, fun i hi => by obtain rfl : i = 0 := by omega
                                           exact h2,fun i h h'=>ho i (by omega) (by omega)⟩
theorem Swp.perm {d d':Nat → α} {k a b:Nat} (h:Swp d d' k (k + 1) 1) (h1:a ≤ k) (h2:k + 1 < b):(seg d' a b).Perm (seg d a b):=by
  have hr:Rot d d' k (k + 1) (k + 2):=by
    refine ⟨fun i hi=>h.out i (by omega) (by omega),fun i hi=>?_,fun i hi=>?_⟩
    · obtain rfl:i = 0:=by omega
      exact h.fst 0 (by omega)
    · obtain rfl:i = 0:=by omega
      have:=h.snd 0 (by omega)
      rwa [show k + 1 + 0 = k + (k + 2 - (k + 1)) + 0 by omega] at this
  rw [Zdq d' (show a ≤ k by omega) (show k ≤ b by omega),Zdq d' (show k ≤ k + 2 by omega) (show k + 2 ≤ b by omega),Zdq d (show a ≤ k by omega) (show k ≤ b by omega),Zdq d (show k ≤ k + 2 by omega) (show k + 2 ≤ b by omega),
    seg_congr (d:=d) (d':=d') (a:=a) (b:=k) (fun i _ hi=>h.out i (by omega) (by omega)),seg_congr (d:=d) (d':=d') (a:=k + 2) (b:=b) (fun i hi _=>h.out i (by omega) (by omega))]
  exact List.Perm.append_left _ ((hr.perm (by omega) (by omega)).append_right _)
theorem Rot.refl_left (d:Nat → α) (a:Nat):Rot d d a (a + 1) (a + 1):=⟨fun _ _=>rfl,fun i hi=>by omega,fun i hi=>by rw [show a + (a + 1 - (a + 1)) + i = a + i by omega]⟩
theorem Rot.refl_right (d:Nat → α) (m:Nat):Rot d d m m (m + 1):=⟨fun _ _=>rfl,fun i hi=>rfl,fun i hi=>by omega⟩
theorem Rot.up {d d1 d':Nat → α} {a k:Nat} (hk:a ≤ k) (hr:Rot d d1 a (a + 1) (k + 1)) (h:Swp d1 d' k (k + 1) 1):Rot d d' a (a + 1) (k + 2):=by
  have f0:=h.fst 0 (by omega)
  have s0:=h.snd 0 (by omega)
  simp only [Nat.add_zero] at f0 s0
  refine ⟨fun i hi=>?_,fun i hi=>?_,fun i hi=>?_⟩
  · rw [h.out i (by omega) (by omega),hr.out i (by omega)]
  · rcases Nat.lt_or_ge (a + i) k with h1 | h1
    · rw [h.out _ (by omega) (by omega),hr.fst i (by omega)]
    · rw [show a + i = k by omega,f0,hr.out (k + 1) (by omega)]
      congr 1; omega
  · obtain rfl:i = 0:=by omega
    have:=hr.snd 0 (by omega)
    rw [show a + (k + 1 - (a + 1)) + 0 = k by omega] at this
    rw [show a + (k + 2 - (a + 1)) + 0 = k + 1 by omega,s0,this]
theorem Rot.down {d d1 d':Nat → α} {m k:Nat} (hk:k + 1 ≤ m) (hr:Rot d d1 (k + 1) m (m + 1)) (h:Swp d1 d' k (k + 1) 1):Rot d d' k m (m + 1):=by
  have f0:=h.fst 0 (by omega)
  have s0:=h.snd 0 (by omega)
  simp only [Nat.add_zero] at f0 s0
  refine ⟨fun i hi=>?_,fun i hi=>?_,fun i hi=>?_⟩
  · rw [h.out i (by omega) (by omega),hr.out i (by omega)]
  · obtain rfl:i = 0:=by omega
    have:=hr.fst 0 (by omega)
    simp only [Nat.add_zero] at this ⊢
    rw [f0,this]
  · rcases Nat.eq_zero_or_pos i with h1 | h1
    · subst h1
      rw [show k + (m + 1 - m) + 0 = k + 1 by omega,s0,hr.out k (by omega)]
      rfl
    · rw [h.out _ (by omega) (by omega)]
      have:=hr.snd (i - 1) (by omega)
      rw [show k + 1 + (m + 1 - m) + (i - 1) = k + (m + 1 - m) + i by omega] at this
      rw [this]
      congr 1; omega
theorem Mrg.ins_left {d d':Nat → α} {a i b:Nat} (hle:∀ {x y z},le x y → le y z → le x z) (h1:a + 1 ≤ i) (h2:i ≤ b) (hr:Rot d d' a (a + 1) i) (x1:i = b ∨ le (d a) (d i)) (x2:i = a + 1 ∨ le (d (i - 1)) (d a)):Mrg le d d' a (a + 1) b:=by
  refine Mrg.join (s:=a) (e:=i) (mid:=a + (i - (a + 1))) (d2:=d') hle (by omega) (by omega) h1 h2 rfl hr (.of_sorted fun _ h=>h) (.of_sorted fun _ sB=>?_) (fun _ _=>.inl rfl) (fun _ _=>?_)
  · intro u v hu huv hv
    rcases Nat.lt_or_ge u i with hui | hui
    · have hd:=hr.snd 0 (by omega)
      rw [show a + (i - (a + 1)) + 0 = u by omega,Nat.add_zero] at hd
      have ho:∀ w,i ≤ w → d' w = d w:=fun w hw=>hr.out w (.inr hw)
      rw [hd,ho v (by omega)]
      rcases x1 with x1 | x1
      · omega
      · rcases Nat.lt_or_ge i v with hv' | hv'
        · have:=sB i v (Nat.le_refl _) hv' hv
          rw [ho i (Nat.le_refl _),ho v (by omega)] at this
          exact hle x1 this
        · obtain rfl:v = i:=by omega
          exact x1
    · exact sB u v hui huv hv
  · rcases x2 with x2 | x2
    · exact .inr (.inl x2)
    · exact .inr (.inr x2)
theorem Mrg.ins_right {d d':Nat → α} {a i m:Nat} (hle:∀ {x y z},le x y → le y z → le x z) (h1:a ≤ i) (h2:i ≤ m) (hr:Rot d d' i m (m + 1)) (x1:i = a ∨ le (d (i - 1)) (d m)) (x2:i = m ∨ le (d m) (d i)):Mrg le d d' a m (m + 1):=by
  refine Mrg.join (s:=i) (e:=m + 1) (mid:=i + (m + 1 - m)) (d2:=d') hle h1 h2 (by omega) (by omega) rfl hr (.of_sorted fun sA _=>?_) (.of_sorted fun h _=>h) (fun _ _=>.inr (.inl rfl)) (fun _ _=>?_)
  · intro u v hu huv hv
    rcases Nat.lt_or_ge v i with hvi | hvi
    · exact sA u v hu huv hvi
    · obtain rfl:v = i:=by omega
      have hd:=hr.fst 0 (by omega)
      simp only [Nat.add_zero] at hd
      have ho:∀ w,w < v → d' w = d w:=fun w hw=>hr.out w (.inl hw)
      rw [hd,ho u huv]
      rcases x1 with x1 | x1
      · omega
      · rcases Nat.lt_or_ge u (v - 1) with hu' | hu'
        · have:=sA u (v - 1) hu hu' (by omega)
          rw [ho u huv,ho (v - 1) (by omega)] at this
          exact hle this x1
        · obtain rfl:u = v - 1:=by omega
          exact x1
  · rcases x2 with x2 | x2
    · exact .inl x2
    · exact .inr (.inr x2)
theorem cut_of_search {d : Nat → α} {a m b mid n s st r : Nat} (hn : n = mid + m) (hmid : a ≤ mid ∧ mid ≤ b) (hs : st ≤ s ∧ s ≤ r) (hb : s ≤ n ∧ n ≤ s + b)
    (hst:st = a ∨ st + b = n) (hr:r = m ∨ r = mid) (g1:s = st ∨ le (d (s - 1)) (d (n - 1 - (s - 1)))) (g2:s = r ∨ le (d (n - 1 - s)) (d s)) :
    (s = a ∨ n - s = b ∨ le (d (s - 1)) (d (n - s))) ∧ (s = m ∨ n - s = m ∨ le (d (n - s - 1)) (d s)):=by
  constructor
  · rcases g1 with g1 | g1
    · omega
    · rcases Nat.eq_zero_or_pos s with h0 | h0
      · omega
      · rw [show n - 1 - (s - 1) = n - s by omega] at g1
        exact .inr (.inr g1)
  · rcases g2 with g2 | g2
    · omega
    · rw [show n - 1 - s = n - s - 1 by omega] at g2
      exact .inr (.inr g2)
def Ins (le:α → α → Prop) (d:Nat → α) (a i j:Nat):Prop:=∀ x y,a ≤ x → x < y → y ≤ i → y ≠ j → le (d x) (d y)
theorem Ins.start {d:Nat → α} {a i:Nat} (h:Srt le d a i):Ins le d a i i:=fun x y h1 h2 h3 h4=>h x y h1 h2 (by omega)
theorem Ins.step {d d':Nat → α} {a i k:Nat} (h:Ins le d a i (k + 1)) (hk:k + 1 ≤ i) (ha:a ≤ k) (hs:Swp d d' k (k + 1) 1) (hl:le (d (k + 1)) (d k)):Ins le d' a i k:=by
  have f0:=hs.fst 0 (by omega)
  have s0:=hs.snd 0 (by omega)
  simp only [Nat.add_zero] at f0 s0
  have ho:∀ w,w ≠ k → w ≠ k + 1 → d' w = d w:=fun w h1 h2=>hs.out w (by omega) (by omega)
  intro x y h1 h2 h3 h4
  by_cases hy:y = k + 1
  · subst hy
    rw [s0]
    by_cases hx:x = k
    · subst hx; rw [f0]; exact hl
    · rw [ho x hx (by omega)]; exact h x k h1 (by omega) (by omega) (by omega)
  · rw [ho y h4 hy]
    by_cases hx:x = k
    · subst hx; rw [f0]; exact h (x + 1) y (by omega) (by omega) h3 hy
    · by_cases hx':x = k + 1
      · subst hx'; rw [s0]; exact h k y ha (by omega) h3 hy
      · rw [ho x hx hx']; exact h x y h1 h2 h3 hy
theorem Ins.done {d:Nat → α} {a i j:Nat} (hle:∀ {x y z},le x y → le y z → le x z) (h:Ins le d a i j) (hj:j = a ∨ a < j ∧ le (d (j - 1)) (d j)):Srt le d a (i + 1):=by
  intro x y h1 h2 h3
  by_cases hy:y = j
  · subst hy
    rcases hj with hj | ⟨hj,hl⟩
    · omega
    · rcases Nat.lt_or_ge x (y - 1) with h4 | h4
      · exact hle (h x (y - 1) h1 h4 (by omega) (by omega)) hl
      · obtain rfl:x = y - 1:=by omega
        exact hl
  · exact h x y h1 h2 (by omega) hy
end
end Go.VM
namespace Go.VM
open Go
section
variable {α : Type} {le : α → α → Prop}
theorem perm_sorted_eq {r:α → α → Prop}:∀ {l m:List α},l.Perm m → l.Pairwise r → m.Pairwise r → (∀ x ∈ l,∀ y ∈ l,r x y → r y x → x = y) → l = m
  | [],m,h,_,_,_=>(List.nil_perm.1 h).symm
  | x :: l,[],h,_,_,_=>by have:=h.length_eq; simp at this
  | x :: l,y :: m,h,h1,h2,ha=>by
    have hxy:x = y:=by
      have hx:x ∈ y :: m:=h.mem_iff.1 List.mem_cons_self
      have hy:y ∈ x :: l:=h.mem_iff.2 List.mem_cons_self
      rcases List.mem_cons.1 hx with e | hx'
      · exact e
      rcases List.mem_cons.1 hy with e | hy'
      · exact e.symm
      exact ha x List.mem_cons_self y hy ((List.pairwise_cons.1 h1).1 y hy') ((List.pairwise_cons.1 h2).1 x hx')
    subst hxy
    rw [perm_sorted_eq ((List.perm_cons x).1 h) (List.pairwise_cons.1 h1).2 (List.pairwise_cons.1 h2).2 (fun a ha' b hb'=>ha a (List.mem_cons_of_mem _ ha') b (List.mem_cons_of_mem _ hb'))]
theorem Srt.pairwise {d:Nat → α} {a b:Nat} (h:Srt le d a b):(seg d a b).Pairwise le:=by
  unfold seg
  rw [List.pairwise_map]
  refine List.Pairwise.imp_of_mem (fun {i j} hi hj hij=>?_) List.pairwise_lt_range'
  have h1:=List.mem_range'_1.1 hi
  have h2:=List.mem_range'_1.1 hj
  exact h i j h1.1 hij (by omega)
def rowF [Inhabited α] (l:List α):Nat → α:=fun i=>l.getD i default
theorem seg_rowF [Inhabited α] (l:List α):seg (rowF l) 0 l.length = l:=by
  refine List.ext_getElem (by simp [seg]) fun i h1 h2=>?_
  simp [seg,rowF,List.getD_eq_getElem?_getD,h2]
def Blk (le:α → α → Prop) (d:Nat → α) (bs lo hi:Nat):Prop:=∀ q i j,lo ≤ i → q * bs ≤ i → i < j → j < q * bs + bs → j < hi → le (d i) (d j)
theorem Blk.zero {d:Nat → α} {bs:Nat}:Blk le d bs 0 0:=fun _ _ _ _ _ _ _ h=>absurd h (Nat.not_lt_zero _)
theorem Blk.more {d d':Nat → α} {bs q0 b:Nat} (h:Blk le d bs 0 (q0 * bs)) (ho:Same d d' (q0 * bs) b) (hs:Srt le d' (q0 * bs) b) (hb:b ≤ q0 * bs + bs):Blk le d' bs 0 b:=by
  intro q i j _ h1 h2 h3 h4
  rcases Nat.lt_or_ge q q0 with hq | hq
  · have h5:(q + 1) * bs ≤ q0 * bs:=Nat.mul_le_mul_right bs hq
    rw [Nat.add_mul,Nat.one_mul] at h5
    rw [ho i (by omega),ho j (by omega)]
    exact h q i j (Nat.zero_le _) h1 h2 h3 (by omega)
  · have h5:q0 * bs ≤ q * bs:=Nat.mul_le_mul_right bs hq
    exact hs i j (by omega) h2 h4
theorem Blk.merge {d d' : Nat → α} {bs q0 b n : Nat} (h1 : Blk le d (2 * bs) 0 (q0 * (2 * bs))) (h2 : Blk le d bs (q0 * (2 * bs)) n) (hbn : b ≤ n) (hb : b ≤ q0 * (2 * bs) + 2 * bs) (hbm : q0 * (2 * bs) + bs ≤ b)
    (hm:Mrg le d d' (q0 * (2 * bs)) (q0 * (2 * bs) + bs) b):Blk le d' (2 * bs) 0 b ∧ Blk le d' bs b n:=by
  have e0:q0 * (2 * bs) = (2 * q0) * bs:=by rw [Nat.mul_comm 2 q0,Nat.mul_assoc]
  have e1:q0 * (2 * bs) + bs = (2 * q0 + 1) * bs:=by rw [Nat.add_mul,Nat.one_mul,e0]
  refine ⟨Blk.more h1 hm.out (hm.srt (fun i j x1 x2 x3=>?_) (fun i j x1 x2 x3=>?_)) hb,fun q i j x0 x1 x2 x3 x4=>?_⟩
  · exact h2 (2 * q0) i j x1 (by omega) x2 (by omega) (by omega)
  · exact h2 (2 * q0 + 1) i j (by omega) (by omega) x2 (by omega) (by omega)
  · rw [hm.out i (by omega),hm.out j (by omega)]
    exact h2 q i j (by omega) x1 x2 x3 x4
theorem Blk.rest {d:Nat → α} {bs q0 n:Nat} (h1:Blk le d (2 * bs) 0 (q0 * (2 * bs))) (h2:Blk le d bs (q0 * (2 * bs)) n) (hn:n ≤ q0 * (2 * bs) + bs):Blk le d (2 * bs) 0 n:=by
  have e0:q0 * (2 * bs) = (2 * q0) * bs:=by rw [Nat.mul_comm 2 q0,Nat.mul_assoc]
  rcases Nat.lt_or_ge n (q0 * (2 * bs)) with hlt | hge
  · intro q i j x0 x1 x2 x3 x4
    exact h1 q i j x0 x1 x2 x3 (by omega)
  · exact Blk.more h1 (fun _ _=>rfl) (fun i j x1 x2 x3=>h2 (2 * q0) i j x1 (by omega) x2 (by omega) x3) (by omega)
theorem Blk.all {d:Nat → α} {bs n:Nat} (h:Blk le d bs 0 n) (hn:n ≤ bs):Srt le d 0 n:=fun i j h1 h2 h3=>h 0 i j h1 (by omega) h2 (by omega) h3
end
end Go.VM
namespace Go.VM
open Go
def aheadA (a b:Ac):Bool:=if a.day ≠ b.day then decide (a.day < b.day) else decide (a.number < b.number)
def leA (a b:Ac):Prop:=aheadA b a = false
theorem ahead_iff (a b:Ac):aheadA a b = true ↔ a.day < b.day ∨ a.day = b.day ∧ a.number < b.number:=by
  unfold aheadA
  split <;> simp only [decide_eq_true_eq] <;> omega
theorem leA_iff (a b:Ac):leA a b ↔ a.day < b.day ∨ a.day = b.day ∧ a.number ≤ b.number:=by
  have:=ahead_iff b a
  unfold leA
  cases h:aheadA b a with
  | false=>rw [h] at this; simp only [Bool.false_eq_true,false_iff] at this; simp only [true_iff]; omega
  | true=>rw [h] at this; simp only [true_iff] at this; simp only [Bool.true_eq_false,false_iff]; omega
theorem leA_trans {a b c:Ac} (h1:leA a b) (h2:leA b c):leA a c:=by
  rw [leA_iff] at *; omega
theorem leA_of_ahead {a b:Ac} (h:aheadA a b = true):leA a b:=by
  rw [leA_iff]; rw [ahead_iff] at h; omega
def insA (out:List Ac) (x:Ac):List Ac:=out.takeWhile (aheadA · x) ++ x :: out.dropWhile (aheadA · x)
theorem insA_perm (out:List Ac) (x:Ac):(insA out x).Perm (x :: out):=by
  unfold insA
  refine List.perm_middle.trans ?_
  rw [List.takeWhile_append_dropWhile]
theorem insA_cons (y:Ac) (r:List Ac) (x:Ac):insA (y :: r) x = if aheadA y x then y :: insA r x else x :: y :: r:=by
  unfold insA
  cases h:aheadA y x <;> simp [List.takeWhile_cons,List.dropWhile_cons,h]
theorem insA_sorted:∀ (out:List Ac) (x:Ac),out.Pairwise leA → (insA out x).Pairwise leA
  | [],x,_=>by simp [insA]
  | y :: r,x,h=>by
    obtain ⟨h1,h2⟩:=List.pairwise_cons.1 h
    rw [insA_cons]
    split
    · rename_i hy
      refine List.pairwise_cons.2 ⟨fun z hz=>?_,insA_sorted r x h2⟩
      rcases List.mem_cons.1 ((insA_perm r x).mem_iff.1 hz) with e | hz'
      · subst e; exact leA_of_ahead hy
      · exact h1 z hz'
    · rename_i hy
      have hxy:leA x y:=by unfold leA; simpa using hy
      refine List.pairwise_cons.2 ⟨fun z hz=>?_,h⟩
      rcases List.mem_cons.1 hz with e | hz'
      · subst e; exact hxy
      · exact leA_trans hxy (h1 z hz')
theorem fold_insA:∀ (l out:List Ac),out.Pairwise leA → (l.foldl insA out).Pairwise leA ∧ (l.foldl insA out).Perm (out ++ l)
  | [],out,h=>⟨h,by simp⟩
  | x :: l,out,h=>by
    obtain ⟨h1,h2⟩:=fold_insA l (insA out x) (insA_sorted out x h)
    refine ⟨h1,h2.trans ?_⟩
    refine ((insA_perm out x).append_right l).trans ?_
    exact (List.perm_middle (l₁:=out) (l₂:=l) (a:=x)).symm
def fstA:List Int → List Ac → List Ac
  | _,[]=>[]
  | seen,x :: r=>if x.number ∈ seen then fstA seen r else x :: fstA (x.number :: seen) r
theorem fstA_spec:∀ (l:List Ac) (seen:List Int),(fstA seen l).Pairwise (fun a b=>a.number ≠ b.number) ∧ ∀ a ∈ fstA seen l,a.number ∉ seen ∧ a ∈ l
  | [],_=>⟨List.Pairwise.nil,fun _ h=>by cases h⟩
  | x :: r,seen=>by
    unfold fstA
    split
    · obtain ⟨h1,h2⟩:=fstA_spec r seen
      exact ⟨h1,fun a ha=>⟨(h2 a ha).1,List.mem_cons_of_mem _ (h2 a ha).2⟩⟩
    · rename_i hx
      obtain ⟨h1,h2⟩:=fstA_spec r (x.number :: seen)
      refine ⟨List.pairwise_cons.2 ⟨fun a ha e=>(h2 a ha).1 (by rw [← e]; exact List.mem_cons_self),h1⟩,fun a ha=>?_⟩
      rcases List.mem_cons.1 ha with e | ha'
      · subst e; exact ⟨hx,List.mem_cons_self⟩
      · exact ⟨fun hh=>(h2 a ha').1 (List.mem_cons_of_mem _ hh),List.mem_cons_of_mem _ (h2 a ha').2⟩
def Zbr (row:List Ac):List Ac:=(fstA [] row).foldl insA []
theorem number_inj {l:List Ac} (h:l.Pairwise (fun a b=>a.number ≠ b.number)):∀ x ∈ l,∀ y ∈ l,x.number = y.number → x = y:=by
  induction l with
  | nil=>intro x hx; cases hx
  | cons z r ih =>
    obtain ⟨h1,h2⟩:=List.pairwise_cons.1 h
    intro x hx y hy e
    rcases List.mem_cons.1 hx with rfl | hx' <;> rcases List.mem_cons.1 hy with rfl | hy'
    · rfl
    · exact absurd e (h1 y hy')
    · exact absurd e.symm (h1 x hx')
    · exact ih h2 x hx' y hy' e
theorem actsS_unique {row out:List Ac} (hp:out.Perm (fstA [] row)) (hs:out.Pairwise leA):out = Zbr row:=by
  obtain ⟨h1,h2⟩:=fold_insA (fstA [] row) [] List.Pairwise.nil
  rw [List.nil_append] at h2
  refine perm_sorted_eq (hp.trans h2.symm) hs h1 fun x hx y hy hxy hyx=>?_
  refine number_inj (fstA_spec row []).1 x (hp.mem_iff.1 hx) y (hp.mem_iff.1 hy) ?_
  rw [leA_iff] at hxy hyx
  omega
end Go.VM
