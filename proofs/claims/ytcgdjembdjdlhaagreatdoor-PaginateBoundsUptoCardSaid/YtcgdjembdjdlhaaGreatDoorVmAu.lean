import Derived.Test.YtcgdjembdjdlhaaGreatDoorVmZ
set_option linter.all false
namespace Go.VM
open Go
section
variable {P : Program} {N : FK} {ops : Array Oper} {q : List VOper} {hqf : Nat → Heap} {Z : Nat → Heap → Heap → Prop} {E : List Nat}
def VOp.isBs:VOp→Bool
 | .bslice ..=>true
 | _=>false
theorem isBs_simple {op:VOp} (h:op.isBs=true):op.simple=false:=by cases op<;>first|rfl|cases h
theorem Zaq.bs {e:Env} {h:Heap} {op:VOp} {K:PV→Heap→Prop} (hs:op.isBs=true) (H:Zaq P e h op K):∃ v0 h0,K v0 h0∧∀ K':PV→Heap→Prop,K' v0 h0→Zaq P e h op K':=by
 cases op<;>simp only [VOp.isBs] at hs<;>first
  |(simp only [Zaq] at H ⊢;exact ⟨_,_,H.2,fun K' k=>⟨H.1,k⟩⟩)
  |cases hs
theorem Zbm.swapO {i j : Nat} {oi oj : VOper} {e : Env} {h : Heap} {K : Env → Heap → Prop} (hK : Inv K) (hap : oi.apart oj = true) (ci : oi.op.closed = true) (cj : oj.op.closed = true)
  (hE:¬ (i∈E∧j∈E)) (hs:i∈E→(oi.op.simple=true∧(oj.op.det||oi.op.sure)=true)∨oi.op.isBs=true) (H:Zbm P hqf Z E i oi e h (fun e1 h1=>Zbm P hqf Z E j oj e1 h1 K)) :
  Zbm P hqf Z E j oj e h (fun e1 h1=>Zbm P hqf Z E i oi e1 h1 K):=by
 by_cases hi:i∈E
 ·rcases hs hi with h1|s2
  ·exact Zbm.swap hK hap ci cj hE (fun _=>h1) H
  ·obtain ⟨a1,a2,a3⟩:=apart_spec hap;have gi:∀ v,Agree oi.op.vas (e.put oj.dst v) e∧∀ c,gOf oi (e.put oj.dst v) c↔gOf oi e c:=fun v=>agree_put a2;have gj:∀ v,Agree oj.op.vas (e.put oi.dst v) e∧∀ c,gOf oj (e.put oi.dst v) c↔gOf oj e c:=fun v=>agree_put a1;have hj:j ∉ E:=fun hj=>hE ⟨hi,hj⟩;obtain ⟨h1,h2⟩:=(Zbn hi).1 H;obtain ⟨v0,h0,⟨z0,k0⟩,back⟩:=Zaq.bs s2 h2;obtain ⟨c,c1,v',c2,c3⟩:=(Zbo hj).1 k0;refine (Zbo hj).2 ⟨c,((gj v0).2 c).1 c1,v',fun hh=>by have:=c2 hh;rw [Zbx cj (gj v0).1] at this;exact this,?_⟩;refine (Zbn hi).2 ⟨h1,?_⟩;rw [StepW_congr ci (gi _).1];exact back _ ⟨z0,hK _ _ _ (put_swap e _ _ a3) c3⟩
 ·exact Zbm.swap hK hap ci cj hE (fun h=>absurd h hi) H
theorem AAny.firstO {K : Env → Heap → Prop} (hK : Inv K) (hc : ∀ o ∈ q, o.op.closed = true) (hlen : ops.size = q.length) {i : Nat} {oi : VOper} (hi : q[i]? = some oi) :
  ∀ (fuel:Nat) (listed:Array Bool) (e:Env) (h:Heap),
   (∀ (j:Nat) (oj:VOper) (goj:Oper),q[j]?=some oj→ops[j]?=some goj→j≠i→listed.getD j true=false→Za2 ops listed ops.size i j=false →
    oi.apart oj=true∧¬ (i∈E∧j∈E)∧(i∈E→(oi.op.simple=true∧(oj.op.det||oi.op.sure)=true)∨oi.op.isBs=true)) →
   i∈Region.ready .any ops listed→Zbm P hqf Z E i oi e h (AAny P ops q hqf Z E K fuel (listed.setIfInBounds i true))→AAny P ops q hqf Z E K (fuel+1) listed e h:=by
 intro fuel
 induction fuel with
 | zero =>
  intro listed e h hfree hr H;refine ⟨fun h0=>(by rw [h0] at hr;cases hr),fun j hj o ho=>?_⟩;by_cases hji:j=i
  ·subst hji;rw [hi] at ho;simp only [Option.some.injEq] at ho;subst ho;exact H
  ·exfalso
   have hnr:Region.ready .any ops (listed.setIfInBounds i true)≠[]:=by
    intro h0;have:=ready_mono hj hji;rw [h0] at this;cases this
   obtain ⟨hjun,goj,hgoj,hall⟩:=mem_ready.1 hj;have hbr:=behind_ready hj (mem_ready.1 hr).1;have hnot:=hbr ops.size;obtain ⟨f1,f2,f3⟩:=hfree j o goj ho hgoj hji hjun hnot
   apply hnr
   by_cases hiE:i∈E
   ·exact (f3 hiE).elim (fun f=>Zaq.out (K:=fun _ _=>True) f.1 (((Zbn hiE).1 H).2.mono fun v h' k=>⟨k.2.1,trivial⟩)) fun f=>by obtain ⟨v0,h0',k0,_⟩:=Zaq.bs f ((Zbn hiE).1 H).2;exact k0.2.1
   ·obtain ⟨c,_,v,_,k⟩:=(Zbo hiE).1 H;exact k.1
 | succ fuel ih =>
  intro listed e h hfree hr H;refine ⟨fun h0=>(by rw [h0] at hr;cases hr),fun j hj oj hoj=>?_⟩;by_cases hji:j=i
  ·subst hji;rw [hi] at hoj;simp only [Option.some.injEq] at hoj;subst hoj;exact H
  ·obtain ⟨hjun,goj,hgoj,hall⟩:=mem_ready.1 hj;have hbr:=behind_ready hj (mem_ready.1 hr).1;have hnot:=hbr ops.size;obtain ⟨f1,f2,f3⟩:=hfree j oj goj hoj hgoj hji hjun hnot;have H2:Zbm P hqf Z E i oi e h (fun e1 h1=>Zbm P hqf Z E j oj e1 h1 (AAny P ops q hqf Z E K fuel ((listed.setIfInBounds i true).setIfInBounds j true))) :=
    H.mono fun e1 h1 k=>k.2 j (ready_mono hj hji) oj hoj
   have H3:=Zbm.swapO (AAny.inv hK hc fuel _) f1 (hc oi (List.mem_of_getElem? hi)) (hc oj (List.mem_of_getElem? hoj)) f2 f3 H2;have hfree' : ∀ (k : Nat) (ok : VOper) (gok : Oper), q[k]? = some ok → ops[k]? = some gok → k ≠ i → (listed.setIfInBounds j true).getD k true = false → Za2 ops (listed.setIfInBounds j true) ops.size i k = false →
     oi.apart ok=true∧¬ (i∈E∧k∈E)∧(i∈E→(oi.op.simple=true∧(ok.op.det||oi.op.sure)=true)∨oi.op.isBs=true):=fun k ok gok hk hgk hki hun hno=>by
    have hno':Za2 ops listed ops.size i k=false:=by
     cases hb:Za2 ops listed ops.size i k with
     | false=>rfl
     | true=>rw [behind_mono hbr _ _ hb] at hno;cases hno
    refine hfree k ok gok hk hgk hki ?_ hno';by_cases hjk:j=k
    ·subst hjk;exact hjun
    ·rw [getD_set_ne true hjk] at hun;exact hun
   refine Zbm.mono (fun e1 h1 k=>?_) H3;refine ih (listed.setIfInBounds j true) e1 h1 hfree' (ready_mono hr (Ne.symm hji)) ?_;rw [Array.setIfInBounds_comm _ _ hji];exact k
def ownB (q:List VOper) (c:Nat):Bool :=
 match q[c]? with
 | some x=>x.op.isBs&&x.guard.isNone&&(List.range q.length).all fun j=>(match q[j]? with|some y=>!y.op.simple||(!x.apart y && !y.apart x)|none=>true)
 | none=>false
theorem lex_soundO {hq : Heap} {c : Nat} (hlast : ownB q c = true) {K : Env → Heap → Prop} (hK : Inv K) (hlen : ops.size = q.length) : ∀ (l : List VOper) (k : Nat) (listed : Array Bool) (e : Env) (h : Heap), (∀ j, l[j]? = q[k + j]?) → (∀ j, j < k → listed.getD j true = true) →
  drawB ops q l.length k listed=true→(∀ o∈q,o.op.closed=true)→DrawC P hq c k l K e h→AAny P ops q (fun _=>hq) (fun _ _ h'=>hq.le h') (c::Zbi q) K l.length listed e h
 | [],_,listed,e,h,_,_,hB,_,H=>⟨by simpa [drawB] using hB,H⟩
 | o::l,k,listed,e,h,hl,hli,hB,hc,H=>by
  have h0:q[k]?=some o:=by simpa using (hl 0).symm
  have hkl:k<q.length:=(List.getElem?_eq_some_iff.1 h0).1;simp only [List.length_cons,drawB,Bool.and_eq_true] at hB;obtain ⟨⟨⟨hr,hf⟩,_⟩,hB'⟩:=hB;have hl':∀ j,l[j]?=q[(k+1)+j]?:=fun j=>by have:=hl (j+1);simpa [Nat.add_assoc,Nat.add_comm 1 j] using this
  have hli':∀ j,j<k+1→(listed.setIfInBounds k true).getD j true=true:=fun j hj=>by
   by_cases hjk:k=j
   ·subst hjk;rcases Nat.lt_or_ge k listed.size with h'|h'
    ·simp [h']
    ·simp [Array.getD_eq_getD_getElem?,Array.getElem?_eq_none (show (listed.setIfInBounds k true).size≤k by simpa using h')]
   ·rw [getD_set_ne true hjk];exact hli j (by omega)
  have hEj:∀ (j:Nat) (oj:VOper),q[j]?=some oj→(j∈Zbi q↔oj.op.simple=true):=by
   intro j oj hj;have hjl:j<q.length:=(List.getElem?_eq_some_iff.1 hj).1;simp only [Zbi,List.mem_filter,List.mem_range,effAt,hj];exact ⟨fun h=>h.2,fun h=>⟨hjl,h⟩⟩
  have hE:=hEj k o h0;unfold ownB at hlast;cases hqc:q[c]? with
  | none=>rw [hqc] at hlast;cases hlast
  | some oc =>
  rw [hqc] at hlast;simp only [Bool.and_eq_true,List.all_eq_true,List.mem_range] at hlast;obtain ⟨⟨c1,c3⟩,c4⟩:=hlast;have c2:oc.op.simple=false:=isBs_simple c1;have hlast':ownB q c=true:=by
   unfold ownB;rw [hqc];simp only [Bool.and_eq_true,List.all_eq_true,List.mem_range];exact ⟨⟨c1,c3⟩,c4⟩
  have c5:∀ (j:Nat) (y:VOper),q[j]?=some y→y.op.simple=true→oc.apart y=false∧y.apart oc=false:=fun j y hj hy=>by
   have:=c4 j (List.getElem?_eq_some_iff.1 hj).1;rw [hj] at this;simp only [hy,Bool.not_true,Bool.false_or,Bool.and_eq_true,Bool.not_eq_true'] at this;exact this
  have ih:∀ e' h',DrawC P hq c (k+1) l K e' h'→AAny P ops q (fun _=>hq) (fun _ _ h'=>hq.le h') (c::Zbi q) K l.length (listed.setIfInBounds k true) e' h' :=
   fun e' h' H'=>lex_soundO hlast' hK hlen l (k+1) _ e' h' hl' hli' hB' hc H'
  refine AAny.firstO hK hc hlen h0 l.length listed e h ?_ (by simpa using hr) ?_
  ·intro j oj goj hj hgj hjk hun hno;have hjl:j<ops.size:=(Array.getElem?_eq_some_iff.1 hgj).1;have hkj:k<j:=by
    rcases Nat.lt_or_ge k j with h'|h'
    ·exact h'
    ·have:=hli j (by omega);rw [hun] at this;cases this
   simp only [freeB,List.all_eq_true,List.mem_range] at hf;have hfj:=hf j hjl;rw [h0,hj,hun] at hfj;simp only [hno,Bool.or_false,Bool.or_eq_true,beq_iff_eq,Bool.and_eq_true,Bool.not_eq_true',Bool.and_eq_false_iff] at hfj;rcases hfj with hfj|hfj
   ·exact absurd hfj hjk
   ·obtain ⟨⟨g1,g2⟩,g3⟩:=hfj;by_cases hkc:k=c
    ·subst hkc;rw [h0] at hqc;simp only [Option.some.injEq] at hqc;subst hqc;refine ⟨g1,fun ⟨_,x2⟩=>?_,fun _=>.inr c1⟩;rcases List.mem_cons.1 x2 with x2|x2
     ·exact hjk x2
     ·rw [hEj j oj hj] at x2;have:=(c5 j oj hj x2).1;rw [g1] at this;cases this
    ·have kE:k∈c::Zbi q↔o.op.simple=true:=by simp [hkc,hE]
     refine ⟨g1,fun ⟨x1,x2⟩=>?_,fun x1=>?_⟩
     ·have s1:=kE.1 x1;rcases List.mem_cons.1 x2 with x2|x2
      ·subst x2;rw [hj] at hqc;simp only [Option.some.injEq] at hqc;subst hqc;have:=(c5 k o h0 s1).2;rw [g1] at this;cases this
      ·rw [hEj j oj hj] at x2;rcases g2 with g2|g2
       ·rw [s1] at g2;cases g2
       ·rw [x2] at g2;cases g2
     ·have x1':=kE.1 x1;refine .inl ⟨x1',?_⟩;rcases g3 with g3|g3
      ·rw [x1'] at g3;cases g3
      ·rw [g3];rfl
  ·have hq2 : ∀ b, k ≠ c → gOf o e b → QW P hq e o.op b (fun v => DrawC P hq c (k + 1) l K (e.put o.dst v) h) → o.op.simple = false → Zbm P (fun _ => hq) (fun _ _ h' => hq.le h') (c :: Zbi q) k o e h (AAny P ops q (fun _ => hq) (fun _ _ h' => hq.le h') (c :: Zbi q) K l.length (listed.setIfInBounds k true)) := by
    intro b hkc hg hQ hs;have hnE:k ∉ c::Zbi q:=fun hh=>by
     rcases List.mem_cons.1 hh with hh|hh
     ·exact hkc hh
     ·have:=hE.1 hh;rw [hs] at this;cases this
    refine (Zbo hnE).2 ⟨b,hg,?_⟩;unfold QW at hQ;split at hQ
    ·rename_i hd;exact ⟨_,fun hh=>det_quiet hd (hQ.1 hh),ih _ _ hQ.2⟩
    ·obtain ⟨v,v1,v2⟩:=hQ;exact ⟨v,v1,ih _ _ v2⟩
   simp only [DrawC] at H;split at H
   ·rename_i hkc;exact (Zbn (List.mem_cons.2 (.inl (by simpa using hkc)))).2 ⟨H.1,H.2.mono fun v h' kk=>⟨kk.1,ih _ _ kk.2⟩⟩
   ·rename_i hkc;have hkc':k≠c:=by simpa using hkc
    split at H
    ·rename_i hs hg;exact (Zbn (List.mem_cons_of_mem _ (hE.2 hs))).2 ⟨hg,H.mono fun v h' kk=>⟨kk.1,ih _ _ kk.2⟩⟩
    ·exact H.elim
    ·rename_i hs hg;exact hq2 true hkc' (by simp [gOf,hg]) H hs
    ·rename_i hs hg;split at H
     ·rename_i b hgc;exact hq2 b hkc' (by simp [gOf,hg,hgc]) H hs
     ·exact H.elim
theorem VW_draw2O {Q : Exit → Env → Heap → Prop} {e : Env} {h : Heap} {late : List Bool} (c : Nat) (hq : Heap) (l : List Nat) (hlast : ownB q c = true) (hl : hq.le h)
  (H:DrawC P hq c 0 q (fun e' h'=>Q .normal (Env.keep l e') h') e h):VW P N (.draw2 q late) Q e h:=by
 intro cc hc;cases cc
 case region id ops draw =>
  obtain ⟨p,h3,h'|h'|h'⟩:=Zbw hc
  ·obtain ⟨_,h'⟩:=h';simp at h'
  ·obtain ⟨hd,hB,h'|h'⟩:=h'
   ·obtain ⟨_,h'⟩:=h';cases h'
   ·simp only [VC.draw2.injEq] at h';obtain ⟨h',_⟩:=h';subst h';subst hd;simp only [Bool.and_eq_true] at hB;obtain ⟨hm,hB⟩:=hB;obtain ⟨hlen,_⟩:=Zcw h3;rw [Array.length_toList] at hlen;have hcl:∀ o∈q,o.op.closed=true:=by
     cases q with
     | nil=>intro o ho;cases ho
     | cons x xs =>
      rw [hlen] at hB;simp only [List.length_cons,drawB,Bool.and_eq_true] at hB;exact fun o ho=>List.all_eq_true.1 hB.1.2 o ho
    intro g w a r he hd hs;refine wpIn_region_any hm ?_;have hany:=lex_soundO (P:=P) hlast (K:=fun e' h'=>Q .normal (Env.keep l e') h') (fun e1 e2 h1 hee hk=>by have hk':Q .normal (Env.keep l e1) h1:=hk;rw [keep_eqv hee l] at hk';exact hk') hlen q 0 (Array.replicate ops.size false) e h (fun j=>by simp) (fun j hj=>absurd hj (Nat.not_lt_zero _)) (by rw [← hlen];exact hB) hcl H;rw [← hlen] at hany;exact any_sound (N:=N) h3 (fun _ h=>Heap.le hq h) (fun _ _ _ _ hi _ _ _=>.inl hi) (fun _ _ _ hi _ _=>hi) (fun _ _ _ _ _ _ _ hz=>hz) (Q:=fun x a' w'=>∃ g' e' h',Q x e' h'∧Rel g' w' h'∧Zar g' a' e'∧N.dok x a'.defers h'∧a'.tmps.size=N.n∧Evo g w h g' w' h') (g0:=g) (w0:=w) (h0:=h)
     (fun g' w' h' a' e' k1 k2 k3 k4 k5 k6=>⟨g',_,h',k1,k2,k3.keep l,k4,k5,k6⟩) _ _ e h hany hl g _ a (r.drew _) he hd hs (Evo.drew _ _ _ _)
  ·obtain ⟨c,h'⟩:=h';cases h'
 all_goals
  simp only [Zbr,Option.map_eq_some_iff] at hc
  first
  |(simp at hc;done)
  |(split at hc<;>simp at hc)
end
end Go.VM
namespace Go.VM
open Go
section
variable {P : Program} {N : FK} {ops : Array Oper} {q : List VOper} {hqf : Nat → Heap} {Z : Nat → Heap → Heap → Prop} {E : List Nat}
theorem VW_drawO {Q : Exit → Env → Heap → Prop} {e : Env} {h : Heap} (c : Nat) (hq : Heap) (l : List Nat) (hlast : ownB q c = true) (hl : hq.le h)
  (H:DrawC P hq c 0 q (fun e' h'=>Q .normal (Env.keep l e') h') e h):VW P N (.region q true) Q e h:=by
 intro cc hc;cases cc
 case region id ops draw =>
  obtain ⟨p,h3,h'|h'|h'⟩:=Zbw hc
  ·obtain ⟨_,h'⟩:=h';simp at h'
  ·obtain ⟨hd,hB,h'|h'⟩:=h'
   rotate_left
   ·cases h'
   ·obtain ⟨_,h'⟩:=h';simp only [VC.region.injEq,and_true] at h';subst h';subst hd;simp only [Bool.and_eq_true] at hB;obtain ⟨hm,hB⟩:=hB;obtain ⟨hlen,_⟩:=Zcw h3;rw [Array.length_toList] at hlen;have hcl:∀ o∈q,o.op.closed=true:=by
     cases q with
     | nil=>intro o ho;cases ho
     | cons x xs =>
      rw [hlen] at hB;simp only [List.length_cons,drawB,Bool.and_eq_true] at hB;exact fun o ho=>List.all_eq_true.1 hB.1.2 o ho
    intro g w a r he hd hs;refine wpIn_region_any hm ?_;have hany:=lex_soundO (P:=P) hlast (K:=fun e' h'=>Q .normal (Env.keep l e') h') (fun e1 e2 h1 hee hk=>by have hk':Q .normal (Env.keep l e1) h1:=hk;rw [keep_eqv hee l] at hk';exact hk') hlen q 0 (Array.replicate ops.size false) e h (fun j=>by simp) (fun j hj=>absurd hj (Nat.not_lt_zero _)) (by rw [← hlen];exact hB) hcl H;rw [← hlen] at hany;exact any_sound (N:=N) h3 (fun _ h=>Heap.le hq h) (fun _ _ _ _ hi _ _ _=>.inl hi) (fun _ _ _ hi _ _=>hi) (fun _ _ _ _ _ _ _ hz=>hz) (Q:=fun x a' w'=>∃ g' e' h',Q x e' h'∧Rel g' w' h'∧Zar g' a' e'∧N.dok x a'.defers h'∧a'.tmps.size=N.n∧Evo g w h g' w' h') (g0:=g) (w0:=w) (h0:=h)
     (fun g' w' h' a' e' k1 k2 k3 k4 k5 k6=>⟨g',_,h',k1,k2,k3.keep l,k4,k5,k6⟩) _ _ e h hany hl g _ a (r.drew _) he hd hs (Evo.drew _ _ _ _)
  ·obtain ⟨c,h'⟩:=h';cases h'
 all_goals
  simp only [Zbr,Option.map_eq_some_iff] at hc
  first
  |(simp at hc;done)
  |(split at hc<;>simp at hc)
end
end Go.VM
