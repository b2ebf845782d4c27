import Derived.Test.YtcgdjembdjdlhaaGreatDoorVmAu
set_option linter.all false
namespace Go.VM
open Go
section
variable {P : Program} {N : FK} {ops : Array Oper} {q : List VOper} {hqf : Nat → Heap} {Z : Nat → Heap → Heap → Prop} {E : List Nat}
inductive Bh (ops : Array Oper) (listed : Array Bool) (i : Nat) : Nat → Prop
 | edge {j : Nat} {o : Oper} {x : Edge} (ho : ops[j]? = some o) (hx : x ∈ o.after) (hb : Region.binds .any x = true) (he : x.on = i) : Bh ops listed i j
 | step {j : Nat} {o : Oper} {x : Edge} (ho : ops[j]? = some o) (hx : x ∈ o.after) (hb : Region.binds .any x = true) (hu : listed.getD x.on true = false) (h : Bh ops listed i x.on) : Bh ops listed i j
theorem behindB_Bh {listed:Array Bool} {i:Nat}:∀ {f j:Nat},Za2 ops listed f i j=true→Bh ops listed i j
 | 0,j,h=>by cases h
 | f+1,j,h=>by
  simp only [Za2] at h;split at h
  ·rename_i o ho;rw [Array.any_eq_true'] at h;obtain ⟨x,hx,hxx⟩:=h;simp only [Bool.and_eq_true,Bool.or_eq_true,beq_iff_eq,Bool.not_eq_true'] at hxx;rcases hxx.2 with h1|⟨h1,h2⟩
   ·exact .edge ho hx hxx.1 h1
   ·exact .step ho hx hxx.1 h1 (behindB_Bh h2)
  ·cases h
theorem Bh_ready {listed:Array Bool} {i j:Nat} (hj:j∈Region.ready .any ops listed) (hi:listed.getD i true=false):¬ Bh ops listed i j:=by
 intro h;obtain ⟨_,goj,hgoj,hall⟩:=mem_ready.1 hj;have key:∀ (o:Oper) (x:Edge),ops[j]?=some o→x∈o.after→Region.binds .any x=true→listed.getD x.on true=true:=by
  intro o x ho hx hb;rw [hgoj] at ho;simp only [Option.some.injEq] at ho;subst ho;have h1:=hall x hx hb;rcases Nat.lt_or_ge x.on listed.size with h'|h'
  ·simp [h'] at h1;simp [h',h1]
  ·simp [Array.getElem?_eq_none h'] at h1
 cases h with
 | edge ho hx hb he =>
  have:=key _ _ ho hx hb;rw [he,hi] at this;cases this
 | step ho hx hb hu _ =>
  have:=key _ _ ho hx hb;rw [hu] at this;cases this
theorem Bh_mono {listed:Array Bool} {i j:Nat} (hj:¬ Bh ops listed i j) {k:Nat} (h:Bh ops listed i k):Bh ops (listed.setIfInBounds j true) i k:=by
 induction h with
 | edge ho hx hb he=>exact .edge ho hx hb he
 | step ho hx hb hu h ih =>
  rename_i x;have hne:j≠x.on:=by rintro rfl;exact hj h
  exact .step ho hx hb (by rw [getD_set_ne true hne];exact hu) ih
theorem Bh_trans {listed listed':Array Bool} {k0 k1:Nat} (hs:∀ x,listed'.getD x true=false→listed.getD x true=false) (hu:listed.getD k1 true=false) (h0:Bh ops listed k0 k1) {j:Nat} (h:Bh ops listed' k1 j):Bh ops listed k0 j:=by
 induction h with
 | edge ho hx hb he=>exact .step ho hx hb (by rw [he];exact hu) (by rw [he];exact h0)
 | step ho hx hb hu' _ ih=>exact .step ho hx hb (hs _ hu') ih
theorem AAny.firstB {K : Env → Heap → Prop} (hK : Inv K) (hc : ∀ o ∈ q, o.op.closed = true) (hlen : ops.size = q.length) {i : Nat} {oi : VOper} (hi : q[i]? = some oi) :
  ∀ (fuel:Nat) (listed:Array Bool) (e:Env) (h:Heap),
   (∀ (j:Nat) (oj:VOper) (goj:Oper),q[j]?=some oj→ops[j]?=some goj→j≠i→listed.getD j true=false→¬ Bh ops listed i j →
    oi.apart oj=true∧¬ (i∈E∧j∈E)∧(i∈E→oi.op.simple=true∧(oj.op.det||oi.op.sure)=true)) →
   i∈Region.ready .any ops listed→Zbm P hqf Z E i oi e h (AAny P ops q hqf Z E K fuel (listed.setIfInBounds i true))→AAny P ops q hqf Z E K (fuel+1) listed e h:=by
 intro fuel
 induction fuel with
 | zero =>
  intro listed e h hfree hr H;refine ⟨fun h0=>(by rw [h0] at hr;cases hr),fun j hj o ho=>?_⟩;by_cases hji:j=i
  ·subst hji;rw [hi] at ho;simp only [Option.some.injEq] at ho;subst ho;exact H
  ·exfalso
   have hnr:Region.ready .any ops (listed.setIfInBounds i true)≠[]:=by
    intro h0;have:=ready_mono hj hji;rw [h0] at this;cases this
   obtain ⟨hjun,goj,hgoj,hall⟩:=mem_ready.1 hj;obtain ⟨f1,f2,f3⟩:=hfree j o goj ho hgoj hji hjun (Bh_ready hj (mem_ready.1 hr).1)
   apply hnr
   by_cases hiE:i∈E
   ·exact Zaq.out (K:=fun _ _=>True) (f3 hiE).1 (((Zbn hiE).1 H).2.mono fun v h' k=>⟨k.2.1,trivial⟩)
   ·obtain ⟨c,_,v,_,k⟩:=(Zbo hiE).1 H;exact k.1
 | succ fuel ih =>
  intro listed e h hfree hr H;refine ⟨fun h0=>(by rw [h0] at hr;cases hr),fun j hj oj hoj=>?_⟩;by_cases hji:j=i
  ·subst hji;rw [hi] at hoj;simp only [Option.some.injEq] at hoj;subst hoj;exact H
  ·obtain ⟨hjun,goj,hgoj,hall⟩:=mem_ready.1 hj;have hbr:=Bh_ready hj (mem_ready.1 hr).1;obtain ⟨f1,f2,f3⟩:=hfree j oj goj hoj hgoj hji hjun hbr;have H2:Zbm P hqf Z E i oi e h (fun e1 h1=>Zbm P hqf Z E j oj e1 h1 (AAny P ops q hqf Z E K fuel ((listed.setIfInBounds i true).setIfInBounds j true))) :=
    H.mono fun e1 h1 k=>k.2 j (ready_mono hj hji) oj hoj
   have H3:=Zbm.swap (AAny.inv hK hc fuel _) f1 (hc oi (List.mem_of_getElem? hi)) (hc oj (List.mem_of_getElem? hoj)) f2 f3 H2;have hfree' : ∀ (k : Nat) (ok : VOper) (gok : Oper), q[k]? = some ok → ops[k]? = some gok → k ≠ i → (listed.setIfInBounds j true).getD k true = false → ¬ Bh ops (listed.setIfInBounds j true) i k →
     oi.apart ok=true∧¬ (i∈E∧k∈E)∧(i∈E→oi.op.simple=true∧(ok.op.det||oi.op.sure)=true):=fun k ok gok hk hgk hki hun hno=>by
    refine hfree k ok gok hk hgk hki ?_ (fun hb=>hno (Bh_mono hbr hb));by_cases hjk:j=k
    ·subst hjk;exact hjun
    ·rw [getD_set_ne true hjk] at hun;exact hun
   refine Zbm.mono (fun e1 h1 k=>?_) H3;refine ih (listed.setIfInBounds j true) e1 h1 hfree' (ready_mono hr (Ne.symm hji)) ?_;rw [Array.setIfInBounds_comm _ _ hji];exact k
theorem AAny.firstS {K : Env → Heap → Prop} (hK : Inv K) (hc : ∀ o ∈ q, o.op.closed = true) {i : Nat} {oi : VOper} (hi : q[i]? = some oi) (hiE : i ∈ E) (hgu : oi.guard = none) {v0 : PV} {h0 : Heap} :
  ∀ (fuel:Nat) (listed:Array Bool) (e:Env) (h:Heap),
   (∀ (j:Nat) (oj:VOper) (goj:Oper),q[j]?=some oj→ops[j]?=some goj→j≠i→listed.getD j true=false→¬ Bh ops listed i j→oi.apart oj=true∧j ∉ E) →
   i∈Region.ready .any ops listed→(∀ K':PV→Heap→Prop,K' v0 h0→Zaq P e h oi.op K')→Z i h h0→AAny P ops q hqf Z E K fuel (listed.setIfInBounds i true) (e.put oi.dst v0) h0→AAny P ops q hqf Z E K (fuel+1) listed e h:=by
 intro fuel
 induction fuel with
 | zero =>
  intro listed e h hfree hr back hz H;refine ⟨fun h0=>(by rw [h0] at hr;cases hr),fun j hj o ho=>?_⟩;by_cases hji:j=i
  ·subst hji;rw [hi] at ho;simp only [Option.some.injEq] at ho;subst ho;exact (Zbn hiE).2 ⟨hgu,back _ ⟨hz,H⟩⟩
  ·exfalso
   have:=ready_mono hj hji;rw [H.1] at this;cases this
 | succ fuel ih =>
  intro listed e h hfree hr back hz H;refine ⟨fun h0=>(by rw [h0] at hr;cases hr),fun j hj oj hoj=>?_⟩;by_cases hji:j=i
  ·subst hji;rw [hi] at hoj;simp only [Option.some.injEq] at hoj;subst hoj;exact (Zbn hiE).2 ⟨hgu,back _ ⟨hz,H⟩⟩
  ·obtain ⟨hjun,goj,hgoj,hall⟩:=mem_ready.1 hj;have hbr:=Bh_ready hj (mem_ready.1 hr).1;obtain ⟨f1,f2⟩:=hfree j oj goj hoj hgoj hji hjun hbr;have ci:=hc oi (List.mem_of_getElem? hi);have cj:=hc oj (List.mem_of_getElem? hoj);obtain ⟨a1,a2,a3⟩:=apart_spec f1;have gi:∀ v,Agree oi.op.vas (e.put oj.dst v) e∧∀ c,gOf oi (e.put oj.dst v) c↔gOf oi e c:=fun v=>agree_put a2;have gj:∀ v,Agree oj.op.vas (e.put oi.dst v) e∧∀ c,gOf oj (e.put oi.dst v) c↔gOf oj e c:=fun v=>agree_put a1;obtain ⟨c,c1,v',c2,c3⟩:=(Zbo f2).1 (H.2 j (ready_mono hj hji) oj hoj);refine (Zbo f2).2 ⟨c,((gj v0).2 c).1 c1,v',fun hh=>by have:=c2 hh;rw [Zbx cj (gj v0).1] at this;exact this,?_⟩;have hfree':∀ (k:Nat) (ok:VOper) (gok:Oper),q[k]?=some ok→ops[k]?=some gok→k≠i→(listed.setIfInBounds j true).getD k true=false→¬ Bh ops (listed.setIfInBounds j true) i k→oi.apart ok=true∧k ∉ E:=fun k ok gok hk hgk hki hun hno=>by
    refine hfree k ok gok hk hgk hki ?_ (fun hb=>hno (Bh_mono hbr hb));by_cases hjk:j=k
    ·subst hjk;exact hjun
    ·rw [getD_set_ne true hjk] at hun;exact hun
   refine ih (listed.setIfInBounds j true) _ h hfree' (ready_mono hr (Ne.symm hji)) (fun K' k=>by rw [StepW_congr ci (gi _).1];exact back K' k) hz ?_;rw [Array.setIfInBounds_comm _ _ hji];exact AAny.inv hK hc fuel _ _ _ _ (put_swap e _ _ a3) c3
def DrawX (P:Program) (hqf:Nat→Heap) (Z:Nat→Heap→Heap→Prop) (cs:List Nat):Nat→List VOper→(Env→Heap→Prop)→Env→Heap→Prop
 | _,[],K,e,h=>K e h
 | k,o::r,K,e,h=>match cs.contains k with
  | true=>∃ v0 h0,(∀ K':PV→Heap→Prop,K' v0 h0→Zaq P e h o.op K')∧Z k h h0∧DrawX P hqf Z cs (k+1) r K (e.put o.dst v0) h0
  | false=>match o.op.simple,o.guard with
   | true,none=>Zaq P e h o.op (fun v h'=>Z k h h'∧DrawX P hqf Z cs (k+1) r K (e.put o.dst v) h')
   | true,some _=>False
   | false,none=>QW P (hqf k) e o.op true (fun v=>DrawX P hqf Z cs (k+1) r K (e.put o.dst v) h)
   | false,some (d,want)=>(match guardOf want (e.get d) with
    | some b=>QW P (hqf k) e o.op b (fun v=>DrawX P hqf Z cs (k+1) r K (e.put o.dst v) h)
    | none=>False)
def effX (q:List VOper) (cs:List Nat) (k:Nat):Bool:=cs.contains k||effAt q k
def chainX (q:List VOper) (late:List Bool):List Nat→Bool
 | a::b::r=>(match q[a]?,q[b]? with|some x,some y=>(!x.apart y||(x.op.simple&&y.op.simple)||(late.getD a false&&y.op.writes))&&decide (a<b)|_,_=>false)&&chainX q late (b::r)
 | _=>true
def drawXB (q:List VOper) (late:List Bool) (cs:List Nat):Bool:=cs.all (fun c=>match q[c]? with|some x=>x.guard.isNone && !x.op.simple|none=>false)&&chainX q late ((List.range q.length).filter (effX q cs))
def Lst (n:Nat):Nat→Array Bool
 | 0=>Array.replicate n false
 | k+1=>(Lst n k).setIfInBounds k true
theorem Lst_size (n:Nat):∀ k,(Lst n k).size=n
 | 0=>by simp [Lst]
 | k+1=>by simp [Lst,Lst_size n k]
theorem Lst_get (n:Nat):∀ (k j:Nat),j<n→(Lst n k).getD j true=decide (j<k)
 | 0,j,hj=>by simp [Lst,Array.getD,hj]
 | k+1,j,hj=>by
  have ih:=Lst_get n k j hj;by_cases e:k=j
  ·subst e;have hs:=Lst_size n k;simp [Lst,Array.getD,hs,hj]
  ·show ((Lst n k).setIfInBounds k true).getD j true=_;rw [getD_set_ne true e,ih];exact decide_eq_decide.2 (by omega)
theorem Lst_un {n k j:Nat} (h:(Lst n k).getD j true=false):k≤j∧j<n:=by
 rcases Nat.lt_or_ge j n with hj|hj
 ·rw [Lst_get n k j hj] at h;simp only [decide_eq_false_iff_not] at h;exact ⟨by omega,hj⟩
 ·have:=Lst_size n k;simp [Array.getD,this,Nat.not_lt.2 hj] at h
theorem drawB_all:∀ (n k:Nat),drawB ops q n k (Lst ops.size k)=true→∀ i,i<n→(Region.ready .any ops (Lst ops.size (k+i))).contains (k+i)=true∧freeB ops q (Lst ops.size (k+i)) (k+i)=true
 | 0,_,_,i,hi=>absurd hi (Nat.not_lt_zero _)
 | n+1,k,h,i,hi=>by
  simp only [drawB,Bool.and_eq_true] at h;obtain ⟨⟨⟨h1,h2⟩,_⟩,h4⟩:=h;cases i with
  | zero=>exact ⟨h1,h2⟩
  | succ i =>
   have:=drawB_all n (k+1) h4 i (by omega);rw [show k+(i+1)=k+1+i by omega];exact this
theorem drawB_end:∀ (n k:Nat),drawB ops q n k (Lst ops.size k)=true→(Region.ready .any ops (Lst ops.size (k+n))).isEmpty=true
 | 0,_,h=>h
 | n+1,k,h=>by
  simp only [drawB,Bool.and_eq_true] at h;have:=drawB_end n (k+1) h.2;rw [show k+(n+1)=k+1+n by omega];exact this
theorem free_cases {listed : Array Bool} {k j : Nat} {x y : VOper} (hf : freeB ops q listed k = true) (hj : j < ops.size) (hjk : j ≠ k) (hun : listed.getD j true = false) (hx : q[k]? = some x) (hy : q[j]? = some y) :
  Bh ops listed k j∨(x.apart y=true∧(x.op.simple=false∨y.op.simple=false)∧(x.op.simple=false∨y.op.det=true)):=by
 simp only [freeB,List.all_eq_true,List.mem_range] at hf;have hfj:=hf j hj;rw [hx,hy,hun] at hfj;simp only [Bool.or_eq_true,beq_iff_eq,Bool.and_eq_true,Bool.not_eq_true',Bool.and_eq_false_iff,Bool.false_eq_true,or_false] at hfj;rcases hfj with (hfj|hfj)|hfj
 ·exact absurd hfj hjk
 ·exact .inl (behindB_Bh hfj)
 ·exact .inr ⟨hfj.1.1,hfj.1.2,hfj.2⟩
theorem Bh_up (hR:∀ k,k<ops.size→(Region.ready .any ops (Lst ops.size k)).contains k=true) {a j:Nat} (hj:j<ops.size) (h:Bh ops (Lst ops.size 0) a j):a<j∧Bh ops (Lst ops.size a) a j:=by
 have key:∀ (j:Nat),j<ops.size→∀ (o:Oper) (x:Edge),ops[j]?=some o→x∈o.after→Region.binds .any x=true→x.on<j:=by
  intro j hj o x ho hx hb;have hr:=hR j hj;have hr':j∈Region.ready .any ops (Lst ops.size j):=by simpa using hr
  obtain ⟨_,goj,hgoj,hall⟩:=mem_ready.1 hr';rw [ho] at hgoj;simp only [Option.some.injEq] at hgoj;subst hgoj;have h1:=hall x hx hb;have hsz:=Lst_size ops.size j;have h2:x.on<ops.size:=by
   rcases Nat.lt_or_ge x.on ops.size with h'|h'
   ·exact h'
   ·simp [Array.getD,hsz,Nat.not_lt.2 h'] at h1
  have h3:=Lst_get ops.size j x.on h2;have h4:(Lst ops.size j).getD x.on true=(Lst ops.size j).getD x.on false:=by simp [Array.getD,hsz,h2]
  rw [h4,h1] at h3
  simpa using h3.symm
 induction h with
 | edge ho hx hb he =>
  have:=key _ hj _ _ ho hx hb;exact ⟨by omega,.edge ho hx hb he⟩
 | step ho hx hb hu _ ih =>
  have h1:=key _ hj _ _ ho hx hb;obtain ⟨i1,i2⟩:=ih (by omega);exact ⟨by omega,.step ho hx hb (by rw [Lst_get _ _ _ (by omega)];exact decide_eq_false (by omega)) i2⟩
theorem chain_pair (hF:∀ k,k<ops.size→freeB ops q (Lst ops.size k) k=true) (hR:∀ k,k<ops.size→(Region.ready .any ops (Lst ops.size k)).contains k=true) (late:List Bool) (hlate:∀ i,late.getD i false=true→∀ j,Za4 q j=true→Za2 ops (Array.replicate ops.size false) ops.size i j=true):∀ L:List Nat,chainX q late L=true→(∀ x∈L,x<ops.size)→L.Pairwise fun a b=>Bh ops (Lst ops.size a) a b∧a<b
 | [],_,_=>.nil
 | [a],_,_=>List.pairwise_singleton _ _
 | a::b::r,h,hl=>by
  simp only [chainX,Bool.and_eq_true] at h;obtain ⟨h1,h2⟩:=h;have ih:=chain_pair hF hR late hlate (b::r) h2 fun x hx=>hl x (List.mem_cons_of_mem _ hx);have ha:=hl a (by simp);have hb:=hl b (by simp);have hab:Bh ops (Lst ops.size a) a b∧a<b:=by
   split at h1
   ·rename_i x y hx hy;simp only [Bool.and_eq_true,Bool.or_eq_true,Bool.not_eq_true',decide_eq_true_eq] at h1;refine ⟨?_,h1.2⟩;rcases h1.1 with (h4|h4)|h4
    ·rcases free_cases (hF a ha) hb (by omega) (by rw [Lst_get _ _ _ hb];exact decide_eq_false (by omega)) hx hy with h3|h3
     ·exact h3
     ·rw [h4] at h3;cases h3.1
    ·rcases free_cases (hF a ha) hb (by omega) (by rw [Lst_get _ _ _ hb];exact decide_eq_false (by omega)) hx hy with h3|h3
     ·exact h3
     ·rcases h3.2.1 with h5|h5
      ·rw [h4.1] at h5;cases h5
      ·rw [h4.2] at h5;cases h5
    ·have hwb:Za4 q b=true:=by unfold Za4;rw [hy];exact h4.2
     exact (Bh_up hR hb (behindB_Bh (hlate a h4.1 b hwb))).2
   ·cases h1
  refine List.pairwise_cons.2 ⟨fun y hy=>?_,ih⟩;rcases List.mem_cons.1 hy with rfl|hy
  ·exact hab
  ·have hby:=(List.pairwise_cons.1 ih).1 y hy;exact ⟨Bh_trans (fun x hx=>by have:=Lst_un hx;rw [Lst_get _ _ _ this.2];exact decide_eq_false (by omega)) (by rw [Lst_get _ _ _ hb];exact decide_eq_false (by omega)) hab.1 hby.1,by omega⟩
theorem lex_soundX {cs : List Nat} {late : List Bool} (hck : drawXB q late cs = true) (hlate : ∀ i, late.getD i false = true → ∀ j, Za4 q j = true → Za2 ops (Array.replicate ops.size false) ops.size i j = true) {K : Env → Heap → Prop} (hK : Inv K) (hlen : ops.size = q.length) (hB : drawB ops q q.length 0 (Lst ops.size 0) = true) (hc : ∀ o ∈ q, o.op.closed = true) : ∀ (l : List VOper) (k : Nat) (e : Env) (h : Heap), (∀ j, l[j]? = q[k + j]?) → k + l.length = q.length →
  DrawX P hqf Z cs k l K e h→AAny P ops q hqf Z (cs++Zbi q) K l.length (Lst ops.size k) e h:=by
 have hall:=drawB_all q.length 0 hB;simp only [Nat.zero_add] at hall;have hF:∀ k,k<ops.size→freeB ops q (Lst ops.size k) k=true:=fun k hk=>(hall k (by omega)).2;unfold drawXB at hck;rw [Bool.and_eq_true] at hck;obtain ⟨hcs,hch⟩:=hck;have hpair:=chain_pair hF (fun k hk=>(hall k (by omega)).1) late hlate _ hch (fun x hx=>by have:=(List.mem_filter.1 hx).1;rw [List.mem_range] at this;omega);have hE:∀ k,k∈cs++Zbi q↔k<q.length∧effX q cs k=true:=by
  intro k;unfold effX;rw [List.mem_append,Bool.or_eq_true,Zbi,List.mem_filter,List.mem_range,List.contains_iff_mem];constructor
  ·rintro (h1|h1)
   ·refine ⟨?_,.inl h1⟩;have:=List.all_eq_true.1 hcs k h1;split at this
    ·rename_i x hx;exact (List.getElem?_eq_some_iff.1 hx).1
    ·cases this
   ·exact ⟨h1.1,.inr h1.2⟩
  ·rintro ⟨h1,h2|h2⟩
   ·exact .inl h2
   ·exact .inr ⟨h1,h2⟩
 have hBh:∀ a b,a∈cs++Zbi q→b∈cs++Zbi q→a<b→Bh ops (Lst ops.size a) a b:=by
  intro a b ha hb hab;have ma:a∈(List.range q.length).filter (effX q cs):=List.mem_filter.2 ⟨List.mem_range.2 ((hE a).1 ha).1,((hE a).1 ha).2⟩;have mb:b∈(List.range q.length).filter (effX q cs):=List.mem_filter.2 ⟨List.mem_range.2 ((hE b).1 hb).1,((hE b).1 hb).2⟩;obtain ⟨i,hi,rfl⟩:=List.mem_iff_getElem.1 ma;obtain ⟨j,hj,rfl⟩:=List.mem_iff_getElem.1 mb;rcases Nat.lt_trichotomy i j with h1|h1|h1
  ·exact (List.pairwise_iff_getElem.1 hpair i j hi hj h1).1
  ·subst h1;omega
  ·have:=(List.pairwise_iff_getElem.1 hpair j i hj hi h1).2;omega
 intro l
 induction l with
 | nil =>
  intro k e h hl hk H;have:=drawB_end q.length 0 hB;rw [Nat.zero_add] at this;simp only [List.length_nil,Nat.add_zero] at hk;refine ⟨?_,H⟩;rw [hk];simpa using this
 | cons o l ih =>
  intro k e h hl hk H;have h0:q[k]?=some o:=by simpa using (hl 0).symm
  have hkl:k<q.length:=(List.getElem?_eq_some_iff.1 h0).1;have hl':∀ j,l[j]?=q[(k+1)+j]?:=fun j=>by have:=hl (j+1);simpa [Nat.add_assoc,Nat.add_comm 1 j] using this
  obtain ⟨hr,hf⟩:=hall k hkl;have hr':k∈Region.ready .any ops (Lst ops.size k):=by simpa using hr
  have ih':∀ e' h',DrawX P hqf Z cs (k+1) l K e' h'→AAny P ops q hqf Z (cs++Zbi q) K l.length ((Lst ops.size k).setIfInBounds k true) e' h' :=
   fun e' h' H'=>ih (k+1) e' h' hl' (by simp only [List.length_cons] at hk;omega) H'
  have pair : ∀ (j : Nat) (oj : VOper) (goj : Oper), q[j]? = some oj → ops[j]? = some goj → j ≠ k → (Lst ops.size k).getD j true = false → ¬ Bh ops (Lst ops.size k) k j →
    o.apart oj=true∧(o.op.simple=false∨oj.op.det=true)∧¬ (k∈cs++Zbi q∧j∈cs++Zbi q):=by
   intro j oj goj hj hgj hjk hun hno;have hu:=Lst_un hun;rcases free_cases hf hu.2 hjk hun h0 hj with h1|h1
   ·exact absurd h1 hno
   ·exact ⟨h1.1,h1.2.2,fun ⟨x1,x2⟩=>hno (hBh k j x1 x2 (by omega))⟩
  have hsim:∀ k',cs.contains k'=false→q[k']?=some o→(k'∈cs++Zbi q↔o.op.simple=true):=by
   intro k' hk' hq';rw [hE];unfold effX;rw [hk',Bool.false_or,effAt,hq'];exact ⟨fun h=>h.2,fun h=>⟨(List.getElem?_eq_some_iff.1 hq').1,h⟩⟩
  simp only [DrawX] at H;split at H
  ·rename_i hkc;obtain ⟨v0,h1,back,hz,H'⟩:=H;have hm:k∈cs:=by simpa using hkc
   have hg:=List.all_eq_true.1 hcs k hm;rw [h0] at hg;simp only [Bool.and_eq_true,Option.isNone_iff_eq_none] at hg;have hkE:k∈cs++Zbi q:=List.mem_append.2 (.inl hm);exact AAny.firstS hK hc h0 hkE hg.1 l.length (Lst ops.size k) e h (fun j oj goj hj hgj hjk hun hno=>⟨(pair j oj goj hj hgj hjk hun hno).1,fun hjE=>(pair j oj goj hj hgj hjk hun hno).2.2 ⟨hkE,hjE⟩⟩) hr' back hz (ih' _ _ H')
  ·rename_i hkc;have hs1:=hsim k hkc h0;refine AAny.firstB hK hc hlen h0 l.length (Lst ops.size k) e h (fun j oj goj hj hgj hjk hun hno=>?_) hr' ?_
   ·obtain ⟨p1,p2,p3⟩:=pair j oj goj hj hgj hjk hun hno;refine ⟨p1,p3,fun hkE=>?_⟩;have s1:=hs1.1 hkE;refine ⟨s1,?_⟩;rcases p2 with p2|p2
    ·rw [s1] at p2;cases p2
    ·rw [p2];rfl
   ·have hq2 : ∀ b, gOf o e b → QW P (hqf k) e o.op b (fun v => DrawX P hqf Z cs (k + 1) l K (e.put o.dst v) h) → o.op.simple = false → Zbm P hqf Z (cs ++ Zbi q) k o e h (AAny P ops q hqf Z (cs ++ Zbi q) K l.length ((Lst ops.size k).setIfInBounds k true)) := by
     intro b hg hQ hs;have hnE:k ∉ cs++Zbi q:=fun hh=>by rw [hs1.1 hh] at hs;cases hs
     refine (Zbo hnE).2 ⟨b,hg,?_⟩;unfold QW at hQ;split at hQ
     ·rename_i hd;exact ⟨_,fun hh=>det_quiet hd (hQ.1 hh),ih' _ _ hQ.2⟩
     ·obtain ⟨v,v1,v2⟩:=hQ;exact ⟨v,v1,ih' _ _ v2⟩
    split at H
    ·rename_i hs hg;exact (Zbn (hs1.2 hs)).2 ⟨hg,H.mono fun v h' kk=>⟨kk.1,ih' _ _ kk.2⟩⟩
    ·exact H.elim
    ·rename_i hs hg;exact hq2 true (by simp [gOf,hg]) H hs
    ·rename_i hs hg;split at H
     ·rename_i b hgc;exact hq2 b (by simp [gOf,hg,hgc]) H hs
     ·exact H.elim
def DrawY (P:Program) (big small:Heap) (late:List Bool) (cs:List Nat):Nat→List VOper→(Env→Heap→Prop)→Env→Heap→Prop
 | _,[],K,e,h=>K e h
 | k,o::r,K,e,h=>match cs.contains k with
  | true=>∃ v0 h0,(∀ K':PV→Heap→Prop,K' v0 h0→Zaq P e h o.op K')∧small.le h0∧big.le h0∧DrawY P big small late cs (k+1) r K (e.put o.dst v0) h0
  | false=>match o.op.simple,o.guard with
   | true,none=>Zaq P e h o.op (fun v h'=>small.le h'∧(o.op.writes=false→big.le h')∧DrawY P big small late cs (k+1) r K (e.put o.dst v) h')
   | true,some _=>False
   | false,none=>QW P (if late.getD k false=true then big else small) e o.op true (fun v=>DrawY P big small late cs (k+1) r K (e.put o.dst v) h)
   | false,some (d,want)=>(match guardOf want (e.get d) with
    | some b=>QW P (if late.getD k false=true then big else small) e o.op b (fun v=>DrawY P big small late cs (k+1) r K (e.put o.dst v) h)
    | none=>False)
theorem shp_of_le {s h:Heap} (hl:s.le h):Shp s h:=fun id fz z es hg=>⟨fz,es,Heap.le_get hl _ _ hg⟩
theorem QW.monoX {e:Env} {hq:Heap} {op:VOp} {c:Bool} {K K':PV→Prop} (hk:∀ v,K v→K' v) (H:QW P hq e op c K):QW P hq e op c K':=by
 unfold QW at *;split
 ·rename_i hd;rw [hd] at H;exact ⟨H.1,hk _ H.2⟩
 ·rename_i hd;rw [hd] at H;obtain ⟨v,h1,h2⟩:=H;exact ⟨v,h1,hk _ h2⟩
theorem DrawY.toX {big small:Heap} {late:List Bool} {cs:List Nat} {K:Env→Heap→Prop}:∀ (l:List VOper) (k:Nat) (e:Env) (h:Heap),(∀ j,l[j]?=q[k+j]?)→DrawY P big small late cs k l K e h→DrawX P (hq3 q late big small small) (zed3 q big small small) cs k l K e h
 | [],_,_,_,_,H=>H
 | o::r,k,e,h,hl,H=>by
  have h0:q[k]?=some o:=by simpa using (hl 0).symm
  have hl':∀ j,r[j]?=q[(k+1)+j]?:=fun j=>by have:=hl (j+1);simpa [Nat.add_assoc,Nat.add_comm 1 j] using this
  have ih:=fun e h=>DrawY.toX (big:=big) (small:=small) (late:=late) (cs:=cs) (K:=K) r (k+1) e h hl';have hh:hq3 q late big small small k=if late.getD k false=true then big else small:=by
   unfold hq3;split
   ·rfl
   ·simp only [ite_self]
  cases hc:cs.contains k with
  | true =>
   simp only [DrawY,hc] at H;simp only [DrawX,hc];obtain ⟨v0,h1,back,z1,z2,H⟩:=H;exact ⟨v0,h1,back,⟨z1,fun _ _=>z2,fun _=>shp_of_le z1⟩,ih _ _ H⟩
  | false =>
   cases hs:o.op.simple with
   | true =>
    cases hg:o.guard with
    | none =>
     simp only [DrawY,hc,hs,hg] at H;simp only [DrawX,hc,hs,hg];refine H.mono fun v h' ⟨z1,z2,k'⟩=>⟨⟨z1,fun hw _=>z2 ?_,fun _=>shp_of_le z1⟩,ih _ _ k'⟩;unfold Za4 at hw;rw [h0] at hw;exact hw
    | some dw=>simp only [DrawY,hc,hs,hg] at H
   | false =>
    cases hg:o.guard with
    | none =>
     simp only [DrawY,hc,hs,hg] at H;simp only [DrawX,hc,hs,hg,hh];exact QW.monoX (fun v k'=>ih _ _ k') H
    | some dw =>
     obtain ⟨d,want⟩:=dw;simp only [DrawY,hc,hs,hg] at H;simp only [DrawX,hc,hs,hg,hh];cases hgc:guardOf want (e.get d) with
     | none=>rw [hgc] at H;exact H.elim
     | some c =>
      rw [hgc] at H;exact QW.monoX (fun v k'=>ih _ _ k') H
theorem DrawY_nil {big small:Heap} {late:List Bool} {cs:List Nat} {k:Nat} {K:Env→Heap→Prop} {e:Env} {h:Heap}:DrawY P big small late cs k [] K e h=K e h:=rfl
theorem DrawY_at {big small:Heap} {late:List Bool} {cs:List Nat} {k:Nat} {dst:Option Nat} {op:VOp} {gd:Option (Nat×Bool)} {r:List VOper} {K:Env→Heap→Prop} {e:Env} {h:Heap} (hk:cs.contains k=true):DrawY P big small late cs k (⟨dst,op,gd⟩::r) K e h=∃ v0 h0,(∀ K':PV→Heap→Prop,K' v0 h0→Zaq P e h op K')∧small.le h0∧big.le h0∧DrawY P big small late cs (k+1) r K (e.put dst v0) h0:=by
 simp only [DrawY,hk]
theorem DrawY_n {big small : Heap} {late : List Bool} {cs : List Nat} {k : Nat} {dst : Option Nat} {op : VOp} {r : List VOper} {K : Env → Heap → Prop} {e : Env} {h : Heap} (hk : cs.contains k = false) : DrawY P big small late cs k (⟨dst, op, none⟩ :: r) K e h = (match op.simple with
  | true=>Zaq P e h op (fun v h'=>small.le h'∧(op.writes=false→big.le h')∧DrawY P big small late cs (k+1) r K (e.put dst v) h')
  | false=>QW P (if late.getD k false=true then big else small) e op true (fun v=>DrawY P big small late cs (k+1) r K (e.put dst v) h)):=by
 cases hs:op.simple<;>simp only [DrawY,hk,hs]
theorem DrawY_0 {big small : Heap} {late : List Bool} {k : Nat} {dst : Option Nat} {op : VOp} {r : List VOper} {K : Env → Heap → Prop} {e : Env} {h : Heap} : DrawY P big small late [] k (⟨dst, op, none⟩ :: r) K e h = (match op.simple with
  | true=>Zaq P e h op (fun v h'=>small.le h'∧(op.writes=false→big.le h')∧DrawY P big small late [] (k+1) r K (e.put dst v) h')
  | false=>QW P (if late.getD k false=true then big else small) e op true (fun v=>DrawY P big small late [] (k+1) r K (e.put dst v) h)):=DrawY_n rfl
theorem VW_draw2Y {Q : Exit → Env → Heap → Prop} {e : Env} {h : Heap} {late : List Bool} (cs : List Nat) (l : List Nat) (big small : Heap) (hck : drawXB q late cs = true) (hl : big.le h) (hls : small.le h)
  (HY:DrawY P big small late cs 0 q (fun e' h'=>Q .normal (Env.keep l e') h') e h):VW P N (.draw2 q late) Q e h:=by
 obtain ⟨mid,hmid⟩:∃ mid,mid=small:=⟨_,rfl⟩;have hm:Shp mid h:=by rw [hmid];exact shp_of_le hls
 have H:=DrawY.toX (q:=q) q 0 e h (fun j=>by simp) HY;rw [show zed3 q big small small=zed3 q big mid small by rw [hmid],show hq3 q late big small small=hq3 q late big mid small by rw [hmid]] at H;intro c hc;cases c
 case region id ops draw =>
  obtain ⟨p,h3,h'|h'|h'⟩:=Zbw hc
  ·obtain ⟨_,h'⟩:=h';cases h'
  ·obtain ⟨hd,hB,h'|h'⟩:=h'
   ·obtain ⟨_,h'⟩:=h';cases h'
   ·simp only [VC.draw2.injEq] at h';obtain ⟨h5,h6⟩:=h';subst h5;subst hd;simp only [Bool.and_eq_true] at hB;obtain ⟨hmm,hB⟩:=hB;have hm0:=hm;obtain ⟨hlen,_⟩:=Zcw h3;rw [Array.length_toList] at hlen;have hcl:∀ o∈q,o.op.closed=true:=by
     cases q with
     | nil=>intro o ho;cases ho
     | cons x xs =>
      rw [hlen] at hB;simp only [List.length_cons,drawB,Bool.and_eq_true] at hB;exact fun o ho=>List.all_eq_true.1 hB.1.2 o ho
    have hlate:∀ i,late.getD i false=true→∀ j,Za4 q j=true→Za2 ops (Array.replicate ops.size false) ops.size i j=true:=by
     intro i hi j hj;have hjl:j<ops.size:=by
      unfold Za4 at hj;split at hj
      ·rename_i o ho;have:=(List.getElem?_eq_some_iff.1 ho).1;omega
      ·cases hj
     rw [h6] at hi;simp only [lateL,List.getD_eq_getElem?_getD,List.getElem?_map] at hi;cases hr:(List.range ops.size)[i]? with
     | none=>rw [hr] at hi;simp at hi
     | some k =>
      rw [hr] at hi;have hk:k=i:=by
       obtain ⟨_,h9⟩:=List.getElem?_eq_some_iff.1 hr
       simpa using h9.symm
      subst hk;simp only [Option.map_some,Option.getD_some,lateB,List.all_eq_true,List.mem_range] at hi;have:=hi j hjl
      simpa [hj] using this
    intro g w a r he hd hs;refine wpIn_region_any hmm ?_;have hany:=lex_soundX (P:=P) (q:=q) (ops:=ops) (hqf:=hq3 q late big mid small) (Z:=zed3 q big mid small) hck hlate (K:=fun e' h'=>Q .normal (Env.keep l e') h') (fun e1 e2 h1 hee hk=>by have hk':Q .normal (Env.keep l e1) h1:=hk;rw [keep_eqv hee l] at hk';exact hk') hlen (by rw [← hlen];exact hB) hcl q 0 e h (fun j=>by simp) (by simp) H;rw [show Lst ops.size 0=Array.replicate ops.size false from rfl] at hany;rw [← hlen] at hany;have hset:∀ (listed:Array Bool) (i j:Nat),(listed.setIfInBounds i true).getD j true=false→listed.getD j true=false∧i≠j:=by
     intro listed i j hj;by_cases hij:i=j
     ·subst hij;rcases Nat.lt_or_ge i listed.size with h'|h'
      ·simp [Array.getD,h'] at hj
      ·simp [Array.getD,Nat.not_lt.2 h'] at hj
     ·rw [getD_set_ne true hij] at hj;exact ⟨hj,hij⟩
    have hdown : ∀ (listed : Array Bool) (i : Nat), i ∈ Region.ready .any ops listed → (∀ (j : Nat) (o : Oper), listed[j]? = some true → ops[j]? = some o → ∀ x ∈ o.after, Region.binds .any x = true → listed[x.on]? = some true) →
      ∀ (j:Nat) (o:Oper),(listed.setIfInBounds i true)[j]?=some true→ops[j]?=some o→∀ x∈o.after,Region.binds .any x=true→(listed.setIfInBounds i true)[x.on]?=some true:=by
     intro listed i hi i2 j o hj ho x hx hb;have keep:∀ (k:Nat),listed[k]?=some true→(listed.setIfInBounds i true)[k]?=some true:=by
      intro k hk;rw [Array.getElem?_setIfInBounds];split
      ·rename_i hik;subst hik;have:=(Array.getElem?_eq_some_iff.1 hk).1;simp [this]
      ·exact hk
     by_cases hij:i=j
     ·subst hij;obtain ⟨_,o',ho',hall⟩:=mem_ready.1 hi;rw [ho] at ho';simp only [Option.some.injEq] at ho';subst ho';refine keep _ ?_;have h8:=hall x hx hb;rcases Nat.lt_or_ge x.on listed.size with h7|h7
      ·simp [Array.getD,h7] at h8;simp [h7,h8]
      ·simp [Array.getD,Nat.not_lt.2 h7] at h8
     ·rw [Array.getElem?_setIfInBounds_ne hij] at hj;exact keep _ (i2 j o hj ho x hx hb)
    refine any_sound (N:=N) h3 (fun listed h=>(small.le h∧listed.size=ops.size)∧(∀ (j:Nat) (o:Oper),listed[j]?=some true→ops[j]?=some o→∀ x∈o.after,Region.binds .any x=true→listed[x.on]?=some true)∧((∀ j,Za4 q j=true→listed.getD j true=false)→big.le h)∧Shp mid h) ?_ ?_ ?_ (Q:=fun x a' w'=>∃ g' e' h',Q x e' h'∧Rel g' w' h'∧Zar g' a' e'∧N.dok x a'.defers h'∧a'.tmps.size=N.n∧Evo g w h g' w' h') (g0:=g) (w0:=w) (h0:=h)
     (fun g' w' h' a' e' k1 k2 k3 k4 k5 k6=>⟨g',_,h',k1,k2,k3.keep l,k4,k5,k6⟩) _ _ e h hany ⟨⟨hls,by simp⟩,fun j o hj=>by (simp [Array.getElem?_replicate] at hj),fun _=>hl,hm0⟩ g _ a (r.drew _) he hd hs (Evo.drew _ _ _ _)
    ·rintro listed h' i vo ⟨⟨i1,i0⟩,i2,i3,i4⟩ hi _ hvo;simp only [hq3,hvo];split
     ·rename_i hli;refine .inl (i3 fun j hj=>?_);have hb:=hlate i hli j hj;have hi0:=(mem_ready.1 hi).1;have hjl':j<ops.size:=by
       unfold Za4 at hj;split at hj
       ·rename_i o ho;have:=(List.getElem?_eq_some_iff.1 ho).1;omega
       ·cases hj
      cases hjl:listed.getD j true with
      | false=>rfl
      | true =>
       exfalso
       have hjs:listed[j]?=some true:=by
        have h7:j<listed.size:=by omega
        simp [Array.getD,h7] at hjl;simp [h7,hjl]
       have:=behind_listed i2 ops.size j hb hjs;rcases Nat.lt_or_ge i listed.size with h7|h7
       ·simp [Array.getD,h7] at hi0;simp [h7,hi0] at this
       ·simp [Array.getElem?_eq_none h7] at this
     ·split
      ·rename_i hia;exact .inr ⟨hia,i4⟩
      ·exact .inl i1
    ·rintro listed h' i ⟨⟨i1,i0⟩,i2,i3,i4⟩ hi _;exact ⟨⟨i1,by simpa using i0⟩,hdown listed i hi i2,(fun hw=>i3 fun j hj=>(hset listed i j (hw j hj)).1),i4⟩
    ·rintro listed h' i h'' ⟨⟨i1,i0⟩,i2,i3,i4⟩ hi _ ⟨z1,z2,z3⟩;refine ⟨⟨z1,by simpa using i0⟩,hdown listed i hi i2,(fun hw=>?_),z3 i4⟩;refine z2 ?_ (i3 fun j hj=>(hset listed i j (hw j hj)).1);cases hwi:Za4 q i with
     | false=>rfl
     | true=>exact absurd rfl (hset listed i i (hw i hwi)).2
  ·obtain ⟨c,h'⟩:=h';cases h'
 all_goals
  simp only [Zbr,Option.map_eq_some_iff] at hc
  first
  |(simp at hc;done)
  |(split at hc<;>simp at hc)
end
theorem Zal.own0 {P:Program} {f:FuncId} {args:List PV} {h:Heap} {K:PV→Heap→Prop} (z:Nat) (H:Zal P f args h (fun p h'=>(p=.nilsl∧∃ h0:Heap,h0.le h'∧K (.own h0.top 0 0) (h0.push (.arr false z [])))∨K p h')):Zal P f args h K:=by
 refine ⟨H.1,fun g w vals r ha=>(H.2 g w vals r ha).mono ?_⟩;rintro x w' ⟨v,p,g',h',rfl,hk,rep,r',ev⟩;rcases hk with ⟨rfl,h0,hl,hk⟩|hk
 ·obtain ⟨r1,r2⟩:=(r'.weaken hl).none none z w' rfl rfl rfl rfl;refine ⟨v,_,g',_,rfl,hk,?_,r1,(ev.weakenR hl).trans r2⟩;cases rep;exact .ownE _ _ _
 ·exact ⟨v,p,g',h',rfl,hk,rep,r',ev⟩
end Go.VM
