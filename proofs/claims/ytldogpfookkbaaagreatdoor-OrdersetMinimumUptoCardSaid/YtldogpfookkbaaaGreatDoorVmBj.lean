import Derived.Test.YtldogpfookkbaaaGreatDoorVmZ
set_option linter.all false
namespace Go.VM
open Go
section
variable {P:Program} {N:FK} {ops:Array Oper} {q:List VOper}
def hqA(h0:Heap)(late:List Bool)(i:Nat):Heap:=if late.getD i false then h0 else⟨[],h0.top⟩
def zedA(q:List VOper)(h0:Heap)(i:Nat)(h h':Heap):Prop:=(⟨[],h0.top⟩:Heap).le h'∧(Za2 q i=false→h0.le h→h0.le h')
def Zhp(P:Program)(hqf:Nat→Heap)(Z:Nat→Heap→Heap→Prop)(c:Nat):Nat→List VOper→(Env→Heap→Prop)→Env→Heap→Prop
 |_,[],K,e,h=>K e h
 | k,o::r,K,e,h=>match k==c with
  |true=>o.guard=none∧Zau P e h o.op (fun v h'=>Z k h h'∧Zhp P hqf Z c (k+1) r K (e.put o.dst v) h')
  | false=>match o.op.simple,o.guard with
   |true,none=>Zau P e h o.op (fun v h'=>Z k h h'∧Zhp P hqf Z c (k+1) r K (e.put o.dst v) h')
   |true,some _=>False
   |false,none=>QW P (hqf k) e o.op true (fun v=>Zhp P hqf Z c (k+1) r K (e.put o.dst v) h)
   |false,some (d,want)=>(match guardOf want (e.get d)with
    |some b=>QW P (hqf k) e o.op b (fun v=>Zhp P hqf Z c (k+1) r K (e.put o.dst v) h)
    |none=>False)
def StL(ops:Array Oper)(L:Array Bool)(m:Nat):Prop:=(∀i,i<m→L.getD i true=true)∧(∀i,m≤i→i<ops.size→L.getD i true=false)∧L.size=ops.size
theorem StL.next{L:Array Bool}{m:Nat}(h:StL ops L m):StL ops (L.setIfInBounds m true) (m+1):=by
 obtain⟨h1,h2,h3⟩:=h;refine⟨fun i hi=>?_,fun i h4 h5=>?_,by simpa using h3⟩
 ·by_cases hm:m=i
  ·subst hm;rcases Nat.lt_or_ge m L.size with h'|h'
   ·simp[h']
   ·simp[Zx6,Array.getElem?_eq_none (show(L.setIfInBounds m true).size≤m by simpa using h')]
  ·rw[getD_set_ne true hm];exact h1 i (by omega)
 ·rw[getD_set_ne true (by omega)];exact h2 i (by omega) h5
theorem Zox{L L':Array Bool}(h:∀i,L'.getD i true=true→L.getD i true=true):∀{f k j:Nat},Zaz ops L f k j=true→Zaz ops L' f k j=true
 |0,_,_,H=>by cases H
 | f+1,k,j,H=>by
  simp only[Zaz]at H⊢;split at H
  ·rename_i o ho;rw[Array.any_eq_true']at H⊢;obtain⟨x,hx,hxx⟩:=H;refine⟨x,hx,?_⟩;simp only[Zx4,Bool.or_eq_true,beq_iff_eq,Bool.not_eq_true']at hxx⊢;refine⟨hxx.1,hxx.2.imp id fun⟨a,b⟩=>⟨?_,Zox h b⟩⟩;cases hc:L'.getD x.on true with
   |false=>rfl
   |true=>rw[h _ hc]at a;cases a
  ·cases H
theorem Zke{L:Array Bool}:∀{f g k j:Nat},f≤g→Zaz ops L f k j=true→Zaz ops L g k j=true
 |0,_,_,_,_,H=>by cases H
 |f+1,0,_,_,h,_=>by omega
 |f+1,g+1,k,j,h,H=>by
  simp only[Zaz]at H⊢;split at H
  ·rename_i o ho;rw[Array.any_eq_true']at H⊢;obtain⟨x,hx,hxx⟩:=H;refine⟨x,hx,?_⟩;simp only[Zx4,Bool.or_eq_true,beq_iff_eq,Bool.not_eq_true']at hxx⊢;exact⟨hxx.1,hxx.2.imp id fun⟨a,b⟩=>⟨a,Zke (by omega) b⟩⟩
  ·cases H
theorem Zmf{L:Array Bool}{c m:Nat}(hm:L.getD m true=false){g:Nat}(H2:Zaz ops L g c m=true):∀{f j:Nat},Zaz ops L f m j=true→Zaz ops L (f+g) c j=true
 |0,_,H=>by cases H
 | f+1,j,H=>by
  rw[show f+1+g=(f+g)+1 by omega];simp only[Zaz]at H⊢;split at H
  ·rename_i o ho;rw[Array.any_eq_true']at H⊢;obtain⟨x,hx,hxx⟩:=H;refine⟨x,hx,?_⟩;simp only[Zx4,Bool.or_eq_true,beq_iff_eq,Bool.not_eq_true']at hxx⊢;refine⟨hxx.1,.inr ?_⟩;rcases hxx.2 with e|⟨a,b⟩
   ·rw[e];exact⟨hm,Zke (by omega) H2⟩
   ·exact⟨a,Zmf hm H2 b⟩
  ·cases H
theorem Zrb{L:Array Bool}{c k:Nat}(hli:∀i,i<c→L.getD i true=true)(hd:∀(j:Nat) (o:Oper),c≤j→ops[j]?=some o→∀x∈o.after,Region.binds .any x=true→x.on<j):∀(f j:Nat),c≤j→Zaz ops L f k j=true→Zaz ops L (j+1) k j=true
 |0,_,_,H=>by cases H
 | f+1,j,hj,H=>by
  simp only[Zaz]at H⊢;split at H
  ·rename_i o ho;rw[Array.any_eq_true']at H⊢;obtain⟨x,hx,hxx⟩:=H;refine⟨x,hx,?_⟩;simp only[Zx4,Bool.or_eq_true,beq_iff_eq,Bool.not_eq_true']at hxx⊢;have hlt:=hd j o hj ho x hx hxx.1;refine⟨hxx.1,hxx.2.imp id fun⟨a,b⟩=>⟨a,?_⟩⟩;have hc:c≤x.on:=by
    rcases Nat.lt_or_ge x.on c with h|h
    ·rw[hli _ h]at a;cases a
    ·exact h
   exact Zke (by omega) (Zrb hli hd f x.on hc b)
  ·cases H
theorem Zoy:∀(n k:Nat) (L:Array Bool),StL ops L k→Zej ops q n k L=true→∀m,k≤m→m<k+n→∃L',StL ops L' m∧m∈Region.ready .any ops L'∧Zpn ops q L' m=true
 |0,k,L,_,_,m,h1,h2=>by omega
 |n+1,k,L,hs,H,m,h1,h2=>by
  simp only[Zej,Zx4]at H;obtain⟨⟨⟨a,b⟩,_⟩,d⟩:=H;by_cases hm:m=k
  ·subst hm;exact⟨L,hs,by simpa using a,b⟩
  ·exact Zoy n (k+1) _ hs.next d m (by omega) (by omega)
def Z7w(q:List VOper)(c:Nat):Bool:=
 match q[c]? with
 |some x=>!x.op.simple && !x.op.det&&x.guard.isNone&&(List.range q.length).all fun j=>decide (j≤c)||(List.range j).any fun m=>decide (c≤m)&&(match q[m]?,q[j]? with|some x,some y=>!x.apart y|_,_=>false)
 |none=>false
theorem Zzz{c:Nat}(hlast:Z7w q c=true)(hlen:ops.size=q.length){L:Array Bool}(hs:StL ops L c)(hB:Zej ops q (q.length-c) c L=true)(hcl:c<q.length):∀j,c<j→j<ops.size→Zaz ops L ops.size c j=true:=by
 have hst:=Zoy (ops:=ops) (q:=q) (q.length-c) c L hs hB;have hd:∀(j:Nat) (o:Oper),c≤j→ops[j]?=some o→∀x∈o.after,Region.binds .any x=true→x.on<j:=by
  intro j o hj ho x hx hb;have hjl:j<ops.size:=(Array.getElem?_eq_some_iff.1 ho).1;obtain⟨L',s1,s2,_⟩:=hst j hj (by omega);obtain⟨_,o',ho',hall⟩:=mem_ready.1 s2;rw[ho]at ho';simp only[Zx0]at ho';subst ho';have h8:=hall x hx hb;rcases Nat.lt_or_ge x.on j with h|h
  ·exact h
  ·exfalso
   rcases Nat.lt_or_ge x.on ops.size with h'|h'
   ·have h9:=s1.2.1 _ h h';have h7:x.on<L'.size:=by rw[s1.2.2];exact h'
    simp[Array.getD,h7]at h8 h9;rw[h8]at h9;cases h9
   ·have h7:¬x.on<L'.size:=by rw[s1.2.2];omega
    simp[Array.getD,h7]at h8
 have hfree:∀m j,c≤m→m<j→j<ops.size→(match q[m]?,q[j]? with|some x,some y=>!x.apart y|_,_=>false)=true→Zaz ops L ops.size m j=true:=by
  intro m j hm hj hjs ha;obtain⟨L',s1,_,s3⟩:=hst m hm (by omega);simp only[Zpn,List.all_eq_true,List.mem_range]at s3;have h3:=s3 j hjs;have hu:=s1.2.1 j (by omega) hjs;simp only[Bool.or_eq_true,beq_iff_eq]at h3;rcases h3 with((h3|h3)|h3)|h3
  ·omega
  ·rw[hu]at h3;cases h3
  ·refine Zox (fun i hi=>?_) h3;rcases Nat.lt_or_ge i m with h|h
   ·exact s1.1 i h
   ·rcases Nat.lt_or_ge i ops.size with h'|h'
    ·rw[hs.2.1 i (by omega) h']at hi;cases hi
    ·have h7:¬i<L'.size:=by rw[s1.2.2];omega
     simp[Array.getD,h7]
  ·exfalso
   cases hqm:q[m]? with
   |none=>rw[hqm]at ha;cases ha
   | some x=>
    cases hqj:q[j]? with
    |none=>rw[hqm,hqj]at ha;cases ha
    |some y=>
     rw[hqm,hqj]at ha h3;simp only[Bool.not_eq_true',Zx4]at ha h3;rw[ha]at h3;exact absurd h3.1.1 (by simp)
 intro j
 induction j using Nat.strongRecOn with
 | _ j ih=>
  intro hj hjs;unfold Z7w at hlast;split at hlast
  ·simp only[Zx4,List.all_eq_true,List.mem_range,Bool.or_eq_true,Zx3]at hlast;rcases hlast.2 j (by omega)with h|h
   ·omega
   ·rw[List.any_eq_true]at h;obtain⟨m,hm,h⟩:=h;rw[List.mem_range]at hm;simp only[Zx4,Zx3]at h;have hb:=hfree m j h.1 hm hjs h.2;by_cases hmc:m=c
    ·subst hmc;exact hb
    ·have h2:=ih m hm (by omega) (by omega);have h3:=Zmf (hs.2.1 m h.1 (by omega)) h2 hb;exact Zke (by omega) (Zrb hs.1 hd _ j (by omega) h3)
  ·cases hlast
theorem Zoz{hqf:Nat→Heap}{Z:Nat→Heap→Heap→Prop}{c:Nat}(hlast:Z7w q c=true){K:Env→Heap→Prop}(hK:Inv K)(hlen:ops.size=q.length):∀(l:List VOper) (k:Nat) (listed:Array Bool) (e:Env) (h:Heap),(∀j,l[j]?=q[k+j]?)→StL ops listed k→l.length=q.length-k→
  Zej ops q l.length k listed=true→(∀o∈q,o.op.closed=true)→Zhp P hqf Z c k l K e h→Zg1 P ops q hqf Z (c::Zbv q) K l.length listed e h
 | [],_,listed,e,h,_,_,_,hB,_,H=>⟨by simpa[Zej]using hB,H⟩
 | o::l,k,listed,e,h,hl,hst,hll,hB,hc,H=>by
  have hli:=hst.1;have hB0:=hB;have h0:q[k]?=some o:=by simpa using(hl 0).symm
  have hkl:k<q.length:=(List.getElem?_eq_some_iff.1 h0).1;simp only[Zyd,Zej,Zx4]at hB;obtain⟨⟨⟨hr,hf⟩,_⟩,hB'⟩:=hB;have hl':∀j,l[j]?=q[(k+1)+j]?:=fun j=>by have:=hl (j+1);simpa[Nat.add_assoc,Nat.add_comm 1 j]using this
  have hli':=hst.next;have hll':l.length=q.length-(k+1):=by rw[Zyd]at hll;omega
  have hEj:∀(j:Nat) (oj:VOper),q[j]?=some oj→(j∈Zbv q↔oj.op.simple=true):=by
   intro j oj hj;have hjl:j<q.length:=(List.getElem?_eq_some_iff.1 hj).1;simp only[Zbv,List.mem_filter,List.mem_range,Z22,hj];exact⟨fun h=>h.2,fun h=>⟨hjl,h⟩⟩
  have hE:=hEj k o h0;have hlast0:=hlast;unfold Z7w at hlast;cases hqc:q[c]? with
  |none=>rw[hqc]at hlast;cases hlast
  |some oc=>
  rw[hqc]at hlast;simp only[Zx4,Bool.not_eq_true']at hlast;obtain⟨⟨⟨c1,c2⟩,c3⟩,_⟩:=hlast;have hlast':=hlast0;have ih:∀e' h',Zhp P hqf Z c (k+1) l K e' h'→Zg1 P ops q hqf Z (c::Zbv q) K l.length (listed.setIfInBounds k true) e' h':=
   fun e' h' H'=>Zoz hlast' hK hlen l (k+1) _ e' h' hl' hli' hll' hB' hc H'
  refine Zg1.first hK hc hlen h0 l.length listed e h ?_ (by simpa using hr) ?_
  ·intro j oj goj hj hgj hjk hun hno;have hjl:j<ops.size:=(Array.getElem?_eq_some_iff.1 hgj).1;have hkj:k<j:=by
    rcases Nat.lt_or_ge k j with h'|h'
    ·exact h'
    ·have:=hli j (by omega);rw[hun]at this;cases this
   simp only[Zpn,List.all_eq_true,List.mem_range]at hf;have hfj:=hf j hjl;rw[h0,hj,hun]at hfj;simp only[hno,Bool.or_false,Bool.or_eq_true,beq_iff_eq,Zx4,Bool.not_eq_true',Bool.and_eq_false_iff]at hfj;rcases hfj with hfj|hfj
   ·exact absurd hfj hjk
   ·obtain⟨⟨g1,g2⟩,g3⟩:=hfj;by_cases hkc:k=c
    ·exfalso
     subst hkc;rw[h0]at hqc;simp only[Zx0]at hqc;subst hqc;have hbh:=Zzz hlast0 hlen hst (by rw[←hll];exact hB0) hkl j hkj hjl;rw[hbh]at hno;cases hno
    ·have kE:k∈c::Zbv q↔o.op.simple=true:=by simp[hkc,hE]
     refine⟨g1,fun⟨x1,x2⟩=>?_,fun x1=>?_⟩
     ·have s1:=kE.1 x1;rcases List.mem_cons.1 x2 with x2|x2
      ·subst x2;rw[hj]at hqc;simp only[Zx0]at hqc;subst hqc;rcases g3 with g3|g3
       ·rw[s1]at g3;cases g3
       ·rw[c2]at g3;cases g3
      ·rw[hEj j oj hj]at x2;rcases g2 with g2|g2
       ·rw[s1]at g2;cases g2
       ·rw[x2]at g2;cases g2
     ·have x1':=kE.1 x1;refine⟨x1',?_⟩;rcases g3 with g3|g3
      ·rw[x1']at g3;cases g3
      ·rw[g3];rfl
  ·have hq2:∀b,k≠c→gOf o e b→QW P (hqf k) e o.op b (fun v=>Zhp P hqf Z c (k+1) l K (e.put o.dst v) h)→o.op.simple=false→Zc5 P hqf Z (c::Zbv q) k o e h (Zg1 P ops q hqf Z (c::Zbv q) K l.length (listed.setIfInBounds k true)):=by
    intro b hkc hg hQ hs;have hnE:k∉c::Zbv q:=fun hh=>by
     rcases List.mem_cons.1 hh with hh|hh
     ·exact hkc hh
     ·have:=hE.1 hh;rw[hs]at this;cases this
    refine(Zca hnE).2 ⟨b,hg,?_⟩;unfold QW at hQ;split at hQ
    ·rename_i hd;exact⟨_,fun hh=>Znt hd (hQ.1 hh),ih _ _ hQ.2⟩
    ·obtain⟨v,v1,v2⟩:=hQ;exact⟨v,v1,ih _ _ v2⟩
   simp only[Zhp]at H;split at H
   ·rename_i hkc;exact(Zcg (List.mem_cons.2 (.inl (by simpa using hkc)))).2 ⟨H.1,H.2.mono fun v h' kk=>⟨kk.1,ih _ _ kk.2⟩⟩
   ·rename_i hkc;have hkc':k≠c:=by simpa using hkc
    split at H
    ·rename_i hs hg;exact(Zcg (Zx7 _ (hE.2 hs))).2 ⟨hg,H.mono fun v h' kk=>⟨kk.1,ih _ _ kk.2⟩⟩
    ·exact H.elim
    ·rename_i hs hg;exact hq2 true hkc' (by simp[gOf,hg]) H hs
    ·rename_i hs hg;split at H
     ·rename_i b hgc;exact hq2 b hkc' (by simp[gOf,hg,hgc]) H hs
     ·exact H.elim
theorem Zo0{Q:Exit→Env→Heap→Prop}{e:Env}{h:Heap}{late:List Bool}(c0:Nat)(l:List Nat)(big:Heap)(hlast:Z7w q c0=true)(hl:big.le h)
  (H:Zhp P (hqA big late) (zedA q big) c0 0 q (fun e' h'=>Q .normal (Env.keep l e') h') e h):VW P N (.draw2 q late) Q e h:=by
 intro c hc;cases c
 case region id ops draw=>
  obtain⟨p,h3,h'|h'|h'⟩:=Zb7 hc
  ·obtain⟨_,h'⟩:=h';cases h'
  ·obtain⟨hd,hB,h'|h'⟩:=h'
   ·obtain⟨_,h'⟩:=h';cases h'
   ·simp only[VC.draw2.injEq]at h';obtain⟨h5,h6⟩:=h';subst h5;subst hd;simp only[Zx4]at hB;obtain⟨hmm,hB⟩:=hB;have hls:(⟨[],big.top⟩:Heap).le h:=⟨hl.1,trivial⟩;obtain⟨hlen,_⟩:=Zb2 h3;rw[Array.length_toList]at hlen;have hcl:∀o∈q,o.op.closed=true:=by
     cases q with
     |nil=>intro o ho;cases ho
     |cons x xs=>
      rw[hlen]at hB;simp only[Zyd,Zej,Zx4]at hB;exact fun o ho=>List.all_eq_true.1 hB.1.2 o ho
    have hlate:∀i,late.getD i false=true→∀j,Za2 q j=true→Zaz ops (Array.replicate ops.size false) ops.size i j=true:=by
     intro i hi j hj;have hjl:j<ops.size:=by
      unfold Za2 at hj;split at hj
      ·rename_i o ho;have:=(List.getElem?_eq_some_iff.1 ho).1;omega
      ·cases hj
     rw[h6]at hi;simp only[Zr7,Zx1,List.getElem?_map]at hi;cases hr:(List.range ops.size)[i]? with
     |none=>rw[hr]at hi;simp at hi
     | some k=>
      rw[hr]at hi;have hk:k=i:=by
       obtain⟨_,h9⟩:=List.getElem?_eq_some_iff.1 hr
       simpa using h9.symm
      subst hk;simp only[Zys,Option.getD_some,Z97,List.all_eq_true,List.mem_range]at hi;have:=hi j hjl
      simpa[hj]using this
    intro g w a r he hd hs;refine wpIn_region_any hmm ?_;have hany:=Zoz (P:=P) hlast (K:=fun e' h'=>Q .normal (Env.keep l e') h') (fun e1 e2 h1 hee hk=>by have hk':Q .normal (Env.keep l e1) h1:=hk;rw[Zjp hee l]at hk';exact hk') hlen q 0 (Array.replicate ops.size false) e h (fun j=>by simp) ⟨fun j hj=>absurd hj (Nat.not_lt_zero _),fun j _ hj=>by simp[hj],by simp⟩ (by simp) (by rw[←hlen];exact hB) hcl H;rw[←hlen]at hany;have hset:∀(listed:Array Bool) (i j:Nat),(listed.setIfInBounds i true).getD j true=false→listed.getD j true=false∧i≠j:=by
     intro listed i j hj;by_cases hij:i=j
     ·subst hij;rcases Nat.lt_or_ge i listed.size with h'|h'
      ·simp[Array.getD,h']at hj
      ·simp[Array.getD,Nat.not_lt.2 h']at hj
     ·rw[getD_set_ne true hij]at hj;exact⟨hj,hij⟩
    have hdown:∀(listed:Array Bool) (i:Nat),i∈Region.ready .any ops listed→(∀(j:Nat) (o:Oper),listed[j]?=some true→ops[j]?=some o→ ∀x∈o.after,Region.binds .any x=true→listed[x.on]?=some true)→
      ∀(j:Nat) (o:Oper),(listed.setIfInBounds i true)[j]?=some true→ops[j]?=some o→∀x∈o.after,Region.binds .any x=true→(listed.setIfInBounds i true)[x.on]?=some true:=by
     intro listed i hi i2 j o hj ho x hx hb;have keep:∀(k:Nat),listed[k]?=some true→(listed.setIfInBounds i true)[k]?=some true:=by
      intro k hk;rw[Array.getElem?_setIfInBounds];split
      ·rename_i hik;subst hik;have:=(Array.getElem?_eq_some_iff.1 hk).1;simp[this]
      ·exact hk
     by_cases hij:i=j
     ·subst hij;obtain⟨_,o',ho',hall⟩:=mem_ready.1 hi;rw[ho]at ho';simp only[Zx0]at ho';subst ho';refine keep _ ?_;have h8:=hall x hx hb;rcases Nat.lt_or_ge x.on listed.size with h7|h7
      ·simp[Array.getD,h7]at h8;simp[h7,h8]
      ·simp[Array.getD,Nat.not_lt.2 h7]at h8
     ·rw[Array.getElem?_setIfInBounds_ne hij]at hj;exact keep _ (i2 j o hj ho x hx hb)
    refine Zfq (N:=N) h3 (fun listed h=>((⟨[],big.top⟩:Heap).le h∧listed.size=ops.size)∧(∀(j:Nat) (o:Oper),listed[j]?=some true→ops[j]?=some o→∀x∈o.after,Region.binds .any x=true→listed[x.on]?=some true)∧((∀j,Za2 q j=true→listed.getD j true=false)→big.le h)) ?_ ?_ ?_ (Q:=fun x a' w'=>∃g' e' h',Q x e' h'∧Rel g' w' h'∧Zas g' a' e'∧N.dok x a'.defers h'∧a'.tmps.size=N.n∧Evo g w h g' w' h') (g0:=g) (w0:=w) (h0:=h)
     (fun g' w' h' a' e' k1 k2 k3 k4 k5 k6=>⟨g',_,h',k1,k2,k3.keep l,k4,k5,k6⟩) _ _ e h hany ⟨⟨hls,by simp⟩,fun j o hj=>by(simp[Array.getElem?_replicate]at hj),fun _=>hl⟩ g _ a (r.drew _) he hd hs (Evo.drew _ _ _ _)
    ·rintro listed h' i vo ⟨⟨i1,i0⟩,i2,i3⟩ hi _ hvo;simp only[hqA];split
     ·rename_i hli;refine .inl (i3 fun j hj=>?_);have hb:=hlate i hli j hj;have hi0:=(mem_ready.1 hi).1;have hjl':j<ops.size:=by
       unfold Za2 at hj;split at hj
       ·rename_i o ho;have:=(List.getElem?_eq_some_iff.1 ho).1;omega
       ·cases hj
      cases hjl:listed.getD j true with
      |false=>rfl
      | true=>
       exfalso
       have hjs:listed[j]?=some true:=by
        have h7:j<listed.size:=by omega
        simp[Array.getD,h7]at hjl;simp[h7,hjl]
       have:=Zek i2 ops.size j hb hjs;rcases Nat.lt_or_ge i listed.size with h7|h7
       ·simp[Array.getD,h7]at hi0;simp[h7,hi0]at this
       ·simp[Array.getElem?_eq_none h7]at this
     ·exact .inl i1
    ·rintro listed h' i ⟨⟨i1,i0⟩,i2,i3⟩ hi _;exact⟨⟨i1,by simpa using i0⟩,hdown listed i hi i2,(fun hw=>i3 fun j hj=>(hset listed i j (hw j hj)).1)⟩
    ·rintro listed h' i h'' ⟨⟨i1,i0⟩,i2,i3⟩ hi _ ⟨z1,z2⟩;refine⟨⟨z1,by simpa using i0⟩,hdown listed i hi i2,(fun hw=>?_)⟩;refine z2 ?_ (i3 fun j hj=>(hset listed i j (hw j hj)).1);cases hwi:Za2 q i with
     |false=>rfl
     |true=>exact absurd rfl (hset listed i i (hw i hwi)).2
  ·obtain⟨c,h'⟩:=h';cases h'
 all_goals
  simp only[Zb1,Option.map_eq_some_iff]at hc
  first
  |(simp at hc;done)
  |(split at hc<;>simp at hc)
theorem Zsz{hqf:Nat→Heap}{Z:Nat→Heap→Heap→Prop}{c:Nat}{dst:Option Nat}{op:VOp}{r:List VOper}{K:Env→Heap→Prop}{e:Env}{h:Heap}:Zhp P hqf Z c c (⟨dst,op,none⟩::r) K e h=Zau P e h op (fun v h'=>Z c h h'∧Zhp P hqf Z c (c+1) r K (e.put dst v) h'):=by
 simp only[Zhp,beq_self_eq_true,true_and]
theorem Zz0{hqf:Nat→Heap}{Z:Nat→Heap→Heap→Prop}{c k:Nat}{dst:Option Nat}{op:VOp}{r:List VOper}{K:Env→Heap→Prop}{e:Env}{h:Heap}(hk:(k==c)=false):Zhp P hqf Z c k (⟨dst,op,none⟩::r) K e h=(match op.simple with
  |true=>Zau P e h op (fun v h'=>Z k h h'∧Zhp P hqf Z c (k+1) r K (e.put dst v) h')
  |false=>QW P (hqf k) e op true (fun v=>Zhp P hqf Z c (k+1) r K (e.put dst v) h)):=by
 cases hs:op.simple<;>simp only[Zhp,hk,hs]
theorem Zo1{hqf:Nat→Heap}{Z:Nat→Heap→Heap→Prop}{c k:Nat}{K:Env→Heap→Prop}{e:Env}{h:Heap}:Zhp P hqf Z c k [] K e h=K e h:=rfl
end
end Go.VM
