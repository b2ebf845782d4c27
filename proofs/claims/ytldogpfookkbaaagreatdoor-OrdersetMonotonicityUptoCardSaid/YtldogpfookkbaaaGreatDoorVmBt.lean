import Derived.Test.YtldogpfookkbaaaGreatDoorVmBj
set_option linter.all false
namespace Go.VM
open Go
section
variable {P:Program} {N:FK} {ops:Array Oper} {q:List VOper} {hq:Heap} {E:List Nat}
def Zch(P:Program)(hq:Heap)(E:List Nat)(i:Nat)(o:VOper)(e:Env)(h:Heap)(K:Env→Heap→Prop):Prop:=
 if i∈E then gOf o e true∧Zat P e h o.op (fun v h'=>hq.le h'∧K (e.put o.dst v) h')
 else ∃c,gOf o e c∧∃v,(c=true→Zei P hq e o.op v)∧K (e.put o.dst (gd c v)) h
theorem Zch.mono{i:Nat}{o:VOper}{e:Env}{h:Heap}{K K':Env→Heap→Prop}(hk:∀e h,K e h→K' e h)(H:Zch P hq E i o e h K):Zch P hq E i o e h K':=by
 unfold Zch at*;split
 ·rename_i hi;rw[if_pos hi]at H;exact⟨H.1,H.2.mono fun v h' k=>⟨k.1,hk _ _ k.2⟩⟩
 ·rename_i hi;rw[if_neg hi]at H;obtain⟨c,h1,v,h2,h3⟩:=H;exact⟨c,h1,v,h2,hk _ _ h3⟩
theorem Zch.inv{i:Nat}{o:VOper}(hc:o.op.closed=true){K:Env→Heap→Prop}(hK:Inv K):Inv (fun e h=>Zch P hq E i o e h K):=by
 intro e e' h hee H;unfold Zch at*;have ha:Agree o.op.vas e e':=fun a _=>Xct hee a;split
 ·rename_i hi;rw[if_pos hi]at H;refine⟨(Zze hee o true).1 H.1,?_⟩;rw[←Zca hc ha];exact H.2.mono fun v h' k=>⟨k.1,hK _ _ _ (Zsc hee _ _) k.2⟩
 ·rename_i hi;rw[if_neg hi]at H;obtain⟨c,h1,v,h2,h3⟩:=H;refine⟨c,(Zze hee o c).1 h1,v,fun hh=>?_,hK _ _ _ (Zsc hee _ _) h3⟩;rw[←Za8 hc ha];exact h2 hh
theorem Zfj{i:Nat}(hi:i∈E){o:VOper}{e:Env}{h:Heap}{K:Env→Heap→Prop}:Zch P hq E i o e h K↔(gOf o e true∧Zat P e h o.op (fun v h'=>hq.le h'∧K (e.put o.dst v) h')):=by
 unfold Zch;rw[if_pos hi]
theorem Zcs{i:Nat}(hi:i∉E){o:VOper}{e:Env}{h:Heap}{K:Env→Heap→Prop}:Zch P hq E i o e h K↔∃c,gOf o e c∧∃v,(c=true→Zei P hq e o.op v)∧K (e.put o.dst (gd c v)) h:=by
 unfold Zch;rw[if_neg hi]
theorem Zch.swap{i j:Nat}{oi oj:VOper}{e:Env}{h:Heap}{K:Env→Heap→Prop}(hK:Inv K)(hap:oi.apart oj=true)(ci:oi.op.closed=true)(cj:oj.op.closed=true)
  (hE:¬(i∈E∧j∈E))(hs:i∈E→oi.op.simple=true∧(oj.op.det||oi.op.sure)=true)(H:Zch P hq E i oi e h (fun e1 h1=>Zch P hq E j oj e1 h1 K)):
  Zch P hq E j oj e h (fun e1 h1=>Zch P hq E i oi e1 h1 K):=by
 obtain⟨a1,a2,a3⟩:=apart_spec hap;have gi:∀v,Agree oi.op.vas (e.put oj.dst v) e∧∀c,gOf oi (e.put oj.dst v) c↔gOf oi e c:=fun v=>Zfv a2;have gj:∀v,Agree oj.op.vas (e.put oi.dst v) e∧∀c,gOf oj (e.put oi.dst v) c↔gOf oj e c:=fun v=>Zfv a1;by_cases hi:i∈E
 ·have hj:j∉E:=fun hj=>hE ⟨hi,hj⟩;obtain⟨s1,s2⟩:=hs hi;obtain⟨h1,h2⟩:=(Zfj hi).1 H;rw[Bool.or_eq_true]at s2;rcases s2 with s2|s2
  rotate_left
  ·obtain⟨v0,h0,⟨z0,k0⟩,back⟩:=Zat.sure s2 h2;obtain⟨c,c1,v',c2,c3⟩:=(Zcs hj).1 k0;refine(Zcs hj).2 ⟨c,((gj v0).2 c).1 c1,v',fun hh=>by have:=c2 hh;rw[Za8 cj (gj v0).1]at this;exact this,?_⟩;refine(Zfj hi).2 ⟨((gi _).2 true).2 h1,?_⟩;rw[Zca ci (gi _).1];exact back _ ⟨z0,hK _ _ _ (Zeo e _ _ a3) c3⟩
  have key:∃c,gOf oj e c∧(c=true→Zei P hq e oj.op (Ztr e hq oj.op)):=by
   refine Zat.out (K:=fun _ _=>True) s1 (h2.mono fun v h' k=>⟨?_,trivial⟩);obtain⟨c,c1,v',c2,c3⟩:=(Zcs hj).1 k.2;refine⟨c,((gj v).2 c).1 c1,fun hh=>?_⟩;have hv:=c2 hh;have e1:=hv.det s2;rw[Za8 cj (gj v).1]at hv;rw[Zh8 (gj v).1]at e1;rw[←e1];exact hv
  obtain⟨c,c1,c2⟩:=key;refine(Zcs hj).2 ⟨c,c1,Ztr e hq oj.op,c2,?_⟩;refine(Zfj hi).2 ⟨((gi _).2 true).2 h1,?_⟩;rw[Zca ci (gi _).1];refine h2.mono fun v h' k=>⟨k.1,?_⟩;obtain⟨c',d1,v',d2,d3⟩:=(Zcs hj).1 k.2;have hcc:c'=c:=by
   have:=((gj v).2 c').1 d1;unfold gOf at this c1;cases hg:oj.guard with
   |none=>rw[hg]at this c1;rw[this,c1]
   |some dw=>rw[hg]at this c1;simp only at this c1;rw[this]at c1;exact Option.some.inj c1
  subst hcc;have hgd:gd c' v'=gd c' (Ztr e hq oj.op):=by
   cases c'
   ·rfl
   ·have:=(d2 rfl).det s2;rw[Zh8 (gj v).1]at this;simp[gd,this]
  rw[hgd]at d3;exact hK _ _ _ (Zeo e _ _ a3) d3
 ·obtain⟨c,c1,v,c2,H⟩:=(Zcs hi).1 H;by_cases hj:j∈E
  ·obtain⟨h1,h2⟩:=(Zfj hj).1 H;refine(Zfj hj).2 ⟨((gj _).2 true).1 h1,?_⟩;rw[Zca cj (gj _).1]at h2;refine h2.mono fun u h' k=>⟨k.1,?_⟩;refine(Zcs hi).2 ⟨c,((gi u).2 c).2 c1,v,fun hh=>?_,hK _ _ _ (Zeo e _ _ a3) k.2⟩;rw[Za8 ci (gi u).1];exact c2 hh
  ·obtain⟨c',d1,u,d2,d3⟩:=(Zcs hj).1 H;refine(Zcs hj).2 ⟨c',((gj _).2 c').1 d1,u,fun hh=>?_,?_⟩
   ·have:=d2 hh;rw[Za8 cj (gj _).1]at this;exact this
   ·refine(Zcs hi).2 ⟨c,((gi _).2 c).2 c1,v,fun hh=>?_,hK _ _ _ (Zeo e _ _ a3) d3⟩;rw[Za8 ci (gi _).1];exact c2 hh
def Zjm(P:Program)(ops:Array Oper)(q:List VOper)(hq:Heap)(E:List Nat)(K:Env→Heap→Prop):Nat→Array Bool→Env→Heap→Prop
 |0,listed,e,h=>Region.ready .any ops listed=[]∧K e h
 |n+1,listed,e,h=>(Region.ready .any ops listed=[]→K e h)∧∀i∈Region.ready .any ops listed,∀o,q[i]?=some o→Zch P hq E i o e h (Zjm P ops q hq E K n (listed.setIfInBounds i true))
theorem Zjm.inv{K:Env→Heap→Prop}(hK:Inv K)(hc:∀o∈q,o.op.closed=true):∀(n:Nat) (listed:Array Bool),Inv (Zjm P ops q hq E K n listed)
 |0,listed=>fun e e' h hee H=>⟨H.1,hK _ _ _ hee H.2⟩
 |n+1,listed=>fun e e' h hee H=>⟨fun h0=>hK _ _ _ hee (H.1 h0),fun i hi o ho=>Zch.inv (hc o (List.mem_of_getElem? ho)) (Zjm.inv hK hc n _) e e' h hee (H.2 i hi o ho)⟩
theorem Zjm.first{K:Env→Heap→Prop}(hK:Inv K)(hc:∀o∈q,o.op.closed=true)(hlen:ops.size=q.length){i:Nat}{oi:VOper}(hi:q[i]?=some oi):
  ∀ (fuel:Nat) (listed:Array Bool) (e:Env) (h:Heap),
   (∀(j:Nat) (oj:VOper) (goj:Oper),q[j]?=some oj→ops[j]?=some goj→j≠i→listed.getD j true=false→Zav ops listed ops.size i j=false→
    oi.apart oj=true∧¬(i∈E∧j∈E)∧(i∈E→oi.op.simple=true∧(oj.op.det||oi.op.sure)=true))→
   i∈Region.ready .any ops listed→Zch P hq E i oi e h (Zjm P ops q hq E K fuel (listed.setIfInBounds i true))→Zjm P ops q hq E K (fuel+1) listed e h:=by
 intro fuel
 induction fuel with
 | zero=>
  intro listed e h hfree hr H;refine⟨fun h0=>(by rw[h0]at hr;cases hr),fun j hj o ho=>?_⟩;by_cases hji:j=i
  ·subst hji;rw[hi]at ho;simp only[Zx0]at ho;subst ho;exact H
  ·exfalso
   have hnr:Region.ready .any ops (listed.setIfInBounds i true)≠[]:=by
    intro h0;have:=ready_mono hj hji;rw[h0]at this;cases this
   obtain⟨hjun,goj,hgoj,hall⟩:=mem_ready.1 hj;have hbr:=Zfe hj (mem_ready.1 hr).1;have hnot:=hbr ops.size;obtain⟨f1,f2,f3⟩:=hfree j o goj ho hgoj hji hjun hnot
   apply hnr
   by_cases hiE:i∈E
   ·exact Zat.out (K:=fun _ _=>True) (f3 hiE).1 (((Zfj hiE).1 H).2.mono fun v h' k=>⟨k.2.1,trivial⟩)
   ·obtain⟨c,_,v,_,k⟩:=(Zcs hiE).1 H;exact k.1
 | succ fuel ih=>
  intro listed e h hfree hr H;refine⟨fun h0=>(by rw[h0]at hr;cases hr),fun j hj oj hoj=>?_⟩;by_cases hji:j=i
  ·subst hji;rw[hi]at hoj;simp only[Zx0]at hoj;subst hoj;exact H
  ·obtain⟨hjun,goj,hgoj,hall⟩:=mem_ready.1 hj;have hbr:=Zfe hj (mem_ready.1 hr).1;have hnot:=hbr ops.size;obtain⟨f1,f2,f3⟩:=hfree j oj goj hoj hgoj hji hjun hnot;have H2:Zch P hq E i oi e h (fun e1 h1=>Zch P hq E j oj e1 h1 (Zjm P ops q hq E K fuel ((listed.setIfInBounds i true).setIfInBounds j true))):=
    H.mono fun e1 h1 k=>k.2 j (ready_mono hj hji) oj hoj
   have H3:=Zch.swap (Zjm.inv hK hc fuel _) f1 (hc oi (List.mem_of_getElem? hi)) (hc oj (List.mem_of_getElem? hoj)) f2 f3 H2;have hfree':∀(k:Nat) (ok:VOper) (gok:Oper),q[k]?=some ok→ops[k]?=some gok→k≠i→(listed.setIfInBounds j true).getD k true=false→Zav ops (listed.setIfInBounds j true) ops.size i k=false→
     oi.apart ok=true∧¬(i∈E∧k∈E)∧(i∈E→oi.op.simple=true∧(ok.op.det||oi.op.sure)=true):=fun k ok gok hk hgk hki hun hno=>by
    have hno':Zav ops listed ops.size i k=false:=by
     cases hb:Zav ops listed ops.size i k with
     |false=>rfl
     |true=>rw[Zi6 hbr _ _ hb]at hno;cases hno
    refine hfree k ok gok hk hgk hki ?_ hno';by_cases hjk:j=k
    ·subst hjk;exact hjun
    ·rw[getD_set_ne true hjk]at hun;exact hun
   refine Zch.mono (fun e1 h1 k=>?_) H3;refine ih (listed.setIfInBounds j true) e1 h1 hfree' (ready_mono hr (Ne.symm hji)) ?_;rw[Array.setIfInBounds_comm _ _ hji];exact k
theorem Zrx{K:Env→Heap→Prop}{Q:Exit→Act→World→Prop}{g0:Gh}{w0:World}{h0:Heap}(hcq:Zci P N.n ops ops.toList=some q)
  (hQ:∀g w h a e,K e h→Rel g w h→Zas g a e→a.defers=N.D→a.tmps.size=N.n→Evo g0 w0 h0 g w h→Q .normal a w):
  ∀(n:Nat) (listed:Array Bool) (e:Env) (h:Heap),Zjm P ops q hq E K n listed e h→hq.le h→
   ∀g w a,Rel g w h→Zas g a e→a.defers=N.D→a.tmps.size=N.n→Evo g0 w0 h0 g w h→wpAnyIn (fw N.ro) 9 P .any ops Q n listed a w
 |0,listed,e,h,H,hl,g,w,a,r,he,hd,hs,hev=>⟨H.1,hQ g w h a e H.2 r he hd hs hev⟩
 | n+1,listed,e,h,H,hl,g,w,a,r,he,hd,hs,hev=>by
  refine⟨fun h0=>hQ g w h a e (H.1 h0) r he hd hs hev,fun i hi=>?_⟩;obtain⟨_,o,ho,_⟩:=mem_ready.1 hi;obtain⟨vo,h1,h2,h3,h4,hnd,h5⟩:=(Zbq hcq).2 i o (by simpa using ho);have H1:=H.2 i hi vo h1;unfold wpOpIn;rw[ho];simp only;have hdlt:∀t,o.dst=some t→t<a.tmps.size:=fun t ht=>by rw[hs];exact h5 t ht
  have next:∀(v:Value) (pv:PV) (g':Gh) (w':World) (h':Heap),Zjm P ops q hq E K n (listed.setIfInBounds i true) (e.put o.dst pv) h'→hq.le h'→Rep g' v pv→Rel g' w' h'→Evo g w h g' w' h'→
    wpAnyIn (fw N.ro) 9 P .any ops Q n (listed.setIfInBounds i true) (a.put o.dst v) w':=by
   intro v pv g' w' h' hk hl' hv hr hev';exact Zrx hcq hQ n _ _ _ hk hl' g' w' _ hr ((he.mono hev'.le).put hv hdlt) (by rw[(Zd5 a o.dst v).2];exact hd) (by rw[(Zd5 a o.dst v).1];exact hs) (hev.trans hev')
  have hw:∀c,gOf vo e c→Region.wanted o (yielded ops a.tmps)=c:=by
   intro c k1;unfold gOf at k1;cases hg:o.guard with
   |none=>
    rw[hg]at h4;simp only[Zgy,Zx0]at h4;rw[←h4]at k1;simp only at k1;simp[Region.wanted,hg,k1]
   |some jw=>
    obtain⟨j,want⟩:=jw;rw[hg]at h4;simp only[Zgy]at h4;split at h4
    ·rename_i d hdd;simp only[Zx0]at h4;rw[←h4]at k1;simp only at k1;simp only[Region.wanted,hg];exact Zlk he hdd k1
    ·cases h4
  by_cases hiE:i∈E
  ·obtain⟨k1,k2⟩:=(Zfj hiE).1 H1;rw[hw true k1];simp only[if_true];refine Zzd hnd (Zb3 h2 k2 g w a _ Q r he ?_);rintro v pv g' w' h' ⟨m1,m2⟩ m3 m4 m5;rw[h3]at m2;exact next v pv g' w' h' m2 m1 m3 m4 m5
  ·obtain⟨c,k1,v,k2,k3⟩:=(Zcs hiE).1 H1;rw[h3]at k3;rw[hw c k1];cases c
   ·simp only[Zyu,if_false];refine⟨fun _ _=>trivial,?_⟩;exact next Go.undef .undef g w h (by simpa[gd]using k3) hl .undef r (Evo.refl _ _ _)
   ·simp only[if_true];refine Zzd hnd (Zqv h2 (.inl hl) (k2 rfl) g w a _ Q r he ?_);rintro v' pv g' w' h' ⟨rfl,rfl⟩ m3 m4 m5;exact next v' pv g' w' h' (by simpa[gd]using k3) hl m3 m4 m5
def Zk4(P:Program)(hq:Heap)(E:List Nat):Nat→List VOper→(Env→Heap→Prop)→Env→Heap→Prop
 |_,[],K,e,h=>K e h
 | k,o::r,K,e,h=>match E.contains k with
  |true=>gOf o e true∧Zat P e h o.op (fun v h'=>hq.le h'∧Zk4 P hq E (k+1) r K (e.put o.dst v) h')
  | false=>match o.guard with
   |none=>QW P hq e o.op true (fun v=>Zk4 P hq E (k+1) r K (e.put o.dst v) h)
   |some (d,want)=>(match guardOf want (e.get d)with
    |some b=>QW P hq e o.op b (fun v=>Zk4 P hq E (k+1) r K (e.put o.dst v) h)
    |none=>False)
def Xcn(q:List VOper)(c:Nat):Bool:=
 match q[c]? with
 |some x=>!x.op.simple && !x.op.det&&(List.range q.length).all fun j=>decide (j≤c)||(List.range j).any fun m=>decide (c≤m)&&(match q[m]?,q[j]? with|some x,some y=>!x.apart y|_,_=>false)
 |none=>false
def okU(q:List VOper)(c:Nat)(E:List Nat):Bool:=Xcn q c&&E.all fun k=>k==c||Zue q k
theorem Zwr{c:Nat}(hlast:Xcn q c=true)(hlen:ops.size=q.length){L:Array Bool}(hs:StL ops L c)(hB:Zdi ops q (q.length-c) c L=true)(hcl:c<q.length):∀j,c<j→j<ops.size→Zav ops L ops.size c j=true:=by
 have hst:=Zji (ops:=ops) (q:=q) (q.length-c) c L hs hB;have hd:∀(j:Nat) (o:Oper),c≤j→ops[j]?=some o→∀x∈o.after,Region.binds .any x=true→x.on<j:=by
  intro j o hj ho x hx hb;have hjl:j<ops.size:=(Array.getElem?_eq_some_iff.1 ho).1;obtain⟨L',s1,s2,_⟩:=hst j hj (by omega);obtain⟨_,o',ho',hall⟩:=mem_ready.1 s2;rw[ho]at ho';simp only[Zx0]at ho';subst ho';have h8:=hall x hx hb;rcases Nat.lt_or_ge x.on j with h|h
  ·exact h
  ·exfalso
   rcases Nat.lt_or_ge x.on ops.size with h'|h'
   ·have h9:=s1.2.1 _ h h';have h7:x.on<L'.size:=by rw[s1.2.2];exact h'
    simp[Array.getD,h7]at h8 h9;rw[h8]at h9;cases h9
   ·have h7:¬x.on<L'.size:=by rw[s1.2.2];omega
    simp[Array.getD,h7]at h8
 have hfree:∀m j,c≤m→m<j→j<ops.size→(match q[m]?,q[j]? with|some x,some y=>!x.apart y|_,_=>false)=true→Zav ops L ops.size m j=true:=by
  intro m j hm hj hjs ha;obtain⟨L',s1,_,s3⟩:=hst m hm (by omega);simp only[Zm0,List.all_eq_true,List.mem_range]at s3;have h3:=s3 j hjs;have hu:=s1.2.1 j (by omega) hjs;simp only[Bool.or_eq_true,beq_iff_eq]at h3;rcases h3 with((h3|h3)|h3)|h3
  ·omega
  ·rw[hu]at h3;cases h3
  ·refine Zjh (fun i hi=>?_) h3;rcases Nat.lt_or_ge i m with h|h
   ·exact s1.1 i h
   ·rcases Nat.lt_or_ge i ops.size with h'|h'
    ·rw[hs.2.1 i (by omega) h']at hi;cases hi
    ·have h7:¬i<L'.size:=by rw[s1.2.2];omega
     simp[Array.getD,h7]
  ·exfalso
   cases hqm:q[m]? with
   |none=>rw[hqm]at ha;cases ha
   | some x=>
    cases hqj:q[j]? with
    |none=>rw[hqm,hqj]at ha;cases ha
    |some y=>
     rw[hqm,hqj]at ha h3;simp only[Bool.not_eq_true',Zx4]at ha h3;rw[ha]at h3;exact absurd h3.1.1 (by simp)
 intro j
 induction j using Nat.strongRecOn with
 | _ j ih=>
  intro hj hjs;unfold Xcn at hlast;split at hlast
  ·simp only[Zx4,List.all_eq_true,List.mem_range,Bool.or_eq_true,Zx3]at hlast;rcases hlast.2 j (by omega)with h|h
   ·omega
   ·rw[List.any_eq_true]at h;obtain⟨m,hm,h⟩:=h;rw[List.mem_range]at hm;simp only[Zx4,Zx3]at h;have hb:=hfree m j h.1 hm hjs h.2;by_cases hmc:m=c
    ·subst hmc;exact hb
    ·have h2:=ih m hm (by omega) (by omega);have h3:=Zhy (hs.2.1 m h.1 (by omega)) h2 hb;exact Zhx (by omega) (Zl7 hs.1 hd _ j (by omega) h3)
  ·cases hlast
theorem Zry{c:Nat}(hok:okU q c E=true){K:Env→Heap→Prop}(hK:Inv K)(hlen:ops.size=q.length):∀(l:List VOper) (k:Nat) (listed:Array Bool) (e:Env) (h:Heap),(∀j,l[j]?=q[k+j]?)→StL ops listed k→l.length=q.length-k→
  Zdi ops q l.length k listed=true→(∀o∈q,o.op.closed=true)→Zk4 P hq E k l K e h→Zjm P ops q hq E K l.length listed e h
 | [],_,listed,e,h,_,_,_,hB,_,H=>⟨by simpa[Zdi]using hB,H⟩
 | o::l,k,listed,e,h,hl,hst,hll,hB,hc,H=>by
  have hli:=hst.1;have hB0:=hB;have h0:q[k]?=some o:=by simpa using(hl 0).symm
  have hkl:k<q.length:=(List.getElem?_eq_some_iff.1 h0).1;simp only[Zyd,Zdi,Zx4]at hB;obtain⟨⟨⟨hr,hf⟩,_⟩,hB'⟩:=hB;have hl':∀j,l[j]?=q[(k+1)+j]?:=fun j=>by have:=hl (j+1);simpa[Nat.add_assoc,Nat.add_comm 1 j]using this
  have hli':=hst.next;have hll':l.length=q.length-(k+1):=by rw[Zyd]at hll;omega
  have ih:∀e' h',Zk4 P hq E (k+1) l K e' h'→Zjm P ops q hq E K l.length (listed.setIfInBounds k true) e' h':=
   fun e' h' H'=>Zry hok hK hlen l (k+1) _ e' h' hl' hli' hll' hB' hc H'
  have hok0:=hok;unfold okU at hok0;rw[Zx4,List.all_eq_true]at hok0;obtain⟨hlast,hE⟩:=hok0;have hEj:∀(j:Nat) (oj:VOper),q[j]?=some oj→j∈E→j=c∨oj.op.simple=true:=by
   intro j oj hj hm;have:=hE j hm;simp only[Bool.or_eq_true,beq_iff_eq,Zue,hj]at this;exact this
  have hcc:∀oc,q[c]?=some oc→oc.op.simple=false∧oc.op.det=false:=by
   intro oc hqc;unfold Xcn at hlast;rw[hqc]at hlast;simp only[Zx4,Bool.not_eq_true']at hlast;exact hlast.1
  refine Zjm.first hK hc hlen h0 l.length listed e h ?_ (by simpa using hr) ?_
  ·intro j oj goj hj hgj hjk hun hno;have hjl:j<ops.size:=(Array.getElem?_eq_some_iff.1 hgj).1;have hkj:k<j:=by
    rcases Nat.lt_or_ge k j with h'|h'
    ·exact h'
    ·have:=hli j (by omega);rw[hun]at this;cases this
   simp only[Zm0,List.all_eq_true,List.mem_range]at hf;have hfj:=hf j hjl;rw[h0,hj,hun]at hfj;simp only[hno,Bool.or_false,Bool.or_eq_true,beq_iff_eq,Zx4,Bool.not_eq_true',Bool.and_eq_false_iff]at hfj;rcases hfj with hfj|hfj
   ·exact absurd hfj hjk
   ·obtain⟨⟨g1,g2⟩,g3⟩:=hfj;by_cases hkc:k=c
    ·exfalso
     subst hkc;have hbh:=Zwr hlast hlen hst (by rw[←hll];exact hB0) hkl j hkj hjl;rw[hbh]at hno;cases hno
    ·refine⟨g1,fun⟨x1,x2⟩=>?_,fun x1=>?_⟩
     ·have s1:=(hEj k o h0 x1).resolve_left hkc;rcases hEj j oj hj x2 with x3|x3
      ·subst x3;rcases g3 with g3|g3
       ·rw[s1]at g3;cases g3
       ·rw[(hcc oj hj).2]at g3;cases g3
      ·rcases g2 with g2|g2
       ·rw[s1]at g2;cases g2
       ·rw[x3]at g2;cases g2
     ·have x1':=(hEj k o h0 x1).resolve_left hkc;refine⟨x1',?_⟩;rcases g3 with g3|g3
      ·rw[x1']at g3;cases g3
      ·rw[g3];rfl
  ·simp only[Zk4]at H;split at H
   ·rename_i hm;exact(Zfj (List.contains_iff_mem.1 hm)).2 ⟨H.1,H.2.mono fun v h' kk=>⟨kk.1,ih _ _ kk.2⟩⟩
   ·rename_i hm;have hnE:k∉E:=fun hh=>by rw[List.contains_iff_mem.2 hh]at hm;cases hm
    have hq2:∀b,gOf o e b→QW P hq e o.op b (fun v=>Zk4 P hq E (k+1) l K (e.put o.dst v) h)→Zch P hq E k o e h (Zjm P ops q hq E K l.length (listed.setIfInBounds k true)):=by
     intro b hg hQ;refine(Zcs hnE).2 ⟨b,hg,?_⟩;unfold QW at hQ;split at hQ
     ·rename_i hd;exact⟨_,fun hh=>Zjz hd (hQ.1 hh),ih _ _ hQ.2⟩
     ·obtain⟨v,v1,v2⟩:=hQ;exact⟨v,v1,ih _ _ v2⟩
    split at H
    ·rename_i hg;exact hq2 true (by simp[gOf,hg]) H
    ·rename_i hg;split at H
     ·rename_i b hgc;exact hq2 b (by simp[gOf,hg,hgc]) H
     ·exact H.elim
theorem Zws{Q:Exit→Env→Heap→Prop}{e:Env}{h:Heap}{late:List Bool}(c:Nat)(E:List Nat)(T:Nat)(l:List Nat)(hok:okU q c E=true)(hT:h.top≤T)
  (H:Zk4 P ⟨[],T⟩ E 0 q (fun e' h'=>Q .normal (Env.keep l e') h') e h):VW P N (.draw2 q late) Q e h:=by
 intro cc hc;cases cc
 case region id ops draw=>
  obtain⟨p,h3,h'|h'|h'⟩:=Zby hc
  ·obtain⟨_,h'⟩:=h';simp at h'
  ·obtain⟨hd,hB,h'|h'⟩:=h'
   ·obtain⟨_,h'⟩:=h';cases h'
   ·simp only[VC.draw2.injEq]at h';obtain⟨h',_⟩:=h';subst h';subst hd;simp only[Zx4]at hB;obtain⟨hm,hB⟩:=hB;obtain⟨hlen,_⟩:=Zbq h3;rw[Array.length_toList]at hlen;have hcl:∀o∈q,o.op.closed=true:=by
     cases q with
     |nil=>intro o ho;cases ho
     |cons x xs=>
      rw[hlen]at hB;simp only[Zyd,Zdi,Zx4]at hB;exact fun o ho=>List.all_eq_true.1 hB.1.2 o ho
    intro g w a r he hd hs;refine wpIn_region_any hm ?_;have hany:=Zry (P:=P) hok (K:=fun e' h'=>Q .normal (Env.keep l e') h') (fun e1 e2 h1 hee hk=>by have hk':Q .normal (Env.keep l e1) h1:=hk;rw[Zh9 hee l]at hk';exact hk') hlen q 0 (Array.replicate ops.size false) e h (fun j=>by simp) ⟨fun j hj=>absurd hj (Nat.not_lt_zero _),fun j _ hj=>by simp[hj],by simp⟩ (by simp) (by rw[←hlen];exact hB) hcl H;rw[←hlen]at hany;exact Zrx (N:=N) h3 (Q:=fun x a' w'=>∃g' e' h',Q x e' h'∧Rel g' w' h'∧Zas g' a' e'∧N.dok x a'.defers h'∧a'.tmps.size=N.n∧Evo g w h g' w' h') (g0:=g) (w0:=w) (h0:=h)
     (fun g' w' h' a' e' k1 k2 k3 k4 k5 k6=>⟨g',_,h',k1,k2,k3.keep l,k4,k5,k6⟩) _ _ e h hany ⟨hT,trivial⟩ g _ a (r.drew _) he hd hs (Evo.drew _ _ _ _)
  ·obtain⟨c,h'⟩:=h';cases h'
 all_goals
  simp only[Zb4,Option.map_eq_some_iff]at hc
  first
  |(simp at hc;done)
  |(split at hc<;>simp at hc)
end
end Go.VM
