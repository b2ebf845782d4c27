import Derived.Test.YtldogpfookkbaaaGreatDoorVmC
import Derived.SizedLaws
set_option linter.all false
namespace Go.VM
open Go
abbrev RX:=Option (PV×Heap)
theorem Z29(h:Heap)(a v:PV):(Zec h a v).top=h.top:=by
 unfold Zec;split
 ·split<;>rfl
 ·rfl
theorem Zzc(h:Heap)(m k v:PV):(Zcu h m k v).top=h.top:=by
 unfold Zcu;split<;>rfl
theorem Z6e{mid h:Heap}(hm:Shp mid h){id:Nat}{ab ab0:AB}(hg:h.get id=some ab0)(ha:∀fz z es,ab0=.arr fz z es→∃fz' es',ab=.arr fz' z es'):Shp mid (h.set id ab):=by
 intro i fz z es e;obtain⟨fz',es',e'⟩:=hm i fz z es e;rw[Heap.get_set];by_cases hi:id=i
 ·subst hi;rw[if_pos rfl,hg];rw[hg]at e';simp only[Zx0]at e';obtain⟨f2,e2,rfl⟩:=ha _ _ _ e';exact⟨f2,e2,by simp⟩
 ·rw[if_neg hi];exact⟨fz',es',e'⟩
structure FnD where
 n:Nat
 rs:List RS
 vc:VC
def Zem(P:Program)(h0:Heap)(late:List Bool):Nat→List VOper→(Env→Heap→Prop)→Env→Heap→Prop
 |_,[],K,e,h=>K e h
 | k,o::r,K,e,h=>match o.op with
  | .store s a v=>o.guard=none∧Zau P e h (.store s a v) (fun v h'=>Zem P h0 late (k+1) r K (e.put o.dst v) h')
  | .mapset kk m a v=>o.guard=none∧Zau P e h (.mapset kk m a v) (fun v h'=>Zem P h0 late (k+1) r K (e.put o.dst v) h')
  | op=>match op.simple,o.guard with
   |true,_=>False
   |false,none=>QW P (if late.getD k false then h0 else if op.isIaddr then h0 else⟨[],h0.top⟩) e op true (fun v=>Zem P h0 late (k+1) r K (e.put o.dst v) h)
   |false,some (d,want)=>(match(generalizing:=false) guardOf want (e.get d)with
    |some c=>QW P (if late.getD k false then h0 else if op.isIaddr then h0 else⟨[],h0.top⟩) e op c (fun v=>Zem P h0 late (k+1) r K (e.put o.dst v) h)
    |none=>False)
theorem QW.mono{P:Program}{hq:Heap}{e:Env}{op:VOp}{c:Bool}{K1 K2:PV→Prop}(hk:∀v,K1 v→K2 v)(H:QW P hq e op c K1):QW P hq e op c K2:=by
 unfold QW at H⊢;split at H
 ·exact⟨H.1,hk _ H.2⟩
 ·obtain⟨v,v1,v2⟩:=H;exact⟨v,v1,hk _ v2⟩
theorem Z3a{mid h:Heap}(hm:Shp mid h)(a v:PV):Shp mid (Zec h a v):=by
 unfold Zec;split
 ·split
  ·rename_i id i off _ fz z es hg;exact Z6e hm hg (fun fz' z' es' hh=>by simp only[AB.arr.injEq]at hh;obtain⟨_,rfl,_⟩:=hh;exact⟨_,_,rfl⟩)
  ·exact hm
 ·exact hm
theorem Zzd{mid h:Heap}{m:PV}(hm:Shp mid h)(hh:Zfm h m)(a v:PV):Shp mid (Zcu h m a v):=by
 unfold Zcu;split
 ·rename_i id;simp only[Zfm]at hh;split at hh
  ·rename_i es hg;exact Z6e hm hg (fun fz z es' hh=>by cases hh)
  ·exact hh.elim
 ·exact hm
theorem Zem.quiet{P:Program}{h0:Heap}{late:List Bool}{k:Nat}{r:List VOper}{K:Env→Heap→Prop}{e:Env}{h:Heap}{dst:Option Nat}{op:VOp}{gd':Option (Nat×Bool)}{hqf:Nat→Heap}{Z:Nat→Heap→Heap→Prop}
  (hqk:hqf k=if late.getD k false then h0 else if op.isIaddr then h0 else⟨[],h0.top⟩)(ih:∀e,Zem P h0 late (k+1) r K e h→Zd7 P hqf Z (k+1) r K e h)
  (hs:op.simple=false)(H:match(generalizing:=false) op.simple,gd' with
   |true,_=>False
   |false,none=>QW P (if late.getD k false then h0 else if op.isIaddr then h0 else⟨[],h0.top⟩) e op true (fun v=>Zem P h0 late (k+1) r K (e.put dst v) h)
   |false,some (d,want)=>(match(generalizing:=false) guardOf want (e.get d)with
    |some c=>QW P (if late.getD k false then h0 else if op.isIaddr then h0 else⟨[],h0.top⟩) e op c (fun v=>Zem P h0 late (k+1) r K (e.put dst v) h)
    |none=>False)):Zd7 P hqf Z k (⟨dst,op,gd'⟩::r) K e h:=by
 rw[hs]at H;simp only[Zd7,hs,hqk];cases gd' with
 |none=>exact H.mono fun v hv=>ih _ hv
 |some dw=>
  obtain⟨d,want⟩:=dw;simp only at H⊢;cases hg:guardOf want (e.get d)with
  |none=>rw[hg]at H;exact H.elim
  |some c=>rw[hg]at H;exact QW.mono (fun v hv=>ih _ hv) H
theorem Zem.toG{P:Program}{q0:List VOper}{h0:Heap}{late:List Bool}{K:Env→Heap→Prop}:∀{q:List VOper} {k:Nat} {e:Env} {h:Heap},(∀j,q[j]?=q0[k+j]?)→h.top≤h0.top→Zem P h0 late k q K e h→
  Zd7 P (hq3 q0 late h0 h0 ⟨[],h0.top⟩) (Xe6 q0 h0 h0 ⟨[],h0.top⟩) k q K e h
 | [],_,_,_,_,_,H=>H
 | ⟨dst,op,gd'⟩::r,k,e,h,hq,ht,H=>by
  have h0':q0[k]?=some ⟨dst,op,gd'⟩:=by simpa using(hq 0).symm
  have hq1:∀j,r[j]?=q0[(k+1)+j]?:=fun j=>by have:=hq (j+1);simpa[Nat.add_assoc,Nat.add_comm 1 j]using this
  have hwk:Za2 q0 k=op.writes:=by simp[Za2,h0']
  have hqk:hq3 q0 late h0 h0 ⟨[],h0.top⟩ k=if late.getD k false then h0 else if op.isIaddr then h0 else⟨[],h0.top⟩:=by simp only[hq3,h0']
  cases op
  case store s a v=>
   obtain⟨hg,hok,hk⟩:=H;have hg':gd'=none:=hg;subst hg';have htop:(Zec h (a.ev e) (v.ev e)).top≤h0.top:=by rw[Z29];exact ht
   exact⟨hok,⟨⟨htop,trivial⟩,(fun hw=>by rw[hwk]at hw;cases hw),fun hm=>Z3a hm _ _⟩,Zem.toG hq1 htop hk⟩
  case mapset kk m a v=>
   obtain⟨hg,hok,hok2,hk⟩:=H;have hg':gd'=none:=hg;subst hg';have htop:(Zcu h (m.ev e) (a.ev e) (v.ev e)).top≤h0.top:=by rw[Zzc];exact ht
   exact⟨hok,hok2,⟨⟨htop,trivial⟩,(fun hw=>by rw[hwk]at hw;cases hw),fun hm=>Zzd hm hok _ _⟩,Zem.toG hq1 htop hk⟩
  case mv a=>unfold Zem at H;exact Zem.quiet hqk (fun e H=>Zem.toG hq1 ht H) rfl H
  all_goals
   unfold Zem at H
   first
   |exact Zem.quiet hqk (fun e H=>Zem.toG hq1 ht H) rfl H
   |(exfalso;clear hqk hwk h0' hq;revert H;cases gd'<;>exact id)
theorem Zd5{P:Program}{N:FK}{Q:Exit→Env→Heap→Prop}{e:Env}{h:Heap}{q:List VOper}{late:List Bool}(l:List Nat)(hl:h.le h)(H:Zem P h late 0 q (fun e' h'=>Q .normal (Env.keep l e') h') e h):VW P N (.draw2 q late) Q e h:=
 Zr8 l h h ⟨[],h.top⟩ hl ⟨Nat.le_refl _,trivial⟩ (fun id fz z es e=>⟨fz,es,e⟩) (H.toG (fun j=>by simp) (Nat.le_refl _))
section
variable {P:Program} {f:FuncId} {args:List PV} {h:Heap} {K:PV→Heap→Prop}
theorem Zse{g:Gh}{w:World}{h:Heap}:Evo g w h (frz g w h) w ⟨[],h.top⟩:=
  ⟨Z1e g w h,rfl,rfl,rfl,Nat.le_refl _,fun _ _ _=>rfl,
   fun b o v e => by rcases Zjk e with h1|⟨h1,_⟩
                     ·exact .inl h1
                     ·exact .inr (.inr h1),
   fun b e he => by rcases Zg5 he with h1|⟨h1,_⟩
                    ·exact .inl h1
                    ·exact .inr (.inr h1),
   fun b ⟨id,ab,x,h1,_⟩=>by simp[Heap.get,HL.get]at h1⟩
theorem Zsf(q:List PV)(hv:Zcx h args q)(H:Zam P f q ⟨[],h.top⟩ K):Zam P f args h K:=by
 refine⟨H.1,fun g w vals r ha=>(H.2 (frz g w h) w vals (Zgc r) (hv.args r ha)).mono ?_⟩;rintro x w' ⟨v,p,g',h',h1,h2,h3,h4,h5⟩;exact⟨v,p,g',h',h1,h2,h3,h4,Zse.trans h5⟩
theorem Zam.weakenL{h0:Heap}(hl:h0.le h)(H:Zam P f args h0 K):Zam P f args h K:=
 ⟨H.1,fun g w vals r ha=>(H.2 g w vals (r.weaken hl) ha).mono fun x w' ⟨v,p,g',h',h1,h2,h3,h4,h5⟩=>⟨v,p,g',h',h1,h2,h3,h4,h5.weakenL hl⟩⟩
end
theorem View.locV{h:Heap}{id i off z:Nat}{fz:Bool}{es:List (List PV)}{q:List PV}(hg:h.get id=some (.arr fz z es))(hi:i<es.length)(hl:q.length+off≤z)(hv:∀j,j<q.length→View h (PV.nth (PV.row es i) (off+j)) (PV.nth q j)):View h (.loc id i off) (.ro q):=by
 intro g w v r hr;cases hr with
 | loc _ _ _ b o n z' a hb ha=>
  subst ha;rcases r.blk id _ hg with⟨hb0,_⟩|⟨b',o',n',z'',hb',hlt,hlive,hok⟩
  ·rw[hb]at hb0;cases hb0
  ·rw [hb]at hb';simp only[Zx0,Prod.mk.injEq]at hb';obtain⟨rfl,rfl,rfl,rfl⟩:=hb';obtain⟨rfl,hz,hle',c,ty,h1,h2,h3⟩:=hok;refine .ro b (o+i*z+off) _ _ (fun j=>c.getD (o+i*z+(off+j)) Go.undef) rfl (fun j hj=>?_) (fun j hj=>?_)
   ·obtain⟨e1,e2,e3⟩:=h3 i (off+j) hi (by omega);rw[show o+i*z+off+j=o+i*z+(off+j) by omega];cases fz
    ·have hin:o+i*z+(off+j)<c.size:=by
      have:=Za7 (n:=es.length) (z:=z) hi (show off+j<z by omega);omega
     exact Zm2 ((hlive rfl).1 _) hg hb rfl (by simp[World.cell?,h1,hin,Array.getD]) e1
    ·exact Zcl (e3 rfl)
   ·obtain⟨e1,e2,e3⟩:=h3 i (off+j) hi (by omega);exact hv j hj g w _ r e2
theorem View.loc{h:Heap}{id i z:Nat}{fz:Bool}{es:List (List PV)}{q:List PV}(hg:h.get id=some (.arr fz z es))(hi:i<es.length)(hq:PV.row es i=q)(hl:q.length≤z):View h (.loc id i 0) (.ro q):=
 View.locV hg hi (by omega) (fun j hj=>by rw[hq,Nat.zero_add];exact Vr)
theorem View.ownV{h:Heap}{id off len z:Nat}{fz:Bool}{es q:List (List PV)}(hg:h.get id=some (.arr fz z es))(hle:off+len≤es.length)(hq:q.length=len)(hqz:∀i,i<len→(PV.row q i).length=z)
  (hv:∀i j,i<len→j<z→View h (PV.nth (PV.row es (off+i)) j) (PV.nth (PV.row q i) j)):View h (.own id off len) (.sl z q):=by
 intro g w v r hv';cases hv' with
 |ownE ao=>
  have:q=[]:=List.eq_nil_of_length_eq_zero hq;subst this;exact .slE _ _ _
 | own _ _ _ cap b o n z' a hb ha hc hn=>
  subst ha;rcases r.blk id _ hg with⟨hb0,_⟩|⟨b',o',n',z'',hb',hlt,hlive,hok⟩
  ·rw[hb]at hb0;cases hb0
  ·rw [hb]at hb';simp only[Zx0,Prod.mk.injEq]at hb';obtain⟨rfl,rfl,rfl,rfl⟩:=hb';obtain⟨rfl,hz,hle',c,ty,h1,h2,h3⟩:=hok;refine .sl b (o+off*z) len cap z _ _ (fun i j=>c.getD (o+(off+i)*z+j) Go.undef) rfl hq hc hqz (fun i j hi hj=>?_) (fun i j hi hj=>?_)
   ·obtain⟨e1,e2,e3⟩:=h3 (off+i) j (by omega) hj;have e4:o+off*z+i*z+j=o+(off+i)*z+j:=by rw[Nat.add_mul];omega
    rw[e4];cases fz
    ·have hin:o+(off+i)*z+j<c.size:=by
      have:=Za7 (n:=es.length) (z:=z) (show off+i<es.length by omega) hj;omega
     exact Zm2 ((hlive rfl).1 _) hg hb rfl (by simp[World.cell?,h1,hin,Array.getD]) e1
    ·exact Zcl (e3 rfl)
   ·obtain⟨e1,e2,e3⟩:=h3 (off+i) j (by omega) hj;exact hv i j hi hj g w _ r e2
theorem View.own_all{h:Heap}{id z n:Nat}{fz:Bool}{es:List (List PV)}(hg:h.get id=some (.arr fz z es))(hn:n=es.length):View h (.own id 0 n) (.sl z es):=by
 have hv:=View.own (off:=0) (len:=n) hg (by omega);rw[List.drop_zero,hn,List.take_length]at hv;rw[hn];exact hv
theorem View.fn{h:Heap}{f:Fn}{pf pc qf qc:List PV}(h1:pf.length=qf.length)(h2:pc.length=qc.length)(hf:∀j,j<qf.length→View h (PV.nth pf j) (PV.nth qf j))(hc:∀j,j<qc.length→View h (PV.nth pc j) (PV.nth qc j)):View h (.fn f pf pc) (.fn f qf qc):=by
 intro g w v r hr;cases hr with
 |fn _ fs cs _ _ s1 s2 r1 r2=>exact .fn f fs cs qf qc (by omega) (by omega) (fun j hj=>hf j hj g w _ r (r1 j (by omega))) (fun j hj=>hc j hj g w _ r (r2 j (by omega)))
theorem View.agg{h:Heap}{l q:List PV}(hl:l.length=q.length)(hv:∀j,j<q.length→View h (PV.nth l j) (PV.nth q j)):View h (.agg l) (.agg q):=by
 intro g w v r hr;obtain⟨vs,rfl,hs,h1,hrr⟩:=hr.agg_inv;exact .agg _ _ (by omega) (fun j hj=>h1 j (by omega)) (fun j hj=>hv j hj g w _ r (hrr j (by omega)))
theorem View.any(h:Heap)(r:PV):View h r .any:=fun _ _ v _ _=>.any v
def Z6f(h:Heap)(e:Env):Env→Prop
 | []=>True
 |(k,p)::r=>View h (e.get k) p∧Z6f h e r
theorem Z6f.rep{g:Gh}{w:World}{h:Heap}(r:Rel g w h){a:Act}{e:Env}(he:Zas g a e):∀{e':Env},Z6f h e e'→Zas (frz g w h) a e'
 | [],_=>fun _=>.any _
 |(k,p)::q,hv=>fun t=>by
  by_cases e1:k=t
  ·subst e1;simp only[Env.get,if_true];exact hv.1 g w _ r (he k)
  ·simp only[Env.get,if_neg e1];exact Z6f.rep r he hv.2 t
section
variable {P:Program} {N:FK} {Q:Exit→Env→Heap→Prop} {e:Env} {h:Heap}
theorem Zav{c:VC}(e':Env)(hv:Z6f h e e')(H:VW P N c Q e' ⟨[],h.top⟩):VW P N c Q e h:=by
 intro x hx g w a r hr hd hs;refine wpIn_mono (H x hx (frz g w h) w a (Zgc r) (hv.rep r hr) hd hs) fun ex a' w' ⟨g',e1,h',k1,k2,k3,k4,k5,k6⟩=>⟨g',e1,h',k1,k2,k3,k4,k5,Zse.trans k6⟩
end
theorem Zd7.monoZ{P:Program}{hqf hqf':Nat→Heap}{Z Z':Nat→Heap→Heap→Prop}(hh:hqf=hqf')(hZ:∀k h h',Z k h h'→Z' k h h'){K:Env→Heap→Prop}:∀{q:List VOper} {k:Nat} {e:Env} {h:Heap},Zd7 P hqf Z k q K e h→Zd7 P hqf' Z' k q K e h
 | [],_,_,_,H=>H
 | o::r,k,e,h,H=>by
  subst hh;simp only[Zd7]at H⊢;split at H
  ·exact H.mono fun v h' kk=>⟨hZ _ _ _ kk.1,Zd7.monoZ rfl hZ kk.2⟩
  ·exact H.elim
  ·exact QW.mono (fun v hv=>Zd7.monoZ rfl hZ hv) H
  ·split at H
   ·exact QW.mono (fun v hv=>Zd7.monoZ rfl hZ hv) H
   ·exact H.elim
def Xdm{σ:Type}(st:σ→Env×Heap)(Q:Exit→Env→Heap→Prop):Exit→Env→Heap→Prop
 | .normal,e,h=>∃s,(st s).1.le e∧(st s).2.le h
 |x,e,h=>Q x e h
theorem Zfa{P:Program}{N:FK}{Q Q1:Exit→Env→Heap→Prop}{e:Env}{h:Heap}{c y:VC}{σ:Type}(st:σ→Env×Heap)(H1:VW P N c (Xdm st Q) e h)(H2:∀s,VW P N y Q1 (st s).1 (st s).2):VW P N c (Zg4 (VW P N y Q1) Q) e h:=
 H1.mono fun x e h hx=>by
  cases x with
  |normal=>
   obtain⟨s,a,b⟩:=hx;exact VW.weaken a b (H2 s)
  |_=>exact hx
theorem Zfb{g:Gh}{w w':World}{h:Heap}(r:Rel g w h)(hb:RowKit.Below w.heap.size w w'):MemExt g w g.m w':=by
 have hin:∀{b:Nat} {x:Obj},w.heap[b]?=some x→w'.heap[b]?=w.heap[b]?:=fun{b x} e=>hb.block b (by
  by_cases hlt:b<w.heap.size
  ·exact hlt
  ·rw[Array.getElem?_eq_none (by omega)]at e;cases e)
 refine⟨fun _ _ _ e=>e,fun b o v e=>?_,fun _ _ _ e=>.inl e,fun _ _ e=>e,fun b e he=>?_,fun _ _ e=>.inl e⟩
 ·obtain⟨h1,h2⟩:=r.mem b o v e;refine⟨?_,h2⟩;unfold World.cell? at h1⊢;cases hh:w.heap[b]? with
  |none=>rw[hh]at h1;cases h1
  |some x=>rw[hin hh];exact h1
 ·have h1:=r.mmem b e he;obtain⟨o,h2⟩:=h1.there;rw[hin h2];exact h1
theorem Zju{P:Program}{f:FuncId}{args:List PV}{p:PV}(hf:Ztr P f=true)(hc:Za8 args)
  (H:∀(g:Gh) (w:World) (vals:Array Value),Rel g w Heap.nil→Zm0 g vals args→Calls P f vals w fun e w'=>∃v,e=.returned v∧(∀g,Rep g v p)∧RowKit.Below w.heap.size w w'):Zgy P f args p:=
 ⟨hf,hc,fun g w vals r ha=>(H g w vals r ha).mono fun x w' ⟨v,h1,h2,h3⟩=>⟨v,g.m,h1,h2 _,Zfb r h3,h3⟩⟩
theorem Xcl{g:Gh}{vals:Array Value}{p:PV}(h:Zm0 g vals [p]):∃v,vals=#[v]∧Rep g v p:=by
 obtain⟨h1,h2⟩:=h;have:=h2 0 (by simp);refine⟨vals[0]'(by simp[h1]),?_,?_⟩
 ·apply Array.ext
  ·simp[h1]
  ·intro i hi hj;have:i=0:=by simp at hj;omega
   subst this;rfl
 ·simpa[Zx6,h1,PV.nth]using this
theorem Zuf{g:Gh}{vals:Array Value}{p q:PV}(h:Zm0 g vals [p,q]):∃v u,vals=#[v,u]∧Rep g v p∧Rep g u q:=by
 obtain⟨h1,h2⟩:=h;have a0:=h2 0 (by simp);have a1:=h2 1 (by simp);refine⟨vals[0]'(by simp[h1]),vals[1]'(by simp[h1]),?_,?_,?_⟩
 ·apply Array.ext
  ·simp[h1]
  ·intro i hi hj;have:i=0∨i=1:=by simp at hj;omega
   rcases this with rfl|rfl<;>rfl
 ·simpa[Zx6,h1,PV.nth]using a0
 ·simpa[Zx6,h1,PV.nth]using a1
theorem Znx{s:ByteArray}{l:List UInt8}(h:s.data.toList=l):s=⟨l.toArray⟩:=by
 subst h;cases s;simp
theorem Z3b{g:Gh}{w:World}{h:Heap}(r:Rel g w h){v:Value}{l:List Str}(hv:Rep g v (It.strs l)):
  (∃a cap,v=.slice a 0 cap∧l=[])∨∃b o cap,v=.slice (some ⟨b,o,none⟩) (l.map fun s=>(⟨s.toArray⟩:ByteArray)).length cap∧l.length≤cap∧b<w.heap.size∧∀(j:Nat) (x:ByteArray),(l.map fun s=>(⟨s.toArray⟩:ByteArray))[j]?=some x→w.cell? ⟨b,o+j,none⟩=some (.string x):=by
 unfold It.strs at hv;generalize hes:l.map (fun s=>[PV.str s])=es at hv;cases hv with
 |slE a cap z=>exact .inl ⟨a,cap,rfl,by simpa using hes⟩
 | sl b o len cap z a es vs ha hl hc hz hm hr=>
  subst hes;subst ha;have hlen:l.length=len:=by simpa using hl
  by_cases h0:l=[]
  ·subst h0;simp at hlen;subst hlen;exact .inl ⟨_,_,rfl,rfl⟩
  right
  have cell:∀i (hi:i<l.length),w.cell? ⟨b,o+i,none⟩=some (.string ⟨(l[i]).toArray⟩):=by
   intro i hi;have h1:=r.mem _ _ _ (hm i 0 (by omega) (by omega));have h2:=hr i 0 (by omega) (by omega);have e:PV.nth (PV.row (l.map fun s=>[PV.str s]) i) 0=.str l[i]:=by simp[PV.row,PV.nth,Zx1,hi]
   rw[e]at h2;obtain⟨s,hs,hsl⟩:=h2.str_inv;rw[hs,Znx hsl]at h1
   simpa using h1.1
  refine⟨b,o,cap,by simp[hlen],by omega,?_,fun j x hx=>?_⟩
  ·have hpos:0<l.length:=List.length_pos_iff.2 h0;have:=cell 0 hpos;unfold World.cell? at this;by_cases hlt:b<w.heap.size
   ·exact hlt
   ·simp only[]at this;rw[Array.getElem?_eq_none (by omega)]at this;cases this
  ·rw[List.getElem?_map,Option.map_eq_some_iff]at hx;obtain⟨s,hs,rfl⟩:=hx;obtain⟨hj,rfl⟩:=List.getElem?_eq_some_iff.1 hs;exact cell j hj
theorem Zqv{g:Gh}{w w':World}{h:Heap}(r:Rel g w h)(hb:RowKit.Below w.heap.size w w')(vs:List Value)(ps:List PV)(hl:ps.length=vs.length)
  (hr:∀j,j<vs.length→∀g:Gh,Rep g (vs.getD j Go.undef) (PV.nth ps j))(h1:∀j,j<vs.length→(vs.getD j Go.undef).oneCell'=true)
  {gb cap:Nat}{cur:Array Value}{t:TypeId}{fr:Nat×Nat}(hbase:w.heap.size≤gb)(hgb:w'.heap[gb]?=some (.cells cur t fr))(hcap:vs.length≤cap)(hcur:∀j,j<vs.length→cur[j]?=some (vs.getD j Go.undef)):
  ∃m':Mem,Rep ⟨m',fun _=>none⟩ (.slice (some ⟨gb,0,none⟩) vs.length cap) (.sl 1 (ps.map fun p=>[p]))∧MemExt g w m' w':=by
 let m':Mem:=⟨fun bb oo=>if bb=gb then(if oo<vs.length then some (vs.getD oo Go.undef)else none)else g.m bb oo,g.m.mm,fun bb l hp=>⟨(g.m.kn bb l hp).1,fun j hj=>by rw[if_neg (fun e=>by have:=(r.mmem _ _ (g.m.kn bb l hp).1).lt;omega)];exact(g.m.kn bb l hp).2 j hj⟩,fun bb k hp=>by obtain⟨v,h1,h2⟩:=g.m.kg bb k hp;exact⟨v,by rw[if_neg (fun e=>by have h3:=(r.mem _ _ _ h1).1;rw[e,World.cell?,Array.getElem?_eq_none (by omega)]at h3;cases h3)];exact h1,h2⟩,g.m.ks.mono fun bb oo v h1=>by rw[if_neg (fun e=>by have h3:=(r.mem _ _ _ h1).1;rw[e,World.cell?,Array.getElem?_eq_none (by omega)]at h3;cases h3)];exact h1⟩
 have hlg:∀bb oo v,g.m bb oo=some v→bb≠gb:=by
  rintro bb oo v e rfl;have:=(r.mem _ _ _ e).1;rw[World.cell?,Array.getElem?_eq_none (by omega)]at this;cases this
 have base:=Zfb r hb;refine⟨m',?_,?_⟩
 ·refine .sl gb 0 vs.length cap 1 _ _ (fun i _=>vs.getD i Go.undef) rfl (by simp[hl]) hcap (fun i hi=>?_) (fun i j hi hj=>?_) (fun i j hi hj=>?_)
  ·have hi':i<ps.length:=by omega
   simp[PV.row,Zx1,hi']
  ·obtain rfl:j=0:=by omega
   show(if gb=gb then(if 0+i*1+0<vs.length then some (vs.getD (0+i*1+0) Go.undef)else none)else _)=_;rw[if_pos rfl,if_pos (by omega)];simp
  ·obtain rfl:j=0:=by omega
   have hi':i<ps.length:=by omega
   have e:PV.nth (PV.row (ps.map fun p=>[p]) i) 0=PV.nth ps i:=by simp[PV.row,PV.nth,Zx1,hi']
   rw[e];exact hr i hi _
 ·refine⟨fun bb oo v e=>?_,fun bb oo v e=>?_,fun bb oo v e=>?_,base.oldM,base.okM,base.newM⟩
  ·show(if bb=gb then _ else _)=_;rw[if_neg (hlg bb oo v e)];exact e
  ·have e':(if bb=gb then(if oo<vs.length then some (vs.getD oo Go.undef)else none)else g.m bb oo)=some v:=e;by_cases h2:bb=gb
   ·subst h2;rw[if_pos rfl]at e';by_cases h3:oo<vs.length
    ·rw[if_pos h3]at e';simp only[Zx0]at e';subst e';refine⟨?_,h1 oo h3⟩;have:=hcur oo h3;simp[World.cell?,hgb,this]
    ·rw[if_neg h3]at e';cases e'
   ·rw[if_neg h2]at e';exact base.ok bb oo v e'
  ·have e':(if bb=gb then(if oo<vs.length then some (vs.getD oo Go.undef)else none)else g.m bb oo)=some v:=e;by_cases h2:bb=gb
   ·subst h2;exact .inr hbase
   ·rw[if_neg h2]at e';exact .inl e'
variable {P:Program} {o:Oper} {e:Env} {h:Heap} {K:PV→Heap→Prop}
variable {P:Program} {o:Oper} {e:Env} {h:Heap} {K:PV→Heap→Prop}
variable {P:Program} {o:Oper} {e:Env} {h:Heap} {K:PV→Heap→Prop}
theorem Xc6.rep{m:Mem}{β:Nat→Option (Nat×Nat×Nat×Nat)}{v:Value}{xs:List Int}(h:Xc6 m.c v xs):Rep ⟨m,β⟩ v (.sl 1 (xs.map fun x=>[PV.int .i64 x])):=by
 rcases h with⟨rfl,rfl⟩|⟨b,of,cap,h1,rfl,h3⟩
 ·exact .slE _ _ _
 ·refine .sl b of xs.length cap 1 _ _ (fun i _=>.int .i64 (xs.getD i 0)) rfl (by simp) h1 (fun i hi=>?_) (fun i j hi hj=>?_) (fun i j hi hj=>?_)
  ·simp[PV.row,Zx1,hi]
  ·obtain rfl:j=0:=by omega
   have:=h3 i hi
   simpa using this
  ·obtain rfl:j=0:=by omega
   have:PV.nth (PV.row (xs.map fun x=>[PV.int .i64 x]) i) 0=.int .i64 (xs.getD i 0):=by
    simp[PV.row,PV.nth,Zx1,hi]
   rw[this];exact .int _ _
theorem Z3c{t:TypeId}{ix:Operand}{vi:VA}{gb k:Nat}{kk:IntKind}{ls:List (List Int)}(ho:o.op=.indexAddr t (.global gb) ix)(ht:P.underlying t=some (.array (P.arrayLen t) (P.elem t)))(hs:Zc2 P (P.elem t)=some 1)
  (hi:cA ix=some vi)(hn:vi.ev e=.int kk k)(hk:k<P.arrayLen t)(hl:Zly.lookup gb=some ls)(hkl:k<ls.length)(H:K (.ro [.sl 1 ((ls.getD k []).map fun x=>[PV.int .i64 x])]) h):OpS P o e h K:=by
 refine OpS.of_value fun g w a r he=>?_;have h2:=Zat he hi;rw[hn]at h2;generalize hai:a.eval ix=ai at h2;cases h2;have hg:a.eval (.global gb)=.pointer (some ⟨gb,0,none⟩):=by simp[Act.eval]
 obtain⟨v,hv1,hv2⟩:=g.m.ks gb ls hl k hkl;refine⟨.pointer (some ⟨gb,k,none⟩),_,g,w,h,?_,H,.ro gb k _ _ (fun _=>v) rfl (fun j hj=>?_) (fun j hj=>?_),r,Evo.refl _ _ _⟩
 ·have hr:=run_indexAt_array (P:=P) (w:=w) t ⟨gb,0,none⟩ kk k ht;rw[if_pos ⟨by omega,by omega⟩,Zeb hs]at hr;simp only[execOp,ho,hg,hai];simp only[Sem.run_bind,hr,Result.andThen_ok];simp[Addr.add]<;>omega
 ·obtain rfl:j=0:=by simp at hj;omega
  exact hv1
 ·obtain rfl:j=0:=by simp at hj;omega
  exact hv2.rep
section
variable {P:Program} {N:FK} {ops:Array Oper} {q:List VOper} {hqf:Nat→Heap} {Z:Nat→Heap→Heap→Prop}
end
theorem HL.get_append(l m:List (Nat×AB))(t:Nat):HL.get (l++m) t=match HL.get l t with|some x=>some x|none=>HL.get m t:=by
 induction l with
 |nil=>rfl
 |cons x r ih=>
  obtain⟨k,v⟩:=x;simp only[List.cons_append,HL.get];split
  ·rfl
  ·exact ih
theorem HL.get_app_l{l m:List (Nat×AB)}{t:Nat}{x:AB}(h:HL.get l t=some x):HL.get (l++m) t=some x:=by rw[HL.get_append,h]
theorem HL.get_app_r{l m:List (Nat×AB)}{t:Nat}(h:HL.get l t=none):HL.get (l++m) t=HL.get m t:=by rw[HL.get_append,h]
structure Beside (l1 l2:List (Nat×AB)):Prop where
 apart:∀id ab,HL.get l2 id=some ab→HL.get l1 id=none
 cells:∀id fz z,HL.get l2 id≠some (.arr fz z [])
theorem Zug{g g':Gh}{w w':World}{l1 l2:List (Nat×AB)}{t:Nat}{h':Heap}(hb:Beside l1 l2)(r:Rel g w ⟨l1++l2,t⟩)(r':Rel g' w' h')(ev:Evo g w ⟨l1,t⟩ g' w' h')
  (ht:t≤h'.top)(hn:∀id,(HL.get l2 id).isSome=true→h'.get id=none)(hl:∀id ab,h'.get id=some ab→ab.live=true):
  Rel g' w' ⟨h'.l++l2,h'.top⟩∧Evo g w ⟨l1++l2,t⟩ g' w' ⟨h'.l++l2,h'.top⟩:=by
 have hsub:∀b,Ze3 g ⟨l1,t⟩ b→Ze3 g ⟨l1++l2,t⟩ b:=fun b ⟨id,ab,x,e,k⟩=>⟨id,ab,x,HL.get_app_l e,k⟩;have old:∀id ab,HL.get l2 id=some ab→∃b o n z,g.β id=some (b,o,n,z)∧b<w.heap.size∧(ab.live=true→g.free b)∧ab.ok g w b o n z∧¬Ze3 g ⟨l1,t⟩ b:=by
  intro id ab e;have e1:(⟨l1++l2,t⟩:Heap).get id=some ab:=by
   show HL.get (l1++l2) id=some ab;rw[HL.get_app_r (hb.apart id ab e)];exact e
  rcases r.blk id ab e1 with⟨_,fz,z,h2⟩|⟨b,o,n,z,k1,k2,k3,k4⟩
  ·subst h2;exact absurd e (hb.cells id fz z)
  ·refine⟨b,o,n,z,k1,k2,k3,k4,?_⟩;rintro⟨id2,ab2,x2,f1,f2,f3,f4⟩;have hne:id2≠id:=by
    intro h;subst h;have:=hb.apart _ _ e;simp only[Heap.get]at f1;rw[this]at f1;cases f1
   exact r.apart id2 id x2 _ ab2 ab hne (HL.get_app_l f1) e1 (by simp[f2]) f3 k1 f4
 have get2:∀id ab,(⟨h'.l++l2,h'.top⟩:Heap).get id=some ab→h'.get id=some ab∨(h'.get id=none∧HL.get l2 id=some ab):=by
  intro id ab e;have e':HL.get (h'.l++l2) id=some ab:=e;rw[HL.get_append]at e';cases hh:HL.get h'.l id with
  |some x=>rw[hh]at e';left;simp only[Heap.get,hh];exact e'
  |none=>rw[hh]at e';right;exact⟨hh,e'⟩
 refine⟨⟨r'.mem,r'.mmem,fun id hid=>⟨(r'.fin id hid).1,?_⟩,fun id ab e=>?_,fun id id2 x x2 ab ab2 hne e e2 hlv hx hx2=>?_⟩,⟨ev.le,ev.os,ev.tape,ev.output,ev.size,fun b hb' hno=>ev.block b hb' (fun ho=>hno (hsub b ho)),fun b o v e=>(ev.mem b o v e).imp id (Or.imp id (hsub b)),fun b e he=>(ev.mmem b e he).imp id (Or.imp id (hsub b)),fun b ho=>?_⟩⟩
 ·show HL.get (h'.l++l2) id=none;have e1:HL.get h'.l id=none:=(r'.fin id hid).2;rw[HL.get_app_r e1];cases e2:HL.get l2 id with
  |none=>rfl
  |some ab=>
   have e3:HL.get (l1++l2) id=none:=(r.fin id (Nat.le_trans ht hid)).2;rw[HL.get_app_r (hb.apart id ab e2),e2]at e3;cases e3
 ·rcases get2 id ab e with e1|⟨_,e1⟩
  ·exact r'.blk id ab e1
  ·obtain⟨b,o,n,z,k1,k2,k3,k4,k5⟩:=old id ab e1
   right
   refine⟨b,o,n,z,ev.le.2.1 _ _ k1,Nat.lt_of_lt_of_le k2 ev.size,fun hlv=>⟨fun x=>?_,?_⟩,AB.ok_move k4 ev.le (ev.block b k2 k5)⟩
   ·cases hm:g'.m b x with
    |none=>rfl
    |some v=>
     rcases ev.mem b x v hm with h1|h1|h1
     ·rw[(k3 hlv).1 x]at h1;cases h1
     ·omega
     ·exact absurd h1 k5
   ·cases hm:g'.m.mm b with
    |none=>rfl
    |some v=>
     rcases ev.mmem b v hm with h1|h1|h1
     ·rw[(k3 hlv).2]at h1;cases h1
     ·omega
     ·exact absurd h1 k5
 ·rcases get2 id ab e with e1|⟨n1,e1⟩<;>rcases get2 id2 ab2 e2 with f1|⟨m1,f1⟩
  ·exact r'.apart id id2 x x2 ab ab2 hne e1 f1 hlv hx hx2
  ·obtain⟨b,o,n,z,k1,k2,k3,k4,k5⟩:=old id2 ab2 f1;have:=ev.le.2.1 _ _ k1;rw[hx2]at this;cases this;intro he;rcases ev.own x.1 ⟨id,ab,x,e1,hl id ab e1,hx,rfl⟩with h1|h1
   ·rw[he]at h1;exact k5 h1
   ·rw[he]at h1;simp only at h1;omega
  ·obtain⟨b,o,n,z,k1,k2,k3,k4,k5⟩:=old id ab e1;have:=ev.le.2.1 _ _ k1;rw[hx]at this;cases this;intro he;rcases ev.own x2.1 ⟨id2,ab2,x2,f1,hl id2 ab2 f1,hx2,rfl⟩with h1|h1
   ·rw[←he]at h1;exact k5 h1
   ·rw[←he]at h1;simp only at h1;omega
  ·obtain⟨b,o,n,z,k1,k2,k3,k4,k5⟩:=old id ab e1;obtain⟨b2,o2,n2,z2,j1,j2,j3,j4,j5⟩:=old id2 ab2 f1;have h1:=ev.le.2.1 _ _ k1;rw[hx]at h1;cases h1;have h2:=ev.le.2.1 _ _ j1;rw[hx2]at h2;cases h2;have e3:(⟨l1++l2,t⟩:Heap).get id=some ab:=by show HL.get (l1++l2) id=some ab;rw[HL.get_app_r (hb.apart id ab e1)];exact e1
   have e4:(⟨l1++l2,t⟩:Heap).get id2=some ab2:=by show HL.get (l1++l2) id2=some ab2;rw[HL.get_app_r (hb.apart id2 ab2 f1)];exact f1
   exact r.apart id id2 _ _ ab ab2 hne e3 e4 hlv k1 j1
 ·obtain⟨id,ab,x,e,hlv,hx,rfl⟩:=ho;rcases get2 id ab e with e1|⟨n1,e1⟩
  ·exact(ev.own x.1 ⟨id,ab,x,e1,hlv,hx,rfl⟩).imp (hsub _) (fun h=>h)
  ·obtain⟨b,o,n,z,k1,k2,k3,k4,k5⟩:=old id ab e1;have h1:=ev.le.2.1 _ _ k1;rw[hx]at h1;cases h1
   left
   refine⟨id,ab,_,?_,hlv,k1,rfl⟩;show HL.get (l1++l2) id=some ab;rw[HL.get_app_r (hb.apart id ab e1)];exact e1
theorem Zam.frame{P:Program}{f:FuncId}{args:List PV}{K:PV→Heap→Prop}{l1 l2:List (Nat×AB)}{t:Nat}(hb:Beside l1 l2)
  (H:Zam P f args ⟨l1,t⟩ (fun p h'=>t≤h'.top∧(∀id,(HL.get l2 id).isSome=true→h'.get id=none)∧(∀id ab,h'.get id=some ab→ab.live=true)∧K p ⟨h'.l++l2,h'.top⟩)):Zam P f args ⟨l1++l2,t⟩ K:=by
 refine⟨H.1,fun g w vals r ha=>?_⟩;have r1:Rel g w ⟨l1,t⟩:=⟨r.mem,r.mmem,fun id hid=>⟨(r.fin id hid).1,by
   have:=(r.fin id hid).2;cases e:HL.get l1 id with
   |none=>exact e
   |some ab=>simp only[Heap.get,HL.get_app_l e]at this;cases this⟩,
  fun id ab e=>r.blk id ab (HL.get_app_l e),fun id id' x x' ab ab' hne e e'=>r.apart id id' x x' ab ab' hne (HL.get_app_l e) (HL.get_app_l e')⟩
 refine(H.2 g w vals r1 ha).mono ?_;rintro x w' ⟨v,p,g',h',h1,⟨k1,k2,k3,k4⟩,h3,h4,h5⟩;obtain⟨R,E⟩:=Zug hb r h4 h5 k1 k2 k3;exact⟨v,p,g',_,h1,k4,h3,R,E⟩
theorem HL.get_mem:∀{l:List (Nat×AB)} {id:Nat} {ab:AB},HL.get l id=some ab→(id,ab)∈l
 | [],_,_,h=>by simp[HL.get]at h
 |(k,v)::r,id,ab,h=>by
  by_cases e:k=id
  ·subst e;simp only[HL.get,if_true,Zx0]at h;subst h;exact List.mem_cons_self
  ·simp only[HL.get,if_neg e]at h;exact Zx7 _ (HL.get_mem h)
theorem HL.get_no:∀{l:List (Nat×AB)} {id:Nat},(∀q∈l,id≠q.1)→HL.get l id=none:=by
 intro l id h;cases e:HL.get l id with
 |none=>rfl
 |some ab=>exact absurd rfl (h _ (HL.get_mem e))
theorem Zam.frameL{P:Program}{f:FuncId}{args:List PV}{K:PV→Heap→Prop}{l1 l2:List (Nat×AB)}{t:Nat}(h1:∀p∈l2,∀q∈l1,p.1≠q.1)(hc:∀p∈l2,∀fz z,p.2≠.arr fz z [])
  (H:Zam P f args ⟨l1,t⟩ (fun p h'=>t≤h'.top∧(∀p∈l2,∀q∈h'.l,p.1≠q.1)∧(∀q∈h'.l,q.2.live=true)∧K p ⟨h'.l++l2,h'.top⟩)):Zam P f args ⟨l1++l2,t⟩ K:=by
 refine Zam.frame ⟨fun id ab e=>HL.get_no (h1 _ (HL.get_mem e)),fun id fz z e=>hc _ (HL.get_mem e) fz z rfl⟩ (H.mono ?_);rintro p h' ⟨k1,k2,k3,k4⟩;refine⟨k1,fun id hid=>?_,fun id ab e=>k3 _ (HL.get_mem e),k4⟩;cases e:HL.get l2 id with
 |none=>rw[e]at hid;cases hid
 |some ab=>exact HL.get_no (k2 _ (HL.get_mem e))
theorem Rel.cell_own{g:Gh}{w:World}{h:Heap}(r:Rel g w h)(id z:Nat)(hg:h.get id=some (.arr false 1 [[.nilsl]])):
  Rel g w ((h.set id (.arr false 1 [[.own h.top 0 0]])).push (.arr false z []))∧Evo g w h g w ((h.set id (.arr false 1 [[.own h.top 0 0]])).push (.arr false z [])):=by
 have hid:id<h.top:=by
  rcases Nat.lt_or_ge id h.top with h1|h1
  ·exact h1
  ·rw[(r.fin id h1).2]at hg;cases hg
 have ht:(h.set id (.arr false 1 [[.own h.top 0 0]])).top=h.top:=rfl;have get1:∀i,((h.set id (.arr false 1 [[.own h.top 0 0]])).push (.arr false z [])).get i=if h.top=i then some (.arr false z [])else if id=i then some (.arr false 1 [[.own h.top 0 0]])else h.get i:=by
  intro i;rw[Heap.get_push,Heap.get_set,hg,ht];rfl
 have old:∀i ab,h.top≠i→((h.set id (.arr false 1 [[.own h.top 0 0]])).push (.arr false z [])).get i=some ab→∃ab0,h.get i=some ab0∧ab0.live=ab.live:=by
  intro i ab hi e;rw[get1,if_neg hi]at e;by_cases h2:id=i
  ·subst h2;rw[if_pos rfl]at e;cases e;exact⟨_,hg,rfl⟩
  ·rw[if_neg h2]at e;exact⟨ab,e,rfl⟩
 have bt:=(r.fin h.top (Nat.le_refl _)).1;refine⟨⟨r.mem,r.mmem,fun i hi=>?_,fun i ab e=>?_,fun i j x y ab ab' hne e e' hl hx hy=>?_⟩,⟨g.le_refl,rfl,rfl,rfl,Nat.le_refl _,fun _ _ _=>rfl,fun _ _ _ e=>.inl e,fun _ _ e=>.inl e,fun b ⟨i,ab,x,e,hl,hx,hb⟩=>?_⟩⟩
 ·have hi':h.top+1≤i:=hi;refine⟨(r.fin i (by omega)).1,?_⟩;rw[get1,if_neg (by omega),if_neg (by omega)];exact(r.fin i (by omega)).2
 ·rw [get1]at e;by_cases h1:h.top=i
  ·subst h1;rw[if_pos rfl]at e;cases e;exact .inl ⟨bt,_,_,rfl⟩
  ·rw [if_neg h1]at e;by_cases h2:id=i
   ·subst h2;rw[if_pos rfl]at e;cases e;rcases r.blk id _ hg with⟨_,fz,z',h3⟩|⟨b,o,n,z',k1,k2,k3,k4⟩
    ·cases h3
    ·refine .inr ⟨b,o,n,z',k1,k2,k3,?_⟩;obtain⟨q1,q2,q3,c,ee,q4,q5,q6⟩:=k4;refine⟨q1,fun i hi=>?_,q3,c,ee,q4,q5,fun i j hi hj=>?_⟩
     ·have:=q2 i hi;obtain rfl:i=0:=by simp at hi;omega
      simpa[PV.row]using this
     ·obtain rfl:i=0:=by simp at hi;omega
      have hj':j=0:=by omega
      subst hj';obtain⟨m1,m2,m3⟩:=q6 0 0 (by simp) hj;refine⟨m1,?_,m3⟩;simp only[PV.row,List.getD_cons_zero,PV.nth]at m2⊢;generalize c.getD (o+0*z'+0) Go.undef=v at m2;cases m2;exact .ownE _ _ _
   ·rw[if_neg h2]at e;exact r.blk i ab e
 ·by_cases h1:h.top=i
  ·subst h1;rw[bt]at hx;cases hx
  by_cases h2:h.top=j
  ·subst h2;rw[bt]at hy;cases hy
  obtain⟨a0,f1,f2⟩:=old i ab h1 e;obtain⟨a1,f3,f4⟩:=old j ab' h2 e';exact r.apart i j x y a0 a1 hne f1 f3 (by rw[f2,f4];exact hl) hx hy
 ·by_cases h1:h.top=i
  ·subst h1;rw[bt]at hx;cases hx
  obtain⟨a0,f1,f2⟩:=old i ab h1 e;exact .inl ⟨i,a0,x,f1,by rw[f2];exact hl,hx,hb⟩
theorem Z1j{P:Program}{N:FK}{Q:Exit→Env→Heap→Prop}{e:Env}{h:Heap}{c:VC}(id z:Nat)(hg:h.get id=some (.arr false 1 [[.nilsl]]))(H:VW P N c Q e ((h.set id (.arr false 1 [[.own h.top 0 0]])).push (.arr false z []))):VW P N c Q e h:=by
 intro x hx g w a r hr hd hs;obtain⟨r1,r2⟩:=r.cell_own id z hg;refine wpIn_mono (H x hx g w a r1 hr hd hs) fun ex a' w' ⟨g',e',h',k1,k2,k3,k4,k5,k6⟩=>⟨g',e',h',k1,k2,k3,k4,k5,r2.trans k6⟩
theorem Gz.closed(a:Gz):∀x∈a.enc,Closed x:=by
 intro x hx;simp only[Gz.enc,Zyb,Zya,or_false]at hx;rcases hx with rfl|rfl|rfl|rfl
 all_goals first|exact cI _|exact cS _|exact Zqu _
theorem Z3d(l:List Gz):Closed (.sl 4 (l.map Gz.enc)):=Zaj (fun w _=>w.closed)
def Ziw(P:Program)(h0:Heap)(late:List Bool):Nat→List VOper→(Env→Heap→Prop)→Env→Heap→Prop
 |_,[],K,e,h=>K e h
 | k,o::r,K,e,h=>match o.op.simple,o.guard with
  |true,none=>Zau P e h o.op (fun v h'=>h'.top≤h0.top∧(o.op.writes=false→h0.le h→h0.le h')∧Ziw P h0 late (k+1) r K (e.put o.dst v) h')
  |true,some _=>False
  |false,none=>QW P (if late.getD k false then h0 else⟨[],h0.top⟩) e o.op true (fun v=>Ziw P h0 late (k+1) r K (e.put o.dst v) h)
  |false,some (d,want)=>(match guardOf want (e.get d)with
   |some c=>QW P (if late.getD k false then h0 else⟨[],h0.top⟩) e o.op c (fun v=>Ziw P h0 late (k+1) r K (e.put o.dst v) h)
   |none=>False)
theorem Ziw.toG{P:Program}{q0:List VOper}{h0:Heap}{late:List Bool}{K:Env→Heap→Prop}:∀{q:List VOper} {k:Nat} {e:Env} {h:Heap},(∀j,q[j]?=q0[k+j]?)→Ziw P h0 late k q K e h→
  Zd7 P (fun i=>if late.getD i false then h0 else⟨[],h0.top⟩) (fun i h h'=>(⟨[],h0.top⟩:Heap).le h'∧(Za2 q0 i=false→h0.le h→h0.le h')) k q K e h
 | [],_,_,_,_,H=>H
 | o::r,k,e,h,hq,H=>by
  have h0':q0[k]?=some o:=by simpa using(hq 0).symm
  have hq1:∀j,r[j]?=q0[(k+1)+j]?:=fun j=>by have:=hq (j+1);simpa[Nat.add_assoc,Nat.add_comm 1 j]using this
  have hwk:Za2 q0 k=o.op.writes:=by simp[Za2,h0']
  obtain⟨dst,op,gu⟩:=o;simp only[Ziw]at H;simp only[Zd7];cases hs:op.simple with
  | true=>
   cases gu with
   |none=>
    simp only[hs]at H⊢;exact Zau.mono (fun v h' kk=>⟨⟨⟨kk.1,trivial⟩,fun hw=>kk.2.1 (by rw[←hwk];exact hw)⟩,Ziw.toG hq1 kk.2.2⟩) H
   |some d=>simp only[hs]at H
  | false=>
   cases gu with
   |none=>
    simp only[hs]at H⊢;exact QW.mono (fun v hv=>Ziw.toG hq1 hv) H
   |some dw=>
    obtain⟨d,want⟩:=dw;simp only[hs]at H⊢;cases hg:guardOf want (e.get d)with
    |none=>rw[hg]at H;exact H.elim
    |some c=>rw[hg]at H;exact QW.mono (fun v hv=>Ziw.toG hq1 hv) H
theorem Zny{P:Program}{N:FK}{Q:Exit→Env→Heap→Prop}{e:Env}{h:Heap}{q:List VOper}{late:List Bool}(T:Nat)(l:List Nat)(hl:(⟨h.l,T⟩:Heap).le h)
  (H:Ziw P ⟨h.l,T⟩ late 0 q (fun e' h'=>Q .normal (Env.keep l e') h') e h):VW P N (.draw2 q late) Q e h:=by
 have hs:∀h',Shp ⟨[],T⟩ h':=fun h' id fz z es hg=>by simp[Heap.get,HL.get]at hg
 refine Zr8 l ⟨h.l,T⟩ ⟨[],T⟩ ⟨[],T⟩ hl ⟨hl.1,trivial⟩ (hs h) (Zd7.monoZ (hqf:=fun i=>if late.getD i false then⟨h.l,T⟩else⟨[],T⟩) (funext fun i=>?_) (fun k h1 h' hz=>⟨hz.1,hz.2,fun _=>hs h'⟩) (H.toG (fun j=>by simp)));simp only[hq3];split
 ·rfl
 ·split<;>(try split)<;>rfl
theorem Zfs{P:Program}{N:FK}{Q:Exit→Env→Heap→Prop}{e:Env}{h:Heap}{q:List VOper}{late:List Bool}(l:List Nat)(hq:Heap)(hl:hq.le h)(H:Zde P hq q (fun e' h'=>Q .normal (Env.keep l e') h') e h):VW P N (.draw2 q late) Q e h:=by
 have hs:∀h',hq.le h'→Shp hq h':=fun h' hh id fz z es hg=>⟨fz,es,Heap.le_get hh _ _ hg⟩;refine Zr8 l hq hq hq hl hl (hs h hl) (Zd7.monoZ (hqf:=fun _=>hq) (funext fun i=>?_) (fun k h1 h' hz=>⟨hz,fun _ _=>hz,fun _=>hs h' hz⟩) H.toG);simp only[hq3];split<;>(try split)<;>(try split)<;>rfl
def Light{H:Type}(P:Program)(t:TypeId)(d:DataW H):Prop:=∀n∈d.weights P t,n≤reachBytes
structure ReadsZ (P:Program) (W:World) (n:Nat) (t:TypeId) {α:Type} (ok:α→Prop) (enc:α→List PV):Prop where
 run:∀(_:Zdp W) (H:Type) (en:TypeId×Value→H) (base:Nat) (spare:Nat→Bool) (held:Bool) (cs:List Value) (x:DataW H×List MemPlace),DataW.trod en P W base spare held n t cs=some x→Light P t x.1→ ∃a,ok a∧Zpp (g0 W) cs (enc a)
section
variable {P:Program} {W:World} {n:Nat} {t:TypeId}
theorem Reads.z{α:Type}{ok:α→Prop}{enc:α→List PV}(h:Reads P W n t ok enc):ReadsZ P W n t ok enc:=⟨fun hk H en base spare held cs x hx _=>h.run hk H en base spare held cs x hx⟩
theorem ReadsZ.map{α β:Type}{ok:α→Prop}{enc:α→List PV}{ok':β→Prop}{enc':β→List PV}(f:α→β)(h:ReadsZ P W n t ok enc)(ho:∀a,ok a→ok' (f a))(he:∀a,enc' (f a)=enc a):ReadsZ P W n t ok' enc':=
 ⟨fun hk H en base spare held cs x hx hz=>by
  obtain⟨a,a1,a2⟩:=h.run hk H en base spare held cs x hx hz;exact⟨f a,ho a a1,by rw[he];exact a2⟩⟩
structure FReadsZ (P:Program) (W:World) (n:Nat) (fs:List Field) (o:Nat) {α:Type} (ok:α→Prop) (enc:α→List PV):Prop where
 run:∀(_:Zdp W) (H:Type) (en:TypeId×Value→H) (base:Nat) (spare:Nat→Bool) (held:Bool) (cs:List Value),
  (∀f∈fs, ∃x,DataW.trod en P W base spare held n f.type ((cs.drop f.offset).take (P.cellsOf f.type))=some x∧Light P f.type x.1)→ ∃a,ok a∧Zpp (g0 W) ((cs.drop o).take (enc a).length) (enc a)
theorem ReadsZ.agg(hk:Zdp W){α:Type}{ok:α→Prop}{enc:α→List PV}{H:Type}{en:TypeId×Value→H}{base:Nat}{spare:Nat→Bool}{held:Bool}{vs:Array Value}{d:DataW H}{ps:List MemPlace}
  (h:∀n,ReadsZ P W n t ok enc)(hd:DataW.Trod en P W base spare held t (.agg vs) d ps)(hw:Light P t d):∃a,ok a∧Rep (g0 W) (.agg vs) (.agg (enc a)):=by
 obtain⟨fuel,hx⟩:=hd;obtain⟨a,a1,a2,a3⟩:=(h fuel).run hk H en base spare held _ _ hx hw;simp only[Value.cells]at a2 a3;refine⟨a,a1,.agg _ _ (by simpa using a2) (fun j hj=>?_) (fun j hj=>?_)⟩
 ·have:=(a3 j hj).1;simpa[Zx6]using this
 ·have:=(a3 j hj).2;simpa[Zx6]using this
end
end Go.VM
