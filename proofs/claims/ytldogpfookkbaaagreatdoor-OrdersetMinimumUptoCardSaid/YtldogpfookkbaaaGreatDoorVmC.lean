import Derived.Test.YtldogpfookkbaaaGreatDoorVm8
import Derived.OpenShut
import Derived.LoopN
set_option linter.all false
namespace Go.VM
open Go
def Agree(l:List VA)(e e':Env):Prop:=∀a∈l,a.ev e=a.ev e'
theorem Agree.map{l:List VA}{e e':Env}(h:Agree l e e'):l.map (VA.ev e)=l.map (VA.ev e'):=List.map_congr_left h
theorem Zqq{e e':Env}:∀(ps:List (Nat×Nat×VA)) (cs:List PV),Agree (ps.map fun p=>p.2.2) e e'→Zgx e cs ps=Zgx e' cs ps
 | [],_,_=>rfl
 |(o,s,a)::r,cs,h=>by
  simp only[Zgx];rw[h a (by simp),Zqq r _ (fun x hx=>h x (by simp only[List.map_cons,Zyb];exact .inr hx))]
theorem Zl2{e e':Env}(n:Nat):∀(ps:List (Nat×Nat×VA)),Agree (ps.map fun p=>p.2.2) e e'→Ze5 e n ps=Ze5 e' n ps
 | [],_=>rfl
 |(o,s,a)::r,h=>by
  simp only[Ze5];rw[h a (by simp),Zl2 n r (fun x hx=>h x (by simp only[List.map_cons,Zyb];exact .inr hx))]
theorem Zgd{e e':Env}:∀(ps:List (Nat×VA)) (rows:List (List PV)),Agree (ps.map fun p=>p.2) e e'→Zb6 e rows ps=Zb6 e' rows ps
 | [],_,_=>rfl
 |(i,a)::r,rows,h=>by
  simp only[Zb6];rw[h a (by simp),Zgd r _ (fun x hx=>h x (by simp only[List.map_cons,Zyb];exact .inr hx))]
theorem Zge{e e':Env}(z n:Nat):∀(ps:List (Nat×VA)),Agree (ps.map fun p=>p.2) e e'→Zct e z n ps=Zct e' z n ps
 | [],_=>rfl
 |(i,a)::r,h=>by
  simp only[Zct];rw[h a (by simp),Zge z n r (fun x hx=>h x (by simp only[List.map_cons,Zyb];exact .inr hx))]
theorem Zjm{e e':Env}(o:Option VA)(h:∀a∈o.toList,a.ev e=a.ev e'):o.map (VA.ev e)=o.map (VA.ev e'):=by
 cases o with
 |none=>rfl
 |some a=>simp[h a (by simp)]
theorem Zlb{e e':Env}{h:Heap}{op:VOp}(ha:Agree op.vas e e'):Zcq e h op=Zcq e' h op:=by
 cases op<;>simp only[VOp.vas,Agree,Zyb,Zya,or_false,Zyv,forall_eq]at ha<;>simp only[Zcq]
 case mv a=>rw[ha]
 case un op a=>rw[ha]
 case conv k a=>rw[ha]
 case strid a=>rw[ha]
 case faddr o a=>rw[ha]
 case fld g o s a=>rw[ha]
 case ext a i=>rw[ha]
 case len st a=>rw[ha]
 case mlen a=>rw[ha]
 case lookup kk zr ok a b=>rw[ha.1,ha.2]
 case load g s a=>rw[ha]
 case pick a b c=>rw[ha.1,ha.2.1,ha.2.2]
 case build zr ps=>rw[Zqq ps zr ha]
 case bin op a b=>rw[ha.1,ha.2]
 case binb op a b=>rw[ha.1,ha.2]
 case eqs n ks a b=>rw[ha.1,ha.2]
 case iaddr z a b=>rw[ha.1,ha.2]
 case idx a b=>rw[ha.1,ha.2]
 case mkfn f x y=>
  rw[List.map_congr_left (fun a h=>ha a (List.mem_append_left _ h)),List.map_congr_left (f:=VA.ev e) (g:=VA.ev e') (fun a h=>ha a (List.mem_append_right _ h))]
 case slice st z a lo hi=>
  rw[ha.1,Zjm lo (fun x hx=>ha.2 x (List.mem_append_left _ hx)),Zjm hi (fun x hx=>ha.2 x (List.mem_append_right _ hx))]
 case px k l=>rw[Agree.map (l:=l) ha]
 case mm mx l=>
  match l,ha with
  | [],_=>rfl
  | [a],_=>rfl
  | [a,b],ha=>simp only[Zyb,Zya,or_false,Zyv,forall_eq]at ha;show mmV mx (a.ev e) (b.ev e)=mmV mx (a.ev e') (b.ev e');rw[ha.1,ha.2]
  |_::_::_::_,_=>rfl
theorem Zuc{e e':Env}{h:Heap}{op:VOp}(ha:Agree op.vas e e'):pok e h op=pok e' h op:=by
 cases op<;>simp only[VOp.vas,Agree,Zyb,Zya,or_false,Zyv,forall_eq]at ha<;>simp only[pok]
 case un op a=>rw[ha]
 case conv k a=>rw[ha]
 case strid a=>rw[ha]
 case faddr o a=>rw[ha]
 case fld g o s a=>rw[ha]
 case ext a i=>rw[ha]
 case len st a=>rw[ha]
 case mlen a=>rw[ha]
 case lookup kk zr ok a b=>rw[ha.1,ha.2]
 case load g s a=>rw[ha]
 case pick a b c=>rw[ha.1]
 case build zr ps=>rw[Zl2 _ ps ha]
 case bin op a b=>rw[ha.1,ha.2]
 case binb op a b=>rw[ha.1,ha.2]
 case eqs n ks a b=>rw[ha.1,ha.2]
 case iaddr z a b=>rw[ha.1,ha.2]
 case idx a b=>rw[ha.1,ha.2]
 case slice st z a lo hi=>
  rw[ha.1,Zjm lo (fun x hx=>ha.2 x (List.mem_append_left _ hx)),Zjm hi (fun x hx=>ha.2 x (List.mem_append_right _ hx))]
 case px k l=>rw[Agree.map (l:=l) ha]
 case mm mx l=>
  match l,ha with
  | [],_=>rfl
  | [a],_=>rfl
  | [a,b],ha=>simp only[Zyb,Zya,or_false,Zyv,forall_eq]at ha;show(isInt (a.ev e)∧isInt (b.ev e))=(isInt (a.ev e')∧isInt (b.ev e'));rw[ha.1,ha.2]
  |_::_::_::_,_=>rfl
theorem Zeu{P:Program}{e e':Env}{h:Heap}{op:VOp}{K:PV→Heap→Prop}(hc:op.closed=true)(ha:Agree op.vas e e'):Zau P e h op K=Zau P e' h op K:=by
 have h1:=Zlb (h:=h) ha;have h2:=Zuc (h:=h) ha;cases op<;>simp only[VOp.vas,Agree,Zyb,Zya,or_false,Zyv,forall_eq]at ha<;>simp only[Zau]<;>(try (rw[h1,h2];done))
 case box n a=>rw[ha]
 case bslice z n zr ps=>rw[Zge z n ps ha,Zgd ps _ ha]
 case store s a b=>rw[ha.1,ha.2]
 case mapset kk a b c=>rw[ha.1,ha.2.1,ha.2.2]
 case app z b zr st x y=>rw[ha.1,ha.2]
 case call f l=>rw[Agree.map ha]
 case callv f l=>rw[ha.1,Agree.map (l:=l) ha.2]
 case fx k l=>rw[Agree.map (l:=l) ha]
 case nd neg a=>rw[ha]
 case other o=>simp[VOp.closed]at hc
theorem Zau.mono{P:Program}{e:Env}{h:Heap}{op:VOp}{K K':PV→Heap→Prop}(hk:∀v h,K v h→K' v h)(H:Zau P e h op K):Zau P e h op K':=by
 cases op<;>simp only[Zau]at H⊢<;>first
  |exact⟨H.1,hk _ _ H.2⟩
  |exact⟨H.1,fun b h1 h2=>hk _ _ (H.2 b h1 h2)⟩
  |exact hk _ _ H
  |exact⟨H.1,H.2.1,hk _ _ H.2.2⟩
  |exact⟨H.1,H.2.1,H.2.2.1,H.2.2.2.1,hk _ _ H.2.2.2.2⟩
  |exact Zam.mono H hk
  |(split at H<;>first|exact Zam.mono H hk|exact H)
  |exact fun g w a next Q r he hn=>H g w a next Q r he (fun v pv g' w' h' k=>hn v pv g' w' h' (hk _ _ k))
  |exact H
theorem Zud{p:PV}(h:notNil p=true):isNil p=false:=by
 cases p<;>first|rfl|(simp[notNil]at h)
theorem Zau.out{P:Program}{e:Env}{h:Heap}{op:VOp}{K:PV→Heap→Prop}{A:Prop}(hs:op.simple=true)(H:Zau P e h op (fun v h'=>A∧K v h')):A:=by
 cases op<;>simp only[VOp.simple]at hs<;>simp only[Zau]at H<;>first
  |exact H.1
  |exact H.2.1
  |exact H.2.2.1
  |exact H.2.2.2.2.1
  |exact(H.2 (isNil _) (fun h=>h) (fun h=>Zud h)).1
  |cases hs
def Zfp(P:Program)(hq:Heap)(e:Env)(op:VOp)(v:PV):Prop:=
 match op with
 | .call f args=>Zby P f (args.map (VA.ev e)) hq v
 | .callv f args=>(match f.ev e with
  | .fn (.func f) first cap=>Zby P f (first++args.map (VA.ev e)++cap) hq v
  |_=>False)
 | .bslice z n zr ps=>Zct e z n ps∧v=.sl z (Zb6 e (List.replicate n zr) ps)
 |op=>op.pure=true∧pok e hq op∧v=Zcq e hq op
theorem Zcf{P:Program}{hq:Heap}{e e':Env}{op:VOp}{v:PV}(hc:op.closed=true)(ha:Agree op.vas e e'):Zfp P hq e op v=Zfp P hq e' op v:=by
 have h1:=Zlb (h:=hq) ha;have h2:=Zuc (h:=hq) ha;cases op<;>simp only[VOp.vas,Agree,Zyb,Zya,or_false,Zyv,forall_eq]at ha<;>simp only[Zfp]<;>(try (rw[h1,h2];done))
 case bslice z n zr ps=>rw[Zge z n ps ha,Zgd ps _ ha]
 case call f l=>rw[Agree.map ha]
 case callv f l=>rw[ha.1,Agree.map (l:=l) ha.2]
def Zw9(e:Env)(hq:Heap):VOp→PV
 | .bslice z n zr ps=>.sl z (Zb6 e (List.replicate n zr) ps)
 |op=>Zcq e hq op
theorem Zfp.det{P:Program}{hq:Heap}{e:Env}{op:VOp}{v:PV}(hd:op.det=true)(h:Zfp P hq e op v):v=Zw9 e hq op:=by
 cases op<;>simp only[VOp.det,VOp.pure]at hd<;>first|exact h.2.2|exact h.2|cases hd
theorem Zqr{hq:Heap}{e e':Env}{op:VOp}(ha:Agree op.vas e e'):Zw9 e hq op=Zw9 e' hq op:=by
 have h1:=Zlb (h:=hq) ha;cases op<;>first|exact h1|skip
 rename_i z n zr ps;simp only[Zw9];rw[Zgd ps _ ha]
def gOf(o:VOper)(e:Env)(c:Bool):Prop:=match o.guard with|none=>c=true|some (d,want)=>guardOf want (e.get d)=some c
def Zc5(P:Program)(hqf:Nat→Heap)(Z:Nat→Heap→Heap→Prop)(E:List Nat)(i:Nat)(o:VOper)(e:Env)(h:Heap)(K:Env→Heap→Prop):Prop:=
 if i∈E then o.guard=none∧Zau P e h o.op (fun v h'=>Z i h h'∧K (e.put o.dst v) h')
 else ∃c,gOf o e c∧∃v,(c=true→Zfp P (hqf i) e o.op v)∧K (e.put o.dst (gd c v)) h
theorem Zjn{o:VOper}{e:Env}{d:Option Nat}{v:PV}(hd:∀t,d=some t→t∉o.reads):Agree o.op.vas (e.put d v) e∧∀c,gOf o (e.put d v) c↔gOf o e c:=by
 cases d with
 |none=>exact⟨fun _ _=>rfl,fun _=>Iff.rfl⟩
 | some t=>
  have ht:=hd t rfl;constructor
  ·intro a ha;cases a with
   |c p=>rfl
   | t n=>
    have hne:t≠n:=by
     rintro rfl;exact ht (List.mem_append_left _ (List.mem_filterMap.2 ⟨_,ha,rfl⟩))
    simp[VA.ev,Env.put,Env.get,hne]
  ·intro c;unfold gOf;cases hg:o.guard with
   |none=>exact Iff.rfl
   | some dw=>
    obtain⟨d,want⟩:=dw;have hne:t≠d:=by
     rintro rfl;exact ht (List.mem_append_right _ (by rw[hg];simp))
    simp[Env.put,Env.get,hne]
theorem apart_spec{x y:VOper}(h:x.apart y=true):(∀t,x.dst=some t→t∉y.reads)∧(∀t,y.dst=some t→t∉x.reads)∧∀t,x.dst=some t→y.dst≠some t:=by
 simp only[VOper.apart,Zx4]at h;obtain⟨h1,h2⟩:=h;refine⟨fun t ht=>?_,fun t ht=>?_,fun t ht=>?_⟩
 ·rw[ht]at h1;simp at h1;exact h1.1
 ·rw[ht]at h2;simpa using h2
 ·rw[ht]at h1;simp at h1;exact h1.2
def Env.eqv(e e':Env):Prop:=∀t,e.get t=e'.get t
theorem Zjo(e:Env){x y:Option Nat}(u v:PV)(h:∀t,x=some t→y≠some t):((e.put x u).put y v).eqv ((e.put y v).put x u):=by
 intro t;cases x with
 |none=>rfl
 | some a=>
  cases y with
  |none=>rfl
  |some b=>
   have hab:a≠b:=fun hh=>h a rfl (by rw[hh]);simp only[Env.put,Env.get];by_cases h1:b=t
   ·subst h1;simp[hab]
   ·simp[h1]
def Inv(K:Env→Heap→Prop):Prop:=∀e e' h,e.eqv e'→K e h→K e' h
theorem Z58{e e':Env}(h:e.eqv e')(d:Option Nat)(v:PV):(e.put d v).eqv (e'.put d v):=by
 intro t;cases d with
 |none=>exact h t
 |some a=>simp only[Env.put,Env.get];rw[h t]
theorem eqv_ev{e e':Env}(h:e.eqv e')(a:VA):a.ev e=a.ev e':=by
 cases a with
 |t n=>exact h n
 |c p=>rfl
theorem Xdk{e e':Env}(h:e.eqv e')(o:VOper)(c:Bool):gOf o e c↔gOf o e' c:=by
 unfold gOf;split
 ·exact Iff.rfl
 ·rw[h]
section
variable {P:Program} {hqf:Nat→Heap} {Z:Nat→Heap→Heap→Prop} {E:List Nat}
theorem Zc5.mono{i:Nat}{o:VOper}{e:Env}{h:Heap}{K K':Env→Heap→Prop}(hk:∀e h,K e h→K' e h)(H:Zc5 P hqf Z E i o e h K):Zc5 P hqf Z E i o e h K':=by
 unfold Zc5 at*;split
 ·rename_i hi;rw[if_pos hi]at H;exact⟨H.1,H.2.mono fun v h' k=>⟨k.1,hk _ _ k.2⟩⟩
 ·rename_i hi;rw[if_neg hi]at H;obtain⟨c,h1,v,h2,h3⟩:=H;exact⟨c,h1,v,h2,hk _ _ h3⟩
theorem Zc5.inv{i:Nat}{o:VOper}(hc:o.op.closed=true){K:Env→Heap→Prop}(hK:Inv K):Inv (fun e h=>Zc5 P hqf Z E i o e h K):=by
 intro e e' h hee H;unfold Zc5 at*;have ha:Agree o.op.vas e e':=fun a _=>eqv_ev hee a;split
 ·rename_i hi;rw[if_pos hi]at H;refine⟨H.1,?_⟩;rw[←Zeu hc ha];exact H.2.mono fun v h' k=>⟨k.1,hK _ _ _ (Z58 hee _ _) k.2⟩
 ·rename_i hi;rw[if_neg hi]at H;obtain⟨c,h1,v,h2,h3⟩:=H;refine⟨c,(Xdk hee o c).1 h1,v,fun hh=>?_,hK _ _ _ (Z58 hee _ _) h3⟩;rw[←Zcf hc ha];exact h2 hh
theorem Zcg{i:Nat}(hi:i∈E){o:VOper}{e:Env}{h:Heap}{K:Env→Heap→Prop}:Zc5 P hqf Z E i o e h K↔(o.guard=none∧Zau P e h o.op (fun v h'=>Z i h h'∧K (e.put o.dst v) h')):=by
 unfold Zc5;rw[if_pos hi]
theorem Zca{i:Nat}(hi:i∉E){o:VOper}{e:Env}{h:Heap}{K:Env→Heap→Prop}:Zc5 P hqf Z E i o e h K↔∃c,gOf o e c∧∃v,(c=true→Zfp P (hqf i) e o.op v)∧K (e.put o.dst (gd c v)) h:=by
 unfold Zc5;rw[if_neg hi]
def VOp.sure:VOp→Bool
 | .alloc _|.box .. | .store .. | .app .. | .mapset .. | .mkmap|.fx ..=>true
 |_=>false
theorem Zau.sure{P:Program}{e:Env}{h:Heap}{op:VOp}{K:PV→Heap→Prop}(hs:op.sure=true)(H:Zau P e h op K):∃v0 h0,K v0 h0∧∀K':PV→Heap→Prop,K' v0 h0→Zau P e h op K':=by
 cases op<;>simp only[VOp.sure]at hs<;>simp only[Zau]at H⊢<;>first
  |exact⟨_,_,H,fun K' k=>k⟩
  |exact⟨_,_,H.2.2.2.2,fun K' k=>⟨H.1,H.2.1,H.2.2.1,H.2.2.2.1,k⟩⟩
  |exact⟨_,_,H.2.2,fun K' k=>⟨H.1,H.2.1,k⟩⟩
  |exact⟨_,_,H.2,fun K' k=>⟨H.1,k⟩⟩
  |cases hs
theorem Zc5.swap{i j:Nat}{oi oj:VOper}{e:Env}{h:Heap}{K:Env→Heap→Prop}(hK:Inv K)(hap:oi.apart oj=true)(ci:oi.op.closed=true)(cj:oj.op.closed=true)
  (hE:¬(i∈E∧j∈E))(hs:i∈E→oi.op.simple=true∧(oj.op.det||oi.op.sure)=true)(H:Zc5 P hqf Z E i oi e h (fun e1 h1=>Zc5 P hqf Z E j oj e1 h1 K)):
  Zc5 P hqf Z E j oj e h (fun e1 h1=>Zc5 P hqf Z E i oi e1 h1 K):=by
 obtain⟨a1,a2,a3⟩:=apart_spec hap;have gi:∀v,Agree oi.op.vas (e.put oj.dst v) e∧∀c,gOf oi (e.put oj.dst v) c↔gOf oi e c:=fun v=>Zjn a2;have gj:∀v,Agree oj.op.vas (e.put oi.dst v) e∧∀c,gOf oj (e.put oi.dst v) c↔gOf oj e c:=fun v=>Zjn a1;by_cases hi:i∈E
 ·have hj:j∉E:=fun hj=>hE ⟨hi,hj⟩;obtain⟨s1,s2⟩:=hs hi;obtain⟨h1,h2⟩:=(Zcg hi).1 H;rw[Bool.or_eq_true]at s2;rcases s2 with s2|s2
  rotate_left
  ·obtain⟨v0,h0,⟨z0,k0⟩,back⟩:=Zau.sure s2 h2;obtain⟨c,c1,v',c2,c3⟩:=(Zca hj).1 k0;refine(Zca hj).2 ⟨c,((gj v0).2 c).1 c1,v',fun hh=>by have:=c2 hh;rw[Zcf cj (gj v0).1]at this;exact this,?_⟩;refine(Zcg hi).2 ⟨h1,?_⟩;rw[Zeu ci (gi _).1];exact back _ ⟨z0,hK _ _ _ (Zjo e _ _ a3) c3⟩
  have key:∃c,gOf oj e c∧(c=true→Zfp P (hqf j) e oj.op (Zw9 e (hqf j) oj.op)):=by
   refine Zau.out (K:=fun _ _=>True) s1 (h2.mono fun v h' k=>⟨?_,trivial⟩);obtain⟨c,c1,v',c2,c3⟩:=(Zca hj).1 k.2;refine⟨c,((gj v).2 c).1 c1,fun hh=>?_⟩;have hv:=c2 hh;have e1:=hv.det s2;rw[Zcf cj (gj v).1]at hv;rw[Zqr (gj v).1]at e1;rw[←e1];exact hv
  obtain⟨c,c1,c2⟩:=key;refine(Zca hj).2 ⟨c,c1,Zw9 e (hqf j) oj.op,c2,?_⟩;refine(Zcg hi).2 ⟨h1,?_⟩;rw[Zeu ci (gi _).1];refine h2.mono fun v h' k=>⟨k.1,?_⟩;obtain⟨c',d1,v',d2,d3⟩:=(Zca hj).1 k.2;have hcc:c'=c:=by
   have:=((gj v).2 c').1 d1;unfold gOf at this c1;cases hg:oj.guard with
   |none=>rw[hg]at this c1;rw[this,c1]
   |some dw=>rw[hg]at this c1;simp only at this c1;rw[this]at c1;exact Option.some.inj c1
  subst hcc;have hgd:gd c' v'=gd c' (Zw9 e (hqf j) oj.op):=by
   cases c'
   ·rfl
   ·have:=(d2 rfl).det s2;rw[Zqr (gj v).1]at this;simp[gd,this]
  rw[hgd]at d3;exact hK _ _ _ (Zjo e _ _ a3) d3
 ·obtain⟨c,c1,v,c2,H⟩:=(Zca hi).1 H;by_cases hj:j∈E
  ·obtain⟨h1,h2⟩:=(Zcg hj).1 H;refine(Zcg hj).2 ⟨h1,?_⟩;rw[Zeu cj (gj _).1]at h2;refine h2.mono fun u h' k=>⟨k.1,?_⟩;refine(Zca hi).2 ⟨c,((gi u).2 c).2 c1,v,fun hh=>?_,hK _ _ _ (Zjo e _ _ a3) k.2⟩;rw[Zcf ci (gi u).1];exact c2 hh
  ·obtain⟨c',d1,u,d2,d3⟩:=(Zca hj).1 H;refine(Zca hj).2 ⟨c',((gj _).2 c').1 d1,u,fun hh=>?_,?_⟩
   ·have:=d2 hh;rw[Zcf cj (gj _).1]at this;exact this
   ·refine(Zca hi).2 ⟨c,((gi _).2 c).2 c1,v,fun hh=>?_,hK _ _ _ (Zjo e _ _ a3) d3⟩;rw[Zcf ci (gi _).1];exact c2 hh
end
theorem Zb2{P:Program}{N:Nat}{ops:Array Oper}:∀{l:List Oper} {q:List VOper},Zcr P N ops l=some q→l.length=q.length∧
  ∀(i:Nat) (o:Oper),l[i]?=some o→∃vo,q[i]?=some vo∧cOp P o=some vo.op∧vo.dst=o.dst∧Zih ops o.guard=some vo.guard∧ndB o.op=true∧∀d,o.dst=some d→d<N
 | [],q,h=>by simp only[Zcr,Zx0]at h;subst h;exact⟨rfl,fun i o ho=>by simp at ho⟩
 | o::r,q,h=>by
  simp only[Zcr]at h;split at h
  case h_2=>cases h
  rename_i op gu qs h1 h2 h3;have hdn:(Z9s N o.dst&&ndB o.op)=true:=by
   by_cases hh:(Z9s N o.dst&&ndB o.op)=true
   ·exact hh
   ·rw[if_neg hh]at h;cases h
  rw[if_pos hdn]at h;obtain⟨hdst,hnd⟩:=Bool.and_eq_true_iff.1 hdn;simp only[Zx0]at h;subst h;obtain⟨i1,i2⟩:=Zb2 h3;refine⟨by simp[i1],fun i o' ho=>?_⟩;cases i with
  |zero=>
   simp only[Zyp,Zx0]at ho;subst ho;exact⟨_,rfl,h1,rfl,h2,hnd,fun d hd=>by rw[hd]at hdst;simpa[Z9s]using hdst⟩
  |succ i=>exact i2 i o' (by simpa using ho)
theorem View.weaken{h h':Heap}{p q:PV}(hl:h.le h')(v:View h p q):View h' p q:=by
 intro g w x r hx;have hle:(frz g w h).le (frz g w h'):=by
  refine⟨fun b o y e=>?_,fun _ _ e=>e,fun b o e=>?_⟩
  rotate_left
  ·have e':Zpo g w h b=some o:=e;show Zpo g w h' b=some o;rcases Zg5 e' with h1|⟨_,en,c5,rfl,k5⟩
   ·exact Zet h1
   ·cases hm:g.m.mm b with
    | some v'=>
     have this:=r.mmem b v' hm;cases v' with
     |map e'=>
      have this:w.heap[b]?=some (.map e' _):=this;rw[k5]at this;simp only[Zx0,Obj.map.injEq]at this;rw[this.1,this.2];exact Zet hm
     |cells c'=>obtain⟨_,_,this⟩:=this;rw[k5]at this;cases this
    |none=>
     unfold Zpo at e';rw[hm]at e';simp only at e';split at e'
     ·rename_i hex;obtain⟨id,es,x,j1,j2,j3⟩:=hex;exact Zub hm (Heap.le_get hl _ _ j1) j2 j3 k5
     ·cases e'
  show Z9t g w h' b o=some y;have e':Z9t g w h b o=some y:=e;rcases Zjk e' with h1|⟨_,k5,k6⟩
  ·exact Zcl h1
  ·cases hm:g.m b o with
   |some v'=>
    have:=(r.mem b o v' hm).1;rw[k5]at this;simp only[Zx0]at this;subst this;exact Zcl hm
   |none=>
    unfold Z9t at e';rw[hm]at e';simp only at e';split at e'
    ·rename_i hex;obtain⟨id,z,es,x,j1,j2,j3⟩:=hex;exact Zm2 hm (Heap.le_get hl _ _ j1) j2 j3 k5 k6
    ·cases e'
 exact(v g w x (r.weaken hl) hx).mono hle
theorem Zcx.weaken{h h':Heap}(hl:h.le h'):∀{l q:List PV},Zcx h l q→Zcx h' l q
 | [],[],_=>trivial
 |a::r,b::q,⟨h1,h2⟩=>⟨h1.weaken hl,Zcx.weaken hl h2⟩
 | [],_::_,h=>h.elim
 |_::_,[],h=>h.elim
theorem Zby.weaken{P:Program}{f:FuncId}{args:List PV}{h h':Heap}{p:PV}(hl:h.le h')(H:Zby P f args h p):Zby P f args h' p:=
 H.imp id fun⟨q,h1,h2⟩=>⟨q,h1.weaken hl,h2⟩
section
variable {P:Program} {N:FK} {ops:Array Oper} {q:List VOper} {hq:Heap} {hqf:Nat→Heap} {Z:Nat→Heap→Heap→Prop} {E:List Nat}
theorem Z25{o:Oper}{z n:Nat}{zr:List PV}{ps:List (Nat×VA)}(hc:cOp P o=some (.bslice z n zr ps)):
  ∃t ty parts,o.op=.buildSlice t n parts∧P.underlying t=some (.slice ty)∧Zc2 P ty=some z∧zeroOf P ty=some zr∧Zjc parts.toList=some ps∧n*z≤2 ^ 20∧zr.length=z∧z≠0:=by
 unfold cOp at hc;split at hc
 ·cases hc
 rename_i hraw;clear hraw;split at hc
 ·cases hc
 rename_i hno;clear hno;split at hc
 ·rename_i vo hx;simp only[Zx0]at hc;subst hc;exact(Z08 hx).elim
 rename_i hn0;clear hn0
 replace hc:Z01 P o=some (.bslice z n zr ps):=by
  split at hc
  ·rename_i v hv;simp only[Zx0]at hc;rw[hv,hc]
  ·simp at hc
 obtain⟨dst,oper,type,pos,after,guard⟩:=o;cases oper
 case buildSlice t n' parts=>
  simp only[Z01]at hc;split at hc
  ·rename_i ty hu;split at hc
   ·rename_i z' zr' ps' h1 h2 h3;split at hc
    ·rename_i hcond;simp only[Zx0,VOp.bslice.injEq]at hc;obtain⟨rfl,rfl,rfl,rfl⟩:=hc;simp only[Zx4,Zx3,beq_iff_eq,bne_iff_ne,ne_eq]at hcond;exact⟨t,ty,parts,rfl,hu,h1,h2,h3,hcond.1.1,hcond.1.2,hcond.2⟩
    ·cases hc
   ·cases hc
  ·cases hc
 case call c=>
  exfalso
  simp only[Z01,Z2u]at hc
  (repeat' (split at hc))<;>simp at hc
 case makeMap t r=>
  exfalso
  cases r<;>simp[Z01]at hc
 case slice t x lo hi mx=>
  exfalso
  cases mx with
  |some m=>simp[Z01]at hc
  |none=>
   simp only[Z01]at hc
   (repeat' (split at hc))<;>first|(simp at hc;done)|(obtain⟨x,_,hx⟩:=Option.map_eq_some_iff.1 hc;cases hx)
 all_goals
  exfalso
  simp only[Z01]at hc
  first
  |(simp at hc;done)
  |((repeat' (split at hc))<;>first|(simp at hc;done)|(cases hc;done)|(obtain⟨x,_,hx⟩:=Option.map_eq_some_iff.1 hc;cases hx))
theorem Z59{o:Oper}{op:VOp}{e:Env}{h:Heap}{v:PV}(hc:cOp P o=some op)(hl:hq.le h)(H:Zfp P hq e op v):OpS P o e h (fun v' h'=>v'=v∧h'=h):=by
 by_cases hp:op.pure=true
 ·have H':pok e hq op∧v=Zcq e hq op:=by
   cases op<;>first|exact H.2|simp[VOp.pure]at hp
  refine OpS.of_value fun g w a r he=>?_;obtain⟨x,e1,e2⟩:=Zqj hc hp H'.1 (r.weaken hl) he;exact⟨x,v,g,w,h,e1,⟨rfl,rfl⟩,by rw[H'.2];exact e2,r,Evo.refl _ _ _⟩
 ·cases op<;>simp only[VOp.pure,not_true_eq_false]at hp<;>simp only[Zfp]at H<;>try (exact(Bool.false_ne_true H.1).elim)
  case bslice z n zr ps=>
   obtain⟨hok,rfl⟩:=H;obtain⟨t,ty,parts,ho,hu,h1,h2,h3,h4,h5,h6⟩:=Z25 hc;exact Zr5 ho hu h1 h2 h3 h4 h5 h6 hok ⟨rfl,rfl⟩
  case call f args=>
   have:Zau P e h (.call f args) (fun v' h'=>v'=v∧h'=h):=Zby.call (H.weaken hl) ⟨rfl,rfl⟩;exact Zb8 hc this
  case callv f args=>
   have:Zau P e h (.callv f args) (fun v' h'=>v'=v∧h'=h):=by
    simp only[Zau];split at H
    ·rename_i hpv
     try rw[hpv]
     exact Zby.call (K:=fun v' h'=>v'=v∧h'=h) (Zby.weaken hl H) ⟨rfl,rfl⟩
    ·exact H.elim
   exact Zb8 hc this
def Shp(h0 h:Heap):Prop:=∀id fz z es,h0.get id=some (.arr fz z es)→∃fz' es',h.get id=some (.arr fz' z es')
def VOp.isIaddr:VOp→Bool
 | .iaddr ..=>true
 |_=>false
def QOk(op:VOp)(h0 h:Heap):Prop:=h0.le h∨(op.isIaddr=true∧Shp h0 h)
theorem Z26{o:Oper}{op:VOp}{e:Env}{h:Heap}{v:PV}(hc:cOp P o=some op)(hl:QOk op hq h)(H:Zfp P hq e op v):OpS P o e h (fun v' h'=>v'=v∧h'=h):=by
 rcases hl with hl|⟨hi,hl⟩
 ·exact Z59 hc hl H
 ·cases op<;>simp only[VOp.isIaddr,Zyu]at hi
  rename_i z a i;obtain⟨_,hok,hv⟩:=H;have hok':pok e h (.iaddr z a i):=by
   obtain⟨k1,k2,k3,k4⟩:=hok;refine⟨k1,k2,k3,?_⟩;split at k4
   ·exact k4
   ·rename_i id off len hp;split at k4
    ·rename_i fz z' es hg;obtain⟨fz',es',hg'⟩:=hl id fz z' es hg;simp only[hg'];exact k4
    ·exact k4.elim
   ·exact k4.elim
  refine OpS.of_value fun g w act r he=>?_;obtain⟨x,e1,e2⟩:=Zqj hc rfl hok' r he;exact⟨x,v,g,w,h,e1,⟨rfl,rfl⟩,by rw[hv];exact e2,r,Evo.refl _ _ _⟩
def Zg1(P:Program)(ops:Array Oper)(q:List VOper)(hqf:Nat→Heap)(Z:Nat→Heap→Heap→Prop)(E:List Nat)(K:Env→Heap→Prop):Nat→Array Bool→Env→Heap→Prop
 |0,listed,e,h=>Region.ready .any ops listed=[]∧K e h
 |n+1,listed,e,h=>(Region.ready .any ops listed=[]→K e h)∧∀i∈Region.ready .any ops listed,∀o,q[i]?=some o→Zc5 P hqf Z E i o e h (Zg1 P ops q hqf Z E K n (listed.setIfInBounds i true))
theorem Zg1.inv{K:Env→Heap→Prop}(hK:Inv K)(hc:∀o∈q,o.op.closed=true):∀(n:Nat) (listed:Array Bool),Inv (Zg1 P ops q hqf Z E K n listed)
 |0,listed=>fun e e' h hee H=>⟨H.1,hK _ _ _ hee H.2⟩
 |n+1,listed=>fun e e' h hee H=>⟨fun h0=>hK _ _ _ hee (H.1 h0),fun i hi o ho=>Zc5.inv (hc o (List.mem_of_getElem? ho)) (Zg1.inv hK hc n _) e e' h hee (H.2 i hi o ho)⟩
theorem Zl3{listed:Array Bool}{i j:Nat}(hj:j∈Region.ready .any ops listed)(hi:listed.getD i true=false):∀f,Zaz ops listed f i j=false
 |0=>rfl
 | f+1=>by
  obtain⟨_,goj,hgoj,hall⟩:=mem_ready.1 hj;simp only[Zaz,hgoj];rw[Bool.eq_false_iff];intro hh;rw[Array.any_eq_true']at hh;obtain⟨x,hx,hxx⟩:=hh;simp only[Zx4,Bool.or_eq_true,beq_iff_eq,Bool.not_eq_true']at hxx;have h1:=hall x hx hxx.1;have h2:listed.getD x.on true=true:=by
   rcases Nat.lt_or_ge x.on listed.size with h'|h'
   ·simp[h']at h1;simp[h',h1]
   ·simp[Array.getElem?_eq_none h']at h1
  rcases hxx.2 with h3|⟨h3,_⟩
  ·rw[h3]at h2;rw[h2]at hi;cases hi
  ·rw[h2]at h3;cases h3
theorem Zns{listed:Array Bool}{i j:Nat}(hj:∀f,Zaz ops listed f i j=false):∀(f k:Nat),Zaz ops listed f i k=true→Zaz ops (listed.setIfInBounds j true) f i k=true
 |0,k,h=>by cases h
 | f+1,k,h=>by
  simp only[Zaz]at h⊢;split at h
  ·rw[Array.any_eq_true']at h⊢;obtain⟨x,hx,hxx⟩:=h;refine⟨x,hx,?_⟩;simp only[Zx4,Bool.or_eq_true,beq_iff_eq,Bool.not_eq_true']at hxx⊢;refine⟨hxx.1,?_⟩;rcases hxx.2 with h3|⟨h3,h4⟩
   ·exact .inl h3
   ·right
    have hne:j≠x.on:=by rintro rfl;rw[hj f]at h4;cases h4
    exact⟨by rw[getD_set_ne true hne];exact h3,Zns hj f x.on h4⟩
  ·cases h
theorem Zg1.first{K:Env→Heap→Prop}(hK:Inv K)(hc:∀o∈q,o.op.closed=true)(hlen:ops.size=q.length){i:Nat}{oi:VOper}(hi:q[i]?=some oi):
  ∀ (fuel:Nat) (listed:Array Bool) (e:Env) (h:Heap),
   (∀(j:Nat) (oj:VOper) (goj:Oper),q[j]?=some oj→ops[j]?=some goj→j≠i→listed.getD j true=false→Zaz ops listed ops.size i j=false→
    oi.apart oj=true∧¬(i∈E∧j∈E)∧(i∈E→oi.op.simple=true∧(oj.op.det||oi.op.sure)=true))→
   i∈Region.ready .any ops listed→Zc5 P hqf Z E i oi e h (Zg1 P ops q hqf Z E K fuel (listed.setIfInBounds i true))→Zg1 P ops q hqf Z E K (fuel+1) listed e h:=by
 intro fuel
 induction fuel with
 | zero=>
  intro listed e h hfree hr H;refine⟨fun h0=>(by rw[h0]at hr;cases hr),fun j hj o ho=>?_⟩;by_cases hji:j=i
  ·subst hji;rw[hi]at ho;simp only[Zx0]at ho;subst ho;exact H
  ·exfalso
   have hnr:Region.ready .any ops (listed.setIfInBounds i true)≠[]:=by
    intro h0;have:=ready_mono hj hji;rw[h0]at this;cases this
   obtain⟨hjun,goj,hgoj,hall⟩:=mem_ready.1 hj;have hbr:=Zl3 hj (mem_ready.1 hr).1;have hnot:=hbr ops.size;obtain⟨f1,f2,f3⟩:=hfree j o goj ho hgoj hji hjun hnot
   apply hnr
   by_cases hiE:i∈E
   ·exact Zau.out (K:=fun _ _=>True) (f3 hiE).1 (((Zcg hiE).1 H).2.mono fun v h' k=>⟨k.2.1,trivial⟩)
   ·obtain⟨c,_,v,_,k⟩:=(Zca hiE).1 H;exact k.1
 | succ fuel ih=>
  intro listed e h hfree hr H;refine⟨fun h0=>(by rw[h0]at hr;cases hr),fun j hj oj hoj=>?_⟩;by_cases hji:j=i
  ·subst hji;rw[hi]at hoj;simp only[Zx0]at hoj;subst hoj;exact H
  ·obtain⟨hjun,goj,hgoj,hall⟩:=mem_ready.1 hj;have hbr:=Zl3 hj (mem_ready.1 hr).1;have hnot:=hbr ops.size;obtain⟨f1,f2,f3⟩:=hfree j oj goj hoj hgoj hji hjun hnot;have H2:Zc5 P hqf Z E i oi e h (fun e1 h1=>Zc5 P hqf Z E j oj e1 h1 (Zg1 P ops q hqf Z E K fuel ((listed.setIfInBounds i true).setIfInBounds j true))):=
    H.mono fun e1 h1 k=>k.2 j (ready_mono hj hji) oj hoj
   have H3:=Zc5.swap (Zg1.inv hK hc fuel _) f1 (hc oi (List.mem_of_getElem? hi)) (hc oj (List.mem_of_getElem? hoj)) f2 f3 H2;have hfree':∀(k:Nat) (ok:VOper) (gok:Oper),q[k]?=some ok→ops[k]?=some gok→k≠i→(listed.setIfInBounds j true).getD k true=false→Zaz ops (listed.setIfInBounds j true) ops.size i k=false→
     oi.apart ok=true∧¬(i∈E∧k∈E)∧(i∈E→oi.op.simple=true∧(ok.op.det||oi.op.sure)=true):=fun k ok gok hk hgk hki hun hno=>by
    have hno':Zaz ops listed ops.size i k=false:=by
     cases hb:Zaz ops listed ops.size i k with
     |false=>rfl
     |true=>rw[Zns hbr _ _ hb]at hno;cases hno
    refine hfree k ok gok hk hgk hki ?_ hno';by_cases hjk:j=k
    ·subst hjk;exact hjun
    ·rw[getD_set_ne true hjk]at hun;exact hun
   refine Zc5.mono (fun e1 h1 k=>?_) H3;refine ih (listed.setIfInBounds j true) e1 h1 hfree' (ready_mono hr (Ne.symm hji)) ?_;rw[Array.setIfInBounds_comm _ _ hji];exact k
theorem Zfq{K:Env→Heap→Prop}{Q:Exit→Act→World→Prop}{g0:Gh}{w0:World}{h0:Heap}(hcq:Zcr P N.n ops ops.toList=some q)(I:Array Bool→Heap→Prop)
  (I1:∀listed h i vo,I listed h→i∈Region.ready .any ops listed→i∉E→q[i]?=some vo→QOk vo.op (hqf i) h)(I2:∀listed h i,I listed h→i∈Region.ready .any ops listed→i∉E→I (listed.setIfInBounds i true) h)
  (I3:∀listed h i h',I listed h→i∈Region.ready .any ops listed→i∈E→Z i h h'→I (listed.setIfInBounds i true) h')
  (hQ:∀g w h a e,K e h→Rel g w h→Zas g a e→a.defers=N.D→a.tmps.size=N.n→Evo g0 w0 h0 g w h→Q .normal a w):
  ∀(n:Nat) (listed:Array Bool) (e:Env) (h:Heap),Zg1 P ops q hqf Z E K n listed e h→I listed h→
   ∀g w a,Rel g w h→Zas g a e→a.defers=N.D→a.tmps.size=N.n→Evo g0 w0 h0 g w h→wpAnyIn (fw N.ro) 9 P .any ops Q n listed a w
 |0,listed,e,h,H,hl,g,w,a,r,he,hd,hs,hev=>⟨H.1,hQ g w h a e H.2 r he hd hs hev⟩
 | n+1,listed,e,h,H,hl,g,w,a,r,he,hd,hs,hev=>by
  refine⟨fun h0=>hQ g w h a e (H.1 h0) r he hd hs hev,fun i hi=>?_⟩;obtain⟨_,o,ho,_⟩:=mem_ready.1 hi;obtain⟨vo,h1,h2,h3,h4,hnd,h5⟩:=(Zb2 hcq).2 i o (by simpa using ho);have H1:=H.2 i hi vo h1;unfold wpOpIn;rw[ho];simp only;have hdlt:∀t,o.dst=some t→t<a.tmps.size:=fun t ht=>by rw[hs];exact h5 t ht
  have next:∀(v:Value) (pv:PV) (g':Gh) (w':World) (h':Heap),Zg1 P ops q hqf Z E K n (listed.setIfInBounds i true) (e.put o.dst pv) h'→I (listed.setIfInBounds i true) h'→Rep g' v pv→Rel g' w' h'→Evo g w h g' w' h'→
    wpAnyIn (fw N.ro) 9 P .any ops Q n (listed.setIfInBounds i true) (a.put o.dst v) w':=by
   intro v pv g' w' h' hk hl' hv hr hev';exact Zfq hcq I I1 I2 I3 hQ n _ _ _ hk hl' g' w' _ hr ((he.mono hev'.le).put hv hdlt) (by rw[(Ze8 a o.dst v).2];exact hd) (by rw[(Ze8 a o.dst v).1];exact hs) (hev.trans hev')
  by_cases hiE:i∈E
  ·obtain⟨k1,k2⟩:=(Zcg hiE).1 H1;rw[k1]at h4;have hog:o.guard=none:=by
    cases hg:o.guard with
    |none=>rfl
    |some jw=>
     obtain⟨j,want⟩:=jw;rw[hg]at h4;simp only[Zih]at h4;split at h4<;>simp at h4
   simp only[Region.wanted,hog,if_true];refine Z53 hnd (Zb8 h2 k2 g w a _ Q r he ?_);rintro v pv g' w' h' ⟨m1,m2⟩ m3 m4 m5;rw[h3]at m2;exact next v pv g' w' h' m2 (I3 listed h i h' hl hi hiE m1) m3 m4 m5
  ·obtain⟨c,k1,v,k2,k3⟩:=(Zca hiE).1 H1;rw[h3]at k3;have hw:Region.wanted o (yielded ops a.tmps)=c:=by
    unfold gOf at k1;cases hg:o.guard with
    |none=>
     rw[hg]at h4;simp only[Zih,Zx0]at h4;rw[←h4]at k1;simp only at k1;simp[Region.wanted,hg,k1]
    |some jw=>
     obtain⟨j,want⟩:=jw;rw[hg]at h4;simp only[Zih]at h4;split at h4
     ·rename_i d hdd;simp only[Zx0]at h4;rw[←h4]at k1;simp only at k1;simp only[Region.wanted,hg];exact Zqp he hdd k1
     ·cases h4
   rw[hw];cases c
   ·simp only[Zyu,if_false];refine⟨fun _ _=>trivial,?_⟩;exact next Go.undef .undef g w h (by simpa[gd]using k3) (I2 listed h i hl hi hiE) .undef r (Evo.refl _ _ _)
   ·simp only[if_true];refine Z53 hnd (Z26 h2 (I1 listed h i vo hl hi hiE h1) (k2 rfl) g w a _ Q r he ?_);rintro v' pv g' w' h' ⟨rfl,rfl⟩ m3 m4 m5;exact next v' pv g' w' h' (by simpa[gd]using k3) (I2 listed h' i hl hi hiE) m3 m4 m5
def dok(e:Env)(hq:Heap):VOp→Prop
 | .bslice z n _ ps=>Zct e z n ps
 |op=>pok e hq op
def QW(P:Program)(hq:Heap)(e:Env)(op:VOp)(c:Bool)(K:PV→Prop):Prop:=
 match op.det with
 |true=>(c=true→dok e hq op)∧K (gd c (Zw9 e hq op))
 |false=>∃v,(c=true→Zfp P hq e op v)∧K (gd c v)
def Zde(P:Program)(hq:Heap):List VOper→(Env→Heap→Prop)→Env→Heap→Prop
 | [],K,e,h=>K e h
 | o::r,K,e,h=>match o.op.simple,o.guard with
  |true,none=>Zau P e h o.op (fun v h'=>hq.le h'∧Zde P hq r K (e.put o.dst v) h')
  |true,some _=>False
  |false,none=>QW P hq e o.op true (fun v=>Zde P hq r K (e.put o.dst v) h)
  |false,some (d,want)=>(match guardOf want (e.get d)with
   |some c=>QW P hq e o.op c (fun v=>Zde P hq r K (e.put o.dst v) h)
   |none=>False)
theorem Znt{e:Env}{op:VOp}(hd:op.det=true)(h:dok e hq op):Zfp P hq e op (Zw9 e hq op):=by
 cases op<;>simp only[VOp.det,VOp.pure]at hd<;>first|exact⟨rfl,h,rfl⟩|exact⟨h,rfl⟩|cases hd
def Zd7(P:Program)(hqf:Nat→Heap)(Z:Nat→Heap→Heap→Prop):Nat→List VOper→(Env→Heap→Prop)→Env→Heap→Prop
 |_,[],K,e,h=>K e h
 | k,o::r,K,e,h=>match o.op.simple,o.guard with
  |true,none=>Zau P e h o.op (fun v h'=>Z k h h'∧Zd7 P hqf Z (k+1) r K (e.put o.dst v) h')
  |true,some _=>False
  |false,none=>QW P (hqf k) e o.op true (fun v=>Zd7 P hqf Z (k+1) r K (e.put o.dst v) h)
  |false,some (d,want)=>(match guardOf want (e.get d)with
   |some c=>QW P (hqf k) e o.op c (fun v=>Zd7 P hqf Z (k+1) r K (e.put o.dst v) h)
   |none=>False)
theorem Zde.toG{P:Program}{hq:Heap}{K:Env→Heap→Prop}:∀{q:List VOper} {k:Nat} {e:Env} {h:Heap},Zde P hq q K e h→Zd7 P (fun _=>hq) (fun _ _ h'=>hq.le h') k q K e h
 | [],_,_,_,H=>H
 | o::r,k,e,h,H=>by
  have qm:∀{c:Bool} {K1 K2:PV→Prop},(∀v,K1 v→K2 v)→QW P hq e o.op c K1→QW P hq e o.op c K2:=by
   intro c K1 K2 hk H;unfold QW at H⊢;split at H
   ·exact⟨H.1,hk _ H.2⟩
   ·obtain⟨v,v1,v2⟩:=H;exact⟨v,v1,hk _ v2⟩
  simp only[Zde]at H;simp only[Zd7];split at H
  ·exact H.mono fun v h' kk=>⟨kk.1,Zde.toG kk.2⟩
  ·exact H.elim
  ·exact qm (fun v hv=>Zde.toG hv) H
  ·split at H
   ·exact qm (fun v hv=>Zde.toG hv) H
   ·exact H.elim
def Zbv(q:List VOper):List Nat:=(List.range q.length).filter (Z22 q)
theorem Znu{K:Env→Heap→Prop}(hK:Inv K)(hlen:ops.size=q.length):∀(l:List VOper) (k:Nat) (listed:Array Bool) (e:Env) (h:Heap),(∀j,l[j]?=q[k+j]?)→
  Zej ops q l.length k listed=true→(∀o∈q,o.op.closed=true)→Zd7 P hqf Z k l K e h→Zg1 P ops q hqf Z (Zbv q) K l.length listed e h
 | [],_,listed,e,h,_,hB,_,H=>⟨by simpa[Zej]using hB,H⟩
 | o::l,k,listed,e,h,hl,hB,hc,H=>by
  have h0:q[k]?=some o:=by simpa using(hl 0).symm
  have hkl:k<q.length:=(List.getElem?_eq_some_iff.1 h0).1;simp only[Zyd,Zej,Zx4]at hB;obtain⟨⟨⟨hr,hf⟩,_⟩,hB'⟩:=hB;have hl':∀j,l[j]?=q[(k+1)+j]?:=fun j=>by have:=hl (j+1);simpa[Nat.add_assoc,Nat.add_comm 1 j]using this
  have hE:k∈Zbv q↔o.op.simple=true:=by
   simp only[Zbv,List.mem_filter,List.mem_range,Z22,h0];exact⟨fun h=>h.2,fun h=>⟨hkl,h⟩⟩
  have hEj:∀(j:Nat) (oj:VOper),q[j]?=some oj→(j∈Zbv q↔oj.op.simple=true):=by
   intro j oj hj;have hjl:j<q.length:=(List.getElem?_eq_some_iff.1 hj).1;simp only[Zbv,List.mem_filter,List.mem_range,Z22,hj];exact⟨fun h=>h.2,fun h=>⟨hjl,h⟩⟩
  refine Zg1.first hK hc hlen h0 l.length listed e h ?_ (by simpa using hr) ?_
  ·intro j oj goj hj hgj hjk hun hno;have hjl:j<ops.size:=(Array.getElem?_eq_some_iff.1 hgj).1;simp only[Zpn,List.all_eq_true,List.mem_range]at hf;have hfj:=hf j hjl;rw[h0,hj,hun]at hfj;simp only[hno,Bool.or_false,Bool.or_eq_true,beq_iff_eq,Zx4,Bool.not_eq_true',Bool.and_eq_false_iff]at hfj;rcases hfj with hfj|hfj
   ·exact absurd hfj hjk
   ·obtain⟨⟨g1,g2⟩,g3⟩:=hfj;refine⟨g1,fun⟨x1,x2⟩=>?_,fun x1=>?_⟩
    ·rw[hE]at x1;rw[hEj j oj hj]at x2;rcases g2 with g2|g2
     ·rw[x1]at g2;cases g2
     ·rw[x2]at g2;cases g2
    ·have x1':=hE.1 x1;refine⟨x1',?_⟩;rcases g3 with g3|g3
     ·rw[x1']at g3;cases g3
     ·rw[g3];rfl
  ·have ih:∀e' h',Zd7 P hqf Z (k+1) l K e' h'→Zg1 P ops q hqf Z (Zbv q) K l.length (listed.setIfInBounds k true) e' h':=
    fun e' h' H'=>Znu hK hlen l (k+1) _ e' h' hl' hB' hc H'
   have hq2:∀c,gOf o e c→QW P (hqf k) e o.op c (fun v=>Zd7 P hqf Z (k+1) l K (e.put o.dst v) h)→o.op.simple=false→Zc5 P hqf Z (Zbv q) k o e h (Zg1 P ops q hqf Z (Zbv q) K l.length (listed.setIfInBounds k true)):=by
    intro c hg hQ hs;have hnE:k∉Zbv q:=fun hh=>by have:=hE.1 hh;rw[hs]at this;cases this
    refine(Zca hnE).2 ⟨c,hg,?_⟩;unfold QW at hQ;split at hQ
    ·rename_i hd;exact⟨_,fun hh=>Znt hd (hQ.1 hh),ih _ _ hQ.2⟩
    ·obtain⟨v,v1,v2⟩:=hQ;exact⟨v,v1,ih _ _ v2⟩
   simp only[Zd7]at H;split at H
   ·rename_i hs hg;exact(Zcg (hE.2 hs)).2 ⟨hg,H.mono fun v h' kk=>⟨kk.1,ih _ _ kk.2⟩⟩
   ·exact H.elim
   ·rename_i hs hg;exact hq2 true (by simp[gOf,hg]) H hs
   ·rename_i hs hg;split at H
    ·rename_i c hgc;exact hq2 c (by simp[gOf,hg,hgc]) H hs
    ·exact H.elim
theorem Zjp{e e':Env}(h:e.eqv e'):∀(l:List Nat),Env.keep l e=Env.keep l e'
 | []=>rfl
 |t::l=>by simp only[Env.keep];rw[h t,Zjp h l]
theorem Ziv{Q:Exit→Env→Heap→Prop}{e:Env}{h:Heap}(l:List Nat)(hq:Heap)(hl:hq.le h)(H:Zde P hq q (fun e' h'=>Q .normal (Env.keep l e') h') e h):VW P N (.region q true) Q e h:=by
 intro c hc;cases c
 case region id ops draw=>
  obtain⟨p,h3,h'|h'|h'⟩:=Zb7 hc
  ·obtain⟨_,h'⟩:=h';simp at h'
  ·obtain⟨hd,hB,h'|h'⟩:=h'
   ·obtain⟨_,h'⟩:=h';simp only[VC.region.injEq,and_true]at h';subst h';subst hd;simp only[Zx4]at hB;obtain⟨hm,hB⟩:=hB;obtain⟨hlen,_⟩:=Zb2 h3;rw[Array.length_toList]at hlen;have hcl:∀o∈q,o.op.closed=true:=by
     cases q with
     |nil=>intro o ho;cases ho
     |cons x xs=>
      rw[hlen]at hB;simp only[Zyd,Zej,Zx4]at hB;exact fun o ho=>List.all_eq_true.1 hB.1.2 o ho
    intro g w a r he hd hs;refine wpIn_region_any hm ?_;have hany:=Znu (P:=P) (K:=fun e' h'=>Q .normal (Env.keep l e') h') (fun e1 e2 h1 hee hk=>by have hk':Q .normal (Env.keep l e1) h1:=hk;rw[Zjp hee l]at hk';exact hk') hlen q 0 (Array.replicate ops.size false) e h (fun j=>by simp) (by rw[←hlen];exact hB) hcl H.toG;rw[←hlen]at hany;exact Zfq (N:=N) h3 (fun _ h=>hq.le h) (fun _ _ _ _ hi _ _ _=>.inl hi) (fun _ _ _ hi _ _=>hi) (fun _ _ _ _ _ _ _ hz=>hz) (Q:=fun x a' w'=>∃g' e' h',Q x e' h'∧Rel g' w' h'∧Zas g' a' e'∧N.dok x a'.defers h'∧a'.tmps.size=N.n∧Evo g w h g' w' h') (g0:=g) (w0:=w) (h0:=h)
     (fun g' w' h' a' e' k1 k2 k3 k4 k5 k6=>⟨g',_,h',k1,k2,k3.keep l,k4,k5,k6⟩) _ _ e h hany hl g _ a (r.drew _) he hd hs (Evo.drew _ _ _ _)
   ·cases h'
  ·obtain⟨c,h'⟩:=h';cases h'
 all_goals
  simp only[Zb1,Option.map_eq_some_iff]at hc
  first
  |(simp at hc;done)
  |(split at hc<;>simp at hc)
theorem Zek{listed:Array Bool}(hdown:∀(j:Nat) (o:Oper),listed[j]?=some true→ops[j]?=some o→∀x∈o.after,Region.binds .any x=true→listed[x.on]?=some true){i:Nat}:
  ∀(f j:Nat),Zaz ops (Array.replicate ops.size false) f i j=true→listed[j]?=some true→listed[i]?=some true
 |0,_,h,_=>by cases h
 | f+1,j,h,hj=>by
  simp only[Zaz]at h;split at h
  ·rename_i o ho;rw[Array.any_eq_true']at h;obtain⟨x,hx,hxx⟩:=h;simp only[Zx4,Bool.or_eq_true,beq_iff_eq]at hxx;have h1:=hdown j o hj ho x hx hxx.1;rcases hxx.2 with h3|⟨_,h4⟩
   ·rw[←h3];exact h1
   ·exact Zek hdown f x.on h4 h1
  ·cases h
def hq3(q:List VOper)(late:List Bool)(big mid small:Heap)(i:Nat):Heap:=
 if late.getD i false then big else if(match q[i]? with|some o=>o.op.isIaddr|none=>false)then mid else small
def Xe6(q:List VOper)(big mid small:Heap)(i:Nat)(h h':Heap):Prop:=small.le h'∧(Za2 q i=false→big.le h→big.le h')∧(Shp mid h→Shp mid h')
theorem Zr8{Q:Exit→Env→Heap→Prop}{e:Env}{h:Heap}{late:List Bool}(l:List Nat)(big mid small:Heap)(hl:big.le h)(hls:small.le h)(hm:Shp mid h)
  (H:Zd7 P (hq3 q late big mid small) (Xe6 q big mid small) 0 q (fun e' h'=>Q .normal (Env.keep l e') h') e h):VW P N (.draw2 q late) Q e h:=by
 intro c hc;cases c
 case region id ops draw=>
  obtain⟨p,h3,h'|h'|h'⟩:=Zb7 hc
  ·obtain⟨_,h'⟩:=h';cases h'
  ·obtain⟨hd,hB,h'|h'⟩:=h'
   ·obtain⟨_,h'⟩:=h';cases h'
   ·simp only[VC.draw2.injEq]at h';obtain⟨h5,h6⟩:=h';subst h5;subst hd;simp only[Zx4]at hB;obtain⟨hmm,hB⟩:=hB;have hm0:=hm;obtain⟨hlen,_⟩:=Zb2 h3;rw[Array.length_toList]at hlen;have hcl:∀o∈q,o.op.closed=true:=by
     cases q with
     |nil=>intro o ho;cases ho
     |cons x xs=>
      rw[hlen]at hB;simp only[Zyd,Zej,Zx4]at hB;exact fun o ho=>List.all_eq_true.1 hB.1.2 o ho
    have hlate:∀i,late.getD i false=true→∀j,Za2 q j=true→Zaz ops (Array.replicate ops.size false) ops.size i j=true:=by
     intro i hi j hj;have hjl:j<ops.size:=by
      unfold Za2 at hj;split at hj
      ·rename_i o ho;have:=(List.getElem?_eq_some_iff.1 ho).1;omega
      ·cases hj
     rw[h6]at hi;simp only[Zr7,Zx1,List.getElem?_map]at hi;cases hr:(List.range ops.size)[i]? with
     |none=>rw[hr]at hi;simp at hi
     | some k=>
      rw[hr]at hi;have hk:k=i:=by
       obtain⟨_,h9⟩:=List.getElem?_eq_some_iff.1 hr
       simpa using h9.symm
      subst hk;simp only[Zys,Option.getD_some,Z97,List.all_eq_true,List.mem_range]at hi;have:=hi j hjl
      simpa[hj]using this
    intro g w a r he hd hs;refine wpIn_region_any hmm ?_;have hany:=Znu (P:=P) (K:=fun e' h'=>Q .normal (Env.keep l e') h') (fun e1 e2 h1 hee hk=>by have hk':Q .normal (Env.keep l e1) h1:=hk;rw[Zjp hee l]at hk';exact hk') hlen q 0 (Array.replicate ops.size false) e h (fun j=>by simp) (by rw[←hlen];exact hB) hcl H;rw[←hlen]at hany;have hset:∀(listed:Array Bool) (i j:Nat),(listed.setIfInBounds i true).getD j true=false→listed.getD j true=false∧i≠j:=by
     intro listed i j hj;by_cases hij:i=j
     ·subst hij;rcases Nat.lt_or_ge i listed.size with h'|h'
      ·simp[Array.getD,h']at hj
      ·simp[Array.getD,Nat.not_lt.2 h']at hj
     ·rw[getD_set_ne true hij]at hj;exact⟨hj,hij⟩
    have hdown:∀(listed:Array Bool) (i:Nat),i∈Region.ready .any ops listed→(∀(j:Nat) (o:Oper),listed[j]?=some true→ops[j]?=some o→ ∀x∈o.after,Region.binds .any x=true→listed[x.on]?=some true)→
      ∀(j:Nat) (o:Oper),(listed.setIfInBounds i true)[j]?=some true→ops[j]?=some o→∀x∈o.after,Region.binds .any x=true→(listed.setIfInBounds i true)[x.on]?=some true:=by
     intro listed i hi i2 j o hj ho x hx hb;have keep:∀(k:Nat),listed[k]?=some true→(listed.setIfInBounds i true)[k]?=some true:=by
      intro k hk;rw[Array.getElem?_setIfInBounds];split
      ·rename_i hik;subst hik;have:=(Array.getElem?_eq_some_iff.1 hk).1;simp[this]
      ·exact hk
     by_cases hij:i=j
     ·subst hij;obtain⟨_,o',ho',hall⟩:=mem_ready.1 hi;rw[ho]at ho';simp only[Zx0]at ho';subst ho';refine keep _ ?_;have h8:=hall x hx hb;rcases Nat.lt_or_ge x.on listed.size with h7|h7
      ·simp[Array.getD,h7]at h8;simp[h7,h8]
      ·simp[Array.getD,Nat.not_lt.2 h7]at h8
     ·rw[Array.getElem?_setIfInBounds_ne hij]at hj;exact keep _ (i2 j o hj ho x hx hb)
    refine Zfq (N:=N) h3 (fun listed h=>(small.le h∧listed.size=ops.size)∧(∀(j:Nat) (o:Oper),listed[j]?=some true→ops[j]?=some o→∀x∈o.after,Region.binds .any x=true→listed[x.on]?=some true)∧((∀j,Za2 q j=true→listed.getD j true=false)→big.le h)∧Shp mid h) ?_ ?_ ?_ (Q:=fun x a' w'=>∃g' e' h',Q x e' h'∧Rel g' w' h'∧Zas g' a' e'∧N.dok x a'.defers h'∧a'.tmps.size=N.n∧Evo g w h g' w' h') (g0:=g) (w0:=w) (h0:=h)
     (fun g' w' h' a' e' k1 k2 k3 k4 k5 k6=>⟨g',_,h',k1,k2,k3.keep l,k4,k5,k6⟩) _ _ e h hany ⟨⟨hls,by simp⟩,fun j o hj=>by(simp[Array.getElem?_replicate]at hj),fun _=>hl,hm0⟩ g _ a (r.drew _) he hd hs (Evo.drew _ _ _ _)
    ·rintro listed h' i vo ⟨⟨i1,i0⟩,i2,i3,i4⟩ hi _ hvo;simp only[hq3,hvo];split
     ·rename_i hli;refine .inl (i3 fun j hj=>?_);have hb:=hlate i hli j hj;have hi0:=(mem_ready.1 hi).1;have hjl':j<ops.size:=by
       unfold Za2 at hj;split at hj
       ·rename_i o ho;have:=(List.getElem?_eq_some_iff.1 ho).1;omega
       ·cases hj
      cases hjl:listed.getD j true with
      |false=>rfl
      | true=>
       exfalso
       have hjs:listed[j]?=some true:=by
        have h7:j<listed.size:=by omega
        simp[Array.getD,h7]at hjl;simp[h7,hjl]
       have:=Zek i2 ops.size j hb hjs;rcases Nat.lt_or_ge i listed.size with h7|h7
       ·simp[Array.getD,h7]at hi0;simp[h7,hi0]at this
       ·simp[Array.getElem?_eq_none h7]at this
     ·split
      ·rename_i hia;exact .inr ⟨hia,i4⟩
      ·exact .inl i1
    ·rintro listed h' i ⟨⟨i1,i0⟩,i2,i3,i4⟩ hi _;exact⟨⟨i1,by simpa using i0⟩,hdown listed i hi i2,(fun hw=>i3 fun j hj=>(hset listed i j (hw j hj)).1),i4⟩
    ·rintro listed h' i h'' ⟨⟨i1,i0⟩,i2,i3,i4⟩ hi _ ⟨z1,z2,z3⟩;refine⟨⟨z1,by simpa using i0⟩,hdown listed i hi i2,(fun hw=>?_),z3 i4⟩;refine z2 ?_ (i3 fun j hj=>(hset listed i j (hw j hj)).1);cases hwi:Za2 q i with
     |false=>rfl
     |true=>exact absurd rfl (hset listed i i (hw i hwi)).2
  ·obtain⟨c,h'⟩:=h';cases h'
 all_goals
  simp only[Zb1,Option.map_eq_some_iff]at hc
  first
  |(simp at hc;done)
  |(split at hc<;>simp at hc)
theorem Zaw{Q:Exit→Env→Heap→Prop}{e:Env}{h:Heap}(l:List Nat)(hl:h.le h)(H:Zde P h q (fun e' h'=>Q .normal (Env.keep l e') h') e h):VW P N (.region q true) Q e h:=Ziv l h hl H
end
def Xdl(W:World):Prop:=(∀b l,known.lookup b=some l→(∃t fr,W.heap[b]?=some (.cells l.toArray t fr))∧∀v∈l,v.oneCell'=true)∧∀b k,Zlx.lookup b=some k→∃v,W.cell? ⟨b,0,none⟩=some v∧v.oneCell'=true∧k.fits v
def Zdp(W:World):Prop:=Xdl W∧Xe5 fun b o=>match W.cell? ⟨b,o,none⟩with|some v=>if v.oneCell'=true then some v else none|none=>none
noncomputable def g0 (W:World):Gh:=by
 classical
 exact if hk:Zdp W then⟨⟨fun b o=>match W.cell? ⟨b,o,none⟩with|some v=>if v.oneCell'=true then some v else none|none=>none,fun b=>(known.lookup b).map fun l=>.cells l.toArray,fun b l hl=>by
  obtain⟨⟨t,fr,h1⟩,h3⟩:=hk.1.1 b l hl;refine⟨by rw[hl];rfl,fun j hj=>?_⟩;have hc:W.cell? ⟨b,j,none⟩=some l[j]:=by
   rw[World.cell?,h1];simp[hj]
  have hd:l.getD j Go.undef=l[j]:=by simp[List.getD,hj]
  rw[hc,hd];simp only;rw[if_pos (h3 _ (Zyl hj))],fun b k hb=>by
  obtain⟨v,h1,h2,h3⟩:=hk.1.2 b k hb;exact⟨v,by rw[h1];simp only;rw[if_pos h2],h3⟩,hk.2⟩,fun _=>none⟩
 else⟨⟨df0,fun b=>(known.lookup b).map fun l=>.cells l.toArray,fun b l hl=>⟨by rw[hl];rfl,fun j hj=>by unfold df0;rw[hl];simp[List.getD,hj]⟩,fun b k hb=>⟨k.dflt,by unfold df0;rw[Ztq hb];simp only[];rw[hb],k.dflt_fits⟩,df0_ks⟩,fun _=>none⟩
theorem g0_c{W:World}(hk:Zdp W)(b o:Nat):(g0 W).m b o=match W.cell? ⟨b,o,none⟩with|some v=>if v.oneCell'=true then some v else none|none=>none:=by unfold g0;rw[dif_pos hk]
theorem g0_mm(W:World)(b:Nat):(g0 W).m.mm b=(known.lookup b).map fun l=>.cells l.toArray:=by unfold g0;split<;>rfl
theorem g0_β(W:World)(i:Nat):(g0 W).β i=none:=by unfold g0;split<;>rfl
theorem g0_m{W:World}(hk:Zdp W){b o:Nat}{v:Value}(h:W.cell? ⟨b,o,none⟩=some v)(h1:v.oneCell'=true):(g0 W).m b o=some v:=by simp[g0_c hk,h,h1]
theorem g0_rel(W:World)(hk:Zdp W):Rel (g0 W) W Heap.nil:=by
 refine⟨fun b o v h=>?_,fun b e h=>?_,fun i _=>⟨g0_β W i,rfl⟩,fun id ab h=>by simp[Heap.get,HL.get,Heap.nil]at h,fun id id' x x' ab ab' _ h=>by simp[Heap.get,HL.get,Heap.nil]at h⟩
 ·rw[g0_c hk]at h;split at h
  ·rename_i u hu;split at h
   ·simp only[Zx0]at h;subst h;exact⟨hu,‹_›⟩
   ·cases h
  ·cases h
 ·rw[g0_mm]at h;simp only[Option.map_eq_some_iff]at h;obtain⟨l,hl,rfl⟩:=h;exact(hk.1.1 _ _ hl).1
def Zpp(g:Gh)(cs:List Value)(ps:List PV):Prop:=cs.length=ps.length∧∀j,j<ps.length→(cs.getD j Go.undef).oneCell'=true∧Rep g (cs.getD j Go.undef) (PV.nth ps j)
theorem Zpp.one{g:Gh}{v:Value}{p:PV}(h1:v.oneCell'=true)(h:Rep g v p):Zpp g [v] [p]:=by
 refine⟨rfl,fun j hj=>?_⟩;obtain rfl:j=0:=by simpa using hj
 exact⟨h1,h⟩
theorem Zpp.nil{g:Gh}:Zpp g [] []:=⟨rfl,fun j hj=>by simp at hj⟩
theorem Zpp.append{g:Gh}{a b:List Value}{p q:List PV}(h:Zpp g a p)(k:Zpp g b q):Zpp g (a++b) (p++q):=by
 refine⟨by simp[h.1,k.1],fun j hj=>?_⟩;simp only[PV.nth,Zx1];by_cases hlt:j<p.length
 ·rw[List.getElem?_append_left (by rw[h.1];exact hlt),List.getElem?_append_left hlt];have:=h.2 j hlt
  simpa[PV.nth,Zx1]using this
 ·rw[List.getElem?_append_right (by rw[h.1];omega),List.getElem?_append_right (by omega),h.1];have:=k.2 (j-p.length) (by simp at hj;omega)
  simpa[PV.nth,Zx1]using this
structure Reads (P:Program) (W:World) (n:Nat) (t:TypeId) {α:Type} (ok:α→Prop) (enc:α→List PV):Prop where
 run:∀(_:Zdp W) (H:Type) (en:TypeId×Value→H) (base:Nat) (spare:Nat→Bool) (held:Bool) (cs:List Value) (x:DataW H×List MemPlace),DataW.trod en P W base spare held n t cs=some x→ ∃a,ok a∧Zpp (g0 W) cs (enc a)
section
variable {P:Program} {W:World} {n:Nat} {t:TypeId}
theorem Reads.map{α β:Type}{ok:α→Prop}{enc:α→List PV}{ok':β→Prop}{enc':β→List PV}(f:α→β)(h:Reads P W n t ok enc)(ho:∀a,ok a→ok' (f a))(he:∀a,enc' (f a)=enc a):Reads P W n t ok' enc':=by
 constructor;intro hk H en base spare held cs x hx;obtain⟨a,h1,h2⟩:=h.run hk H en base spare held cs x hx;exact⟨f a,ho a h1,by rw[he];exact h2⟩
theorem Zlc{α:Type}{ok:α→Prop}{enc:α→List PV}:Reads P W 0 t ok enc:=by
 constructor;intro hk H en base spare held cs x hx;simp[DataW.trod]at hx
theorem Z6a{k:IntKind}(ht:P.underlying t=some (.int k)):Reads P W n t (fun a:Int=>(Lit.int k a).wf=true) (fun a=>[.int k a]):=by
 constructor;intro hk H en base spare held cs x hx;cases n with
 |zero=>simp[DataW.trod]at hx
 |succ n=>
  unfold DataW.trod at hx;rw[ht]at hx;split at hx<;>try (simp_all;done)
  rename_i k0 k' m heq;simp only[Zx0,TypeDesc.int.injEq]at heq;subst heq;split at hx
  case isFalse=>cases hx
  rename_i hc;obtain⟨rfl,hw⟩:=hc;exact⟨m,hw,Zpp.one rfl (.int _ _)⟩
structure FReads (P:Program) (W:World) (n:Nat) (fs:List Field) (o:Nat) {α:Type} (ok:α→Prop) (enc:α→List PV):Prop where
 run:∀(_:Zdp W) (H:Type) (en:TypeId×Value→H) (base:Nat) (spare:Nat→Bool) (held:Bool) (cs:List Value),
  (∀f∈fs, ∃x,DataW.trod en P W base spare held n f.type ((cs.drop f.offset).take (P.cellsOf f.type))=some x)→ ∃a,ok a∧Zpp (g0 W) ((cs.drop o).take (enc a).length) (enc a)
theorem Zqs{o:Nat}:FReads P W n [] o (fun _:Unit=>True) (fun _=>[]):=⟨fun _ _ _ _ _ _ _ _=>⟨(),trivial,by simpa using Zpp.nil⟩⟩
theorem Zdu{f:Field}{fs:List Field}{o z:Nat}{α β:Type}{ok:α→Prop}{enc:α→List PV}{ok':β→Prop}{enc':β→List PV}(h:Reads P W n f.type ok enc)(hz:P.cellsOf f.type=z)(hl:∀a,(enc a).length=z)(ho:f.offset=o)(k:FReads P W n fs (o+z) ok' enc'):FReads P W n (f::fs) o (fun x:α×β=>ok x.1∧ok' x.2) (fun x=>enc x.1++enc' x.2):=by
 constructor;intro hk H en base spare held cs hall;obtain⟨x,hx⟩:=hall f (by simp);obtain⟨a,a1,a2⟩:=h.run hk H en base spare held _ x hx;obtain⟨b,b1,b2⟩:=k.run hk H en base spare held cs (fun g hg=>hall g (by simp[hg]));refine⟨(a,b),⟨a1,b1⟩,?_⟩;rw[ho,hz]at a2;have:=a2.append b2;rw[←List.drop_drop]at this;have e1:(enc a++enc' b).length=z+(enc' b).length:=by simp[hl]
 simp only[e1];rw[List.take_add];exact this
theorem Zl4{fs:Array Field}{l:List Field}{z:Nat}{α:Type}{ok:α→Prop}{enc:α→List PV}(ht:P.underlying t=some (.struct fs))(hfl:fs.toList=l)(hz:P.cellsOf t=z)
  (h:FReads P W n l 0 ok enc)(hl:∀a,(enc a).length=z):Reads P W (n+1) t ok enc:=by
 constructor;intro hk H en base spare held cs x hx;obtain⟨xs,m,hm,rfl,hlen,hxs,hread⟩:=DataW.trod_struct ht hx;obtain rfl:n=m:=by omega
 obtain⟨a,a1,a2⟩:=h.run hk H en base spare held cs (fun f hf=>by
  rw[←hfl]at hf;obtain⟨i,hi,e⟩:=List.getElem_of_mem hf;have hi':i<fs.size:=by simpa using hi
  have:=hread i f (by rw[←e];simp[hi']);rw[Zye (by rw[hxs];exact hi')]at this;exact⟨_,this⟩)
 refine⟨a,a1,?_⟩;rw[hl,List.drop_zero,Zyi (by rw[hlen,hz];exact Nat.le_refl _)]at a2;exact a2
theorem Reads.agg(hk:Zdp W){α:Type}{ok:α→Prop}{enc:α→List PV}{H:Type}{en:TypeId×Value→H}{base:Nat}{spare:Nat→Bool}{held:Bool}{vs:Array Value}{d:DataW H}{ps:List MemPlace}
  (h:∀n,Reads P W n t ok enc)(hd:DataW.Trod en P W base spare held t (.agg vs) d ps):∃a,ok a∧Rep (g0 W) (.agg vs) (.agg (enc a)):=by
 obtain⟨fuel,hx⟩:=hd;obtain⟨a,a1,a2,a3⟩:=(h fuel).run hk H en base spare held _ _ hx;simp only[Value.cells]at a2 a3;refine⟨a,a1,.agg _ _ (by simpa using a2) (fun j hj=>?_) (fun j hj=>?_)⟩
 ·have:=(a3 j hj).1;simpa[Zx6]using this
 ·have:=(a3 j hj).2;simpa[Zx6]using this
end
theorem Zza{P:Program}{W:World}{t e:TypeId}{r:Reach}{b':Nat}{v:Value}(ht:P.underlying t=some (.slice e))(hv:Value.okWide P W r b' t v):v.cells=#[v]:=by
 unfold Value.okWide at hv;rw[ht]at hv;cases v<;>first|rfl|(exfalso;simp[Cell.okWide,Cell.ok,ht]at hv)
section
variable {H:Type} {enc:TypeId×Value→H} {P:Program}
theorem Zjq(hl:laidOutB P=true){W W':World}(hb:RowKit.Below W.heap.size W W'):∀{ts:List TypeId} {vs:List Value} {ds:List (DataW H)} {ps:List MemPlace},(∀t∈ts,P.readableRec t=true∧t<P.types.size)→
  DataW.TrodAll enc P W 0 (fun _=>true) true ts vs ds ps→(∀x∈ps,x.block<W.heap.size)→DataW.TrodAll enc P W' 0 (fun b=>decide (b<W.heap.size)) true ts vs ds ps
 | [],[],[],ps,_,h,_=>h
 |t::ts,v::vs,d::ds,ps,hts,h,hlt=>by
  obtain⟨p,q,h1,h2,rfl⟩:=h;refine⟨p,q,RowKit.Below.trod hl (hts t (by simp)).1 (hts t (by simp)).2 h1 hb (fun x hx=>hlt x (by simp[hx])),Zjq hl hb (fun t ht=>hts t (by simp[ht])) h2 (fun x hx=>hlt x (by simp[hx])),rfl⟩
 | [],_::_,_,_,_,h,_=>h.elim
 | [],[],_::_,_,_,h,_=>h.elim
 |_::_,[],_,_,_,h,_=>h.elim
 |_::_,_::_,[],_,_,h,_=>h.elim
theorem Z27{f:Func}{s:ChangeSpec}{W W':World}{args:Array Value}{ds gs:List (DataW H)}{before:List MemPlace}{bt:TypeId}(hlaid:laidOutB P=true)(hts:∀t∈f.params.toList,P.readableRec t=true∧t<P.types.size)
  (hrt:f.resultTypes=#[bt])(hbt:P.underlying bt=some .bool)(hv:s.vars=[])(h1:(s.fn H (ds++gs)).results=[.lit (.bool true)])(h2:(s.fn H (ds++gs)).args=ds)(h3:(s.fn H (ds++gs)).vars=[])
  (hW:DataW.Whole enc P f.params.toList s.vars false W args.toList ds gs before)(hb:RowKit.Below W.heap.size W W'):s.post enc P f false true false false W args (.bool true) W':=by
 have hW':=hW;obtain⟨p,q,hA,hV,rfl,hfz,hnd⟩:=hW;rw[hv]at hV;obtain⟨rfl,rfl⟩:=ChangeShapes.trodVars_none hV;refine⟨ds,[],p++[],[],p,[],hW',?_,?_,?_,hb.frame _,fun h=>by cases h⟩
 ·rw[h1,hrt];exact trodAll_cons_mk (RowKit.shut_bool hbt _) ChangeShapes.trodAll_mk0
 ·rw[h2];exact Zjq hlaid hb hts hA (fun x hx=>hW'.lt x (by simp[hx]))
 ·rw[h3,hv];exact rfl
end
abbrev Str:=List UInt8
def i64(n:Int):Prop:=(Lit.int .i64 n).wf=true
def okS(s:Str):Prop:=s.length≤maxLen
def okL{α:Type}(ok:α→Prop)(l:List α):Prop:=l.length≤maxLen∧∀a∈l,ok a
abbrev pI(n:Int):PV:=.int .i64 n
structure Wd where
 text:Str
 act:Int
 item:Int
 at':Int
 deriving DecidableEq,Inhabited
def Wd.enc(w:Wd):List PV:=[.str w.text,pI w.act,pI w.item,pI w.at']
def Wd.ok(w:Wd):Prop:=okS w.text∧i64 w.act∧i64 w.item∧i64 w.at'
inductive Un where
 |mk (act item n kind:Int) (label:Str) (head words:List Wd) (kids:List Un)
 deriving Inhabited
namespace Un
def act:Un→Int|.mk a _ _ _ _ _ _ _=>a
def item:Un→Int|.mk _ a _ _ _ _ _ _=>a
def n:Un→Int|.mk _ _ a _ _ _ _ _=>a
def kind:Un→Int|.mk _ _ _ a _ _ _ _=>a
def label:Un→Str|.mk _ _ _ _ a _ _ _=>a
def head:Un→List Wd|.mk _ _ _ _ _ a _ _=>a
def words:Un→List Wd|.mk _ _ _ _ _ _ a _=>a
def kids:Un→List Un|.mk _ _ _ _ _ _ _ a=>a
mutual
def enc:Un→List PV
 | .mk a i n k l h w ks=>[pI a,pI i,pI n,pI k, .str l, .sl 4 (h.map Wd.enc), .sl 4 (w.map Wd.enc), .sl 8 (encs ks)]
def encs:List Un→List (List PV)
 | []=>[]
 |u::r=>enc u::encs r
end
theorem Zjr:∀l:List Un,encs l=l.map enc
 | []=>rfl
 |u::r=>by simp only[encs,List.map_cons,Zjr r]
theorem Zaf(u:Un):u.enc=[pI u.act,pI u.item,pI u.n,pI u.kind,.str u.label,.sl 4 (u.head.map Wd.enc),.sl 4 (u.words.map Wd.enc),.sl 8 (u.kids.map Un.enc)]:=by
 cases u;simp only[enc,Zjr];rfl
inductive ok:Un→Prop
 |mk (u:Un) (h1:i64 u.act) (h2:i64 u.item) (h3:i64 u.n) (h4:i64 u.kind) (h5:okS u.label) (h6:okL Wd.ok u.head) (h7:okL Wd.ok u.words) (h8:u.kids.length≤maxLen) (h9:∀k∈u.kids,ok k):ok u
end Un
structure St where
 kind:Int
 label:Str
 deriving DecidableEq,Inhabited
def St.enc(s:St):List PV:=[pI s.kind,.str s.label]
def St.ok(s:St):Prop:=i64 s.kind∧okS s.label
structure Sta where
 kind:Int
 day:Int
 Zbd:Str
 deriving DecidableEq,Inhabited
def Sta.enc(s:Sta):List PV:=[pI s.kind,pI s.day,.str s.Zbd]
def Sta.ok(s:Sta):Prop:=i64 s.kind∧i64 s.day∧okS s.Zbd
inductive It where
 |mk (kind:Int) (at' to:List St) (Zff nth:Int) (unit:Un) (old new:List Str) (label Zib:Str) (start:Sta) (act item day:Int) (Zbd:Str) (by':List It)
 deriving Inhabited
namespace It
def kind:It→Int|.mk a _ _ _ _ _ _ _ _ _ _ _ _ _ _ _=>a
def at':It→List St|.mk _ a _ _ _ _ _ _ _ _ _ _ _ _ _ _=>a
def to:It→List St|.mk _ _ a _ _ _ _ _ _ _ _ _ _ _ _ _=>a
def Zff:It→Int|.mk _ _ _ a _ _ _ _ _ _ _ _ _ _ _ _=>a
def nth:It→Int|.mk _ _ _ _ a _ _ _ _ _ _ _ _ _ _ _=>a
def unit:It→Un|.mk _ _ _ _ _ a _ _ _ _ _ _ _ _ _ _=>a
def old:It→List Str|.mk _ _ _ _ _ _ a _ _ _ _ _ _ _ _ _=>a
def new:It→List Str|.mk _ _ _ _ _ _ _ a _ _ _ _ _ _ _ _=>a
def label:It→Str|.mk _ _ _ _ _ _ _ _ a _ _ _ _ _ _ _=>a
def Zib:It→Str|.mk _ _ _ _ _ _ _ _ _ a _ _ _ _ _ _=>a
def start:It→Sta|.mk _ _ _ _ _ _ _ _ _ _ a _ _ _ _ _=>a
def act:It→Int|.mk _ _ _ _ _ _ _ _ _ _ _ a _ _ _ _=>a
def item:It→Int|.mk _ _ _ _ _ _ _ _ _ _ _ _ a _ _ _=>a
def day:It→Int|.mk _ _ _ _ _ _ _ _ _ _ _ _ _ a _ _=>a
def Zbd:It→Str|.mk _ _ _ _ _ _ _ _ _ _ _ _ _ _ a _=>a
def by':It→List It|.mk _ _ _ _ _ _ _ _ _ _ _ _ _ _ _ a=>a
def strs(l:List Str):PV:=.sl 1 (l.map fun s=>[.str s])
mutual
def enc:It→List PV
 | .mk k a t w n u o e l f s ac it d ev b=>[pI k, .sl 2 (a.map St.enc), .sl 2 (t.map St.enc),pI w,pI n,
   pI u.act,pI u.item,pI u.n,pI u.kind, .str u.label, .sl 4 (u.head.map Wd.enc), .sl 4 (u.words.map Wd.enc), .sl 8 (u.kids.map Un.enc),strs o,strs e, .str l, .str f,pI s.kind,pI s.day, .str s.Zbd,pI ac,pI it,pI d, .str ev, .sl 25 (encs b)]
def encs:List It→List (List PV)
 | []=>[]
 |u::r=>enc u::encs r
end
theorem Zjr:∀l:List It,encs l=l.map enc
 | []=>rfl
 |u::r=>by simp only[encs,List.map_cons,Zjr r]
theorem Zaf(x:It):x.enc=[pI x.kind,.sl 2 (x.at'.map St.enc),.sl 2 (x.to.map St.enc),pI x.Zff,pI x.nth,
      pI x.unit.act,pI x.unit.item,pI x.unit.n,pI x.unit.kind,.str x.unit.label,.sl 4 (x.unit.head.map Wd.enc),.sl 4 (x.unit.words.map Wd.enc),.sl 8 (x.unit.kids.map Un.enc),strs x.old,strs x.new,.str x.label,.str x.Zib,
      pI x.start.kind,pI x.start.day,.str x.start.Zbd,pI x.act,pI x.item,pI x.day,.str x.Zbd,.sl 25 (x.by'.map It.enc)]:=by
  cases x;simp only[enc,Zjr];rfl
theorem Zd8(x:It):x.enc.length=25:=by rw[Zaf];rfl
inductive ok:It→Prop
 | mk (x:It) (h1:i64 x.kind) (h2:okL St.ok x.at') (h3:okL St.ok x.to) (h4:i64 x.Zff) (h5:i64 x.nth) (h6:x.unit.ok) (h7:okL okS x.old) (h8:okL okS x.new) (h9:okS x.label) (h10:okS x.Zib) (h11:x.start.ok)
   (h12:i64 x.act) (h13:i64 x.item) (h14:i64 x.day) (h15:okS x.Zbd) (h16:x.by'.length≤maxLen) (h17:∀k∈x.by',ok k):ok x
end It
structure EI where
 act:Int
 item:Int
 day:Int
 it:It
 deriving Inhabited
def EI.enc(e:EI):List PV:=pI e.act::pI e.item::pI e.day::e.it.enc
def EI.ok(e:EI):Prop:=i64 e.act∧i64 e.item∧i64 e.day∧e.it.ok
structure Ac where
 number:Int
 title:Str
 day:Int
 start:Sta
 items:List It
 deriving Inhabited
def Ac.enc(a:Ac):List PV:=[pI a.number,.str a.title,pI a.day,pI a.start.kind,pI a.start.day,.str a.start.Zbd,.sl 25 (a.items.map It.enc)]
def Ac.ok(a:Ac):Prop:=i64 a.number∧okS a.title∧i64 a.day∧a.start.ok∧okL It.ok a.items
structure Gz where
 number:Int
 day:Int
 prior:Str
 acts:List Ac
 deriving Inhabited
def Gz.enc(g:Gz):List PV:=[pI g.number,pI g.day,.str g.prior,.sl 7 (g.acts.map Ac.enc)]
def Gz.ok(g:Gz):Prop:=i64 g.number∧i64 g.day∧okS g.prior∧okL Ac.ok g.acts
structure Sp where
 frm:Int
 to:Int
 deriving DecidableEq,Inhabited
def Sp.enc(s:Sp):List PV:=[pI s.frm,pI s.to]
def Sp.ok(s:Sp):Prop:=i64 s.frm∧i64 s.to
section
variable {P:Program} {W:World}
def fd(nm:String)(ty off:Nat)(tag pkg:String)(bo:Nat)(emb:Bool):Field:={ name:=nm,type:=ty,offset:=off,embedded:=emb,tag:=tag,pkgPath:=pkg,byteOffset:=bo }
end
end Go.VM
namespace Go.VM
open Go
theorem Zcs{α:Type}{l:List α}{enc:α→List PV}{k:Nat}(h:k<l.length):(l.map enc).getD k []=enc l[k]:=by
 simp[Zx1,h]
theorem w64{n:Int}(h1:-9223372036854775808≤n)(h2:n≤9223372036854775807):IntKind.i64.wrap n=n:=by
 simp only[IntKind.wrap,IntKind.signed,IntKind.bits];simp;omega
theorem Zzb{n:Int}:i64 n↔ -9223372036854775808≤n∧n≤9223372036854775807:=by
 simp[i64,Lit.wf,IntKind.min,IntKind.max,IntKind.signed,IntKind.bits]
noncomputable def eqB {α:Type}(a b:α):Bool:=@decide (a=b) (Classical.propDecidable _)
theorem Zmp{α:Type}{a b:α}(h:a=b):eqB a b=true:=by simp[eqB,h]
theorem Zel{α:Type}{a b:α}(h:a≠b):eqB a b=false:=by simp[eqB,h]
theorem Z1f{α:Type}{a b:List α}(h:a.length≠b.length):a≠b:=fun e=>h (by rw[e])
theorem Zg6{α:Type}{a b:List α}{k:Nat}(h:a.take k=b.take k)(ha:k<a.length)(hb:k<b.length)(he:a[k]=b[k]):a.take (k+1)=b.take (k+1):=by
 rw[List.take_add_one,List.take_add_one,h];simp[ha,hb,he]
theorem Z1g{α:Type}{a b:List α}{k:Nat}(ha:k<a.length)(hb:k<b.length)(he:a[k]≠b[k]):a≠b:=by
 rintro rfl;exact he rfl
theorem Zm3{α:Type}{a b:List α}(hl:a.length=b.length)(h:a.take a.length=b.take a.length):a=b:=by
 rw[List.take_length]at h;rw[h,Zyi (by omega)]
section
variable {P:Program} {f:FuncId} {args:List PV} {h:Heap} {K:PV→Heap→Prop}
end
section
variable {P:Program} {N:FK} {Q:Exit→Env→Heap→Prop} {K:Env→Heap→Prop} {e:Env} {h:Heap} {dst:Option Nat} {op:VOp} {d:Nat} {w:Bool} {r:List VOper}
theorem Ze9:Zfo P [] K e h=K e h:=rfl
theorem Zjs:Zfo P (⟨dst,op,none⟩::r) K e h=Zau P e h op (fun v h'=>Zfo P r K (e.put dst v) h'):=rfl
theorem Znv{K:PV→Heap→Prop}:Zqo P e h op true K=Zau P e h op K:=by
 unfold Zqo;cases hp:op.pure
 ·simp
 ·simp only[gd,if_true,true_implies];cases op<;>first|rfl|simp[VOp.pure]at hp
theorem Zg7{K:PV→Heap→Prop}:Zqo P e h op false K=K .undef h:=by
 unfold Zqo;cases hp:op.pure
 ·simp
 ·simp[gd]
theorem Znw(hd:e.get d=.bool w):Zfo P (⟨dst,op,some (d,w)⟩::r) K e h=Zau P e h op (fun v h'=>Zfo P r K (e.put dst v) h'):=by
 simp only[Zfo,hd,guardOf,beq_self_eq_true,Znv]
theorem Z6b(hd:e.get d=.bool (!w)):Zfo P (⟨dst,op,some (d,w)⟩::r) K e h=Zfo P r K (e.put dst .undef) h:=by
 have:((!w)==w)=false:=by cases w<;>rfl
 simp only[Zfo,hd,guardOf,this,Zg7]
theorem Zr9(hd:e.get d=.bool false):Zfo P (⟨dst,op,some (d,true)⟩::r) K e h=Zfo P r K (e.put dst .undef) h:=Z6b hd
theorem Zsa(hd:e.get d=.bool true):Zfo P (⟨dst,op,some (d,false)⟩::r) K e h=Zfo P r K (e.put dst .undef) h:=Z6b hd
theorem Z1h(hd:e.get d=.undef):Zfo P (⟨dst,op,some (d,w)⟩::r) K e h=Zfo P r K (e.put dst .undef) h:=by
 simp only[Zfo,hd,guardOf,Zg7]
theorem Za1{X:Bool}(hd:e.get d=.bool X)(H1:X=w→Zau P e h op (fun v h'=>Zfo P r K (e.put dst v) h'))(H0:X=(!w)→Zfo P r K (e.put dst .undef) h):Zfo P (⟨dst,op,some (d,w)⟩::r) K e h:=by
 by_cases hx:X=w
 ·subst hx;rw[Znw hd];exact H1 rfl
 ·have hx':X=(!w):=by cases X<;>cases w<;>simp_all
  subst hx';rw[Z6b hd];exact H0 rfl
theorem Zfo.mono{K':Env→Heap→Prop}(hk:∀e h,K e h→K' e h):∀{q:List VOper} {e:Env} {h:Heap},Zfo P q K e h→Zfo P q K' e h
 | [],_,_,H=>hk _ _ H
 |⟨dst,op,none⟩::r,e,h,H=>by
  rw[Zjs]at H⊢;exact Zau.mono (fun _ _ H'=>Zfo.mono hk H') H
 | ⟨dst,op,some (d,w)⟩::r,e,h,H=>by
  simp only[Zfo]at H⊢;split at H
  ·rename_i c hc;cases c
   ·rw[Zg7]at H⊢;exact Zfo.mono hk H
   ·rw[Znv]at H⊢;exact Zau.mono (fun _ _ H'=>Zfo.mono hk H') H
  ·exact H.elim
theorem Z1i{hq:Heap}{K:PV→Prop}:QW P hq e op false K=K .undef:=by
 unfold QW;cases op.det
 ·simp[gd]
 ·simp[gd]
theorem Zsb{hq:Heap}(hd:e.get d=.bool w):Zde P hq (⟨dst,op,some (d,w)⟩::r) K e h=(match op.simple with
  |true=>False
  |false=>QW P hq e op true (fun v=>Zde P hq r K (e.put dst v) h)):=by
 cases hs:op.simple<;>simp only[Zde,hs,hd,guardOf,beq_self_eq_true]
theorem Z6c{hq:Heap}(hd:e.get d=.bool (!w)):Zde P hq (⟨dst,op,some (d,w)⟩::r) K e h=(match op.simple with
  |true=>False
  |false=>Zde P hq r K (e.put dst .undef) h):=by
 have:((!w)==w)=false:=by cases w<;>rfl
 cases hs:op.simple<;>simp only[Zde,hs,hd,guardOf,this,Z1i]
theorem Zsc{hq:Heap}(hd:e.get d=.undef):Zde P hq (⟨dst,op,some (d,w)⟩::r) K e h=(match op.simple with
  |true=>False
  |false=>Zde P hq r K (e.put dst .undef) h):=by
 cases hs:op.simple<;>simp only[Zde,hs,hd,guardOf,Z1i]
theorem Zm4{hq:Heap}(hd:e.get d=.bool false):Zde P hq (⟨dst,op,some (d,true)⟩::r) K e h=(match op.simple with
  |true=>False
  |false=>Zde P hq r K (e.put dst .undef) h):=Z6c hd
theorem Zm5{hq:Heap}(hd:e.get d=.bool true):Zde P hq (⟨dst,op,some (d,false)⟩::r) K e h=(match op.simple with
  |true=>False
  |false=>Zde P hq r K (e.put dst .undef) h):=Z6c hd
theorem Zjt{hq:Heap}:Zde P hq [] K e h=K e h:=rfl
theorem Zsd{hq:Heap}:Zde P hq (⟨dst,op,none⟩::r) K e h=(match op.simple with
  |true=>Zau P e h op (fun v h'=>hq.le h'∧Zde P hq r K (e.put dst v) h')
  |false=>QW P hq e op true (fun v=>Zde P hq r K (e.put dst v) h)):=by
 cases hs:op.simple<;>simp only[Zde,hs]
theorem VW.weakenE{c:VC}{e':Env}(he:e'.le e)(H:VW P N c Q e' h):VW P N c Q e h:=fun x hx g w a r er hd hs=>H x hx g w a r (Zas.le he er) hd hs
theorem Zc6{q:List VOper}{y:VC}{σ:Type}(l:List Nat)(st:σ→Env)(h1:Zfo P q (fun e' h'=>∃s,(st s).le (Env.keep l e')∧h'=h) e h)(h2:∀s,VW P N y Q (st s) h):VW P N (.seq (.region q false) y) Q e h:=
 Zaa (Zad l (h1.mono fun _ _ ⟨s,a,b⟩=>by subst b;exact VW.weakenE a (h2 s)))
end
section
variable {P:Program} {N:FK} {Q:Exit→Env→Heap→Prop} {e:Env} {h:Heap}
theorem Zc7{c:VC}(t z:Nat)(he:e.get t=.nilsl)(H:VW P N c Q (e.put (some t) (.own h.top 0 0)) (h.push (.arr false z []))):VW P N c Q e h:=by
 intro x hx g w a r hr hd hs;obtain⟨r1,r2⟩:=r.none none z w rfl rfl rfl rfl;have hr':Zas g a (e.put (some t) (.own h.top 0 0)):=by
  intro k;simp only[Env.put,Env.get];split
  ·rename_i hk;subst hk;have:=hr t;rw[he]at this;generalize a.tmps.getD t Go.undef=v at this;cases this;exact .ownE _ _ _
  ·exact hr k
 refine wpIn_mono (H x hx g w a r1 hr' hd hs) fun ex a' w' ⟨g',e',h',k1,k2,k3,k4,k5,k6⟩=>⟨g',e',h',k1,k2,k3,k4,k5,r2.trans k6⟩
end
section
variable {P:Program} {f:FuncId} {args:List PV} {h:Heap} {K:PV→Heap→Prop}
theorem Zam.drop(H:Zam P f args h (fun p h'=>∃h0,h0.le h'∧K p h0)):Zam P f args h K:=
 ⟨H.1,fun g w vals r ha=>(H.2 g w vals r ha).mono fun x w' ⟨v,p,g',h',h1,⟨h0,hl,hk⟩,h3,h4,h5⟩=>⟨v,p,g',h0,h1,hk,h3,h4.weaken hl,h5.weakenR hl⟩⟩
end
theorem cI(n:Int):Closed (pI n):=Closed.of_scalar (Zda _ _)
theorem cS(s:Str):Closed (.str s):=Closed.of_scalar (Zen _)
theorem cB(b:Bool):Closed (.bool b):=Closed.of_scalar (Zbs _)
theorem Zfr(f:Fn):Closed (.fn f [] []):=fun g v hv=>by
 cases hv with
 |fn _ fs cs _ _ s1 s2 r1 r2=>exact .fn f fs cs [] [] s1 s2 (fun j hj=>by simp at hj) (fun j hj=>by simp at hj)
theorem Zaj{α:Type}{z:Nat}{enc:α→List PV}{l:List α}(h:∀a∈l,∀x∈enc a,Closed x):Closed (.sl z (l.map enc)):=
 Zjl (fun e he x hx=>by obtain⟨a,ha,rfl⟩:=List.mem_map.1 he;exact h a ha x hx)
theorem Wd.closed(w:Wd):∀x∈w.enc,Closed x:=by
 intro x hx;simp only[Wd.enc,Zyb,Zya,or_false]at hx;rcases hx with rfl|rfl|rfl|rfl<;>first|exact cS _|exact cI _
theorem St.closed(w:St):∀x∈w.enc,Closed x:=by
 intro x hx;simp only[St.enc,Zyb,Zya,or_false]at hx;rcases hx with rfl|rfl<;>first|exact cS _|exact cI _
theorem Z6d(l:List Int):Closed (.sl 1 (l.map fun x=>[pI x])):=Zaj (fun a _ x hx=>by simp only[Zyb,Zya,or_false]at hx;subst hx;exact cI _)
theorem Sp.closed(w:Sp):∀x∈w.enc,Closed x:=by
 intro x hx;simp only[Sp.enc,Zyb,Zya,or_false]at hx;rcases hx with rfl|rfl<;>exact cI _
theorem Z28(l:List Sp):Closed (.sl 2 (l.map Sp.enc)):=Zaj (fun w _=>w.closed)
theorem Zb0(l:List Str):Closed (It.strs l):=Zaj (fun a _ x hx=>by simp only[Zyb,Zya,or_false]at hx;subst hx;exact cS _)
theorem Un.closed(u:Un):∀x∈u.enc,Closed x:=by
 rw[Un.Zaf];intro x hx;simp only[Zyb,Zya,or_false]at hx;rcases hx with rfl|rfl|rfl|rfl|rfl|rfl|rfl|rfl
 ·exact cI _
 ·exact cI _
 ·exact cI _
 ·exact cI _
 ·exact cS _
 ·exact Zaj (fun w _=>w.closed)
 ·exact Zaj (fun w _=>w.closed)
 ·exact Zaj (fun k hk=>Un.closed k)
termination_by SizeOf.sizeOf u
decreasing_by
 match u,hk with
 | .mk _ _ _ _ _ _ _ ks,hk=>
  have h1:SizeOf.sizeOf k<SizeOf.sizeOf ks:=List.sizeOf_lt_of_mem hk;rw[Un.mk.sizeOf_spec];omega
theorem It.closed(u:It):∀x∈u.enc,Closed x:=by
 rw[It.Zaf];intro x hx;simp only[Zyb,Zya,or_false]at hx;rcases hx with rfl|rfl|rfl|rfl|rfl|rfl|rfl|rfl|rfl|rfl|rfl|rfl|rfl|rfl|rfl|rfl|rfl|rfl|rfl|rfl|rfl|rfl|rfl|rfl|rfl
 all_goals first|exact cI _|exact cS _|exact Zb0 _|exact Zaj (fun w _=>Wd.closed w)|exact Zaj (fun w _=>St.closed w)|exact Zaj (fun w _=>Un.closed w)|skip
 exact Zaj (fun k hk=>It.closed k)
termination_by SizeOf.sizeOf u
decreasing_by
 match u,hk with
 | .mk _ _ _ _ _ _ _ _ _ _ _ _ _ _ _ ks,hk=>
  have h1:SizeOf.sizeOf k<SizeOf.sizeOf ks:=List.sizeOf_lt_of_mem hk;rw[It.mk.sizeOf_spec];omega
theorem EI.closed(e:EI):∀x∈e.enc,Closed x:=by
 intro x hx;simp only[EI.enc,Zyb]at hx;rcases hx with rfl|rfl|rfl|hx
 ·exact cI _
 ·exact cI _
 ·exact cI _
 ·exact It.closed _ x hx
theorem Ac.closed(a:Ac):∀x∈a.enc,Closed x:=by
 intro x hx;simp only[Ac.enc,Zyb,Zya,or_false]at hx;rcases hx with rfl|rfl|rfl|rfl|rfl|rfl|rfl
 all_goals first|exact cI _|exact cS _|exact Zaj (fun w _=>It.closed w)
theorem Zqt(l:List EI):Closed (.sl 28 (l.map EI.enc)):=Zaj (fun w _=>w.closed)
theorem Zqu(l:List Ac):Closed (.sl 7 (l.map Ac.enc)):=Zaj (fun w _=>w.closed)
def HL.dec:List (Nat×AB)→Nat→Prop
 | [],_=>True
 |(k,_)::r,b=>k<b∧HL.dec r k
def HOk(h:Heap):Prop:=HL.dec h.l h.top
theorem HL.dec_mono:∀{l:List (Nat×AB)} {b b':Nat},HL.dec l b→b≤b'→HL.dec l b'
 | [],_,_,_,_=>trivial
 |(k,_)::r,b,b',h,hb=>⟨Nat.lt_of_lt_of_le h.1 hb,h.2⟩
theorem HL.Zev:∀{l:List (Nat×AB)} {b:Nat} {f:Nat→Option AB},HL.dec l b→(∀t,t<b→HL.get l t=f t∨HL.get l t=none)→HL.le l f
 | [],_,_,_,_=>trivial
 | (k,v)::r,b,f,h,hf=>by
  refine⟨?_,HL.Zev h.2 (fun t ht=>?_)⟩
  ·have:=hf k h.1
   simpa[HL.get,eq_comm]using this
  ·have h1:=hf t (by have:=h.1;omega);have:k≠t:=by omega
   simpa[HL.get,this]using h1
theorem HOk.le_refl{h:Heap}(ok:HOk h):h.le h:=⟨Nat.le_refl _,HL.Zev ok fun _ _=>.inl rfl⟩
def HL.only(p:Nat→Bool):List (Nat×AB)→List (Nat×AB)
 | []=>[]
 |(k,v)::r=>bif p k then(k,v)::HL.only p r else HL.only p r
theorem HL.del_ge:∀{L:List (Nat×AB)} {t id:Nat},HL.dec L t→t≤id→HL.del L id=L
 | [],_,_,_,_=>rfl
 |(k,v)::r,t,id,h,hi=>by
  have h1:=h.1;rw[HL.del,if_neg (by omega),HL.del_ge h.2 (by omega)]
inductive Tr where
 |lf
 |nd (l:Tr) (v:PV) (r:Tr)
 deriving Inhabited
def Tr.get:Tr→Nat→PV
 | .lf,_=>.any
 | .nd l v r,n=>bif n==0 then v else bif n % 2==1 then Tr.get l (n / 2)else Tr.get r (n / 2-1)
def VA.res(t:Tr):VA→VA
 | .t n=>.c (t.get n)
 | .c p=>.c p
def Sim(t:Tr)(e:Env):Prop:=∀n,t.get n=e.get n
theorem Sim.ev{t:Tr}{e:Env}(h:Sim t e)(a:VA):(a.res t).ev []=a.ev e:=by
 cases a with
 |t n=>exact h n
 |c p=>rfl
def VOp.res(t:Tr):VOp→VOp
 | .mv a=>.mv (a.res t)
 | .pick c a b=>.pick (c.res t) (a.res t) (b.res t)
 | .alloc z=>.alloc z
 | .box n a=>.box n (a.res t)
 | .build z ps=>.build z (ps.map fun p=>(p.1,p.2.1,p.2.2.res t))
 | .bslice z n zr ps=>.bslice z n zr (ps.map fun p=>(p.1,p.2.res t))
 | .load g s a=>.load g s (a.res t)
 | .store s a v=>.store s (a.res t) (v.res t)
 | .bin op a b=>.bin op (a.res t) (b.res t)
 | .binb op a b=>.binb op (a.res t) (b.res t)
 | .strid a=>.strid (a.res t)
 | .eqs n ks a b=>.eqs n ks (a.res t) (b.res t)
 | .isnil n a=>.isnil n (a.res t)
 | .un op a=>.un op (a.res t)
 | .conv k a=>.conv k (a.res t)
 | .b2s a=>.b2s (a.res t)
 | .s2b a=>.s2b (a.res t)
 | .mkfn f x y=>.mkfn f (x.map (VA.res t)) (y.map (VA.res t))
 | .slice st z a lo hi=>.slice st z (a.res t) (lo.map (VA.res t)) (hi.map (VA.res t))
 | .faddr o a=>.faddr o (a.res t)
 | .fld g o s a=>.fld g o s (a.res t)
 | .iaddr z a i=>.iaddr z (a.res t) (i.res t)
 | .idx a i=>.idx (a.res t) (i.res t)
 | .ext a i=>.ext (a.res t) i
 | .len st a=>.len st (a.res t)
 | .app z b zr st x y=>.app z b zr st (x.res t) (y.res t)
 | .mm mx l=>.mm mx (l.map (VA.res t))
 | .mkmap=>.mkmap
 | .lookup kk z ok m k=>.lookup kk z ok (m.res t) (k.res t)
 | .mapset kk m k v=>.mapset kk (m.res t) (k.res t) (v.res t)
 | .mlen m=>.mlen (m.res t)
 | .call f l=>.call f (l.map (VA.res t))
 | .callv f l=>.callv (f.res t) (l.map (VA.res t))
 | .px k l=>.px k (l.map (VA.res t))
 | .fx k l=>.fx k (l.map (VA.res t))
 | .nd neg a=>.nd neg (a.res t)
 | .other o=>.other o
section
variable {t:Tr} {e:Env} (hs:Sim t e)
include hs
end
mutual
def PV.clB:PV→Bool
 | .any| .undef| .bool _| .int _ _| .str _| .nilp| .nilsl| .nilmp| .nilfn| .nilif=>true
 | .ro cs=>PV.clsB cs
 | .sl _ es=>PV.clssB es
 | .agg cs=>PV.clsB cs
 | .tup cs=>PV.clsB cs
 | .fn _ a b=>PV.clsB a && PV.clsB b
 | .ifc _ v=>PV.clB v
 | .rmp es=>PV.clpB es
 | .loc _ _ _| .own _ _ _| .mp _| .fnb _ _=>false
def PV.clsB:List PV→Bool
 | []=>true
 |p::r=>PV.clB p && PV.clsB r
def PV.clssB:List (List PV)→Bool
 | []=>true
 |p::r=>PV.clsB p && PV.clssB r
def PV.clpB:List (PV×PV)→Bool
 | []=>true
 |(a,b)::r=>PV.clB a && PV.clB b && PV.clpB r
end
theorem Zue{f:Fn}{a b:List PV}(h1:∀x∈a,Closed x)(h2:∀x∈b,Closed x):Closed (.fn f a b):=by
 intro g v hv;cases hv with
 |fn _ fs cs _ _ s1 s2 r1 r2=>
  refine .fn f fs cs a b s1 s2 (fun j hj=>h1 _ ?_ g _ (r1 j hj)) (fun j hj=>h2 _ ?_ g _ (r2 j hj))
  ·simp only[PV.nth,Zx1,Zye hj,Option.getD_some];exact Zyl hj
  ·simp only[PV.nth,Zx1,Zye hj,Option.getD_some];exact Zyl hj
mutual
theorem PV.clB_ok:∀(p:PV),p.clB=true→Closed p
 | .any,_=>fun _ v _=> .any v
 | .undef,_=>fun _ v h=>by cases h;exact .undef
 | .bool b,_=>cB b
 | .int k n,_=>Closed.of_scalar (Zda _ _)
 | .str s,_=>cS s
 | .nilp,_=>fun _ v h=>by cases h;exact .nilp
 | .nilsl,_=>Zar
 | .nilmp,_=>fun _ v h=>by cases h;exact .nilmp
 | .nilfn,_=>fun _ v h=>by cases h;exact .nilfn
 | .nilif,_=>fun _ v h=>by cases h;exact .nilif
 | .ro cs,h=>Zbf (PV.clsB_ok cs h)
 | .sl z es,h=>Zjl (PV.clssB_ok es h)
 | .agg cs,h=>Zah (PV.clsB_ok cs h)
 | .tup cs,h=>Zbb (PV.clsB_ok cs h)
 | .fn f a b,h=>by
  simp only[PV.clB,Zx4]at h
  exact Zue (PV.clsB_ok a h.1) (PV.clsB_ok b h.2)
 | .ifc t v,h=>fun g x hx=>by
  cases hx with
  |ifc _ y _ hy=>exact .ifc t y v (PV.clB_ok v h g y hy)
 | .rmp es,h=>Zla (PV.clpB_ok es h)
 | .fnb _ _,h=>by cases h
 | .loc _ _ _,h=>by cases h
 | .own _ _ _,h=>by cases h
 | .mp _,h=>by cases h
theorem PV.clsB_ok:∀(l:List PV),PV.clsB l=true→ ∀x∈l,Closed x
 | [],_=>fun x hx=>by cases hx
 |p::r,h=>by
  simp only[PV.clsB,Zx4]at h
  intro x hx
  rcases List.mem_cons.1 hx with hp|hx
  ·rw[hp];exact PV.clB_ok p h.1
  ·exact PV.clsB_ok r h.2 x hx
theorem PV.clssB_ok:∀(l:List (List PV)),PV.clssB l=true→ ∀e∈l, ∀x∈e,Closed x
 | [],_=>fun x hx=>by cases hx
 |p::r,h=>by
  simp only[PV.clssB,Zx4]at h
  intro x hx
  rcases List.mem_cons.1 hx with hp|hx
  ·rw[hp];exact PV.clsB_ok p h.1
  ·exact PV.clssB_ok r h.2 x hx
theorem PV.clpB_ok:∀(l:List (PV×PV)),PV.clpB l=true→ ∀e∈l,Closed e.1∧Closed e.2
 | [],_=>fun x hx=>by cases hx
 |(a,b)::r,h=>by
  simp only[PV.clpB,Zx4]at h
  intro x hx
  rcases List.mem_cons.1 hx with hp|hx
  ·rw[hp];exact⟨PV.clB_ok a h.1.1,PV.clB_ok b h.1.2⟩
  ·exact PV.clpB_ok r h.2 x hx
end
mutual
def PV.scB:PV→Bool
 | .any| .undef| .bool _| .int _ _| .str _| .nilp| .nilsl| .nilmp| .nilfn| .nilif=>true
 | .sl _ es=>es.isEmpty
 | .agg cs=>PV.scsB cs
 | .tup cs=>PV.scsB cs
 | .ro _| .fn _ _ _| .ifc _ _| .loc _ _ _| .own _ _ _| .mp _| .rmp _| .fnb _ _=>false
def PV.scsB:List PV→Bool
 | []=>true
 |p::r=>PV.scB p && PV.scsB r
end
mutual
theorem PV.scB_ok:∀(p:PV),p.scB=true→Scalar p
 | .any,_=>fun _ v _ _=> .any v
 | .undef,_=>fun _ v h _=>by cases h;exact .undef
 | .bool b,_=>Zbs _
 | .int k n,_=>Zda _ _
 | .str s,_=>Zen _
 | .nilp,_=>fun _ v h _=>by cases h;exact .nilp
 | .nilsl,_=>fun _ v h _=>by cases h;exact .nilsl
 | .nilmp,_=>fun _ v h _=>by cases h;exact .nilmp
 | .nilfn,_=>fun _ v h _=>by cases h;exact .nilfn
 | .nilif,_=>fun _ v h _=>by cases h;exact .nilif
 | .fnb _ _,h=>by cases h
 | .ro cs,h=>by cases h
 | .sl z es,h=>by
  obtain rfl:es=[]:=by simpa[PV.scB]using h
  intro g v hv g'
  cases hv with
  |slE=>exact .slE _ _ _
  |sl b o len cap z a es vs ha hl hc hz hm hr=> 
   obtain rfl:len=0:=by simpa using hl.symm
   exact .slE _ _ _
 | .agg cs,h=>Z24 (PV.scsB_ok cs h)
 | .tup cs,h=>Z23 (PV.scsB_ok cs h)
 | .fn f a b,h=>by cases h
 | .ifc t v,h=>by cases h
 | .loc _ _ _,h=>by cases h
 | .own _ _ _,h=>by cases h
 | .mp _,h=>by cases h
 | .rmp _,h=>by cases h
theorem PV.scsB_ok:∀(l:List PV),PV.scsB l=true→ ∀x∈l,Scalar x
 | [],_=>fun x hx=>by cases hx
 |p::r,h=>by
  simp only[PV.scsB,Zx4]at h
  intro x hx
  rcases List.mem_cons.1 hx with hp|hx
  ·rw[hp];exact PV.scB_ok p h.1
  ·exact PV.scsB_ok r h.2 x hx
end
end Go.VM
