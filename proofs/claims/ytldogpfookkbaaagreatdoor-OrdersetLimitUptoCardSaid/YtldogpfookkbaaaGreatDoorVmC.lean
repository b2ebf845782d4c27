import Derived.Test.YtldogpfookkbaaaGreatDoorVm8
import Derived.OpenShut
import Derived.DataReads
import Derived.LoopN
set_option linter.all false
namespace Go.VM
open Go
def Agree (l:List VA) (e e':Env):Prop:=∀ a∈l,a.ev e=a.ev e'
theorem Agree.map {l:List VA} {e e':Env} (h:Agree l e e'):l.map (VA.ev e)=l.map (VA.ev e'):=List.map_congr_left h
theorem fill_congr {e e':Env}:∀ (ps:List (Nat×Nat×VA)) (cs:List PV),Agree (ps.map fun p=>p.2.2) e e'→fillV e cs ps=fillV e' cs ps
 | [],_,_=>rfl
 | (o,s,a)::r,cs,h=>by
  simp only [fillV];rw [h a (by simp),fill_congr r _ (fun x hx=>h x (by simp only [List.map_cons,List.mem_cons];exact .inr hx))]
theorem fillOk_congr {e e':Env} (n:Nat):∀ (ps:List (Nat×Nat×VA)),Agree (ps.map fun p=>p.2.2) e e'→fillOk e n ps=fillOk e' n ps
 | [],_=>rfl
 | (o,s,a)::r,h=>by
  simp only [fillOk];rw [h a (by simp),fillOk_congr n r (fun x hx=>h x (by simp only [List.map_cons,List.mem_cons];exact .inr hx))]
theorem elems_congr {e e':Env}:∀ (ps:List (Nat×VA)) (rows:List (List PV)),Agree (ps.map fun p=>p.2) e e'→Za9 e rows ps=Za9 e' rows ps
 | [],_,_=>rfl
 | (i,a)::r,rows,h=>by
  simp only [Za9];rw [h a (by simp),elems_congr r _ (fun x hx=>h x (by simp only [List.map_cons,List.mem_cons];exact .inr hx))]
theorem elemsOk_congr {e e':Env} (z n:Nat):∀ (ps:List (Nat×VA)),Agree (ps.map fun p=>p.2) e e'→Zbn e z n ps=Zbn e' z n ps
 | [],_=>rfl
 | (i,a)::r,h=>by
  simp only [Zbn];rw [h a (by simp),elemsOk_congr z n r (fun x hx=>h x (by simp only [List.map_cons,List.mem_cons];exact .inr hx))]
theorem opt_congr {e e':Env} (o:Option VA) (h:∀ a∈o.toList,a.ev e=a.ev e'):o.map (VA.ev e)=o.map (VA.ev e'):=by
 cases o with
 | none=>rfl
 | some a=>simp [h a (by simp)]
theorem pval_congr {e e':Env} {h:Heap} {op:VOp} (ha:Agree op.vas e e'):pval e h op=pval e' h op:=by
 cases op<;>simp only [VOp.vas,Agree,List.mem_cons,List.not_mem_nil,or_false,forall_eq_or_imp,forall_eq] at ha<;>simp only [pval]
 case mv a=>rw [ha]
 case un op a=>rw [ha]
 case conv k a=>rw [ha]
 case strid a=>rw [ha]
 case faddr o a=>rw [ha]
 case fld g o s a=>rw [ha]
 case ext a i=>rw [ha]
 case len st a=>rw [ha]
 case mlen a=>rw [ha]
 case lookup kk zr ok a b=>rw [ha.1,ha.2]
 case load g s a=>rw [ha]
 case pick a b c=>rw [ha.1,ha.2.1,ha.2.2]
 case build zr ps=>rw [fill_congr ps zr ha]
 case bin op a b=>rw [ha.1,ha.2]
 case binb op a b=>rw [ha.1,ha.2]
 case eqs n ks a b=>rw [ha.1,ha.2]
 case iaddr z a b=>rw [ha.1,ha.2]
 case idx a b=>rw [ha.1,ha.2]
 case mkfn f x y =>
  rw [List.map_congr_left (fun a h=>ha a (List.mem_append_left _ h)),List.map_congr_left (f:=VA.ev e) (g:=VA.ev e') (fun a h=>ha a (List.mem_append_right _ h))]
 case slice st z a lo hi =>
  rw [ha.1,opt_congr lo (fun x hx=>ha.2 x (List.mem_append_left _ hx)),opt_congr hi (fun x hx=>ha.2 x (List.mem_append_right _ hx))]
 case px k l=>rw [Agree.map (l:=l) ha]
 case mm mx l =>
  match l,ha with
  | [],_=>rfl
  | [a],_=>rfl
  | [a,b],ha=>simp only [List.mem_cons,List.not_mem_nil,or_false,forall_eq_or_imp,forall_eq] at ha;show mmV mx (a.ev e) (b.ev e)=mmV mx (a.ev e') (b.ev e');rw [ha.1,ha.2]
  | _::_::_::_,_=>rfl
theorem pok_congr {e e':Env} {h:Heap} {op:VOp} (ha:Agree op.vas e e'):pok e h op=pok e' h op:=by
 cases op<;>simp only [VOp.vas,Agree,List.mem_cons,List.not_mem_nil,or_false,forall_eq_or_imp,forall_eq] at ha<;>simp only [pok]
 case un op a=>rw [ha]
 case conv k a=>rw [ha]
 case strid a=>rw [ha]
 case faddr o a=>rw [ha]
 case fld g o s a=>rw [ha]
 case ext a i=>rw [ha]
 case len st a=>rw [ha]
 case mlen a=>rw [ha]
 case lookup kk zr ok a b=>rw [ha.1,ha.2]
 case load g s a=>rw [ha]
 case pick a b c=>rw [ha.1]
 case build zr ps=>rw [fillOk_congr _ ps ha]
 case bin op a b=>rw [ha.1,ha.2]
 case binb op a b=>rw [ha.1,ha.2]
 case eqs n ks a b=>rw [ha.1,ha.2]
 case iaddr z a b=>rw [ha.1,ha.2]
 case idx a b=>rw [ha.1,ha.2]
 case slice st z a lo hi =>
  rw [ha.1,opt_congr lo (fun x hx=>ha.2 x (List.mem_append_left _ hx)),opt_congr hi (fun x hx=>ha.2 x (List.mem_append_right _ hx))]
 case px k l=>rw [Agree.map (l:=l) ha]
 case mm mx l =>
  match l,ha with
  | [],_=>rfl
  | [a],_=>rfl
  | [a,b],ha=>simp only [List.mem_cons,List.not_mem_nil,or_false,forall_eq_or_imp,forall_eq] at ha;show (isInt (a.ev e)∧isInt (b.ev e))=(isInt (a.ev e')∧isInt (b.ev e'));rw [ha.1,ha.2]
  | _::_::_::_,_=>rfl
theorem StepW_congr {P:Program} {e e':Env} {h:Heap} {op:VOp} {K:PV→Heap→Prop} (hc:op.closed=true) (ha:Agree op.vas e e'):Zam P e h op K=Zam P e' h op K:=by
 have h1:=pval_congr (h:=h) ha;have h2:=pok_congr (h:=h) ha;cases op<;>simp only [VOp.vas,Agree,List.mem_cons,List.not_mem_nil,or_false,forall_eq_or_imp,forall_eq] at ha<;>simp only [Zam]<;>(try (rw [h1,h2];done))
 case box n a=>rw [ha]
 case bslice z n zr ps=>rw [elemsOk_congr z n ps ha,elems_congr ps _ ha]
 case store s a b=>rw [ha.1,ha.2]
 case mapset kk a b c=>rw [ha.1,ha.2.1,ha.2.2]
 case app z b zr st x y=>rw [ha.1,ha.2]
 case call f l=>rw [Agree.map ha]
 case callv f l=>rw [ha.1,Agree.map (l:=l) ha.2]
 case fx k l=>rw [Agree.map (l:=l) ha]
 case nd neg a=>rw [ha]
 case other o=>simp [VOp.closed] at hc
theorem Zam.mono {P:Program} {e:Env} {h:Heap} {op:VOp} {K K':PV→Heap→Prop} (hk:∀ v h,K v h→K' v h) (H:Zam P e h op K):Zam P e h op K':=by
 cases op<;>simp only [Zam] at H ⊢<;>first
  |exact ⟨H.1,hk _ _ H.2⟩
  |exact ⟨H.1,fun b h1 h2=>hk _ _ (H.2 b h1 h2)⟩
  |exact hk _ _ H
  |exact ⟨H.1,H.2.1,hk _ _ H.2.2⟩
  |exact ⟨H.1,H.2.1,H.2.2.1,H.2.2.2.1,hk _ _ H.2.2.2.2⟩
  |exact Zan.mono H hk
  |(split at H<;>first|exact Zan.mono H hk|exact H)
  |exact fun g w a next Q r he hn=>H g w a next Q r he (fun v pv g' w' h' k=>hn v pv g' w' h' (hk _ _ k))
  |exact H
theorem notNil_isNil {p:PV} (h:notNil p=true):isNil p=false:=by
 cases p<;>first|rfl|(simp [notNil] at h)
theorem Zam.out {P:Program} {e:Env} {h:Heap} {op:VOp} {K:PV→Heap→Prop} {A:Prop} (hs:op.simple=true) (H:Zam P e h op (fun v h'=>A∧K v h')):A:=by
 cases op<;>simp only [VOp.simple] at hs<;>simp only [Zam] at H<;>first
  |exact H.1
  |exact H.2.1
  |exact H.2.2.1
  |exact H.2.2.2.2.1
  |exact (H.2 (isNil _) (fun h=>h) (fun h=>notNil_isNil h)).1
  |cases hs
def QuietV (P:Program) (hq:Heap) (e:Env) (op:VOp) (v:PV):Prop :=
 match op with
 | .call f args=>Za5 P f (args.map (VA.ev e)) hq v
 | .callv f args=>(match f.ev e with
  | .fn (.func f) first cap=>Za5 P f (first++args.map (VA.ev e)++cap) hq v
  | _=>False)
 | .bslice z n zr ps=>Zbn e z n ps∧v=.sl z (Za9 e (List.replicate n zr) ps)
 | op=>op.pure=true∧pok e hq op∧v=pval e hq op
theorem Zbz {P:Program} {hq:Heap} {e e':Env} {op:VOp} {v:PV} (hc:op.closed=true) (ha:Agree op.vas e e'):QuietV P hq e op v=QuietV P hq e' op v:=by
 have h1:=pval_congr (h:=hq) ha;have h2:=pok_congr (h:=hq) ha;cases op<;>simp only [VOp.vas,Agree,List.mem_cons,List.not_mem_nil,or_false,forall_eq_or_imp,forall_eq] at ha<;>simp only [QuietV]<;>(try (rw [h1,h2];done))
 case bslice z n zr ps=>rw [elemsOk_congr z n ps ha,elems_congr ps _ ha]
 case call f l=>rw [Agree.map ha]
 case callv f l=>rw [ha.1,Agree.map (l:=l) ha.2]
def dval (e:Env) (hq:Heap):VOp→PV
 | .bslice z n zr ps=>.sl z (Za9 e (List.replicate n zr) ps)
 | op=>pval e hq op
theorem QuietV.det {P:Program} {hq:Heap} {e:Env} {op:VOp} {v:PV} (hd:op.det=true) (h:QuietV P hq e op v):v=dval e hq op:=by
 cases op<;>simp only [VOp.det,VOp.pure] at hd<;>first|exact h.2.2|exact h.2|cases hd
theorem dval_congr {hq:Heap} {e e':Env} {op:VOp} (ha:Agree op.vas e e'):dval e hq op=dval e' hq op:=by
 have h1:=pval_congr (h:=hq) ha;cases op<;>first|exact h1|skip
 rename_i z n zr ps;simp only [dval];rw [elems_congr ps _ ha]
def gOf (o:VOper) (e:Env) (c:Bool):Prop:=match o.guard with|none=>c=true|some (d,want)=>guardOf want (e.get d)=some c
def AStep (P:Program) (hqf:Nat→Heap) (Z:Nat→Heap→Heap→Prop) (E:List Nat) (i:Nat) (o:VOper) (e:Env) (h:Heap) (K:Env→Heap→Prop):Prop :=
 if i∈E then o.guard=none∧Zam P e h o.op (fun v h'=>Z i h h'∧K (e.put o.dst v) h')
 else ∃ c,gOf o e c∧∃ v,(c=true→QuietV P (hqf i) e o.op v)∧K (e.put o.dst (gd c v)) h
theorem agree_put {o:VOper} {e:Env} {d:Option Nat} {v:PV} (hd:∀ t,d=some t→t ∉ o.reads):Agree o.op.vas (e.put d v) e∧∀ c,gOf o (e.put d v) c↔gOf o e c:=by
 cases d with
 | none=>exact ⟨fun _ _=>rfl,fun _=>Iff.rfl⟩
 | some t =>
  have ht:=hd t rfl;constructor
  ·intro a ha;cases a with
   | c p=>rfl
   | t n =>
    have hne:t≠n:=by
     rintro rfl;exact ht (List.mem_append_left _ (List.mem_filterMap.2 ⟨_,ha,rfl⟩))
    simp [VA.ev,Env.put,Env.get,hne]
  ·intro c;unfold gOf;cases hg:o.guard with
   | none=>exact Iff.rfl
   | some dw =>
    obtain ⟨d,want⟩:=dw;have hne:t≠d:=by
     rintro rfl;exact ht (List.mem_append_right _ (by rw [hg];simp))
    simp [Env.put,Env.get,hne]
theorem apart_spec {x y:VOper} (h:x.apart y=true):(∀ t,x.dst=some t→t ∉ y.reads)∧(∀ t,y.dst=some t→t ∉ x.reads)∧∀ t,x.dst=some t→y.dst≠some t:=by
 simp only [VOper.apart,Bool.and_eq_true] at h;obtain ⟨h1,h2⟩:=h;refine ⟨fun t ht=>?_,fun t ht=>?_,fun t ht=>?_⟩
 ·rw [ht] at h1;simp at h1;exact h1.1
 ·rw [ht] at h2;simpa using h2
 ·rw [ht] at h1;simp at h1;exact h1.2
def Env.eqv (e e':Env):Prop:=∀ t,e.get t=e'.get t
theorem put_swap (e:Env) {x y:Option Nat} (u v:PV) (h:∀ t,x=some t→y≠some t):((e.put x u).put y v).eqv ((e.put y v).put x u):=by
 intro t;cases x with
 | none=>rfl
 | some a =>
  cases y with
  | none=>rfl
  | some b =>
   have hab:a≠b:=fun hh=>h a rfl (by rw [hh]);simp only [Env.put,Env.get];by_cases h1:b=t
   ·subst h1;simp [hab]
   ·simp [h1]
def Inv (K:Env→Heap→Prop):Prop:=∀ e e' h,e.eqv e'→K e h→K e' h
theorem eqv_put {e e':Env} (h:e.eqv e') (d:Option Nat) (v:PV):(e.put d v).eqv (e'.put d v):=by
 intro t;cases d with
 | none=>exact h t
 | some a=>simp only [Env.put,Env.get];rw [h t]
theorem eqv_ev {e e':Env} (h:e.eqv e') (a:VA):a.ev e=a.ev e':=by
 cases a with
 | t n=>exact h n
 | c p=>rfl
theorem eqv_gOf {e e':Env} (h:e.eqv e') (o:VOper) (c:Bool):gOf o e c↔gOf o e' c:=by
 unfold gOf;split
 ·exact Iff.rfl
 ·rw [h]
section
variable {P : Program} {hqf : Nat → Heap} {Z : Nat → Heap → Heap → Prop} {E : List Nat}
theorem AStep.mono {i:Nat} {o:VOper} {e:Env} {h:Heap} {K K':Env→Heap→Prop} (hk:∀ e h,K e h→K' e h) (H:AStep P hqf Z E i o e h K):AStep P hqf Z E i o e h K':=by
 unfold AStep at *;split
 ·rename_i hi;rw [if_pos hi] at H;exact ⟨H.1,H.2.mono fun v h' k=>⟨k.1,hk _ _ k.2⟩⟩
 ·rename_i hi;rw [if_neg hi] at H;obtain ⟨c,h1,v,h2,h3⟩:=H;exact ⟨c,h1,v,h2,hk _ _ h3⟩
theorem AStep.inv {i:Nat} {o:VOper} (hc:o.op.closed=true) {K:Env→Heap→Prop} (hK:Inv K):Inv (fun e h=>AStep P hqf Z E i o e h K):=by
 intro e e' h hee H;unfold AStep at *;have ha:Agree o.op.vas e e':=fun a _=>eqv_ev hee a;split
 ·rename_i hi;rw [if_pos hi] at H;refine ⟨H.1,?_⟩;rw [← StepW_congr hc ha];exact H.2.mono fun v h' k=>⟨k.1,hK _ _ _ (eqv_put hee _ _) k.2⟩
 ·rename_i hi;rw [if_neg hi] at H;obtain ⟨c,h1,v,h2,h3⟩:=H;refine ⟨c,(eqv_gOf hee o c).1 h1,v,fun hh=>?_,hK _ _ _ (eqv_put hee _ _) h3⟩;rw [← Zbz hc ha];exact h2 hh
theorem AStep_E {i:Nat} (hi:i∈E) {o:VOper} {e:Env} {h:Heap} {K:Env→Heap→Prop}:AStep P hqf Z E i o e h K↔(o.guard=none∧Zam P e h o.op (fun v h'=>Z i h h'∧K (e.put o.dst v) h')):=by
 unfold AStep;rw [if_pos hi]
theorem AStep_q {i:Nat} (hi:i ∉ E) {o:VOper} {e:Env} {h:Heap} {K:Env→Heap→Prop}:AStep P hqf Z E i o e h K↔∃ c,gOf o e c∧∃ v,(c=true→QuietV P (hqf i) e o.op v)∧K (e.put o.dst (gd c v)) h:=by
 unfold AStep;rw [if_neg hi]
def VOp.sure:VOp→Bool
 | .alloc _|.box .. | .store .. | .app .. | .mapset .. | .mkmap|.fx ..=>true
 | _=>false
theorem Zam.sure {P:Program} {e:Env} {h:Heap} {op:VOp} {K:PV→Heap→Prop} (hs:op.sure=true) (H:Zam P e h op K):∃ v0 h0,K v0 h0∧∀ K':PV→Heap→Prop,K' v0 h0→Zam P e h op K':=by
 cases op<;>simp only [VOp.sure] at hs<;>simp only [Zam] at H ⊢<;>first
  |exact ⟨_,_,H,fun K' k=>k⟩
  |exact ⟨_,_,H.2.2.2.2,fun K' k=>⟨H.1,H.2.1,H.2.2.1,H.2.2.2.1,k⟩⟩
  |exact ⟨_,_,H.2.2,fun K' k=>⟨H.1,H.2.1,k⟩⟩
  |exact ⟨_,_,H.2,fun K' k=>⟨H.1,k⟩⟩
  |cases hs
theorem AStep.swap {i j : Nat} {oi oj : VOper} {e : Env} {h : Heap} {K : Env → Heap → Prop} (hK : Inv K) (hap : oi.apart oj = true) (ci : oi.op.closed = true) (cj : oj.op.closed = true)
  (hE:¬ (i∈E∧j∈E)) (hs:i∈E→oi.op.simple=true∧(oj.op.det||oi.op.sure)=true) (H:AStep P hqf Z E i oi e h (fun e1 h1=>AStep P hqf Z E j oj e1 h1 K)) :
  AStep P hqf Z E j oj e h (fun e1 h1=>AStep P hqf Z E i oi e1 h1 K):=by
 obtain ⟨a1,a2,a3⟩:=apart_spec hap;have gi:∀ v,Agree oi.op.vas (e.put oj.dst v) e∧∀ c,gOf oi (e.put oj.dst v) c↔gOf oi e c:=fun v=>agree_put a2;have gj:∀ v,Agree oj.op.vas (e.put oi.dst v) e∧∀ c,gOf oj (e.put oi.dst v) c↔gOf oj e c:=fun v=>agree_put a1;by_cases hi:i∈E
 ·have hj:j ∉ E:=fun hj=>hE ⟨hi,hj⟩;obtain ⟨s1,s2⟩:=hs hi;obtain ⟨h1,h2⟩:=(AStep_E hi).1 H;rw [Bool.or_eq_true] at s2;rcases s2 with s2|s2
  rotate_left
  ·obtain ⟨v0,h0,⟨z0,k0⟩,back⟩:=Zam.sure s2 h2;obtain ⟨c,c1,v',c2,c3⟩:=(AStep_q hj).1 k0;refine (AStep_q hj).2 ⟨c,((gj v0).2 c).1 c1,v',fun hh=>by have:=c2 hh;rw [Zbz cj (gj v0).1] at this;exact this,?_⟩;refine (AStep_E hi).2 ⟨h1,?_⟩;rw [StepW_congr ci (gi _).1];exact back _ ⟨z0,hK _ _ _ (put_swap e _ _ a3) c3⟩
  have key:∃ c,gOf oj e c∧(c=true→QuietV P (hqf j) e oj.op (dval e (hqf j) oj.op)):=by
   refine Zam.out (K:=fun _ _=>True) s1 (h2.mono fun v h' k=>⟨?_,trivial⟩);obtain ⟨c,c1,v',c2,c3⟩:=(AStep_q hj).1 k.2;refine ⟨c,((gj v).2 c).1 c1,fun hh=>?_⟩;have hv:=c2 hh;have e1:=hv.det s2;rw [Zbz cj (gj v).1] at hv;rw [dval_congr (gj v).1] at e1;rw [← e1];exact hv
  obtain ⟨c,c1,c2⟩:=key;refine (AStep_q hj).2 ⟨c,c1,dval e (hqf j) oj.op,c2,?_⟩;refine (AStep_E hi).2 ⟨h1,?_⟩;rw [StepW_congr ci (gi _).1];refine h2.mono fun v h' k=>⟨k.1,?_⟩;obtain ⟨c',d1,v',d2,d3⟩:=(AStep_q hj).1 k.2;have hcc:c'=c:=by
   have:=((gj v).2 c').1 d1;unfold gOf at this c1;cases hg:oj.guard with
   | none=>rw [hg] at this c1;rw [this,c1]
   | some dw=>rw [hg] at this c1;simp only at this c1;rw [this] at c1;exact Option.some.inj c1
  subst hcc;have hgd:gd c' v'=gd c' (dval e (hqf j) oj.op):=by
   cases c'
   ·rfl
   ·have:=(d2 rfl).det s2;rw [dval_congr (gj v).1] at this;simp [gd,this]
  rw [hgd] at d3;exact hK _ _ _ (put_swap e _ _ a3) d3
 ·obtain ⟨c,c1,v,c2,H⟩:=(AStep_q hi).1 H;by_cases hj:j∈E
  ·obtain ⟨h1,h2⟩:=(AStep_E hj).1 H;refine (AStep_E hj).2 ⟨h1,?_⟩;rw [StepW_congr cj (gj _).1] at h2;refine h2.mono fun u h' k=>⟨k.1,?_⟩;refine (AStep_q hi).2 ⟨c,((gi u).2 c).2 c1,v,fun hh=>?_,hK _ _ _ (put_swap e _ _ a3) k.2⟩;rw [Zbz ci (gi u).1];exact c2 hh
  ·obtain ⟨c',d1,u,d2,d3⟩:=(AStep_q hj).1 H;refine (AStep_q hj).2 ⟨c',((gj _).2 c').1 d1,u,fun hh=>?_,?_⟩
   ·have:=d2 hh;rw [Zbz cj (gj _).1] at this;exact this
   ·refine (AStep_q hi).2 ⟨c,((gi _).2 c).2 c1,v,fun hh=>?_,hK _ _ _ (put_swap e _ _ a3) d3⟩;rw [Zbz ci (gi _).1];exact c2 hh
end
end Go.VM
namespace Go.VM
open Go
theorem cOpers_get {P : Program} {N : Nat} {ops : Array Oper} : ∀ {l : List Oper} {q : List VOper}, cOpers P N ops l = some q → l.length = q.length ∧
  ∀ (i:Nat) (o:Oper),l[i]?=some o→∃ vo,q[i]?=some vo∧cOp P o=some vo.op∧vo.dst=o.dst∧cGuard ops o.guard=some vo.guard∧ndB o.op=true∧∀ d,o.dst=some d→d<N
 | [],q,h=>by simp only [cOpers,Option.some.injEq] at h;subst h;exact ⟨rfl,fun i o ho=>by simp at ho⟩
 | o::r,q,h=>by
  simp only [cOpers] at h;split at h
  case h_2=>cases h
  rename_i op gu qs h1 h2 h3;have hdn:(dstB N o.dst&&ndB o.op)=true:=by
   by_cases hh:(dstB N o.dst&&ndB o.op)=true
   ·exact hh
   ·rw [if_neg hh] at h;cases h
  rw [if_pos hdn] at h;obtain ⟨hdst,hnd⟩:=Bool.and_eq_true_iff.1 hdn;simp only [Option.some.injEq] at h;subst h;obtain ⟨i1,i2⟩:=cOpers_get h3;refine ⟨by simp [i1],fun i o' ho=>?_⟩;cases i with
  | zero =>
   simp only [List.getElem?_cons_zero,Option.some.injEq] at ho;subst ho;exact ⟨_,rfl,h1,rfl,h2,hnd,fun d hd=>by rw [hd] at hdst;simpa [dstB] using hdst⟩
  | succ i=>exact i2 i o' (by simpa using ho)
theorem View.weaken {h h':Heap} {p q:PV} (hl:h.le h') (v:View h p q):View h' p q:=by
 intro g w x r hx;have hle:(frz g w h).le (frz g w h'):=by
  refine ⟨fun b o y e=>?_,fun _ _ e=>e,fun b o e=>?_⟩
  rotate_left
  ·have e':frzMM g w h b=some o:=e;show frzMM g w h' b=some o;rcases frzMM_inv e' with h1|⟨_,en,c5,rfl,k5⟩
   ·exact frzMM_old h1
   ·cases hm:g.m.mm b with
    | some v' =>
     have this:=r.mmem b v' hm;cases v' with
     | map e' =>
      have this:w.heap[b]?=some (.map e' _):=this;rw [k5] at this;simp only [Option.some.injEq,Obj.map.injEq] at this;rw [this.1,this.2];exact frzMM_old hm
     | cells c'=>obtain ⟨_,_,this⟩:=this;rw [k5] at this;cases this
    | none =>
     unfold frzMM at e';rw [hm] at e';simp only at e';split at e'
     ·rename_i hex;obtain ⟨id,es,x,j1,j2,j3⟩:=hex;exact frzMM_new hm (Heap.le_get hl _ _ j1) j2 j3 k5
     ·cases e'
  show frzM g w h' b o=some y;have e':frzM g w h b o=some y:=e;rcases frzM_inv e' with h1|⟨_,k5,k6⟩
  ·exact Zbe h1
  ·cases hm:g.m b o with
   | some v' =>
    have:=(r.mem b o v' hm).1;rw [k5] at this;simp only [Option.some.injEq] at this;subst this;exact Zbe hm
   | none =>
    unfold frzM at e';rw [hm] at e';simp only at e';split at e'
    ·rename_i hex;obtain ⟨id,z,es,x,j1,j2,j3⟩:=hex;exact frzM_new hm (Heap.le_get hl _ _ j1) j2 j3 k5 k6
    ·cases e'
 exact (v g w x (r.weaken hl) hx).mono hle
theorem Views.weaken {h h':Heap} (hl:h.le h'):∀ {l q:List PV},Views h l q→Views h' l q
 | [],[],_=>trivial
 | a::r,b::q,⟨h1,h2⟩=>⟨h1.weaken hl,Views.weaken hl h2⟩
 | [],_::_,h=>h.elim
 | _::_,[],h=>h.elim
theorem Za5.weaken {P:Program} {f:FuncId} {args:List PV} {h h':Heap} {p:PV} (hl:h.le h') (H:Za5 P f args h p):Za5 P f args h' p :=
 H.imp id fun ⟨q,h1,h2⟩=>⟨q,h1.weaken hl,h2⟩
section
variable {P : Program} {N : FK} {ops : Array Oper} {q : List VOper} {hq : Heap} {hqf : Nat → Heap} {Z : Nat → Heap → Heap → Prop} {E : List Nat}
theorem cOp_bslice {o : Oper} {z n : Nat} {zr : List PV} {ps : List (Nat × VA)} (hc : cOp P o = some (.bslice z n zr ps)) :
  ∃ t ty parts,o.op=.buildSlice t n parts∧P.underlying t=some (.slice ty)∧szOf P ty=some z∧zeroOf P ty=some zr∧cElems parts.toList=some ps∧n*z≤2 ^ 20∧zr.length=z∧z≠0:=by
 unfold cOp at hc;split at hc
 ·cases hc
 rename_i hraw;clear hraw;split at hc
 ·cases hc
 rename_i hno;clear hno;split at hc
 ·rename_i vo hx;simp only [Option.some.injEq] at hc;subst hc;exact (cX_ext hx).elim
 rename_i hn0;clear hn0
 replace hc:cOp0 P o=some (.bslice z n zr ps):=by
  split at hc
  ·rename_i v hv;simp only [Option.some.injEq] at hc;rw [hv,hc]
  ·simp at hc
 obtain ⟨dst,oper,type,pos,after,guard⟩:=o;cases oper
 case buildSlice t n' parts =>
  simp only [cOp0] at hc;split at hc
  ·rename_i ty hu;split at hc
   ·rename_i z' zr' ps' h1 h2 h3;split at hc
    ·rename_i hcond;simp only [Option.some.injEq,VOp.bslice.injEq] at hc;obtain ⟨rfl,rfl,rfl,rfl⟩:=hc;simp only [Bool.and_eq_true,decide_eq_true_eq,beq_iff_eq,bne_iff_ne,ne_eq] at hcond;exact ⟨t,ty,parts,rfl,hu,h1,h2,h3,hcond.1.1,hcond.1.2,hcond.2⟩
    ·cases hc
   ·cases hc
  ·cases hc
 case call c =>
  exfalso
  simp only [cOp0,cCall] at hc
  (repeat' (split at hc))<;>simp at hc
 case makeMap t r =>
  exfalso
  cases r<;>simp [cOp0] at hc
 case slice t x lo hi mx =>
  exfalso
  cases mx with
  | some m=>simp [cOp0] at hc
  | none =>
   simp only [cOp0] at hc
   (repeat' (split at hc))<;>first|(simp at hc;done)|(obtain ⟨x,_,hx⟩:=Option.map_eq_some_iff.1 hc;cases hx)
 all_goals
  exfalso
  simp only [cOp0] at hc
  first
  |(simp at hc;done)
  |((repeat' (split at hc))<;>first|(simp at hc;done)|(cases hc;done)|(obtain ⟨x,_,hx⟩:=Option.map_eq_some_iff.1 hc;cases hx))
theorem quiet_run {o:Oper} {op:VOp} {e:Env} {h:Heap} {v:PV} (hc:cOp P o=some op) (hl:hq.le h) (H:QuietV P hq e op v):OpS P o e h (fun v' h'=>v'=v∧h'=h):=by
 by_cases hp:op.pure=true
 ·have H' : pok e hq op ∧ v = pval e hq op := by
   cases op<;>first|exact H.2|simp [VOp.pure] at hp
  refine OpS.of_value fun g w a r he=>?_;obtain ⟨x,e1,e2⟩:=pure_sound hc hp H'.1 (r.weaken hl) he;exact ⟨x,v,g,w,h,e1,⟨rfl,rfl⟩,by rw [H'.2];exact e2,r,Evo.refl _ _ _⟩
 ·cases op<;>simp only [VOp.pure,not_true_eq_false] at hp<;>simp only [QuietV] at H<;>try (exact (Bool.false_ne_true H.1).elim)
  case bslice z n zr ps =>
   obtain ⟨hok,rfl⟩:=H;obtain ⟨t,ty,parts,ho,hu,h1,h2,h3,h4,h5,h6⟩:=cOp_bslice hc;exact bslice_frozen ho hu h1 h2 h3 h4 h5 h6 hok ⟨rfl,rfl⟩
  case call f args =>
   have:Zam P e h (.call f args) (fun v' h'=>v'=v∧h'=h):=Za5.call (H.weaken hl) ⟨rfl,rfl⟩;exact stepW_sound hc this
  case callv f args =>
   have:Zam P e h (.callv f args) (fun v' h'=>v'=v∧h'=h):=by
    simp only [Zam];split at H
    ·rename_i hpv
     try rw [hpv]
     exact Za5.call (K:=fun v' h'=>v'=v∧h'=h) (Za5.weaken hl H) ⟨rfl,rfl⟩
    ·exact H.elim
   exact stepW_sound hc this
def Shp (h0 h:Heap):Prop:=∀ id fz z es,h0.get id=some (.arr fz z es)→∃ fz' es',h.get id=some (.arr fz' z es')
def VOp.isIaddr:VOp→Bool
 | .iaddr ..=>true
 | _=>false
def QOk (op:VOp) (h0 h:Heap):Prop:=h0.le h∨(op.isIaddr=true∧Shp h0 h)
theorem quiet_run2 {o:Oper} {op:VOp} {e:Env} {h:Heap} {v:PV} (hc:cOp P o=some op) (hl:QOk op hq h) (H:QuietV P hq e op v):OpS P o e h (fun v' h'=>v'=v∧h'=h):=by
 rcases hl with hl|⟨hi,hl⟩
 ·exact quiet_run hc hl H
 ·cases op<;>simp only [VOp.isIaddr,Bool.false_eq_true] at hi
  rename_i z a i;obtain ⟨_,hok,hv⟩:=H;have hok':pok e h (.iaddr z a i):=by
   obtain ⟨k1,k2,k3,k4⟩:=hok;refine ⟨k1,k2,k3,?_⟩;split at k4
   ·exact k4
   ·rename_i id off len hp;split at k4
    ·rename_i fz z' es hg;obtain ⟨fz',es',hg'⟩:=hl id fz z' es hg;simp only [hg'];exact k4
    ·exact k4.elim
   ·exact k4.elim
  refine OpS.of_value fun g w act r he=>?_;obtain ⟨x,e1,e2⟩:=pure_sound hc rfl hok' r he;exact ⟨x,v,g,w,h,e1,⟨rfl,rfl⟩,by rw [hv];exact e2,r,Evo.refl _ _ _⟩
def AAny (P:Program) (ops:Array Oper) (q:List VOper) (hqf:Nat→Heap) (Z:Nat→Heap→Heap→Prop) (E:List Nat) (K:Env→Heap→Prop):Nat→Array Bool→Env→Heap→Prop
 | 0,listed,e,h=>Region.ready .any ops listed=[]∧K e h
 | n+1,listed,e,h=>(Region.ready .any ops listed=[]→K e h)∧∀ i∈Region.ready .any ops listed,∀ o,q[i]?=some o→AStep P hqf Z E i o e h (AAny P ops q hqf Z E K n (listed.setIfInBounds i true))
theorem AAny.inv {K:Env→Heap→Prop} (hK:Inv K) (hc:∀ o∈q,o.op.closed=true):∀ (n:Nat) (listed:Array Bool),Inv (AAny P ops q hqf Z E K n listed)
 | 0,listed=>fun e e' h hee H=>⟨H.1,hK _ _ _ hee H.2⟩
 | n+1,listed=>fun e e' h hee H=>⟨fun h0=>hK _ _ _ hee (H.1 h0),fun i hi o ho=>AStep.inv (hc o (List.mem_of_getElem? ho)) (AAny.inv hK hc n _) e e' h hee (H.2 i hi o ho)⟩
theorem behind_ready {listed:Array Bool} {i j:Nat} (hj:j∈Region.ready .any ops listed) (hi:listed.getD i true=false):∀ f,Zav ops listed f i j=false
 | 0=>rfl
 | f+1=>by
  obtain ⟨_,goj,hgoj,hall⟩:=mem_ready.1 hj;simp only [Zav,hgoj];rw [Bool.eq_false_iff];intro hh;rw [Array.any_eq_true'] at hh;obtain ⟨x,hx,hxx⟩:=hh;simp only [Bool.and_eq_true,Bool.or_eq_true,beq_iff_eq,Bool.not_eq_true'] at hxx;have h1:=hall x hx hxx.1;have h2:listed.getD x.on true=true:=by
   rcases Nat.lt_or_ge x.on listed.size with h'|h'
   ·simp [h'] at h1;simp [h',h1]
   ·simp [Array.getElem?_eq_none h'] at h1
  rcases hxx.2 with h3|⟨h3,_⟩
  ·rw [h3] at h2;rw [h2] at hi;cases hi
  ·rw [h2] at h3;cases h3
theorem behind_mono {listed:Array Bool} {i j:Nat} (hj:∀ f,Zav ops listed f i j=false):∀ (f k:Nat),Zav ops listed f i k=true→Zav ops (listed.setIfInBounds j true) f i k=true
 | 0,k,h=>by cases h
 | f+1,k,h=>by
  simp only [Zav] at h ⊢;split at h
  ·rw [Array.any_eq_true'] at h ⊢;obtain ⟨x,hx,hxx⟩:=h;refine ⟨x,hx,?_⟩;simp only [Bool.and_eq_true,Bool.or_eq_true,beq_iff_eq,Bool.not_eq_true'] at hxx ⊢;refine ⟨hxx.1,?_⟩;rcases hxx.2 with h3|⟨h3,h4⟩
   ·exact .inl h3
   ·right
    have hne:j≠x.on:=by rintro rfl;rw [hj f] at h4;cases h4
    exact ⟨by rw [getD_set_ne true hne];exact h3,behind_mono hj f x.on h4⟩
  ·cases h
theorem AAny.first {K : Env → Heap → Prop} (hK : Inv K) (hc : ∀ o ∈ q, o.op.closed = true) (hlen : ops.size = q.length) {i : Nat} {oi : VOper} (hi : q[i]? = some oi) :
  ∀ (fuel:Nat) (listed:Array Bool) (e:Env) (h:Heap),
   (∀ (j:Nat) (oj:VOper) (goj:Oper),q[j]?=some oj→ops[j]?=some goj→j≠i→listed.getD j true=false→Zav ops listed ops.size i j=false →
    oi.apart oj=true∧¬ (i∈E∧j∈E)∧(i∈E→oi.op.simple=true∧(oj.op.det||oi.op.sure)=true)) →
   i∈Region.ready .any ops listed→AStep P hqf Z E i oi e h (AAny P ops q hqf Z E K fuel (listed.setIfInBounds i true))→AAny P ops q hqf Z E K (fuel+1) listed e h:=by
 intro fuel
 induction fuel with
 | zero =>
  intro listed e h hfree hr H;refine ⟨fun h0=>(by rw [h0] at hr;cases hr),fun j hj o ho=>?_⟩;by_cases hji:j=i
  ·subst hji;rw [hi] at ho;simp only [Option.some.injEq] at ho;subst ho;exact H
  ·exfalso
   have hnr:Region.ready .any ops (listed.setIfInBounds i true)≠[]:=by
    intro h0;have:=ready_mono hj hji;rw [h0] at this;cases this
   obtain ⟨hjun,goj,hgoj,hall⟩:=mem_ready.1 hj;have hbr:=behind_ready hj (mem_ready.1 hr).1;have hnot:=hbr ops.size;obtain ⟨f1,f2,f3⟩:=hfree j o goj ho hgoj hji hjun hnot
   apply hnr
   by_cases hiE:i∈E
   ·exact Zam.out (K:=fun _ _=>True) (f3 hiE).1 (((AStep_E hiE).1 H).2.mono fun v h' k=>⟨k.2.1,trivial⟩)
   ·obtain ⟨c,_,v,_,k⟩:=(AStep_q hiE).1 H;exact k.1
 | succ fuel ih =>
  intro listed e h hfree hr H;refine ⟨fun h0=>(by rw [h0] at hr;cases hr),fun j hj oj hoj=>?_⟩;by_cases hji:j=i
  ·subst hji;rw [hi] at hoj;simp only [Option.some.injEq] at hoj;subst hoj;exact H
  ·obtain ⟨hjun,goj,hgoj,hall⟩:=mem_ready.1 hj;have hbr:=behind_ready hj (mem_ready.1 hr).1;have hnot:=hbr ops.size;obtain ⟨f1,f2,f3⟩:=hfree j oj goj hoj hgoj hji hjun hnot;have H2:AStep P hqf Z E i oi e h (fun e1 h1=>AStep P hqf Z E j oj e1 h1 (AAny P ops q hqf Z E K fuel ((listed.setIfInBounds i true).setIfInBounds j true))) :=
    H.mono fun e1 h1 k=>k.2 j (ready_mono hj hji) oj hoj
   have H3:=AStep.swap (AAny.inv hK hc fuel _) f1 (hc oi (List.mem_of_getElem? hi)) (hc oj (List.mem_of_getElem? hoj)) f2 f3 H2;have hfree' : ∀ (k : Nat) (ok : VOper) (gok : Oper), q[k]? = some ok → ops[k]? = some gok → k ≠ i → (listed.setIfInBounds j true).getD k true = false → Zav ops (listed.setIfInBounds j true) ops.size i k = false →
     oi.apart ok=true∧¬ (i∈E∧k∈E)∧(i∈E→oi.op.simple=true∧(ok.op.det||oi.op.sure)=true):=fun k ok gok hk hgk hki hun hno=>by
    have hno':Zav ops listed ops.size i k=false:=by
     cases hb:Zav ops listed ops.size i k with
     | false=>rfl
     | true=>rw [behind_mono hbr _ _ hb] at hno;cases hno
    refine hfree k ok gok hk hgk hki ?_ hno';by_cases hjk:j=k
    ·subst hjk;exact hjun
    ·rw [getD_set_ne true hjk] at hun;exact hun
   refine AStep.mono (fun e1 h1 k=>?_) H3;refine ih (listed.setIfInBounds j true) e1 h1 hfree' (ready_mono hr (Ne.symm hji)) ?_;rw [Array.setIfInBounds_comm _ _ hji];exact k
theorem any_sound {K : Env → Heap → Prop} {Q : Exit → Act → World → Prop} {g0 : Gh} {w0 : World} {h0 : Heap} (hcq : cOpers P N.n ops ops.toList = some q) (I : Array Bool → Heap → Prop)
  (I1:∀ listed h i vo,I listed h→i∈Region.ready .any ops listed→i ∉ E→q[i]?=some vo→QOk vo.op (hqf i) h) (I2:∀ listed h i,I listed h→i∈Region.ready .any ops listed→i ∉ E→I (listed.setIfInBounds i true) h)
  (I3:∀ listed h i h',I listed h→i∈Region.ready .any ops listed→i∈E→Z i h h'→I (listed.setIfInBounds i true) h')
  (hQ:∀ g w h a e,K e h→Rel g w h→Zah g a e→a.defers=N.D→a.tmps.size=N.n→Evo g0 w0 h0 g w h→Q .normal a w) :
  ∀ (n:Nat) (listed:Array Bool) (e:Env) (h:Heap),AAny P ops q hqf Z E K n listed e h→I listed h →
   ∀ g w a,Rel g w h→Zah g a e→a.defers=N.D→a.tmps.size=N.n→Evo g0 w0 h0 g w h→wpAnyIn (fw N.ro) 9 P .any ops Q n listed a w
 | 0,listed,e,h,H,hl,g,w,a,r,he,hd,hs,hev=>⟨H.1,hQ g w h a e H.2 r he hd hs hev⟩
 | n+1,listed,e,h,H,hl,g,w,a,r,he,hd,hs,hev=>by
  refine ⟨fun h0=>hQ g w h a e (H.1 h0) r he hd hs hev,fun i hi=>?_⟩;obtain ⟨_,o,ho,_⟩:=mem_ready.1 hi;obtain ⟨vo,h1,h2,h3,h4,hnd,h5⟩:=(cOpers_get hcq).2 i o (by simpa using ho);have H1:=H.2 i hi vo h1;unfold wpOpIn;rw [ho];simp only;have hdlt:∀ t,o.dst=some t→t<a.tmps.size:=fun t ht=>by rw [hs];exact h5 t ht
  have next : ∀ (v : Value) (pv : PV) (g' : Gh) (w' : World) (h' : Heap), AAny P ops q hqf Z E K n (listed.setIfInBounds i true) (e.put o.dst pv) h' → I (listed.setIfInBounds i true) h' → Rep g' v pv → Rel g' w' h' → Evo g w h g' w' h' →
    wpAnyIn (fw N.ro) 9 P .any ops Q n (listed.setIfInBounds i true) (a.put o.dst v) w':=by
   intro v pv g' w' h' hk hl' hv hr hev';exact any_sound hcq I I1 I2 I3 hQ n _ _ _ hk hl' g' w' _ hr ((he.mono hev'.le).put hv hdlt) (by rw [(put_size a o.dst v).2];exact hd) (by rw [(put_size a o.dst v).1];exact hs) (hev.trans hev')
  by_cases hiE:i∈E
  ·obtain ⟨k1,k2⟩:=(AStep_E hiE).1 H1;rw [k1] at h4;have hog:o.guard=none:=by
    cases hg:o.guard with
    | none=>rfl
    | some jw =>
     obtain ⟨j,want⟩:=jw;rw [hg] at h4;simp only [cGuard] at h4;split at h4<;>simp at h4
   simp only [Region.wanted,hog,if_true];refine op_in hnd (stepW_sound h2 k2 g w a _ Q r he ?_);rintro v pv g' w' h' ⟨m1,m2⟩ m3 m4 m5;rw [h3] at m2;exact next v pv g' w' h' m2 (I3 listed h i h' hl hi hiE m1) m3 m4 m5
  ·obtain ⟨c,k1,v,k2,k3⟩:=(AStep_q hiE).1 H1;rw [h3] at k3;have hw:Region.wanted o (yielded ops a.tmps)=c:=by
    unfold gOf at k1;cases hg:o.guard with
    | none =>
     rw [hg] at h4;simp only [cGuard,Option.some.injEq] at h4;rw [← h4] at k1;simp only at k1;simp [Region.wanted,hg,k1]
    | some jw =>
     obtain ⟨j,want⟩:=jw;rw [hg] at h4;simp only [cGuard] at h4;split at h4
     ·rename_i d hdd;simp only [Option.some.injEq] at h4;rw [← h4] at k1;simp only at k1;simp only [Region.wanted,hg];exact yielded_of he hdd k1
     ·cases h4
   rw [hw];cases c
   ·simp only [Bool.false_eq_true,if_false];refine ⟨fun _ _=>trivial,?_⟩;exact next Go.undef .undef g w h (by simpa [gd] using k3) (I2 listed h i hl hi hiE) .undef r (Evo.refl _ _ _)
   ·simp only [if_true];refine op_in hnd (quiet_run2 h2 (I1 listed h i vo hl hi hiE h1) (k2 rfl) g w a _ Q r he ?_);rintro v' pv g' w' h' ⟨rfl,rfl⟩ m3 m4 m5;exact next v' pv g' w' h' (by simpa [gd] using k3) (I2 listed h' i hl hi hiE) m3 m4 m5
def dok (e:Env) (hq:Heap):VOp→Prop
 | .bslice z n _ ps=>Zbn e z n ps
 | op=>pok e hq op
def QW (P:Program) (hq:Heap) (e:Env) (op:VOp) (c:Bool) (K:PV→Prop):Prop :=
 match op.det with
 | true=>(c=true→dok e hq op)∧K (gd c (dval e hq op))
 | false=>∃ v,(c=true→QuietV P hq e op v)∧K (gd c v)
def Zbm (P:Program) (hq:Heap):List VOper→(Env→Heap→Prop)→Env→Heap→Prop
 | [],K,e,h=>K e h
 | o::r,K,e,h=>match o.op.simple,o.guard with
  | true,none=>Zam P e h o.op (fun v h'=>hq.le h'∧Zbm P hq r K (e.put o.dst v) h')
  | true,some _=>False
  | false,none=>QW P hq e o.op true (fun v=>Zbm P hq r K (e.put o.dst v) h)
  | false,some (d,want)=>(match guardOf want (e.get d) with
   | some c=>QW P hq e o.op c (fun v=>Zbm P hq r K (e.put o.dst v) h)
   | none=>False)
theorem det_quiet {e:Env} {op:VOp} (hd:op.det=true) (h:dok e hq op):QuietV P hq e op (dval e hq op):=by
 cases op<;>simp only [VOp.det,VOp.pure] at hd<;>first|exact ⟨rfl,h,rfl⟩|exact ⟨h,rfl⟩|cases hd
def DrawG (P:Program) (hqf:Nat→Heap) (Z:Nat→Heap→Heap→Prop):Nat→List VOper→(Env→Heap→Prop)→Env→Heap→Prop
 | _,[],K,e,h=>K e h
 | k,o::r,K,e,h=>match o.op.simple,o.guard with
  | true,none=>Zam P e h o.op (fun v h'=>Z k h h'∧DrawG P hqf Z (k+1) r K (e.put o.dst v) h')
  | true,some _=>False
  | false,none=>QW P (hqf k) e o.op true (fun v=>DrawG P hqf Z (k+1) r K (e.put o.dst v) h)
  | false,some (d,want)=>(match guardOf want (e.get d) with
   | some c=>QW P (hqf k) e o.op c (fun v=>DrawG P hqf Z (k+1) r K (e.put o.dst v) h)
   | none=>False)
theorem Zbm.toG {P:Program} {hq:Heap} {K:Env→Heap→Prop}:∀ {q:List VOper} {k:Nat} {e:Env} {h:Heap},Zbm P hq q K e h→DrawG P (fun _=>hq) (fun _ _ h'=>hq.le h') k q K e h
 | [],_,_,_,H=>H
 | o::r,k,e,h,H=>by
  have qm:∀ {c:Bool} {K1 K2:PV→Prop},(∀ v,K1 v→K2 v)→QW P hq e o.op c K1→QW P hq e o.op c K2:=by
   intro c K1 K2 hk H;unfold QW at H ⊢;split at H
   ·exact ⟨H.1,hk _ H.2⟩
   ·obtain ⟨v,v1,v2⟩:=H;exact ⟨v,v1,hk _ v2⟩
  simp only [Zbm] at H;simp only [DrawG];split at H
  ·exact H.mono fun v h' kk=>⟨kk.1,Zbm.toG kk.2⟩
  ·exact H.elim
  ·exact qm (fun v hv=>Zbm.toG hv) H
  ·split at H
   ·exact qm (fun v hv=>Zbm.toG hv) H
   ·exact H.elim
def effIdx (q:List VOper):List Nat:=(List.range q.length).filter (effAt q)
theorem lex_sound {K : Env → Heap → Prop} (hK : Inv K) (hlen : ops.size = q.length) : ∀ (l : List VOper) (k : Nat) (listed : Array Bool) (e : Env) (h : Heap), (∀ j, l[j]? = q[k + j]?) →
  drawB ops q l.length k listed=true→(∀ o∈q,o.op.closed=true)→DrawG P hqf Z k l K e h→AAny P ops q hqf Z (effIdx q) K l.length listed e h
 | [],_,listed,e,h,_,hB,_,H=>⟨by simpa [drawB] using hB,H⟩
 | o::l,k,listed,e,h,hl,hB,hc,H=>by
  have h0:q[k]?=some o:=by simpa using (hl 0).symm
  have hkl:k<q.length:=(List.getElem?_eq_some_iff.1 h0).1;simp only [List.length_cons,drawB,Bool.and_eq_true] at hB;obtain ⟨⟨⟨hr,hf⟩,_⟩,hB'⟩:=hB;have hl':∀ j,l[j]?=q[(k+1)+j]?:=fun j=>by have:=hl (j+1);simpa [Nat.add_assoc,Nat.add_comm 1 j] using this
  have hE:k∈effIdx q↔o.op.simple=true:=by
   simp only [effIdx,List.mem_filter,List.mem_range,effAt,h0];exact ⟨fun h=>h.2,fun h=>⟨hkl,h⟩⟩
  have hEj:∀ (j:Nat) (oj:VOper),q[j]?=some oj→(j∈effIdx q↔oj.op.simple=true):=by
   intro j oj hj;have hjl:j<q.length:=(List.getElem?_eq_some_iff.1 hj).1;simp only [effIdx,List.mem_filter,List.mem_range,effAt,hj];exact ⟨fun h=>h.2,fun h=>⟨hjl,h⟩⟩
  refine AAny.first hK hc hlen h0 l.length listed e h ?_ (by simpa using hr) ?_
  ·intro j oj goj hj hgj hjk hun hno;have hjl:j<ops.size:=(Array.getElem?_eq_some_iff.1 hgj).1;simp only [freeB,List.all_eq_true,List.mem_range] at hf;have hfj:=hf j hjl;rw [h0,hj,hun] at hfj;simp only [hno,Bool.or_false,Bool.or_eq_true,beq_iff_eq,Bool.and_eq_true,Bool.not_eq_true',Bool.and_eq_false_iff] at hfj;rcases hfj with hfj|hfj
   ·exact absurd hfj hjk
   ·obtain ⟨⟨g1,g2⟩,g3⟩:=hfj;refine ⟨g1,fun ⟨x1,x2⟩=>?_,fun x1=>?_⟩
    ·rw [hE] at x1;rw [hEj j oj hj] at x2;rcases g2 with g2|g2
     ·rw [x1] at g2;cases g2
     ·rw [x2] at g2;cases g2
    ·have x1':=hE.1 x1;refine ⟨x1',?_⟩;rcases g3 with g3|g3
     ·rw [x1'] at g3;cases g3
     ·rw [g3];rfl
  ·have ih : ∀ e' h', DrawG P hqf Z (k + 1) l K e' h' → AAny P ops q hqf Z (effIdx q) K l.length (listed.setIfInBounds k true) e' h' :=
    fun e' h' H'=>lex_sound hK hlen l (k+1) _ e' h' hl' hB' hc H'
   have hq2:∀ c,gOf o e c→QW P (hqf k) e o.op c (fun v=>DrawG P hqf Z (k+1) l K (e.put o.dst v) h)→o.op.simple=false→AStep P hqf Z (effIdx q) k o e h (AAny P ops q hqf Z (effIdx q) K l.length (listed.setIfInBounds k true)):=by
    intro c hg hQ hs;have hnE:k ∉ effIdx q:=fun hh=>by have:=hE.1 hh;rw [hs] at this;cases this
    refine (AStep_q hnE).2 ⟨c,hg,?_⟩;unfold QW at hQ;split at hQ
    ·rename_i hd;exact ⟨_,fun hh=>det_quiet hd (hQ.1 hh),ih _ _ hQ.2⟩
    ·obtain ⟨v,v1,v2⟩:=hQ;exact ⟨v,v1,ih _ _ v2⟩
   simp only [DrawG] at H;split at H
   ·rename_i hs hg;exact (AStep_E (hE.2 hs)).2 ⟨hg,H.mono fun v h' kk=>⟨kk.1,ih _ _ kk.2⟩⟩
   ·exact H.elim
   ·rename_i hs hg;exact hq2 true (by simp [gOf,hg]) H hs
   ·rename_i hs hg;split at H
    ·rename_i c hgc;exact hq2 c (by simp [gOf,hg,hgc]) H hs
    ·exact H.elim
theorem keep_eqv {e e':Env} (h:e.eqv e'):∀ (l:List Nat),Env.keep l e=Env.keep l e'
 | []=>rfl
 | t::l=>by simp only [Env.keep];rw [h t,keep_eqv h l]
theorem VW_draw {Q:Exit→Env→Heap→Prop} {e:Env} {h:Heap} (l:List Nat) (hq:Heap) (hl:hq.le h) (H:Zbm P hq q (fun e' h'=>Q .normal (Env.keep l e') h') e h):VW P N (.region q true) Q e h:=by
 intro c hc;cases c
 case region id ops draw =>
  obtain ⟨p,h3,h'|h'|h'⟩:=Zbd hc
  ·obtain ⟨_,h'⟩:=h';simp at h'
  ·obtain ⟨hd,hB,h'|h'⟩:=h'
   ·obtain ⟨_,h'⟩:=h';simp only [VC.region.injEq,and_true] at h';subst h';subst hd;simp only [Bool.and_eq_true] at hB;obtain ⟨hm,hB⟩:=hB;obtain ⟨hlen,_⟩:=cOpers_get h3;rw [Array.length_toList] at hlen;have hcl:∀ o∈q,o.op.closed=true:=by
     cases q with
     | nil=>intro o ho;cases ho
     | cons x xs =>
      rw [hlen] at hB;simp only [List.length_cons,drawB,Bool.and_eq_true] at hB;exact fun o ho=>List.all_eq_true.1 hB.1.2 o ho
    intro g w a r he hd hs;refine wpIn_region_any hm ?_;have hany:=lex_sound (P:=P) (K:=fun e' h'=>Q .normal (Env.keep l e') h') (fun e1 e2 h1 hee hk=>by have hk':Q .normal (Env.keep l e1) h1:=hk;rw [keep_eqv hee l] at hk';exact hk') hlen q 0 (Array.replicate ops.size false) e h (fun j=>by simp) (by rw [← hlen];exact hB) hcl H.toG;rw [← hlen] at hany;exact any_sound (N:=N) h3 (fun _ h=>hq.le h) (fun _ _ _ _ hi _ _ _=>.inl hi) (fun _ _ _ hi _ _=>hi) (fun _ _ _ _ _ _ _ hz=>hz) (Q:=fun x a' w'=>∃ g' e' h',Q x e' h'∧Rel g' w' h'∧Zah g' a' e'∧N.dok x a'.defers h'∧a'.tmps.size=N.n∧Evo g w h g' w' h') (g0:=g) (w0:=w) (h0:=h)
     (fun g' w' h' a' e' k1 k2 k3 k4 k5 k6=>⟨g',_,h',k1,k2,k3.keep l,k4,k5,k6⟩) _ _ e h hany hl g _ a (r.drew _) he hd hs (Evo.drew _ _ _ _)
   ·cases h'
  ·obtain ⟨c,h'⟩:=h';cases h'
 all_goals
  simp only [Za7,Option.map_eq_some_iff] at hc
  first
  |(simp at hc;done)
  |(split at hc<;>simp at hc)
theorem behind_listed {listed : Array Bool} (hdown : ∀ (j : Nat) (o : Oper), listed[j]? = some true → ops[j]? = some o → ∀ x ∈ o.after, Region.binds .any x = true → listed[x.on]? = some true) {i : Nat} :
  ∀ (f j:Nat),Zav ops (Array.replicate ops.size false) f i j=true→listed[j]?=some true→listed[i]?=some true
 | 0,_,h,_=>by cases h
 | f+1,j,h,hj=>by
  simp only [Zav] at h;split at h
  ·rename_i o ho;rw [Array.any_eq_true'] at h;obtain ⟨x,hx,hxx⟩:=h;simp only [Bool.and_eq_true,Bool.or_eq_true,beq_iff_eq] at hxx;have h1:=hdown j o hj ho x hx hxx.1;rcases hxx.2 with h3|⟨_,h4⟩
   ·rw [← h3];exact h1
   ·exact behind_listed hdown f x.on h4 h1
  ·cases h
def hq3 (q:List VOper) (late:List Bool) (big mid small:Heap) (i:Nat):Heap :=
 if late.getD i false then big else if (match q[i]? with|some o=>o.op.isIaddr|none=>false) then mid else small
def zed3 (q:List VOper) (big mid small:Heap) (i:Nat) (h h':Heap):Prop:=small.le h'∧(Zax q i=false→big.le h→big.le h')∧(Shp mid h→Shp mid h')
theorem VW_draw2 {Q : Exit → Env → Heap → Prop} {e : Env} {h : Heap} {late : List Bool} (l : List Nat) (big mid small : Heap) (hl : big.le h) (hls : small.le h) (hm : Shp mid h)
  (H:DrawG P (hq3 q late big mid small) (zed3 q big mid small) 0 q (fun e' h'=>Q .normal (Env.keep l e') h') e h):VW P N (.draw2 q late) Q e h:=by
 intro c hc;cases c
 case region id ops draw =>
  obtain ⟨p,h3,h'|h'|h'⟩:=Zbd hc
  ·obtain ⟨_,h'⟩:=h';cases h'
  ·obtain ⟨hd,hB,h'|h'⟩:=h'
   ·obtain ⟨_,h'⟩:=h';cases h'
   ·simp only [VC.draw2.injEq] at h';obtain ⟨h5,h6⟩:=h';subst h5;subst hd;simp only [Bool.and_eq_true] at hB;obtain ⟨hmm,hB⟩:=hB;have hm0:=hm;obtain ⟨hlen,_⟩:=cOpers_get h3;rw [Array.length_toList] at hlen;have hcl:∀ o∈q,o.op.closed=true:=by
     cases q with
     | nil=>intro o ho;cases ho
     | cons x xs =>
      rw [hlen] at hB;simp only [List.length_cons,drawB,Bool.and_eq_true] at hB;exact fun o ho=>List.all_eq_true.1 hB.1.2 o ho
    have hlate:∀ i,late.getD i false=true→∀ j,Zax q j=true→Zav ops (Array.replicate ops.size false) ops.size i j=true:=by
     intro i hi j hj;have hjl:j<ops.size:=by
      unfold Zax at hj;split at hj
      ·rename_i o ho;have:=(List.getElem?_eq_some_iff.1 ho).1;omega
      ·cases hj
     rw [h6] at hi;simp only [lateL,List.getD_eq_getElem?_getD,List.getElem?_map] at hi;cases hr:(List.range ops.size)[i]? with
     | none=>rw [hr] at hi;simp at hi
     | some k =>
      rw [hr] at hi;have hk:k=i:=by
       obtain ⟨_,h9⟩:=List.getElem?_eq_some_iff.1 hr
       simpa using h9.symm
      subst hk;simp only [Option.map_some,Option.getD_some,lateB,List.all_eq_true,List.mem_range] at hi;have:=hi j hjl
      simpa [hj] using this
    intro g w a r he hd hs;refine wpIn_region_any hmm ?_;have hany:=lex_sound (P:=P) (K:=fun e' h'=>Q .normal (Env.keep l e') h') (fun e1 e2 h1 hee hk=>by have hk':Q .normal (Env.keep l e1) h1:=hk;rw [keep_eqv hee l] at hk';exact hk') hlen q 0 (Array.replicate ops.size false) e h (fun j=>by simp) (by rw [← hlen];exact hB) hcl H;rw [← hlen] at hany;have hset:∀ (listed:Array Bool) (i j:Nat),(listed.setIfInBounds i true).getD j true=false→listed.getD j true=false∧i≠j:=by
     intro listed i j hj;by_cases hij:i=j
     ·subst hij;rcases Nat.lt_or_ge i listed.size with h'|h'
      ·simp [Array.getD,h'] at hj
      ·simp [Array.getD,Nat.not_lt.2 h'] at hj
     ·rw [getD_set_ne true hij] at hj;exact ⟨hj,hij⟩
    have hdown : ∀ (listed : Array Bool) (i : Nat), i ∈ Region.ready .any ops listed → (∀ (j : Nat) (o : Oper), listed[j]? = some true → ops[j]? = some o → ∀ x ∈ o.after, Region.binds .any x = true → listed[x.on]? = some true) →
      ∀ (j:Nat) (o:Oper),(listed.setIfInBounds i true)[j]?=some true→ops[j]?=some o→∀ x∈o.after,Region.binds .any x=true→(listed.setIfInBounds i true)[x.on]?=some true:=by
     intro listed i hi i2 j o hj ho x hx hb;have keep:∀ (k:Nat),listed[k]?=some true→(listed.setIfInBounds i true)[k]?=some true:=by
      intro k hk;rw [Array.getElem?_setIfInBounds];split
      ·rename_i hik;subst hik;have:=(Array.getElem?_eq_some_iff.1 hk).1;simp [this]
      ·exact hk
     by_cases hij:i=j
     ·subst hij;obtain ⟨_,o',ho',hall⟩:=mem_ready.1 hi;rw [ho] at ho';simp only [Option.some.injEq] at ho';subst ho';refine keep _ ?_;have h8:=hall x hx hb;rcases Nat.lt_or_ge x.on listed.size with h7|h7
      ·simp [Array.getD,h7] at h8;simp [h7,h8]
      ·simp [Array.getD,Nat.not_lt.2 h7] at h8
     ·rw [Array.getElem?_setIfInBounds_ne hij] at hj;exact keep _ (i2 j o hj ho x hx hb)
    refine any_sound (N:=N) h3 (fun listed h=>(small.le h∧listed.size=ops.size)∧(∀ (j:Nat) (o:Oper),listed[j]?=some true→ops[j]?=some o→∀ x∈o.after,Region.binds .any x=true→listed[x.on]?=some true)∧((∀ j,Zax q j=true→listed.getD j true=false)→big.le h)∧Shp mid h) ?_ ?_ ?_ (Q:=fun x a' w'=>∃ g' e' h',Q x e' h'∧Rel g' w' h'∧Zah g' a' e'∧N.dok x a'.defers h'∧a'.tmps.size=N.n∧Evo g w h g' w' h') (g0:=g) (w0:=w) (h0:=h)
     (fun g' w' h' a' e' k1 k2 k3 k4 k5 k6=>⟨g',_,h',k1,k2,k3.keep l,k4,k5,k6⟩) _ _ e h hany ⟨⟨hls,by simp⟩,fun j o hj=>by (simp [Array.getElem?_replicate] at hj),fun _=>hl,hm0⟩ g _ a (r.drew _) he hd hs (Evo.drew _ _ _ _)
    ·rintro listed h' i vo ⟨⟨i1,i0⟩,i2,i3,i4⟩ hi _ hvo;simp only [hq3,hvo];split
     ·rename_i hli;refine .inl (i3 fun j hj=>?_);have hb:=hlate i hli j hj;have hi0:=(mem_ready.1 hi).1;have hjl':j<ops.size:=by
       unfold Zax at hj;split at hj
       ·rename_i o ho;have:=(List.getElem?_eq_some_iff.1 ho).1;omega
       ·cases hj
      cases hjl:listed.getD j true with
      | false=>rfl
      | true =>
       exfalso
       have hjs:listed[j]?=some true:=by
        have h7:j<listed.size:=by omega
        simp [Array.getD,h7] at hjl;simp [h7,hjl]
       have:=behind_listed i2 ops.size j hb hjs;rcases Nat.lt_or_ge i listed.size with h7|h7
       ·simp [Array.getD,h7] at hi0;simp [h7,hi0] at this
       ·simp [Array.getElem?_eq_none h7] at this
     ·split
      ·rename_i hia;exact .inr ⟨hia,i4⟩
      ·exact .inl i1
    ·rintro listed h' i ⟨⟨i1,i0⟩,i2,i3,i4⟩ hi _;exact ⟨⟨i1,by simpa using i0⟩,hdown listed i hi i2,(fun hw=>i3 fun j hj=>(hset listed i j (hw j hj)).1),i4⟩
    ·rintro listed h' i h'' ⟨⟨i1,i0⟩,i2,i3,i4⟩ hi _ ⟨z1,z2,z3⟩;refine ⟨⟨z1,by simpa using i0⟩,hdown listed i hi i2,(fun hw=>?_),z3 i4⟩;refine z2 ?_ (i3 fun j hj=>(hset listed i j (hw j hj)).1);cases hwi:Zax q i with
     | false=>rfl
     | true=>exact absurd rfl (hset listed i i (hw i hwi)).2
  ·obtain ⟨c,h'⟩:=h';cases h'
 all_goals
  simp only [Za7,Option.map_eq_some_iff] at hc
  first
  |(simp at hc;done)
  |(split at hc<;>simp at hc)
theorem Zbs {Q:Exit→Env→Heap→Prop} {e:Env} {h:Heap} (l:List Nat) (hl:h.le h) (H:Zbm P h q (fun e' h'=>Q .normal (Env.keep l e') h') e h):VW P N (.region q true) Q e h:=VW_draw l h hl H
end
end Go.VM
namespace Go.VM
open Go
end Go.VM
namespace Go.VM
open Go
def KnownW1 (W:World):Prop:=(∀ b l,known.lookup b=some l→(∃ t fr,W.heap[b]?=some (.cells l.toArray t fr))∧∀ v∈l,v.oneCell'=true)∧∀ b k,knownG.lookup b=some k→∃ v,W.cell? ⟨b,0,none⟩=some v∧v.oneCell'=true∧k.fits v
def Zbp (W:World):Prop:=KnownW1 W∧KsOf fun b o=>match W.cell? ⟨b,o,none⟩ with|some v=>if v.oneCell'=true then some v else none|none=>none
noncomputable def g0 (W:World):Gh:=by
 classical
 exact if hk:Zbp W then ⟨⟨fun b o=>match W.cell? ⟨b,o,none⟩ with|some v=>if v.oneCell'=true then some v else none|none=>none,fun b=>(known.lookup b).map fun l=>.cells l.toArray,fun b l hl=>by
  obtain ⟨⟨t,fr,h1⟩,h3⟩:=hk.1.1 b l hl;refine ⟨by rw [hl];rfl,fun j hj=>?_⟩;have hc:W.cell? ⟨b,j,none⟩=some l[j]:=by
   rw [World.cell?,h1];simp [hj]
  have hd:l.getD j Go.undef=l[j]:=by simp [List.getD,hj]
  rw [hc,hd];simp only;rw [if_pos (h3 _ (List.getElem_mem hj))],fun b k hb=>by
  obtain ⟨v,h1,h2,h3⟩:=hk.1.2 b k hb;exact ⟨v,by rw [h1];simp only;rw [if_pos h2],h3⟩,hk.2⟩,fun _=>none⟩
 else ⟨⟨df0,fun b=>(known.lookup b).map fun l=>.cells l.toArray,fun b l hl=>⟨by rw [hl];rfl,fun j hj=>by unfold df0;rw [hl];simp [List.getD,hj]⟩,fun b k hb=>⟨k.dflt,by unfold df0;rw [knownG_apart hb];simp only [];rw [hb],k.dflt_fits⟩,df0_ks⟩,fun _=>none⟩
theorem g0_c {W:World} (hk:Zbp W) (b o:Nat):(g0 W).m b o=match W.cell? ⟨b,o,none⟩ with|some v=>if v.oneCell'=true then some v else none|none=>none:=by unfold g0;rw [dif_pos hk]
theorem g0_mm (W:World) (b:Nat):(g0 W).m.mm b=(known.lookup b).map fun l=>.cells l.toArray:=by unfold g0;split<;>rfl
theorem g0_β (W:World) (i:Nat):(g0 W).β i=none:=by unfold g0;split<;>rfl
theorem g0_m {W:World} (hk:Zbp W) {b o:Nat} {v:Value} (h:W.cell? ⟨b,o,none⟩=some v) (h1:v.oneCell'=true):(g0 W).m b o=some v:=by simp [g0_c hk,h,h1]
theorem g0_rel (W:World) (hk:Zbp W):Rel (g0 W) W Heap.nil:=by
 refine ⟨fun b o v h=>?_,fun b e h=>?_,fun i _=>⟨g0_β W i,rfl⟩,fun id ab h=>by simp [Heap.get,HL.get,Heap.nil] at h,fun id id' x x' ab ab' _ h=>by simp [Heap.get,HL.get,Heap.nil] at h⟩
 ·rw [g0_c hk] at h;split at h
  ·rename_i u hu;split at h
   ·simp only [Option.some.injEq] at h;subst h;exact ⟨hu,‹_›⟩
   ·cases h
  ·cases h
 ·rw [g0_mm] at h;simp only [Option.map_eq_some_iff] at h;obtain ⟨l,hl,rfl⟩:=h;exact (hk.1.1 _ _ hl).1
def CRep (g:Gh) (cs:List Value) (ps:List PV):Prop:=cs.length=ps.length∧∀ j,j<ps.length→(cs.getD j Go.undef).oneCell'=true∧Rep g (cs.getD j Go.undef) (PV.nth ps j)
theorem CRep.one {g:Gh} {v:Value} {p:PV} (h1:v.oneCell'=true) (h:Rep g v p):CRep g [v] [p]:=by
 refine ⟨rfl,fun j hj=>?_⟩;obtain rfl:j=0:=by simpa using hj
 exact ⟨h1,h⟩
theorem CRep.nil {g:Gh}:CRep g [] []:=⟨rfl,fun j hj=>by simp at hj⟩
theorem CRep.append {g:Gh} {a b:List Value} {p q:List PV} (h:CRep g a p) (k:CRep g b q):CRep g (a++b) (p++q):=by
 refine ⟨by simp [h.1,k.1],fun j hj=>?_⟩;simp only [PV.nth,List.getD_eq_getElem?_getD];by_cases hlt:j<p.length
 ·rw [List.getElem?_append_left (by rw [h.1];exact hlt),List.getElem?_append_left hlt];have:=h.2 j hlt
  simpa [PV.nth,List.getD_eq_getElem?_getD] using this
 ·rw [List.getElem?_append_right (by rw [h.1];omega),List.getElem?_append_right (by omega),h.1];have:=k.2 (j-p.length) (by simp at hj;omega)
  simpa [PV.nth,List.getD_eq_getElem?_getD] using this
structure Reads (P : Program) (W : World) (n : Nat) (t : TypeId) {α : Type} (ok : α → Prop) (enc : α → List PV) : Prop where
 run : ∀ (_ : Zbp W) (H : Type) (en : TypeId × Value → H) (base : Nat) (spare : Nat → Bool) (held : Bool) (cs : List Value) (x : DataW H × List MemPlace), DataW.trod en P W base spare held n t cs = some x → ∃ a, ok a ∧ CRep (g0 W) cs (enc a)
section
variable {P : Program} {W : World} {n : Nat} {t : TypeId}
theorem Reads.map {α β:Type} {ok:α→Prop} {enc:α→List PV} {ok':β→Prop} {enc':β→List PV} (f:α→β) (h:Reads P W n t ok enc) (ho:∀ a,ok a→ok' (f a)) (he:∀ a,enc' (f a)=enc a):Reads P W n t ok' enc':=by
 constructor;intro hk H en base spare held cs x hx;obtain ⟨a,h1,h2⟩:=h.run hk H en base spare held cs x hx;exact ⟨f a,ho a h1,by rw [he];exact h2⟩
theorem reads_zero {α:Type} {ok:α→Prop} {enc:α→List PV}:Reads P W 0 t ok enc:=by
 constructor;intro hk H en base spare held cs x hx;simp [DataW.trod] at hx
theorem reads_int {k:IntKind} (ht:P.underlying t=some (.int k)):Reads P W n t (fun a:Int=>(Lit.int k a).wf=true) (fun a=>[.int k a]):=by
 constructor;intro hk H en base spare held cs x hx;cases n with
 | zero=>simp [DataW.trod] at hx
 | succ n =>
  unfold DataW.trod at hx;rw [ht] at hx;split at hx<;>try (simp_all;done)
  rename_i k0 k' m heq;simp only [Option.some.injEq,TypeDesc.int.injEq] at heq;subst heq;split at hx
  case isFalse=>cases hx
  rename_i hc;obtain ⟨rfl,hw⟩:=hc;exact ⟨m,hw,CRep.one rfl (.int _ _)⟩
structure FReads (P : Program) (W : World) (n : Nat) (fs : List Field) (o : Nat) {α : Type} (ok : α → Prop) (enc : α → List PV) : Prop where
 run : ∀ (_ : Zbp W) (H : Type) (en : TypeId × Value → H) (base : Nat) (spare : Nat → Bool) (held : Bool) (cs : List Value),
  (∀ f ∈ fs, ∃ x, DataW.trod en P W base spare held n f.type ((cs.drop f.offset).take (P.cellsOf f.type)) = some x) → ∃ a, ok a ∧ CRep (g0 W) ((cs.drop o).take (enc a).length) (enc a)
theorem freads_nil {o:Nat}:FReads P W n [] o (fun _:Unit=>True) (fun _=>[]):=⟨fun _ _ _ _ _ _ _ _=>⟨(),trivial,by simpa using CRep.nil⟩⟩
theorem freads_cons {f:Field} {fs:List Field} {o z:Nat} {α β:Type} {ok:α→Prop} {enc:α→List PV} {ok':β→Prop} {enc':β→List PV} (h:Reads P W n f.type ok enc) (hz:P.cellsOf f.type=z) (hl:∀ a,(enc a).length=z) (ho:f.offset=o) (k:FReads P W n fs (o+z) ok' enc'):FReads P W n (f::fs) o (fun x:α×β=>ok x.1∧ok' x.2) (fun x=>enc x.1++enc' x.2):=by
 constructor;intro hk H en base spare held cs hall;obtain ⟨x,hx⟩:=hall f (by simp);obtain ⟨a,a1,a2⟩:=h.run hk H en base spare held _ x hx;obtain ⟨b,b1,b2⟩:=k.run hk H en base spare held cs (fun g hg=>hall g (by simp [hg]));refine ⟨(a,b),⟨a1,b1⟩,?_⟩;rw [ho,hz] at a2;have:=a2.append b2;rw [← List.drop_drop] at this;have e1:(enc a++enc' b).length=z+(enc' b).length:=by simp [hl]
 simp only [e1];rw [List.take_add];exact this
theorem reads_struct {fs : Array Field} {l : List Field} {z : Nat} {α : Type} {ok : α → Prop} {enc : α → List PV} (ht : P.underlying t = some (.struct fs)) (hfl : fs.toList = l) (hz : P.cellsOf t = z)
  (h:FReads P W n l 0 ok enc) (hl:∀ a,(enc a).length=z):Reads P W (n+1) t ok enc:=by
 constructor;intro hk H en base spare held cs x hx;obtain ⟨xs,m,hm,rfl,hlen,hxs,hread⟩:=DataW.trod_struct ht hx;obtain rfl:n=m:=by omega
 obtain ⟨a,a1,a2⟩:=h.run hk H en base spare held cs (fun f hf=>by
  rw [← hfl] at hf;obtain ⟨i,hi,e⟩:=List.getElem_of_mem hf;have hi':i<fs.size:=by simpa using hi
  have:=hread i f (by rw [← e];simp [hi']);rw [List.getElem?_eq_getElem (by rw [hxs];exact hi')] at this;exact ⟨_,this⟩)
 refine ⟨a,a1,?_⟩;rw [hl,List.drop_zero,List.take_of_length_le (by rw [hlen,hz];exact Nat.le_refl _)] at a2;exact a2
theorem Reads.agg (hk : Zbp W) {α : Type} {ok : α → Prop} {enc : α → List PV} {H : Type} {en : TypeId × Value → H} {base : Nat} {spare : Nat → Bool} {held : Bool} {vs : Array Value} {d : DataW H} {ps : List MemPlace}
  (h:∀ n,Reads P W n t ok enc) (hd:DataW.Trod en P W base spare held t (.agg vs) d ps):∃ a,ok a∧Rep (g0 W) (.agg vs) (.agg (enc a)):=by
 obtain ⟨fuel,hx⟩:=hd;obtain ⟨a,a1,a2,a3⟩:=(h fuel).run hk H en base spare held _ _ hx;simp only [Value.cells] at a2 a3;refine ⟨a,a1,.agg _ _ (by simpa using a2) (fun j hj=>?_) (fun j hj=>?_)⟩
 ·have:=(a3 j hj).1;simpa [Array.getD_eq_getD_getElem?] using this
 ·have:=(a3 j hj).2;simpa [Array.getD_eq_getD_getElem?] using this
theorem Reads.one (hk : Zbp W) {α : Type} {ok : α → Prop} {enc : α → PV} {H : Type} {en : TypeId × Value → H} {base : Nat} {spare : Nat → Bool} {held : Bool} {v : Value} {d : DataW H} {ps : List MemPlace}
  (h:∀ n,Reads P W n t ok (fun a=>[enc a])) (hv:v.cells=#[v]) (hd:DataW.Trod en P W base spare held t v d ps):∃ a,ok a∧Rep (g0 W) v (enc a):=by
 obtain ⟨fuel,hx⟩:=hd;obtain ⟨a,a1,a2,a3⟩:=(h fuel).run hk H en base spare held _ _ hx;rw [hv] at a3;exact ⟨a,a1,(a3 0 (by simp)).2⟩
end
theorem cells_int {P:Program} {W:World} {t:TypeId} {r:Reach} {b':Nat} {v:Value} {k:IntKind} (ht:P.underlying t=some (.int k)) (hv:Value.okWide P W r b' t v):v.cells=#[v]:=by
 unfold Value.okWide at hv;rw [ht] at hv;cases v<;>first|rfl|(exfalso;simp [Cell.okWide,Cell.ok,ht] at hv)
theorem cells_slice {P:Program} {W:World} {t e:TypeId} {r:Reach} {b':Nat} {v:Value} (ht:P.underlying t=some (.slice e)) (hv:Value.okWide P W r b' t v):v.cells=#[v]:=by
 unfold Value.okWide at hv;rw [ht] at hv;cases v<;>first|rfl|(exfalso;simp [Cell.okWide,Cell.ok,ht] at hv)
theorem reads_arg1 {P : Program} {W : World} (hk : Zbp W) {params : Array TypeId} {args : Array Value} {base : Nat} (hval : ∀ (j : Nat) t v, params[j]? = some t → args[j]? = some v → Value.okWide P W .any base t v) (j : Nat) {t : TypeId} {v : Value} (h1 : params[j]? = some t) (h2 : args[j]? = some v)
  {α:Type} {ok:α→Prop} {enc:α→PV} {H:Type} {en:TypeId×Value→H} {b':Nat} {spare:Nat→Bool} {held:Bool} {d:DataW H} {ps:List MemPlace}
  (hc:Value.okWide P W .any base t v→v.cells=#[v]) (h:∀ n,Reads P W n t ok (fun a=>[enc a])) (hd:DataW.Trod en P W b' spare held t v d ps):∃ a,ok a∧Rep (g0 W) v (enc a) :=
 Reads.one hk h (hc (hval j t v h1 h2)) hd
section
variable {H : Type} {enc : TypeId × Value → H} {P : Program}
theorem trodAll_below (hl : laidOutB P = true) {W W' : World} (hb : RowKit.Below W.heap.size W W') : ∀ {ts : List TypeId} {vs : List Value} {ds : List (DataW H)} {ps : List MemPlace}, (∀ t ∈ ts, P.readableRec t = true ∧ t < P.types.size) →
  DataW.TrodAll enc P W 0 (fun _=>true) true ts vs ds ps→(∀ x∈ps,x.block<W.heap.size)→DataW.TrodAll enc P W' 0 (fun b=>decide (b<W.heap.size)) true ts vs ds ps
 | [],[],[],ps,_,h,_=>h
 | t::ts,v::vs,d::ds,ps,hts,h,hlt=>by
  obtain ⟨p,q,h1,h2,rfl⟩:=h;refine ⟨p,q,RowKit.Below.trod hl (hts t (by simp)).1 (hts t (by simp)).2 h1 hb (fun x hx=>hlt x (by simp [hx])),trodAll_below hl hb (fun t ht=>hts t (by simp [ht])) h2 (fun x hx=>hlt x (by simp [hx])),rfl⟩
 | [],_::_,_,_,_,h,_=>h.elim
 | [],[],_::_,_,_,h,_=>h.elim
 | _::_,[],_,_,_,h,_=>h.elim
 | _::_,_::_,[],_,_,h,_=>h.elim
theorem post_below {f : Func} {s : ChangeSpec} {W W' : World} {args : Array Value} {ds gs : List (DataW H)} {before : List MemPlace} {bt : TypeId} (hlaid : laidOutB P = true) (hts : ∀ t ∈ f.params.toList, P.readableRec t = true ∧ t < P.types.size)
  (hrt:f.resultTypes=#[bt]) (hbt:P.underlying bt=some .bool) (hv:s.vars=[]) (h1:(s.fn H (ds++gs)).results=[.lit (.bool true)]) (h2:(s.fn H (ds++gs)).args=ds) (h3:(s.fn H (ds++gs)).vars=[])
  (hW:DataW.Whole enc P f.params.toList s.vars false W args.toList ds gs before) (hb:RowKit.Below W.heap.size W W'):s.post enc P f false true false false W args (.bool true) W':=by
 have hW':=hW;obtain ⟨p,q,hA,hV,rfl,hfz,hnd⟩:=hW;rw [hv] at hV;obtain ⟨rfl,rfl⟩:=ChangeShapes.trodVars_none hV;refine ⟨ds,[],p++[],[],p,[],hW',?_,?_,?_,hb.frame _,fun h=>by cases h⟩
 ·rw [h1,hrt];exact trodAll_cons_mk (RowKit.shut_bool hbt _) ChangeShapes.trodAll_mk0
 ·rw [h2];exact trodAll_below hlaid hb hts hA (fun x hx=>hW'.lt x (by simp [hx]))
 ·rw [h3,hv];exact rfl
end
end Go.VM
namespace Go.VM
open Go
abbrev Str:=List UInt8
def i64 (n:Int):Prop:=(Lit.int .i64 n).wf=true
def okS (s:Str):Prop:=s.length≤maxLen
def okL {α:Type} (ok:α→Prop) (l:List α):Prop:=l.length≤maxLen∧∀ a∈l,ok a
abbrev pI (n:Int):PV:=.int .i64 n
structure Wd where
 text : Str
 act : Int
 item : Int
 at' : Int
 deriving DecidableEq, Inhabited
def Wd.enc (w:Wd):List PV:=[.str w.text,pI w.act,pI w.item,pI w.at']
def Wd.ok (w:Wd):Prop:=okS w.text∧i64 w.act∧i64 w.item∧i64 w.at'
inductive Un where
 | mk (act item n kind : Int) (label : Str) (head words : List Wd) (kids : List Un)
 deriving Inhabited
namespace Un
def act:Un→Int|.mk a _ _ _ _ _ _ _=>a
def item:Un→Int|.mk _ a _ _ _ _ _ _=>a
def n:Un→Int|.mk _ _ a _ _ _ _ _=>a
def kind:Un→Int|.mk _ _ _ a _ _ _ _=>a
def label:Un→Str|.mk _ _ _ _ a _ _ _=>a
def head:Un→List Wd|.mk _ _ _ _ _ a _ _=>a
def words:Un→List Wd|.mk _ _ _ _ _ _ a _=>a
def kids:Un→List Un|.mk _ _ _ _ _ _ _ a=>a
mutual
def enc : Un → List PV
 | .mk a i n k l h w ks => [pI a, pI i, pI n, pI k, .str l, .sl 4 (h.map Wd.enc), .sl 4 (w.map Wd.enc), .sl 8 (encs ks)]
def encs : List Un → List (List PV)
 | [] => []
 | u :: r => enc u :: encs r
end
theorem encs_map:∀ l:List Un,encs l=l.map enc
 | []=>rfl
 | u::r=>by simp only [encs,List.map_cons,encs_map r]
theorem Zay (u:Un):u.enc=[pI u.act,pI u.item,pI u.n,pI u.kind,.str u.label,.sl 4 (u.head.map Wd.enc),.sl 4 (u.words.map Wd.enc),.sl 8 (u.kids.map Un.enc)]:=by
 cases u;simp only [enc,encs_map];rfl
inductive ok : Un → Prop
 | mk (u : Un) (h1 : i64 u.act) (h2 : i64 u.item) (h3 : i64 u.n) (h4 : i64 u.kind) (h5 : okS u.label) (h6 : okL Wd.ok u.head) (h7 : okL Wd.ok u.words) (h8 : u.kids.length ≤ maxLen) (h9 : ∀ k ∈ u.kids, ok k) : ok u
end Un
structure St where
 kind : Int
 label : Str
 deriving DecidableEq, Inhabited
def St.enc (s:St):List PV:=[pI s.kind,.str s.label]
def St.ok (s:St):Prop:=i64 s.kind∧okS s.label
structure Sta where
 kind : Int
 day : Int
 Zb2 : Str
 deriving DecidableEq, Inhabited
def Sta.enc (s:Sta):List PV:=[pI s.kind,pI s.day,.str s.Zb2]
def Sta.ok (s:Sta):Prop:=i64 s.kind∧i64 s.day∧okS s.Zb2
inductive It where
 | mk (kind : Int) (at' to : List St) (wher nth : Int) (unit : Un) (old new : List Str) (label forr : Str) (start : Sta) (act item day : Int) (Zb2 : Str) (by' : List It)
 deriving Inhabited
namespace It
def kind:It→Int|.mk a _ _ _ _ _ _ _ _ _ _ _ _ _ _ _=>a
def at':It→List St|.mk _ a _ _ _ _ _ _ _ _ _ _ _ _ _ _=>a
def to:It→List St|.mk _ _ a _ _ _ _ _ _ _ _ _ _ _ _ _=>a
def wher:It→Int|.mk _ _ _ a _ _ _ _ _ _ _ _ _ _ _ _=>a
def nth:It→Int|.mk _ _ _ _ a _ _ _ _ _ _ _ _ _ _ _=>a
def unit:It→Un|.mk _ _ _ _ _ a _ _ _ _ _ _ _ _ _ _=>a
def old:It→List Str|.mk _ _ _ _ _ _ a _ _ _ _ _ _ _ _ _=>a
def new:It→List Str|.mk _ _ _ _ _ _ _ a _ _ _ _ _ _ _ _=>a
def label:It→Str|.mk _ _ _ _ _ _ _ _ a _ _ _ _ _ _ _=>a
def forr:It→Str|.mk _ _ _ _ _ _ _ _ _ a _ _ _ _ _ _=>a
def start:It→Sta|.mk _ _ _ _ _ _ _ _ _ _ a _ _ _ _ _=>a
def act:It→Int|.mk _ _ _ _ _ _ _ _ _ _ _ a _ _ _ _=>a
def item:It→Int|.mk _ _ _ _ _ _ _ _ _ _ _ _ a _ _ _=>a
def day:It→Int|.mk _ _ _ _ _ _ _ _ _ _ _ _ _ a _ _=>a
def Zb2:It→Str|.mk _ _ _ _ _ _ _ _ _ _ _ _ _ _ a _=>a
def by':It→List It|.mk _ _ _ _ _ _ _ _ _ _ _ _ _ _ _ a=>a
def strs (l:List Str):PV:=.sl 1 (l.map fun s=>[.str s])
mutual
def enc : It → List PV
 | .mk k a t w n u o e l f s ac it d ev b => [pI k, .sl 2 (a.map St.enc), .sl 2 (t.map St.enc), pI w, pI n,
   pI u.act, pI u.item, pI u.n, pI u.kind, .str u.label, .sl 4 (u.head.map Wd.enc), .sl 4 (u.words.map Wd.enc), .sl 8 (u.kids.map Un.enc), strs o, strs e, .str l, .str f, pI s.kind, pI s.day, .str s.Zb2, pI ac, pI it, pI d, .str ev, .sl 25 (encs b)]
def encs : List It → List (List PV)
 | [] => []
 | u :: r => enc u :: encs r
end
theorem encs_map:∀ l:List It,encs l=l.map enc
 | []=>rfl
 | u::r=>by simp only [encs,List.map_cons,encs_map r]
theorem Zay (x : It) : x.enc = [pI x.kind, .sl 2 (x.at'.map St.enc), .sl 2 (x.to.map St.enc), pI x.wher, pI x.nth,
      pI x.unit.act,pI x.unit.item,pI x.unit.n,pI x.unit.kind,.str x.unit.label,.sl 4 (x.unit.head.map Wd.enc),.sl 4 (x.unit.words.map Wd.enc),.sl 8 (x.unit.kids.map Un.enc),strs x.old,strs x.new,.str x.label,.str x.forr,
      pI x.start.kind,pI x.start.day,.str x.start.Zb2,pI x.act,pI x.item,pI x.day,.str x.Zb2,.sl 25 (x.by'.map It.enc)]:=by
  cases x;simp only [enc,encs_map];rfl
theorem enc_len (x:It):x.enc.length=25:=by rw [Zay];rfl
inductive ok : It → Prop
 | mk (x : It) (h1 : i64 x.kind) (h2 : okL St.ok x.at') (h3 : okL St.ok x.to) (h4 : i64 x.wher) (h5 : i64 x.nth) (h6 : x.unit.ok) (h7 : okL okS x.old) (h8 : okL okS x.new) (h9 : okS x.label) (h10 : okS x.forr) (h11 : x.start.ok)
   (h12 : i64 x.act) (h13 : i64 x.item) (h14 : i64 x.day) (h15 : okS x.Zb2) (h16 : x.by'.length ≤ maxLen) (h17 : ∀ k ∈ x.by', ok k) : ok x
end It
structure EI where
 act : Int
 item : Int
 day : Int
 it : It
 deriving Inhabited
def EI.enc (e:EI):List PV:=pI e.act::pI e.item::pI e.day::e.it.enc
def EI.ok (e:EI):Prop:=i64 e.act∧i64 e.item∧i64 e.day∧e.it.ok
structure Ac where
 number : Int
 title : Str
 day : Int
 start : Sta
 items : List It
 deriving Inhabited
def Ac.enc (a:Ac):List PV:=[pI a.number,.str a.title,pI a.day,pI a.start.kind,pI a.start.day,.str a.start.Zb2,.sl 25 (a.items.map It.enc)]
def Ac.ok (a:Ac):Prop:=i64 a.number∧okS a.title∧i64 a.day∧a.start.ok∧okL It.ok a.items
structure Gz where
 number : Int
 day : Int
 prior : Str
 acts : List Ac
 deriving Inhabited
def Gz.enc (g:Gz):List PV:=[pI g.number,pI g.day,.str g.prior,.sl 7 (g.acts.map Ac.enc)]
def Gz.ok (g:Gz):Prop:=i64 g.number∧i64 g.day∧okS g.prior∧okL Ac.ok g.acts
structure Sp where
 frm : Int
 to : Int
 deriving DecidableEq, Inhabited
def Sp.enc (s:Sp):List PV:=[pI s.frm,pI s.to]
def Sp.ok (s:Sp):Prop:=i64 s.frm∧i64 s.to
section
variable {P : Program} {W : World}
def fd (nm:String) (ty off:Nat) (tag pkg:String) (bo:Nat) (emb:Bool):Field:={ name:=nm,type:=ty,offset:=off,embedded:=emb,tag:=tag,pkgPath:=pkg,byteOffset:=bo }
end
end Go.VM
namespace Go.VM
open Go
theorem rowm {α:Type} {l:List α} {enc:α→List PV} {k:Nat} (h:k<l.length):(l.map enc).getD k []=enc l[k]:=by
 simp [List.getD_eq_getElem?_getD,h]
theorem w64 {n:Int} (h1:-9223372036854775808≤n) (h2:n≤9223372036854775807):IntKind.i64.wrap n=n:=by
 simp only [IntKind.wrap,IntKind.signed,IntKind.bits];simp;omega
section
variable {P : Program} {f : FuncId} {args : List PV} {h : Heap} {K : PV → Heap → Prop}
end
section
variable {P : Program} {N : FK} {Q : Exit → Env → Heap → Prop} {K : Env → Heap → Prop} {e : Env} {h : Heap} {dst : Option Nat} {op : VOp} {d : Nat} {w : Bool} {r : List VOper}
theorem OpsW_nil:OpsW P [] K e h=K e h:=rfl
theorem OpsW_n:OpsW P (⟨dst,op,none⟩::r) K e h=Zam P e h op (fun v h'=>OpsW P r K (e.put dst v) h'):=rfl
theorem GuardW_true {K:PV→Heap→Prop}:GuardW P e h op true K=Zam P e h op K:=by
 unfold GuardW;cases hp:op.pure
 ·simp
 ·simp only [gd,if_true,true_implies];cases op<;>first|rfl|simp [VOp.pure] at hp
theorem GuardW_false {K:PV→Heap→Prop}:GuardW P e h op false K=K .undef h:=by
 unfold GuardW;cases hp:op.pure
 ·simp
 ·simp [gd]
theorem OpsW_y (hd:e.get d=.bool w):OpsW P (⟨dst,op,some (d,w)⟩::r) K e h=Zam P e h op (fun v h'=>OpsW P r K (e.put dst v) h'):=by
 simp only [OpsW,hd,guardOf,beq_self_eq_true,GuardW_true]
theorem OpsW_x (hd:e.get d=.bool (!w)):OpsW P (⟨dst,op,some (d,w)⟩::r) K e h=OpsW P r K (e.put dst .undef) h:=by
 have:((!w)==w)=false:=by cases w<;>rfl
 simp only [OpsW,hd,guardOf,this,GuardW_false]
theorem OpsW_xt (hd:e.get d=.bool false):OpsW P (⟨dst,op,some (d,true)⟩::r) K e h=OpsW P r K (e.put dst .undef) h:=OpsW_x hd
theorem OpsW_xf (hd:e.get d=.bool true):OpsW P (⟨dst,op,some (d,false)⟩::r) K e h=OpsW P r K (e.put dst .undef) h:=OpsW_x hd
theorem OpsW_u (hd:e.get d=.undef):OpsW P (⟨dst,op,some (d,w)⟩::r) K e h=OpsW P r K (e.put dst .undef) h:=by
 simp only [OpsW,hd,guardOf,GuardW_false]
theorem OpsW_split {X:Bool} (hd:e.get d=.bool X) (H1:X=w→Zam P e h op (fun v h'=>OpsW P r K (e.put dst v) h')) (H0:X=(!w)→OpsW P r K (e.put dst .undef) h):OpsW P (⟨dst,op,some (d,w)⟩::r) K e h:=by
 by_cases hx:X=w
 ·subst hx;rw [OpsW_y hd];exact H1 rfl
 ·have hx':X=(!w):=by cases X<;>cases w<;>simp_all
  subst hx';rw [OpsW_x hd];exact H0 rfl
theorem OpsW.mono {K':Env→Heap→Prop} (hk:∀ e h,K e h→K' e h):∀ {q:List VOper} {e:Env} {h:Heap},OpsW P q K e h→OpsW P q K' e h
 | [],_,_,H=>hk _ _ H
 | ⟨dst,op,none⟩::r,e,h,H=>by
  rw [OpsW_n] at H ⊢;exact Zam.mono (fun _ _ H'=>OpsW.mono hk H') H
 | ⟨dst,op,some (d,w)⟩::r,e,h,H=>by
  simp only [OpsW] at H ⊢;split at H
  ·rename_i c hc;cases c
   ·rw [GuardW_false] at H ⊢;exact OpsW.mono hk H
   ·rw [GuardW_true] at H ⊢;exact Zam.mono (fun _ _ H'=>OpsW.mono hk H') H
  ·exact H.elim
theorem QW_false {hq:Heap} {K:PV→Prop}:QW P hq e op false K=K .undef:=by
 unfold QW;cases op.det
 ·simp [gd]
 ·simp [gd]
theorem DrawW_y {hq : Heap} (hd : e.get d = .bool w) : Zbm P hq (⟨dst, op, some (d, w)⟩ :: r) K e h = (match op.simple with
  | true=>False
  | false=>QW P hq e op true (fun v=>Zbm P hq r K (e.put dst v) h)):=by
 cases hs:op.simple<;>simp only [Zbm,hs,hd,guardOf,beq_self_eq_true]
theorem DrawW_x {hq : Heap} (hd : e.get d = .bool (!w)) : Zbm P hq (⟨dst, op, some (d, w)⟩ :: r) K e h = (match op.simple with
  | true=>False
  | false=>Zbm P hq r K (e.put dst .undef) h):=by
 have:((!w)==w)=false:=by cases w<;>rfl
 cases hs:op.simple<;>simp only [Zbm,hs,hd,guardOf,this,QW_false]
theorem DrawW_u {hq : Heap} (hd : e.get d = .undef) : Zbm P hq (⟨dst, op, some (d, w)⟩ :: r) K e h = (match op.simple with
  | true=>False
  | false=>Zbm P hq r K (e.put dst .undef) h):=by
 cases hs:op.simple<;>simp only [Zbm,hs,hd,guardOf,QW_false]
theorem DrawW_xt {hq : Heap} (hd : e.get d = .bool false) : Zbm P hq (⟨dst, op, some (d, true)⟩ :: r) K e h = (match op.simple with
  | true=>False
  | false=>Zbm P hq r K (e.put dst .undef) h):=DrawW_x hd
theorem DrawW_xf {hq : Heap} (hd : e.get d = .bool true) : Zbm P hq (⟨dst, op, some (d, false)⟩ :: r) K e h = (match op.simple with
  | true=>False
  | false=>Zbm P hq r K (e.put dst .undef) h):=DrawW_x hd
theorem DrawW_nil {hq:Heap}:Zbm P hq [] K e h=K e h:=rfl
theorem DrawW_n {hq : Heap} : Zbm P hq (⟨dst, op, none⟩ :: r) K e h = (match op.simple with
  | true=>Zam P e h op (fun v h'=>hq.le h'∧Zbm P hq r K (e.put dst v) h')
  | false=>QW P hq e op true (fun v=>Zbm P hq r K (e.put dst v) h)):=by
 cases hs:op.simple<;>simp only [Zbm,hs]
theorem VW_seqJ {q:List VOper} {y:VC} {σ:Type} (l:List Nat) (st:σ→Env×Heap) (h1:OpsW P q (fun e' h'=>∃ s,(st s).1.le (Env.keep l e')∧(st s).2.le h') e h) (h2:∀ s,VW P N y Q (st s).1 (st s).2):VW P N (.seq (.region q false) y) Q e h :=
 Zab (Zag l (h1.mono fun _ _ ⟨s,a,b⟩=>VW.weaken a b (h2 s)))
theorem VW.weakenE {c:VC} {e':Env} (he:e'.le e) (H:VW P N c Q e' h):VW P N c Q e h:=fun x hx g w a r er hd hs=>H x hx g w a r (Zah.le he er) hd hs
theorem VW_seqE {q:List VOper} {y:VC} {σ:Type} (l:List Nat) (st:σ→Env) (h1:OpsW P q (fun e' h'=>∃ s,(st s).le (Env.keep l e')∧h'=h) e h) (h2:∀ s,VW P N y Q (st s) h):VW P N (.seq (.region q false) y) Q e h :=
 Zab (Zag l (h1.mono fun _ _ ⟨s,a,b⟩=>by subst b;exact VW.weakenE a (h2 s)))
end
section
variable {P : Program} {N : FK} {Q : Exit → Env → Heap → Prop} {e : Env} {h : Heap}
theorem VW_own0 {c:VC} (t z:Nat) (he:e.get t=.nilsl) (H:VW P N c Q (e.put (some t) (.own h.top 0 0)) (h.push (.arr false z []))):VW P N c Q e h:=by
 intro x hx g w a r hr hd hs;obtain ⟨r1,r2⟩:=r.none none z w rfl rfl rfl rfl;have hr':Zah g a (e.put (some t) (.own h.top 0 0)):=by
  intro k;simp only [Env.put,Env.get];split
  ·rename_i hk;subst hk;have:=hr t;rw [he] at this;generalize a.tmps.getD t Go.undef=v at this;cases this;exact .ownE _ _ _
  ·exact hr k
 refine wpIn_mono (H x hx g w a r1 hr' hd hs) fun ex a' w' ⟨g',e',h',k1,k2,k3,k4,k5,k6⟩=>⟨g',e',h',k1,k2,k3,k4,k5,r2.trans k6⟩
end
section
variable {P : Program} {f : FuncId} {args : List PV} {h : Heap} {K : PV → Heap → Prop}
theorem Zan.drop (H:Zan P f args h (fun p h'=>∃ h0,h0.le h'∧K p h0)):Zan P f args h K :=
 ⟨H.1,fun g w vals r ha=>(H.2 g w vals r ha).mono fun x w' ⟨v,p,g',h',h1,⟨h0,hl,hk⟩,h3,h4,h5⟩=>⟨v,p,g',h0,h1,hk,h3,h4.weaken hl,h5.weakenR hl⟩⟩
end
end Go.VM
namespace Go.VM
open Go
theorem cI (n:Int):Closed (pI n):=Closed.of_scalar (scalar_int _ _)
theorem cS (s:Str):Closed (.str s):=Closed.of_scalar (scalar_str _)
theorem cB (b:Bool):Closed (.bool b):=Closed.of_scalar (scalar_bool _)
theorem closed_fn0 (f:Fn):Closed (.fn f [] []):=fun g v hv=>by
 cases hv with
 | fn _ fs cs _ _ s1 s2 r1 r2=>exact .fn f fs cs [] [] s1 s2 (fun j hj=>by simp at hj) (fun j hj=>by simp at hj)
theorem Zak {α:Type} {z:Nat} {enc:α→List PV} {l:List α} (h:∀ a∈l,∀ x∈enc a,Closed x):Closed (.sl z (l.map enc)) :=
 closed_sl (fun e he x hx=>by obtain ⟨a,ha,rfl⟩:=List.mem_map.1 he;exact h a ha x hx)
theorem Wd.closed (w:Wd):∀ x∈w.enc,Closed x:=by
 intro x hx;simp only [Wd.enc,List.mem_cons,List.not_mem_nil,or_false] at hx;rcases hx with rfl|rfl|rfl|rfl<;>first|exact cS _|exact cI _
theorem St.closed (w:St):∀ x∈w.enc,Closed x:=by
 intro x hx;simp only [St.enc,List.mem_cons,List.not_mem_nil,or_false] at hx;rcases hx with rfl|rfl<;>first|exact cS _|exact cI _
theorem closed_sc (l:List Int):Closed (.sl 1 (l.map fun x=>[pI x])):=Zak (fun a _ x hx=>by simp only [List.mem_cons,List.not_mem_nil,or_false] at hx;subst hx;exact cI _)
theorem Sp.closed (w:Sp):∀ x∈w.enc,Closed x:=by
 intro x hx;simp only [Sp.enc,List.mem_cons,List.not_mem_nil,or_false] at hx;rcases hx with rfl|rfl<;>exact cI _
theorem closed_sps (l:List Sp):Closed (.sl 2 (l.map Sp.enc)):=Zak (fun w _=>w.closed)
theorem closed_strs (l:List Str):Closed (It.strs l):=Zak (fun a _ x hx=>by simp only [List.mem_cons,List.not_mem_nil,or_false] at hx;subst hx;exact cS _)
theorem Un.closed (u:Un):∀ x∈u.enc,Closed x:=by
 rw [Un.Zay];intro x hx;simp only [List.mem_cons,List.not_mem_nil,or_false] at hx;rcases hx with rfl|rfl|rfl|rfl|rfl|rfl|rfl|rfl
 ·exact cI _
 ·exact cI _
 ·exact cI _
 ·exact cI _
 ·exact cS _
 ·exact Zak (fun w _=>w.closed)
 ·exact Zak (fun w _=>w.closed)
 ·exact Zak (fun k hk=>Un.closed k)
termination_by SizeOf.sizeOf u
decreasing_by
 match u,hk with
 | .mk _ _ _ _ _ _ _ ks,hk =>
  have h1:SizeOf.sizeOf k<SizeOf.sizeOf ks:=List.sizeOf_lt_of_mem hk;rw [Un.mk.sizeOf_spec];omega
theorem It.closed (u:It):∀ x∈u.enc,Closed x:=by
 rw [It.Zay];intro x hx;simp only [List.mem_cons,List.not_mem_nil,or_false] at hx;rcases hx with rfl|rfl|rfl|rfl|rfl|rfl|rfl|rfl|rfl|rfl|rfl|rfl|rfl|rfl|rfl|rfl|rfl|rfl|rfl|rfl|rfl|rfl|rfl|rfl|rfl
 all_goals first|exact cI _|exact cS _|exact closed_strs _|exact Zak (fun w _=>Wd.closed w)|exact Zak (fun w _=>St.closed w)|exact Zak (fun w _=>Un.closed w)|skip
 exact Zak (fun k hk=>It.closed k)
termination_by SizeOf.sizeOf u
decreasing_by
 match u,hk with
 | .mk _ _ _ _ _ _ _ _ _ _ _ _ _ _ _ ks,hk =>
  have h1:SizeOf.sizeOf k<SizeOf.sizeOf ks:=List.sizeOf_lt_of_mem hk;rw [It.mk.sizeOf_spec];omega
theorem EI.closed (e:EI):∀ x∈e.enc,Closed x:=by
 intro x hx;simp only [EI.enc,List.mem_cons] at hx;rcases hx with rfl|rfl|rfl|hx
 ·exact cI _
 ·exact cI _
 ·exact cI _
 ·exact It.closed _ x hx
theorem Ac.closed (a:Ac):∀ x∈a.enc,Closed x:=by
 intro x hx;simp only [Ac.enc,List.mem_cons,List.not_mem_nil,or_false] at hx;rcases hx with rfl|rfl|rfl|rfl|rfl|rfl|rfl
 all_goals first|exact cI _|exact cS _|exact Zak (fun w _=>It.closed w)
theorem closed_eis (l:List EI):Closed (.sl 28 (l.map EI.enc)):=Zak (fun w _=>w.closed)
theorem closed_acs (l:List Ac):Closed (.sl 7 (l.map Ac.enc)):=Zak (fun w _=>w.closed)
end Go.VM
namespace Go.VM
open Go
def HL.dec:List (Nat×AB)→Nat→Prop
 | [],_=>True
 | (k,_)::r,b=>k<b∧HL.dec r k
def HOk (h:Heap):Prop:=HL.dec h.l h.top
theorem HL.dec_mono:∀ {l:List (Nat×AB)} {b b':Nat},HL.dec l b→b≤b'→HL.dec l b'
 | [],_,_,_,_=>trivial
 | (k,_)::r,b,b',h,hb=>⟨Nat.lt_of_lt_of_le h.1 hb,h.2⟩
theorem HL.get_none:∀ {l:List (Nat×AB)} {b t:Nat},HL.dec l b→b≤t→HL.get l t=none
 | [],_,_,_,_=>rfl
 | (k,v)::r,b,t,h,hb=>by
  have:k≠t:=by have:=h.1;omega
  simp only [HL.get,if_neg this];exact HL.get_none h.2 (by have:=h.1;omega)
theorem HL.Zbv:∀ {l:List (Nat×AB)} {b:Nat} {f:Nat→Option AB},HL.dec l b→(∀ t,t<b→HL.get l t=f t∨HL.get l t=none)→HL.le l f
 | [],_,_,_,_=>trivial
 | (k,v)::r,b,f,h,hf=>by
  refine ⟨?_,HL.Zbv h.2 (fun t ht=>?_)⟩
  ·have:=hf k h.1
   simpa [HL.get,eq_comm] using this
  ·have h1:=hf t (by have:=h.1;omega);have:k≠t:=by omega
   simpa [HL.get,this] using h1
theorem HOk.le_refl {h:Heap} (ok:HOk h):h.le h:=⟨Nat.le_refl _,HL.Zbv ok fun _ _=>.inl rfl⟩
theorem HOk.push {h:Heap} (ok:HOk h) (x:AB):HOk (h.push x):=⟨Nat.lt_succ_self _,ok⟩
theorem HL.dec_del:∀ {l:List (Nat×AB)} {b:Nat} (k:Nat),HL.dec l b→HL.dec (HL.del l k) b
 | [],_,_,_=>trivial
 | (j,v)::r,b,k,h=>by
  simp only [HL.del];split
  ·exact HL.dec_del k (HL.dec_mono h.2 (Nat.le_of_lt h.1))
  ·exact ⟨h.1,HL.dec_del k h.2⟩
theorem HL.dec_set:∀ {l:List (Nat×AB)} {b:Nat} (k:Nat) (x:AB),HL.dec l b→HL.dec (HL.set l k x) b
 | [],_,_,_,_=>trivial
 | (j,v)::r,b,k,x,h=>by
  simp only [HL.set];split
  ·exact ⟨h.1,HL.dec_del k h.2⟩
  ·exact ⟨h.1,HL.dec_set k x h.2⟩
theorem HOk.del {h:Heap} (ok:HOk h) (k:Nat):HOk (h.del k):=HL.dec_del k ok
theorem HOk.set {h:Heap} (ok:HOk h) (k:Nat) (x:AB):HOk (h.set k x):=HL.dec_set k x ok
theorem HOk.Za1 {h:Heap} (ok:HOk h) (k:Option Nat):HOk (Go.VM.Za1 h k):=by cases k<;>first|exact ok|exact ok.del _
def HL.only (p:Nat→Bool):List (Nat×AB)→List (Nat×AB)
 | []=>[]
 | (k,v)::r=>bif p k then (k,v)::HL.only p r else HL.only p r
theorem HL.dec_only (p:Nat→Bool):∀ {l:List (Nat×AB)} {b:Nat},HL.dec l b→HL.dec (HL.only p l) b
 | [],_,_=>trivial
 | (k,v)::r,b,h=>by
  simp only [HL.only];cases p k
  ·exact HL.dec_only p (HL.dec_mono h.2 (Nat.le_of_lt h.1))
  ·exact ⟨h.1,HL.dec_only p h.2⟩
theorem HL.get_only (p:Nat→Bool):∀ {l:List (Nat×AB)} {b:Nat},HL.dec l b→∀ t,HL.get (HL.only p l) t=if p t then HL.get l t else none
 | [],_,_,t=>by simp [HL.only,HL.get]
 | (k,v)::r,b,h,t=>by
  have ih:=HL.get_only p h.2 t;by_cases hk:k=t
  ·subst hk;simp only [HL.only,HL.get,if_true];cases hp:p k
   ·simp only [cond_false];rw [ih];simp [hp]
   ·simp [HL.get]
  ·simp only [HL.only,HL.get,if_neg hk];cases hp:p k
   ·simp only [cond_false];exact ih
   ·simp only [cond_true,HL.get,if_neg hk];exact ih
end Go.VM
namespace Go.VM
open Go
inductive Tr where
 | lf
 | nd (l : Tr) (v : PV) (r : Tr)
 deriving Inhabited
def Tr.get:Tr→Nat→PV
 | .lf,_=>.any
 | .nd l v r,n=>bif n==0 then v else bif n % 2==1 then Tr.get l (n / 2) else Tr.get r (n / 2-1)
def Tr.put:Nat→Tr→Nat→PV→Tr
 | 0,t,_,_=>t
 | f+1,.lf,n,x=>bif n==0 then .nd .lf x .lf else bif n % 2==1 then .nd (Tr.put f .lf (n / 2) x) .any .lf else .nd .lf .any (Tr.put f .lf (n / 2-1) x)
 | f+1,.nd l v r,n,x=>bif n==0 then .nd l x r else bif n % 2==1 then .nd (Tr.put f l (n / 2) x) v r else .nd l v (Tr.put f r (n / 2-1) x)
theorem Tr.get_put:∀ (f:Nat) (t:Tr) (n m:Nat) (x:PV),n+1<2 ^ f→(Tr.put f t n x).get m=if n=m then x else t.get m:=by
 intro f
 induction f with
 | zero=>intro t n m x h;simp at h
 | succ f ih =>
  intro t n m x h;have h2:2 ^ (f+1)=2 ^ f+2 ^ f:=by rw [Nat.pow_succ];omega
  cases t with
  | lf =>
   by_cases h0:n=0
   ·subst h0;cases m with
    | zero=>simp [Tr.put,Tr.get]
    | succ m =>
     simp only [Tr.put,Tr.get,beq_self_eq_true,cond_true,Nat.add_eq_zero_iff,Nat.succ_ne_zero,and_false,if_false];have:¬ (0=m+1):=by omega
     simp [this]
   ·have hb:(n==0)=false:=by simp [h0]
    by_cases h1:n % 2=1
    ·have hb1:(n % 2==1)=true:=by simp [h1]
     simp only [Tr.put,hb,hb1,cond_true,cond_false,Tr.get];by_cases m0:m=0
     ·subst m0;simp [h0]
     ·have mb:(m==0)=false:=by simp [m0]
      by_cases m1:m % 2=1
      ·have mb1:(m % 2==1)=true:=by simp [m1]
       simp only [mb,mb1,cond_true,cond_false];rw [ih .lf (n / 2) (m / 2) x (by omega)];by_cases e:n=m
       ·subst e;simp
       ·rw [if_neg e,if_neg (by omega)];rfl
      ·have mb1:(m % 2==1)=false:=by simp [m1]
       simp only [mb,mb1,cond_false];rw [if_neg (by rintro rfl;exact m1 h1)]
    ·have hb1:(n % 2==1)=false:=by simp [h1]
     simp only [Tr.put,hb,hb1,cond_false,Tr.get];by_cases m0:m=0
     ·subst m0;simp [h0]
     ·have mb:(m==0)=false:=by simp [m0]
      by_cases m1:m % 2=1
      ·have mb1:(m % 2==1)=true:=by simp [m1]
       simp only [mb,mb1,cond_true,cond_false];rw [if_neg (by rintro rfl;exact h1 m1)]
      ·have mb1:(m % 2==1)=false:=by simp [m1]
       simp only [mb,mb1,cond_false];rw [ih .lf (n / 2-1) (m / 2-1) x (by omega)];by_cases e:n=m
       ·subst e;simp
       ·rw [if_neg e,if_neg (by omega)];rfl
  | nd l v r =>
   by_cases h0:n=0
   ·subst h0;cases m with
    | zero=>simp [Tr.put,Tr.get]
    | succ m =>
     have:¬ (0=m+1):=by omega
     simp [Tr.put,Tr.get,this]
   ·have hb:(n==0)=false:=by simp [h0]
    by_cases h1:n % 2=1
    ·have hb1:(n % 2==1)=true:=by simp [h1]
     simp only [Tr.put,hb,hb1,cond_true,cond_false,Tr.get];by_cases m0:m=0
     ·subst m0;simp [h0]
     ·have mb:(m==0)=false:=by simp [m0]
      by_cases m1:m % 2=1
      ·have mb1:(m % 2==1)=true:=by simp [m1]
       simp only [mb,mb1,cond_true,cond_false];rw [ih l (n / 2) (m / 2) x (by omega)];by_cases e:n=m
       ·subst e;simp
       ·rw [if_neg e,if_neg (by omega)]
      ·have mb1:(m % 2==1)=false:=by simp [m1]
       simp only [mb,mb1,cond_false];rw [if_neg (by rintro rfl;exact m1 h1)]
    ·have hb1:(n % 2==1)=false:=by simp [h1]
     simp only [Tr.put,hb,hb1,cond_false,Tr.get];by_cases m0:m=0
     ·subst m0;simp [h0]
     ·have mb:(m==0)=false:=by simp [m0]
      by_cases m1:m % 2=1
      ·have mb1:(m % 2==1)=true:=by simp [m1]
       simp only [mb,mb1,cond_true,cond_false];rw [if_neg (by rintro rfl;exact h1 m1)]
      ·have mb1:(m % 2==1)=false:=by simp [m1]
       simp only [mb,mb1,cond_false];rw [ih r (n / 2-1) (m / 2-1) x (by omega)];by_cases e:n=m
       ·subst e;simp
       ·rw [if_neg e,if_neg (by omega)]
def isBoolB:PV→Bool|.bool _=>true|_=>false
def isStrB:PV→Bool|.str _=>true|_=>false
def isIntB:PV→Bool|.int _ _=>true|_=>false
def isAggB:PV→Bool|.agg _=>true|_=>false
def isAddrB:PV→Bool|.loc _ _ _|.ro _=>true|_=>false
theorem isBoolB_ok {p:PV} (h:isBoolB p=true):isBool p:=by cases p<;>first|trivial|cases h
theorem isStrB_ok {p:PV} (h:isStrB p=true):isStr p:=by cases p<;>first|trivial|cases h
theorem isIntB_ok {p:PV} (h:isIntB p=true):isInt p:=by cases p<;>first|trivial|cases h
theorem isAggB_ok {p:PV} (h:isAggB p=true):isAggP p:=by cases p<;>first|trivial|cases h
theorem isAddrB_ok {p:PV} (h:isAddrB p=true):isAddr p:=by cases p<;>first|trivial|cases h
def binbOkB (op:BinOp):PV→PV→Bool
 | .bool _,.bool _=>(match op with|.eql|.neq=>true|_=>false)
 | _,_=>false
theorem binbOkB_ok {op:BinOp} {a b:PV} (h:binbOkB op a b=true):binbOk op a b:=by
 unfold binbOkB at h;split at h
 ·unfold binbOk;cases op<;>simp at h ⊢
 ·cases h
def binOkB (op:BinOp):PV→PV→Bool
 | .int k a,.int k' b=>(match op with
  | .shl|.shr=>decide (0≤b)
  | .quo|.rem=>decide (k=k') && !decide (b=0)
  | _=>decide (k=k'))
 | .str a,.str b=>(match op with
  | .add=>Nat.ble (a.length+b.length) 9223372036854775807
  | .eql|.neq|.lss|.leq|.gtr|.geq=>true
  | _=>false)
 | _,_=>false
theorem binOkB_ok {op:BinOp} {a b:PV} (h:binOkB op a b=true):binOk op a b:=by
 unfold binOkB at h;split at h
 ·unfold binOk;cases op<;>simpa using h
 ·unfold binOk;cases op<;>first|trivial|(simp at h;done)|(simpa using h)
 ·cases h
def ekOkB:EK→PV→PV→Bool
 | .i,.int k _,.int k' _=>decide (k=k')
 | .s,.str _,.str _=>true
 | .b,.bool _,.bool _=>true
 | _,_,_=>false
theorem ekOkB_ok {k:EK} {a b:PV} (h:ekOkB k a b=true):ekOk k a b:=by
 unfold ekOkB at h;split at h
 ·simpa [ekOk] using h
 ·trivial
 ·trivial
 ·cases h
def eqOkB:List EK→List PV→List PV→Bool
 | k::ks,x::r,y::q=>ekOkB k x y&&eqOkB ks r q
 | [],[],[]=>true
 | _,_,_=>false
theorem eqOkB_ok:∀ {ks:List EK} {a b:List PV},eqOkB ks a b=true→eqOk ks a b:=by
 intro ks
 induction ks with
 | nil=>intro a b h;cases a<;>cases b<;>first|trivial|cases h
 | cons k ks ih =>
  intro a b h;cases a<;>cases b<;>first|(cases h;done)|skip
  simp only [eqOkB,Bool.and_eq_true] at h;exact ⟨ekOkB_ok h.1,ih h.2⟩
def keyOkB:KK→PV→PV→Bool
 | .one k,a,b=>ekOkB k a b
 | .st ks,.agg a,.agg b=>eqOkB ks a b
 | _,_,_=>false
theorem keyOkB_ok {kk:KK} {a b:PV} (h:keyOkB kk a b=true):keyOk kk a b:=by
 unfold keyOkB at h;split at h
 ·exact ekOkB_ok h
 ·exact ⟨trivial,trivial,eqOkB_ok h⟩
 ·cases h
def keysOkB (kk:KK) (k:PV) (es:List (PV×PV)):Bool:=keyOkB kk k k&&es.all fun p=>keyOkB kk k p.1
theorem keysOkB_ok {kk:KK} {k:PV} {es:List (PV×PV)} (h:keysOkB kk k es=true):keysOk kk k es:=by
 simp only [keysOkB,Bool.and_eq_true,List.all_eq_true] at h;exact ⟨keyOkB_ok h.1,fun p hp=>keyOkB_ok (h.2 p hp)⟩
def mapOkB (h:Heap):PV→Bool
 | .mp id=>(match h.get id with|some (.map _)=>true|_=>false)
 | .rmp _=>true
 | .nilmp=>true
 | _=>false
theorem mapOkB_ok {h:Heap} {p:PV} (H:mapOkB h p=true):mapOk h p:=by
 unfold mapOkB at H;split at H
 ·split at H
  ·rename_i e;simp [mapOk,e]
  ·cases H
 ·trivial
 ·trivial
 ·cases H
def mapHasB (h:Heap):PV→Bool
 | .mp id=>(match h.get id with|some (.map _)=>true|_=>false)
 | _=>false
theorem mapHasB_ok {h:Heap} {p:PV} (H:mapHasB h p=true):mapHas h p:=by
 unfold mapHasB at H;split at H
 ·split at H
  ·rename_i e;simp [mapHas,e]
  ·cases H
 ·cases H
def unOkB (op:UnOp):PV→Bool
 | .int _ _=>(match op with|.neg=>true|_=>false)
 | .bool _=>(match op with|.not=>true|_=>false)
 | _=>false
theorem unOkB_ok {op:UnOp} {p:PV} (h:unOkB op p=true):unOk op p:=by
 unfold unOkB at h;split at h
 ·unfold unOk;cases op<;>simp at h ⊢
 ·unfold unOk;cases op<;>simp at h ⊢
 ·cases h
def boundOkB:Option PV→Bool
 | some (.int _ n)=>decide (0≤n)
 | some _=>false
 | none=>true
theorem boundOkB_ok {o:Option PV} (h:boundOkB o=true):boundOk o:=by
 unfold boundOkB at h;split at h
 ·simpa [boundOk] using h
 ·cases h
 ·trivial
def sliceOkB (st:Bool) (z:Nat) (h:Heap) (a:PV) (lo hi:Option PV):Bool :=
 boundOkB lo&&boundOkB hi&&Nat.ble (loV lo) (hiV (lenV a) hi)&&Nat.ble (hiV (lenV a) hi) (lenV a) &&
 match a with
 | .str _=>st
 | .sl z' _=>!st&&Nat.beq z' z
 | .own id _ _=>!st&&(match h.get id with|some (.arr _ z' _)=>Nat.beq z' z|_=>false)
 | .nilsl=>!st
 | _=>false
theorem sliceOkB_ok {st:Bool} {z:Nat} {h:Heap} {a:PV} {lo hi:Option PV} (H:sliceOkB st z h a lo hi=true):sliceOk st z h a lo hi:=by
 simp only [sliceOkB,Bool.and_eq_true,Nat.ble_eq] at H;obtain ⟨⟨⟨⟨h1,h2⟩,h3⟩,h4⟩,h5⟩:=H;refine ⟨boundOkB_ok h1,boundOkB_ok h2,h3,h4,?_⟩;split at h5
 ·exact h5
 ·simp only [Bool.and_eq_true,Bool.not_eq_true'] at h5;exact ⟨h5.1,Nat.eq_of_beq_eq_true h5.2⟩
 ·simp only [Bool.and_eq_true,Bool.not_eq_true'] at h5;refine ⟨h5.1,?_⟩;have h6:=h5.2;split at h6
  ·rename_i e;rw [e];simpa using h6
  ·cases h6
 ·simpa using h5
 ·cases h5
def locOkB (h:Heap):PV→Bool
 | .loc id i _=>(match h.get id with|some (.arr _ _ es)=>Nat.blt i es.length|_=>false)
 | .ro _=>true
 | _=>false
theorem locOkB_ok {h:Heap} {p:PV} (H:locOkB h p=true):locOk h p:=by
 unfold locOkB at H;split at H
 ·split at H
  ·rename_i e;simp only [locOk,e];exact Nat.le_of_ble_eq_true H
  ·cases H
 ·trivial
 ·cases H
def iaddrOkB (z:Nat) (h:Heap) (a i:PV):Bool :=
 isIntB i&&decide (0≤numOf i)&&decide (numOf i<lenV a) &&
 match a with
 | .sl z' _=>Nat.beq z' z
 | .own id _ _=>(match h.get id with|some (.arr _ z' _)=>Nat.beq z' z|_=>false)
 | _=>false
theorem iaddrOkB_ok {z:Nat} {h:Heap} {a i:PV} (H:iaddrOkB z h a i=true):iaddrOk z h a i:=by
 simp only [iaddrOkB,Bool.and_eq_true,decide_eq_true_eq] at H;obtain ⟨⟨⟨h1,h2⟩,h3⟩,h4⟩:=H;refine ⟨isIntB_ok h1,h2,h3,?_⟩;split at h4
 ·simpa using h4
 ·split at h4
  ·rename_i e;simp only [e];simpa using h4
  ·cases h4
 ·cases h4
def idxOkB (a i:PV):Bool:=isIntB i&&decide (0≤numOf i)&&decide (numOf i<lenV a)&&isStrB a
theorem idxOkB_ok {a i:PV} (H:idxOkB a i=true):idxOk a i:=by
 simp only [idxOkB,Bool.and_eq_true,decide_eq_true_eq] at H;obtain ⟨⟨⟨h1,h2⟩,h3⟩,h4⟩:=H;refine ⟨isIntB_ok h1,h2,h3,?_⟩;cases a<;>first|trivial|cases h4
def lenOkB (st:Bool):PV→Bool
 | .str _=>st
 | .sl _ _|.own _ _ _|.nilsl=>!st
 | _=>false
theorem lenOkB_ok {st:Bool} {p:PV} (H:lenOkB st p=true):lenOk st p:=by
 cases p<;>simp [lenOkB] at H<;>simp [lenOk,H]
def extOkB (i:Nat):PV→Bool
 | .tup l=>Nat.blt i l.length
 | _=>false
theorem extOkB_ok {i:Nat} {p:PV} (H:extOkB i p=true):extOk i p:=by
 cases p<;>simp [extOkB] at H
 exact H
def fillOkB (e:Env) (n:Nat):List (Nat×Nat×VA)→Bool
 | []=>true
 | (o,s,a)::r=>(a.ev e).fits s&&Nat.ble (o+s) n&&fillOkB e n r
theorem fillOkB_ok {e:Env} {n:Nat}:∀ {l:List (Nat×Nat×VA)},fillOkB e n l=true→fillOk e n l
 | [],_=>trivial
 | (o,s,a)::r,h=>by
  simp only [fillOkB,Bool.and_eq_true,Nat.ble_eq] at h;exact ⟨h.1.1,h.1.2,fillOkB_ok h.2⟩
def elemsOkB (e:Env) (z n:Nat):List (Nat×VA)→Bool
 | []=>true
 | (i,a)::r=>(a.ev e).fits z&&Nat.blt i n&&elemsOkB e z n r
theorem elemsOkB_ok {e:Env} {z n:Nat}:∀ {l:List (Nat×VA)},elemsOkB e z n l=true→Zbn e z n l
 | [],_=>trivial
 | (i,a)::r,h=>by
  simp only [elemsOkB,Bool.and_eq_true] at h;exact ⟨h.1.1,Nat.le_of_ble_eq_true h.1.2,elemsOkB_ok h.2⟩
def srcOkB (h:Heap) (str:Bool) (z:Nat):PV→Bool
 | .sl z' _=>!str&&Nat.beq z' z
 | .own id off len=>!str&&(match h.get id with
  | some (.arr _ z' es)=>Nat.beq z' z&&Nat.ble (off+len) es.length
  | _=>false)
 | .nilsl=>!str
 | .str _=>str&&Nat.beq z 1
 | _=>false
theorem srcOkB_ok {h:Heap} {str:Bool} {z:Nat} {p:PV} (H:srcOkB h str z p=true):srcOk h str z p:=by
 unfold srcOkB at H;split at H
 ·simpa [srcOk] using H
 ·simp only [Bool.and_eq_true,Bool.not_eq_true'] at H;refine ⟨H.1,?_⟩;have h6:=H.2;split at h6
  ·rename_i e;rw [e];simpa using h6
  ·cases h6
 ·simpa [srcOk] using H
 ·simpa [srcOk] using H
 ·cases H
def oldOkB (h:Heap) (z:Nat):PV→Bool
 | .nilsl=>true
 | .own id off len=>(match h.get id with
  | some (.arr fz z' es)=>!fz&&Nat.beq z' z&&Nat.ble (off+len) es.length
  | _=>false)
 | _=>false
theorem oldOkB_ok {h:Heap} {z:Nat} {p:PV} (H:oldOkB h z p=true):oldOk h z p:=by
 unfold oldOkB at H;split at H
 ·trivial
 ·split at H
  ·rename_i e;simp only [oldOk,e];simp only [Bool.and_eq_true,Bool.not_eq_true',Nat.ble_eq] at H;exact ⟨H.1.1,Nat.eq_of_beq_eq_true H.1.2,H.2⟩
  ·cases H
 ·cases H
def storeOkB (h:Heap) (s:Nat) (p v:PV):Bool :=
 v.fits s&&match p with
 | .loc id i off=>(match h.get id with
  | some (.arr fz z es)=>!fz&&Nat.blt i es.length&&Nat.ble (off+s) z
  | _=>false)
 | _=>false
theorem storeOkB_ok {h:Heap} {s:Nat} {p v:PV} (H:storeOkB h s p v=true):storeOk h s p v:=by
 simp only [storeOkB,Bool.and_eq_true] at H;refine ⟨H.1,?_⟩;have h2:=H.2;split at h2
 ·split at h2
  ·rename_i e;simp only [e];simp only [Bool.and_eq_true,Bool.not_eq_true',Nat.ble_eq] at h2;exact ⟨h2.1.1,Nat.le_of_ble_eq_true h2.1.2,h2.2⟩
  ·cases h2
 ·cases h2
def VA.res (t:Tr):VA→VA
 | .t n=>.c (t.get n)
 | .c p=>.c p
def Sim (t:Tr) (e:Env):Prop:=∀ n,t.get n=e.get n
theorem Sim.ev {t:Tr} {e:Env} (h:Sim t e) (a:VA):(a.res t).ev []=a.ev e:=by
 cases a with
 | t n=>exact h n
 | c p=>rfl
def VOp.res (t:Tr):VOp→VOp
 | .mv a=>.mv (a.res t)
 | .pick c a b=>.pick (c.res t) (a.res t) (b.res t)
 | .alloc z=>.alloc z
 | .box n a=>.box n (a.res t)
 | .build z ps=>.build z (ps.map fun p=>(p.1,p.2.1,p.2.2.res t))
 | .bslice z n zr ps=>.bslice z n zr (ps.map fun p=>(p.1,p.2.res t))
 | .load g s a=>.load g s (a.res t)
 | .store s a v=>.store s (a.res t) (v.res t)
 | .bin op a b=>.bin op (a.res t) (b.res t)
 | .binb op a b=>.binb op (a.res t) (b.res t)
 | .strid a=>.strid (a.res t)
 | .eqs n ks a b=>.eqs n ks (a.res t) (b.res t)
 | .isnil n a=>.isnil n (a.res t)
 | .un op a=>.un op (a.res t)
 | .conv k a=>.conv k (a.res t)
 | .b2s a=>.b2s (a.res t)
 | .s2b a=>.s2b (a.res t)
 | .mkfn f x y=>.mkfn f (x.map (VA.res t)) (y.map (VA.res t))
 | .slice st z a lo hi=>.slice st z (a.res t) (lo.map (VA.res t)) (hi.map (VA.res t))
 | .faddr o a=>.faddr o (a.res t)
 | .fld g o s a=>.fld g o s (a.res t)
 | .iaddr z a i=>.iaddr z (a.res t) (i.res t)
 | .idx a i=>.idx (a.res t) (i.res t)
 | .ext a i=>.ext (a.res t) i
 | .len st a=>.len st (a.res t)
 | .app z b zr st x y=>.app z b zr st (x.res t) (y.res t)
 | .mm mx l=>.mm mx (l.map (VA.res t))
 | .mkmap=>.mkmap
 | .lookup kk z ok m k=>.lookup kk z ok (m.res t) (k.res t)
 | .mapset kk m k v=>.mapset kk (m.res t) (k.res t) (v.res t)
 | .mlen m=>.mlen (m.res t)
 | .call f l=>.call f (l.map (VA.res t))
 | .callv f l=>.callv (f.res t) (l.map (VA.res t))
 | .px k l=>.px k (l.map (VA.res t))
 | .fx k l=>.fx k (l.map (VA.res t))
 | .nd neg a=>.nd neg (a.res t)
 | .other o=>.other o
section
variable {t : Tr} {e : Env} (hs : Sim t e)
include hs
theorem fill_res:∀ (ps:List (Nat×Nat×VA)) (cs:List PV),fillV [] cs (ps.map fun p=>(p.1,p.2.1,p.2.2.res t))=fillV e cs ps
 | [],_=>rfl
 | (o,s,a)::r,cs=>by simp only [List.map_cons,fillV];rw [hs.ev a,fill_res r]
theorem fillOk_res (n:Nat):∀ (ps:List (Nat×Nat×VA)),fillOk [] n (ps.map fun p=>(p.1,p.2.1,p.2.2.res t))=fillOk e n ps
 | []=>rfl
 | (o,s,a)::r=>by simp only [List.map_cons,fillOk];rw [hs.ev a,fillOk_res n r]
theorem elems_res:∀ (ps:List (Nat×VA)) (rows:List (List PV)),Za9 [] rows (ps.map fun p=>(p.1,p.2.res t))=Za9 e rows ps
 | [],_=>rfl
 | (i,a)::r,rows=>by simp only [List.map_cons,Za9];rw [hs.ev a,elems_res r]
theorem elemsOk_res (z n:Nat):∀ (ps:List (Nat×VA)),Zbn [] z n (ps.map fun p=>(p.1,p.2.res t))=Zbn e z n ps
 | []=>rfl
 | (i,a)::r=>by simp only [List.map_cons,Zbn];rw [hs.ev a,elemsOk_res z n r]
theorem opt_res (o:Option VA):(o.map (VA.res t)).map (VA.ev [])=o.map (VA.ev e):=by
 cases o with
 | none=>rfl
 | some a=>simp [hs.ev a]
theorem map_res (l:List VA):(l.map (VA.res t)).map (VA.ev [])=l.map (VA.ev e):=by
 rw [List.map_map];exact List.map_congr_left fun a _=>hs.ev a
theorem pval_res (h:Heap) (op:VOp):pval [] h (op.res t)=pval e h op:=by
 cases op<;>simp only [VOp.res,pval,hs.ev,fill_res hs,opt_res hs,map_res hs]
 case mm mx l =>
  match l with
  | []=>rfl
  | [a]=>rfl
  | [a,b]=>simp only [List.map_cons,List.map_nil,hs.ev]
  | _::_::_::_=>rfl
theorem pok_res (h:Heap) (op:VOp):pok [] h (op.res t)=pok e h op:=by
 cases op<;>simp only [VOp.res,pok,hs.ev,fillOk_res hs,opt_res hs,map_res hs]
 case mm mx l =>
  match l with
  | []=>rfl
  | [a]=>rfl
  | [a,b]=>simp only [List.map_cons,List.map_nil,hs.ev]
  | _::_::_::_=>rfl
end
theorem res_pure (t:Tr) (op:VOp):(op.res t).pure=op.pure:=by cases op<;>rfl
theorem StepW_res {P:Program} {t:Tr} {e:Env} (hs:Sim t e) {h:Heap} {op:VOp} {K:PV→Heap→Prop} (H:Zam P [] h (op.res t) K) (ho:op.closed=true):Zam P e h op K:=by
 have h1:=pval_res hs h op;have h2:=pok_res hs h op;cases op<;>simp only [VOp.res,Zam,hs.ev,elems_res hs,elemsOk_res hs,map_res hs] at H h1 h2 ⊢<;>first|exact H|(rw [← h1,← h2];exact H)|skip
 case other o=>simp [VOp.closed] at ho
end Go.VM
namespace Go.VM
open Go
mutual
def PV.clB : PV → Bool
 | .any | .undef | .bool _ | .int _ _ | .str _ | .nilp | .nilsl | .nilmp | .nilfn | .nilif => true
 | .ro cs => PV.clsB cs
 | .sl _ es => PV.clssB es
 | .agg cs => PV.clsB cs
 | .tup cs => PV.clsB cs
 | .fn _ a b => PV.clsB a && PV.clsB b
 | .ifc _ v => PV.clB v
 | .rmp es => PV.clpB es
 | .loc _ _ _ | .own _ _ _ | .mp _ | .fnb _ _ => false
def PV.clsB : List PV → Bool
 | [] => true
 | p :: r => PV.clB p && PV.clsB r
def PV.clssB : List (List PV) → Bool
 | [] => true
 | p :: r => PV.clsB p && PV.clssB r
def PV.clpB : List (PV × PV) → Bool
 | [] => true
 | (a, b) :: r => PV.clB a && PV.clB b && PV.clpB r
end
theorem closed_fn {f:Fn} {a b:List PV} (h1:∀ x∈a,Closed x) (h2:∀ x∈b,Closed x):Closed (.fn f a b):=by
 intro g v hv;cases hv with
 | fn _ fs cs _ _ s1 s2 r1 r2 =>
  refine .fn f fs cs a b s1 s2 (fun j hj=>h1 _ ?_ g _ (r1 j hj)) (fun j hj=>h2 _ ?_ g _ (r2 j hj))
  ·simp only [PV.nth,List.getD_eq_getElem?_getD,List.getElem?_eq_getElem hj,Option.getD_some];exact List.getElem_mem hj
  ·simp only [PV.nth,List.getD_eq_getElem?_getD,List.getElem?_eq_getElem hj,Option.getD_some];exact List.getElem_mem hj
mutual
theorem PV.clB_ok : ∀ (p : PV), p.clB = true → Closed p
 | .any, _ => fun _ v _ => .any v
 | .undef, _ => fun _ v h => by cases h; exact .undef
 | .bool b, _ => cB b
 | .int k n, _ => Closed.of_scalar (scalar_int _ _)
 | .str s, _ => cS s
 | .nilp, _ => fun _ v h => by cases h; exact .nilp
 | .nilsl, _ => Zby
 | .nilmp, _ => fun _ v h => by cases h; exact .nilmp
 | .nilfn, _ => fun _ v h => by cases h; exact .nilfn
 | .nilif, _ => fun _ v h => by cases h; exact .nilif
 | .ro cs, h => closed_ro (PV.clsB_ok cs h)
 | .sl z es, h => closed_sl (PV.clssB_ok es h)
 | .agg cs, h => Zau (PV.clsB_ok cs h)
 | .tup cs, h => closed_tup (PV.clsB_ok cs h)
 | .fn f a b, h => by
  simp only [PV.clB,Bool.and_eq_true] at h
  exact closed_fn (PV.clsB_ok a h.1) (PV.clsB_ok b h.2)
 | .ifc t v, h => fun g x hx => by
  cases hx with
  | ifc _ y _ hy => exact .ifc t y v (PV.clB_ok v h g y hy)
 | .rmp es, h => closed_rmp (PV.clpB_ok es h)
 | .fnb _ _, h => by cases h
 | .loc _ _ _, h => by cases h
 | .own _ _ _, h => by cases h
 | .mp _, h => by cases h
theorem PV.clsB_ok : ∀ (l : List PV), PV.clsB l = true → ∀ x ∈ l, Closed x
 | [], _ => fun x hx => by cases hx
 | p :: r, h => by
  simp only [PV.clsB,Bool.and_eq_true] at h
  intro x hx
  rcases List.mem_cons.1 hx with hp | hx
  ·rw [hp]; exact PV.clB_ok p h.1
  ·exact PV.clsB_ok r h.2 x hx
theorem PV.clssB_ok : ∀ (l : List (List PV)), PV.clssB l = true → ∀ e ∈ l, ∀ x ∈ e, Closed x
 | [], _ => fun x hx => by cases hx
 | p :: r, h => by
  simp only [PV.clssB,Bool.and_eq_true] at h
  intro x hx
  rcases List.mem_cons.1 hx with hp | hx
  ·rw [hp]; exact PV.clsB_ok p h.1
  ·exact PV.clssB_ok r h.2 x hx
theorem PV.clpB_ok : ∀ (l : List (PV × PV)), PV.clpB l = true → ∀ e ∈ l, Closed e.1 ∧ Closed e.2
 | [], _ => fun x hx => by cases hx
 | (a, b) :: r, h => by
  simp only [PV.clpB,Bool.and_eq_true] at h
  intro x hx
  rcases List.mem_cons.1 hx with hp | hx
  ·rw [hp]; exact ⟨PV.clB_ok a h.1.1, PV.clB_ok b h.1.2⟩
  ·exact PV.clpB_ok r h.2 x hx
end
mutual
def PV.scB : PV → Bool
 | .any | .undef | .bool _ | .int _ _ | .str _ | .nilp | .nilsl | .nilmp | .nilfn | .nilif => true
 | .sl _ es => es.isEmpty
 | .agg cs => PV.scsB cs
 | .tup cs => PV.scsB cs
 | .ro _ | .fn _ _ _ | .ifc _ _ | .loc _ _ _ | .own _ _ _ | .mp _ | .rmp _ | .fnb _ _ => false
def PV.scsB : List PV → Bool
 | [] => true
 | p :: r => PV.scB p && PV.scsB r
end
mutual
theorem PV.scB_ok : ∀ (p : PV), p.scB = true → Scalar p
 | .any, _ => fun _ v _ _ => .any v
 | .undef, _ => fun _ v h _ => by cases h; exact .undef
 | .bool b, _ => scalar_bool _
 | .int k n, _ => scalar_int _ _
 | .str s, _ => scalar_str _
 | .nilp, _ => fun _ v h _ => by cases h; exact .nilp
 | .nilsl, _ => fun _ v h _ => by cases h; exact .nilsl
 | .nilmp, _ => fun _ v h _ => by cases h; exact .nilmp
 | .nilfn, _ => fun _ v h _ => by cases h; exact .nilfn
 | .nilif, _ => fun _ v h _ => by cases h; exact .nilif
 | .fnb _ _, h => by cases h
 | .ro cs, h => by cases h
 | .sl z es, h => by
  obtain rfl : es = [] := by simpa [PV.scB] using h
  intro g v hv g'
  cases hv with
  | slE => exact .slE _ _ _
  | sl b o len cap z a es vs ha hl hc hz hm hr => 
   obtain rfl : len = 0 := by simpa using hl.symm
   exact .slE _ _ _
 | .agg cs, h => scalar_agg (PV.scsB_ok cs h)
 | .tup cs, h => scalar_tup (PV.scsB_ok cs h)
 | .fn f a b, h => by cases h
 | .ifc t v, h => by cases h
 | .loc _ _ _, h => by cases h
 | .own _ _ _, h => by cases h
 | .mp _, h => by cases h
 | .rmp _, h => by cases h
theorem PV.scsB_ok : ∀ (l : List PV), PV.scsB l = true → ∀ x ∈ l, Scalar x
 | [], _ => fun x hx => by cases hx
 | p :: r, h => by
  simp only [PV.scsB,Bool.and_eq_true] at h
  intro x hx
  rcases List.mem_cons.1 hx with hp | hx
  ·rw [hp]; exact PV.scB_ok p h.1
  ·exact PV.scsB_ok r h.2 x hx
end
def optL (f:PV→Option PV):List PV→Option (List PV)
 | []=>some []
 | p::r=>match f p with
  | some q=>match optL f r with
   | some s=>some (q::s)
   | none=>none
  | none=>none
def optLL (f:PV→Option PV):List (List PV)→Option (List (List PV))
 | []=>some []
 | p::r=>match optL f p with
  | some q=>match optLL f r with
   | some s=>some (q::s)
   | none=>none
  | none=>none
def optP (f:PV→Option PV):List (PV×PV)→Option (List (PV×PV))
 | []=>some []
 | p::r=>match f p.1,f p.2 with
  | some a,some b=>match optP f r with
   | some s=>some ((a,b)::s)
   | none=>none
  | _,_=>none
theorem optP_ok {f:PV→Option PV}:∀ {l q:List (PV×PV)},optP f l=some q→l.length=q.length∧∀ (i:Nat) (a b:PV×PV),l[i]?=some a→q[i]?=some b→f a.1=some b.1∧f a.2=some b.2
 | [],q,h=>by simp only [optP,Option.some.injEq] at h;subst h;exact ⟨rfl,fun i a b ha=>by simp at ha⟩
 | p::r,q,h=>by
  simp only [optP] at h;split at h
  ·rename_i x y hx hy;split at h
   ·rename_i s hs;simp only [Option.some.injEq] at h;subst h;obtain ⟨h1,h2⟩:=optP_ok hs;refine ⟨by simp [h1],fun i a b ha hb=>?_⟩;cases i with
    | zero =>
     simp only [List.getElem?_cons_zero,Option.some.injEq] at ha hb;subst ha;subst hb;exact ⟨hx,hy⟩
    | succ i=>exact h2 i a b (by simpa using ha) (by simpa using hb)
   ·cases h
  ·cases h
theorem optL_ok {f:PV→Option PV}:∀ {l q:List PV},optL f l=some q→l.length=q.length∧∀ j,j<q.length→f (PV.nth l j)=some (PV.nth q j)
 | [],q,h=>by simp only [optL,Option.some.injEq] at h;subst h;exact ⟨rfl,fun j hj=>by simp at hj⟩
 | p::r,q,h=>by
  simp only [optL] at h;split at h
  ·rename_i x hx;split at h
   ·rename_i s hs;simp only [Option.some.injEq] at h;subst h;obtain ⟨h1,h2⟩:=optL_ok hs;refine ⟨by simp [h1],fun j hj=>?_⟩;cases j with
    | zero=>exact hx
    | succ j=>exact h2 j (by simpa using hj)
   ·cases h
  ·cases h
theorem optLL_ok {f:PV→Option PV}:∀ {l q:List (List PV)},optLL f l=some q→l.length=q.length∧∀ i,i<q.length→(PV.row l i).length=(PV.row q i).length∧∀ j,j<(PV.row q i).length→f (PV.nth (PV.row l i) j)=some (PV.nth (PV.row q i) j)
 | [],q,h=>by simp only [optLL,Option.some.injEq] at h;subst h;exact ⟨rfl,fun j hj=>by simp at hj⟩
 | p::r,q,h=>by
  simp only [optLL] at h;split at h
  ·rename_i x hx;split at h
   ·rename_i s hs;simp only [Option.some.injEq] at h;subst h;obtain ⟨h1,h2⟩:=optLL_ok hs;refine ⟨by simp [h1],fun j hj=>?_⟩;cases j with
    | zero=>exact optL_ok hx
    | succ j=>exact h2 j (by simpa using hj)
   ·cases h
  ·cases h
def viewD (h:Heap):Nat→PV→Option PV
 | 0,_=>none
 | n+1,p=>bif p.clB then some p else match p with
  | .own id off len=>(match h.get id with
   | some (.arr _ z es)=>bif Nat.ble (off+len) es.length then (match optLL (viewD h n) ((es.drop off).take len) with
    | some q=>some (.sl z q)
    | none=>none) else none
   | _=>none)
  | .sl z es => (match optLL (viewD h n) es with
    | some q=>some (.sl z q)
    | none=>none)
  | .agg cs => (match optL (viewD h n) cs with
    | some q=>some (.agg q)
    | none=>none)
  | .tup cs => (match optL (viewD h n) cs with
    | some q=>some (.tup q)
    | none=>none)
  | .loc id i off=>(match h.get id with
   | some (.arr _ _ es)=>bif Nat.blt i es.length then (match optL (viewD h n) ((PV.row es i).drop off) with
    | some q=>some (.ro q)
    | none=>none) else none
   | _=>none)
  | .mp id=>(match h.get id with
   | some (.map es)=>(match optP (viewD h n) es with
    | some q=>bif es.all (fun p=>flatP p.1) then some (.rmp q) else none
    | none=>none)
   | _=>none)
  | _=>none
theorem viewD_ok {h:Heap}:∀ {n:Nat} {p q:PV},viewD h n p=some q→View h p q
 | 0,_,_,e=>by cases e
 | n+1,p,q,e=>by
  simp only [viewD] at e;cases hc:p.clB with
  | true=>rw [hc] at e;simp only [cond_true,Option.some.injEq] at e;subst e;exact View.refl _ _
  | false =>
   rw [hc] at e;simp only [cond_false] at e;split at e
   ·rename_i id off len;split at e
    case h_2=>cases e
    rename_i fz z es hg;cases hb:Nat.ble (off+len) es.length with
    | false=>rw [hb] at e;cases e
    | true =>
     rw [hb] at e;simp only [cond_true] at e;split at e
     case h_2=>cases e
     rename_i q' hq;simp only [Option.some.injEq] at e;subst e;have hle:off+len≤es.length:=Nat.le_of_ble_eq_true hb;obtain ⟨l1,l2⟩:=optLL_ok hq;have hl:q'.length=len:=by rw [← l1];simp;omega
     intro g w v r hv;cases hv with
     | ownE ao =>
      have:q'=[]:=List.eq_nil_of_length_eq_zero hl;subst this;exact .slE _ _ _
     | own _ _ _ cap b o n' z' a hb ha hc hn =>
      subst ha;rcases r.blk id _ hg with ⟨hb0,_⟩|⟨b',o',n'',z'',hb',hlt,hlive,hok⟩
      ·rw [hb] at hb0;cases hb0
      ·rw [hb] at hb';simp only [Option.some.injEq,Prod.mk.injEq] at hb';obtain ⟨rfl,rfl,rfl,rfl⟩:=hb';obtain ⟨rfl,hz,hle',c,ty,h1,h2,h3⟩:=hok;have hrow:∀ i,i<len→PV.row ((es.drop off).take len) i=PV.row es (off+i):=fun i hi=>by rw [row_take _ _ _ hi,row_drop]
       refine .sl b (o+off*z) len cap z _ _ (fun i j=>c.getD (o+(off+i)*z+j) Go.undef) rfl hl hc (fun i hi=>?_) (fun i j hi hj=>?_) (fun i j hi hj=>?_)
       ·rw [← (l2 i (by omega)).1,hrow i hi];exact hz _ (by omega)
       ·obtain ⟨e1,e2,e3⟩:=h3 (off+i) j (by omega) hj;have e4:o+off*z+i*z+j=o+(off+i)*z+j:=by rw [Nat.add_mul];omega
        rw [e4];cases fz
        ·have hin : o + (off + i) * z + j < c.size := by
          have:=Zat (n:=es.length) (z:=z) (show off+i<es.length by omega) hj;omega
         exact frzM_new ((hlive rfl).1 _) hg hb rfl (by simp [World.cell?,h1,hin,Array.getD]) e1
        ·exact Zbe (e3 rfl)
       ·obtain ⟨e1,e2,e3⟩:=h3 (off+i) j (by omega) hj;have hj':j<(PV.row q' i).length:=by rw [← (l2 i (by omega)).1,hrow i hi,hz _ (by omega)];exact hj
        have hv:=viewD_ok ((l2 i (by omega)).2 j hj');rw [hrow i hi] at hv;exact hv g w _ r e2
   ·rename_i z es;split at e
    case h_2=>cases e
    rename_i q' hq;simp only [Option.some.injEq] at e;subst e;obtain ⟨l1,l2⟩:=optLL_ok hq;intro g w v r hv;cases hv with
    | slE ao =>
     have:q'=[]:=List.eq_nil_of_length_eq_zero (by rw [← l1];rfl);subst this;exact .slE _ _ _
    | sl b o len cap z a es vs ha hl hc hz hm hr =>
     refine .sl b o len cap z a _ vs ha (by omega) hc (fun i hi=>?_) (fun i j hi hj=>Zbe (hm i j hi hj)) (fun i j hi hj=>?_)
     ·rw [← (l2 i (by omega)).1];exact hz i hi
     ·have hj':j<(PV.row q' i).length:=by rw [← (l2 i (by omega)).1,hz i hi];exact hj
      exact viewD_ok ((l2 i (by omega)).2 j hj') g w _ r (hr i j hi hj)
   ·rename_i cs;split at e
    case h_2=>cases e
    rename_i q' hq;simp only [Option.some.injEq] at e;subst e;obtain ⟨l1,l2⟩:=optL_ok hq;intro g w v r hv;obtain ⟨vs,rfl,hs,ho,hr⟩:=hv.agg_inv;exact .agg _ _ (by omega) (fun j hj=>ho j (by omega)) (fun j hj=>viewD_ok (l2 j hj) g w _ r (hr j (by omega)))
   ·rename_i cs;split at e
    case h_2=>cases e
    rename_i q' hq;simp only [Option.some.injEq] at e;subst e;obtain ⟨l1,l2⟩:=optL_ok hq;intro g w v r hv;obtain ⟨vs,rfl,hs,hr⟩:=hv.tup_inv;exact .tup _ _ (by omega) (fun j hj=>viewD_ok (l2 j hj) g w _ r (hr j (by omega)))
   ·rename_i id i off;split at e
    case h_2=>cases e
    rename_i fz z es hg;cases hb:Nat.blt i es.length with
    | false=>rw [hb] at e;cases e
    | true =>
     rw [hb] at e;simp only [cond_true] at e;split at e
     case h_2=>cases e
     rename_i q' hq;simp only [Option.some.injEq] at e;subst e;have hi:i<es.length:=Nat.le_of_ble_eq_true hb;obtain ⟨l1,l2⟩:=optL_ok hq;intro g w v r hv;cases hv with
     | loc _ _ _ b o n' z' a hb ha =>
      subst ha;rcases r.blk id _ hg with ⟨hb0,_⟩|⟨b',o',n'',z'',hb',hlt,hlive,hok⟩
      ·rw [hb] at hb0;cases hb0
      ·rw [hb] at hb';simp only [Option.some.injEq,Prod.mk.injEq] at hb';obtain ⟨rfl,rfl,rfl,rfl⟩:=hb';obtain ⟨rfl,hz,hle',c,ty,h1,h2,h3⟩:=hok;have hlen:q'.length=z-off:=by rw [← l1,List.length_drop,hz i hi]
       have hnth:∀ j,PV.nth ((PV.row es i).drop off) j=PV.nth (PV.row es i) (off+j):=fun j=>by simp [PV.nth,List.getD_eq_getElem?_getD]
       refine .ro b (o+i*z+off) _ q' (fun j=>c.getD (o+i*z+(off+j)) Go.undef) rfl (fun j hj=>?_) (fun j hj=>?_)
       ·obtain ⟨e1,e2,e3⟩:=h3 i (off+j) hi (by omega);rw [Nat.add_assoc];cases fz
        ·have hin : o + i * z + (off + j) < c.size := by
          have:=Zat (n:=es.length) (z:=z) hi (j:=off+j) (by omega);omega
         exact frzM_new ((hlive rfl).1 _) hg hb rfl (by simp [World.cell?,h1,hin,Array.getD]) e1
        ·exact Zbe (e3 rfl)
       ·obtain ⟨e1,e2,e3⟩:=h3 i (off+j) hi (by omega);have hv:=viewD_ok (l2 j hj);rw [hnth] at hv;exact hv g w _ r e2
   ·rename_i id;split at e
    case h_2=>cases e
    rename_i es hg;split at e
    case h_2=>cases e
    rename_i q' hq;cases hfl:es.all (fun p=>flatP p.1) with
    | false=>rw [hfl] at e;cases e
    | true =>
    rw [hfl] at e;simp only [cond_true,Option.some.injEq] at e;subst e;obtain ⟨l1,l2⟩:=optP_ok hq;exact View.map hg l1 (fun i a b ha hb=>⟨viewD_ok (l2 i a b ha hb).1,viewD_ok (l2 i a b ha hb).2⟩) (fun _ p hp=>List.all_eq_true.1 hfl p hp)
   ·cases e
theorem views_ok {h:Heap} {n:Nat}:∀ {l q:List PV},optL (viewD h n) l=some q→Views h l q
 | [],q,e=>by simp only [optL,Option.some.injEq] at e;subst e;trivial
 | p::r,q,e=>by
  simp only [optL] at e;split at e
  ·rename_i x hx;split at e
   ·rename_i s hs;simp only [Option.some.injEq] at e;subst e;exact ⟨viewD_ok hx,views_ok hs⟩
   ·cases e
  ·cases e
end Go.VM
