import Derived.Test.YtldogpfookkbaaaGreatDoorVmAy
set_option linter.all false
namespace Go.VM
open Go
section
variable {P:Program} {N:FK} {o:Oper} {e:Env} {h:Heap} {K:PV→Heap→Prop}
theorem VW.weakenH{c:VC}{Q:Exit→Env→Heap→Prop}{h':Heap}(hh:h'.le h)(H:VW P N c Q e h'):VW P N c Q e h:=
 fun x hx g w a r er hd hs=>wpIn_mono (H x hx g w a (r.weaken hh) er hd hs) fun _ _ _ ⟨g',e2,h2,k1,k2,k3,k4,k5,k6⟩=>⟨g',e2,h2,k1,k2,k3,k4,k5,k6.weakenL hh⟩
theorem AY.drop{l:Nat}{args:List PV}(H:AY P l args h (fun p h'=>∃h0:Heap,h0.le h'∧K p h0)):AY P l args h K:=by
 intro g w vals r ha;obtain⟨fn,tmps,asg,body,h1,h2⟩:=H g w vals r ha;exact⟨fn,tmps,asg,body,h1,h2.mono fun x w' ⟨v,p,g',h',k1,⟨h0,hl,hk⟩,k3,k4,k5⟩=>⟨v,p,g',h0,k1,hk,k3,k4.weaken hl,k5.weakenR hl⟩⟩
theorem cX_ncv{va:VA}{l:List VA}:cX P o≠some (.callv va l):=by
 intro h;have:=Z08 h;simp[VOp.isX]at this
theorem Z7v{va:VA}{vas:List VA}(hc:cOp P o=some (.callv va vas)):∃x as ats,o.op=.call { callee:=.value x,args:=as,argTypes:=ats }∧cA x=some va∧cAs as.toList=some vas:=by
 unfold cOp at hc;split at hc
 ·simp at hc
 split at hc
 ·simp at hc
 split at hc
 ·rename_i vo hx;simp only[Zx0]at hc;subst hc;exact absurd hx cX_ncv
 rename_i hno;clear hno;split at hc
 ·rename_i v hv;simp only[Zx0]at hc;subst hc;obtain⟨dst,op,type,pos,after,guard⟩:=o;cases op
  case call c=>
   obtain⟨callee,as,ats⟩:=c;simp only[Z01,Z2u]at hv;split at hv
   case h_7 x _ _ hcal=>
    split at hv
    ·rename_i a l h1 h2;simp only[Zx0,VOp.callv.injEq]at hv;obtain⟨rfl,rfl⟩:=hv;exact⟨x,_,_,congrArg Op.call (by rw[←hcal]),h1,h2⟩
    ·cases hv
   all_goals first
    |(cases hv;done)
    |((repeat' (split at hv))<;>first|(cases hv;done)|(obtain⟨_,_,hq⟩:=Zal hv;cases hq;done)|trace_state)
  all_goals (simp only[Z01]at hv;first
   |(cases hv;done)
   |(simp at hv;done)
   |((repeat' (split at hv))<;>first|(cases hv;done)|(obtain⟨_,_,hq⟩:=Zal hv;cases hq;done)|contradiction))
 ·simp at hc
def Z38(P:Program)(e:Env)(h:Heap)(op:VOp)(K:PV→Heap→Prop):Prop:=
 match op with
 | .callv f args=>(match f.ev e with
  | .fn (.func f) first cap=>Zam P f (first++args.map (VA.ev e)++cap) h K
  | .fn (.yield l) [] []=>AY P l (args.map (VA.ev e)) h K
  |_=>False)
 |op=>Zau P e h op K
def Xcw(P:Program):List VOper→(Env→Heap→Prop)→Env→Heap→Prop
 | [],K,e,h=>K e h
 |o::r,K,e,h=>match o.guard with
  |none=>Z38 P e h o.op (fun v h'=>Xcw P r K (e.put o.dst v) h')
  |some _=>False
theorem Zzx{vop:VOp}(hc:cOp P o=some vop)(hs:Z38 P e h vop K):OpS P o e h K:=by
 by_cases hv:∃f args,vop=.callv f args
 ·obtain⟨f,args,rfl⟩:=hv;simp only[Z38]at hs;split at hs
  ·rename_i g first cap hf
   exact Zb8 hc (by simp only[Zau];rw[hf];exact hs)
  ·rename_i l hf;obtain⟨x,as,ats,h1,h2,h3⟩:=Z7v hc;exact Z60 h1 h2 hf h3 hs
  ·exact hs.elim
 ·have:Zau P e h vop K:=by
   cases vop<;>first|exact hs|exact absurd ⟨_,_,rfl⟩ hv
  exact Zb8 hc this
theorem Zq9{ops:Array Oper}{Q:Exit→Act→World→Prop}{K:Env→Heap→Prop}{g0:Gh}{w0:World}{h0:Heap}
    (hQ:∀g w h a e,K e h→Rel g w h→Zas g a e→a.defers=N.D→a.tmps.size=N.n→Evo g0 w0 h0 g w h→Q .normal a w):
    ∀ (l:List Oper) (q:List VOper) (k:Nat) (e:Env) (h:Heap),(∀j,l[j]?=ops[k+j]?)→Zcr P N.n ops l=some q→Xcw P q K e h→
      ∀g w a,Rel g w h→Zas g a e→a.defers=N.D→a.tmps.size=N.n→Evo g0 w0 h0 g w h→wpOpsIn (fw N.ro) 9 P ops Q ((List.range l.length).map (k+·)) a w
  | [],q,k,e,h,_,hc,hw,g,w,a,r,he,hd,hs,hev=>by
    simp only[Zcr,Zx0]at hc;subst hc;exact hQ g w h a e hw r he hd hs hev
  | o::l,q,k,e,h,hl,hc,hw,g,w,a,r,he,hd,hs,hev=>by
    have h0:ops[k]?=some o:=by simpa using(hl 0).symm
    have hl':∀j,l[j]?=ops[(k+1)+j]?:=fun j=>by have:=hl (j+1);simpa[Nat.add_assoc,Nat.add_comm 1 j]using this
    simp only[Zcr]at hc;split at hc
    case h_2=>cases hc
    rename_i op gu qs h1 h2 h3;have hdn:(Z9s N.n o.dst&&ndB o.op)=true:=by
      by_cases hh:(Z9s N.n o.dst&&ndB o.op)=true
      ·exact hh
      ·rw[if_neg hh]at hc;cases hc
    rw[if_pos hdn]at hc;obtain⟨hdst,hnd⟩:=Bool.and_eq_true_iff.1 hdn;simp only[Zx0]at hc;subst hc;have hdlt:∀t,o.dst=some t→t<a.tmps.size:=by
      intro t ht;rw[ht]at hdst;rw[hs];simpa[Z9s]using hdst
    have hlist:(List.range (o::l).length).map (k+·)=k::(List.range l.length).map ((k+1)+·):=by
      simp only[Zyd,List.range_succ_eq_map,List.map_cons,Nat.add_zero,List.map_map]
      congr 1
      apply List.map_congr_left
      intro x _;simp only[Function.comp];omega
    rw[hlist,wpOpsIn_cons];unfold wpOpIn;simp only[h0];have next:∀(v:Value) (pv:PV) (g':Gh) (w':World) (h':Heap),Xcw P qs K (e.put o.dst pv) h'→Rep g' v pv→Rel g' w' h'→Evo g w h g' w' h'→
        wpOpsIn (fw N.ro) 9 P ops Q ((List.range l.length).map ((k+1)+·)) (a.put o.dst v) w':=by
      intro v pv g' w' h' hk hv hr hev';exact Zq9 hQ l qs (k+1) _ _ hl' h3 hk g' w' _ hr ((he.mono hev'.le).put hv hdlt) (by rw[(Ze8 a o.dst v).2];exact hd) (by rw[(Ze8 a o.dst v).1];exact hs) (hev.trans hev')
    have run:Z38 P e h op (fun v h'=>Xcw P qs K (e.put o.dst v) h')→o.wpIn (fw N.ro) 9 P a w (wpOpsIn (fw N.ro) 9 P ops Q ((List.range l.length).map ((k+1)+·))) Q:=
      fun hsw=>Z53 hnd (Zzx h1 hsw g w a _ Q r he next)
    simp only[Xcw]at hw;unfold Region.wanted;cases hog:o.guard with
    | none=>
      rw[hog]at h2;simp only[Zih,Zx0]at h2;subst h2;simp only[if_true];exact run hw
    | some jw=>
      obtain⟨j,want⟩:=jw;rw[hog]at h2;simp only[Zih]at h2;split at h2
      case h_2=>cases h2
      simp only[Zx0]at h2;subst h2;exact hw.elim
theorem Zra{Q:Exit→Env→Heap→Prop}{q:List VOper}(l:List Nat)(H:Xcw P q (fun e' h'=>Q .normal (Env.keep l e') h') e h):VW P N (.region q false) Q e h:=by
 intro c hc;cases c
 case region id ops draw=>
  obtain⟨p,h3,h|h|h⟩:=Zb7 hc
  ·obtain⟨rfl,h⟩:=h;simp only[VC.region.injEq,and_true]at h;subst h;intro g w a r he hd hs
   apply wpIn_region
   have:=Zq9 (P:=P) (N:=N) (ops:=ops) (Q:=fun x a' w'=>∃g' e' h',Q x e' h'∧Rel g' w' h'∧Zas g' a' e'∧N.dok x a'.defers h'∧a'.tmps.size=N.n∧Evo g w h g' w' h') (K:=fun e' h'=>Q .normal (Env.keep l e') h') (g0:=g) (w0:=w) (h0:=h)
    (fun g' w' h' a' e' k1 k2 k3 k4 k5 k6=>⟨g',_,h',k1,k2,k3.keep l,k4,k5,k6⟩) ops.toList q 0 e h (fun j=>by simp) h3 H g w a r he hd hs (Evo.refl _ _ _)
   simpa using this
  ·rcases h.2.2 with⟨_,h⟩|h<;>simp at h
  ·obtain⟨c,h⟩:=h;cases h
 all_goals
  simp only[Zb1,Option.map_eq_some_iff]at hc
  first
  |(simp at hc;done)
  |(split at hc<;>simp at hc)
end
end Go.VM
