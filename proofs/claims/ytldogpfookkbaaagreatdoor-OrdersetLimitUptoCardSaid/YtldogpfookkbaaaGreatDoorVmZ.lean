import Derived.Test.YtldogpfookkbaaaGreatDoorVmC
import Derived.SizedLaws
set_option linter.all false
namespace Go.VM
open Go
def isByteB:List PV→Bool
 | [.int .u8 _]=>true
 | _=>false
theorem isByteB_ok {r:List PV} (H:isByteB r=true):isByte r:=by
 unfold isByteB at H;split at H
 ·trivial
 ·cases H
def bytesOkB (h:Heap):PV→Bool
 | .nilsl=>true
 | .sl z es=>Nat.beq z 1&&es.all isByteB
 | .own id off len=>(match h.get id with
  | some (.arr _ z es)=>Nat.beq z 1&&Nat.ble (off+len) es.length&&((es.drop off).take len).all isByteB
  | _=>false)
 | _=>false
theorem bytesOkB_ok {h:Heap} {p:PV} (H:bytesOkB h p=true):bytesOk h p:=by
 unfold bytesOkB at H;split at H
 ·trivial
 ·simp only [Bool.and_eq_true,List.all_eq_true] at H;exact ⟨Nat.eq_of_beq_eq_true H.1,fun r hr=>isByteB_ok (H.2 r hr)⟩
 ·simp only [bytesOk];split at H
  ·rename_i e;simp only [e];simp only [Bool.and_eq_true,List.all_eq_true,Nat.ble_eq] at H;exact ⟨Nat.eq_of_beq_eq_true H.1.1,H.1.2,fun r hr=>isByteB_ok (H.2 r hr)⟩
  ·cases H
 ·cases H
def pxOkB (h:Heap):PX→List PV→Bool
 | .ifn _,[a]=>isIfc a
 | .b2s,[a]=>bytesOkB h a
 | .nck,[a]=>isPtr a
 | .unx,[a]=>isIntB a
 | .isnil _,[a]=>isNil a||notNil a
 | .aix n,[.loc _ _ _,.int _ k]=>decide (0≤k)&&decide (k<n)
 | .aix n,[.ro _,.int _ k]=>decide (0≤k)&&decide (k<n)
 | _,_=>false
theorem pxOkB_ok {h:Heap} {k:PX} {l:List PV} (H:pxOkB h k l=true):pxOk h k l:=by
 unfold pxOkB at H;split at H
 ·exact H
 ·exact bytesOkB_ok H
 ·exact H
 ·exact isIntB_ok H
 ·simpa [pxOk] using H
 ·simpa [pxOk] using H
 ·simpa [pxOk] using H
 ·cases H
def fxOkB (h:Heap):FX→List PV→Bool
 | .slice0 z,[a]=>(match a with
  | .nilsl|.sl _ _=>true
  | .own _ _ _=>true
  | _=>false)
 | .mk0 _,[]=>true
 | .clear z zr,[a]=>(match a with
  | .nilsl=>true
  | .own id off len=>(match h.get id with
   | some (.arr fz z' es)=>!fz&&Nat.beq z' z&&Nat.ble (off+len) es.length&&Nat.beq zr.length z
   | _=>false)
  | _=>false)
 | _,_=>false
theorem fxOkB_ok {h:Heap} {k:FX} {l:List PV} (H:fxOkB h k l=true):fxOk h k l:=by
 unfold fxOkB at H;split at H
 ·simp only [fxOk];split at H<;>first|trivial|cases H
 ·trivial
 ·simp only [fxOk];split at H
  ·trivial
  ·split at H
   ·rename_i e;simp only [e];simp only [Bool.and_eq_true,Bool.not_eq_true',Nat.ble_eq] at H;exact ⟨H.1.1.1,Nat.eq_of_beq_eq_true H.1.1.2,H.1.2,Nat.eq_of_beq_eq_true H.2⟩
   ·cases H
  ·cases H
 ·cases H
theorem fxV_heap {h:Heap} (ok:HOk h) (k:FX) (l:List PV):HOk (fxV h k l).2∧h.top≤(fxV h k l).2.top:=by
 unfold fxV;split
 ·exact ⟨ok.push _,Nat.le_succ _⟩
 ·exact ⟨ok.push _,Nat.le_succ _⟩
 ·simp only;split
  ·exact ⟨ok.set _ _,Nat.le_refl _⟩
  ·exact ⟨ok,Nat.le_refl _⟩
 ·exact ⟨ok,Nat.le_refl _⟩
def pokB (h:Heap):VOp→Bool
 | .mv _=>true
 | .pick c _ _=>isBoolB (c.ev [])
 | .build zr ps=>fillOkB [] zr.length ps
 | .load g s a=>locOkB h (a.ev [])&&Nat.ble s (Za2 h (a.ev [])).length&&(g||Nat.beq s 1)
 | .bin op a b=>binOkB op (a.ev []) (b.ev [])
 | .binb op a b=>binbOkB op (a.ev []) (b.ev [])
 | .strid a=>isStrB (a.ev [])
 | .eqs _ ks a b=>isAggB (a.ev [])&&isAggB (b.ev [])&&eqOkB ks (Zaq (a.ev [])) (Zaq (b.ev []))
 | .un op a=>unOkB op (a.ev [])
 | .conv _ a=>isIntB (a.ev [])
 | .mkfn _ _ _=>true
 | .slice st z a lo hi=>sliceOkB st z h (a.ev []) (lo.map (VA.ev [])) (hi.map (VA.ev []))
 | .faddr _ a=>isAddrB (a.ev [])
 | .fld g off s a=>isAggB (a.ev [])&&Nat.ble (off+s) (Zaq (a.ev [])).length&&(g||Nat.beq s 1)
 | .iaddr z a i=>iaddrOkB z h (a.ev []) (i.ev [])
 | .idx a i=>idxOkB (a.ev []) (i.ev [])
 | .ext a i=>extOkB i (a.ev [])
 | .len st a=>lenOkB st (a.ev [])
 | .lookup kk _ _ m k=>mapOkB h (m.ev [])&&keysOkB kk (k.ev []) (Zba h (m.ev []))
 | .mlen m=>mapOkB h (m.ev [])
 | .mm _ [a,b]=>isIntB (a.ev [])&&isIntB (b.ev [])
 | .px k l=>pxOkB h k (l.map (VA.ev []))
 | _=>false
theorem gs_ok {g:Bool} {s:Nat} (h:(g||Nat.beq s 1)=true):g=false→s=1:=by
 rintro rfl;exact Nat.eq_of_beq_eq_true (by simpa using h)
theorem pokB_ok {h:Heap} {op:VOp} (H:pokB h op=true):pok [] h op:=by
 cases op<;>simp only [pokB,Bool.false_eq_true] at H
 case mv a=>trivial
 case pick c a b=>exact isBoolB_ok H
 case build zr ps=>exact fillOkB_ok H
 case load g s a =>
  simp only [Bool.and_eq_true] at H;exact ⟨locOkB_ok H.1.1,Nat.le_of_ble_eq_true H.1.2,gs_ok H.2⟩
 case bin op a b=>exact binOkB_ok H
 case binb op a b=>exact binbOkB_ok H
 case strid a=>exact isStrB_ok H
 case eqs n ks a b =>
  simp only [Bool.and_eq_true] at H;exact ⟨isAggB_ok H.1.1,isAggB_ok H.1.2,eqOkB_ok H.2⟩
 case un op a=>exact unOkB_ok H
 case conv k a=>exact isIntB_ok H
 case mkfn f x y=>trivial
 case slice st z a lo hi=>exact sliceOkB_ok H
 case faddr o a=>exact isAddrB_ok H
 case fld g off s a =>
  simp only [Bool.and_eq_true] at H;exact ⟨isAggB_ok H.1.1,Nat.le_of_ble_eq_true H.1.2,gs_ok H.2⟩
 case iaddr z a i=>exact iaddrOkB_ok H
 case idx a i=>exact idxOkB_ok H
 case ext a i=>exact extOkB_ok H
 case len st a=>exact lenOkB_ok H
 case lookup kk zr ok m k =>
  simp only [Bool.and_eq_true] at H;exact ⟨mapOkB_ok H.1,keysOkB_ok H.2⟩
 case mlen m=>exact mapOkB_ok H
 case px k l=>exact pxOkB_ok H
 case mm mx l =>
  match l,H with
  | [a,b],H =>
   simp only [Bool.and_eq_true] at H;exact ⟨isIntB_ok H.1,isIntB_ok H.2⟩
abbrev RX:=Option (PV×Heap)
def stepX (h:Heap) (op:VOp):RX :=
 match op with
 | .alloc zr=>some (.loc h.top 0 0,h.push (.arr false zr.length [zr]))
 | .box n a=>bif (a.ev []).fits n then some (.loc h.top 0 0,h.push (.arr false n [(a.ev []).cells])) else none
 | .bslice z n zr ps=>bif elemsOkB [] z n ps then some (.own h.top 0 n,h.push (.arr false z (Za9 [] (List.replicate n zr) ps))) else none
 | .store s a v=>bif storeOkB h s (a.ev []) (v.ev []) then some (.undef,storeV h (a.ev []) (v.ev [])) else none
 | .app z bytes _ str a b => bif oldOkB h z (a.ev []) && srcOkB h str z (b.ev []) && Nat.ble ((Zbb h (a.ev [])).length + (Zar h (b.ev [])).length) 4611686018427387904 &&
   Nat.ble (((Zbb h (a.ev [])).length+(Zar h (b.ev [])).length)*bytes) 140737488355328 then
    some (.own h.top 0 ((Zbb h (a.ev [])).length+(Zar h (b.ev [])).length),(Za1 h (oldId (a.ev []))).push (.arr false z (Zbb h (a.ev [])++Zar h (b.ev []))))
   else none
 | .mkmap=>some (.mp h.top,h.push (.map []))
 | .mapset kk m k v=>bif mapHasB h (m.ev [])&&keysOkB kk (k.ev []) (Zba h (m.ev [])) then some (.undef,Zbu h (m.ev []) (k.ev []) (v.ev [])) else none
 | .fx k l=>bif fxOkB h k (l.map (VA.ev [])) then some (fxV h k (l.map (VA.ev []))) else none
 | .nd neg a=>bif slLike (a.ev []) then (bif isNil (a.ev []) then some (.bool (true != neg),h) else bif notNil (a.ev []) then some (.bool (false != neg),h) else none) else none
 | .other _|.call _ _|.callv _ _=>none
 | op=>bif pokB h op then some (pval [] h op,h) else none
theorem Zaw {b:Bool} {α:Type} {x:Option α} {y:α} (h:(bif b then x else none)=some y):b=true∧x=some y:=by
 cases b
 ·cases h
 ·exact ⟨rfl,h⟩
theorem storeV_ok {h:Heap} (ok:HOk h) (a v:PV):HOk (storeV h a v):=by
 unfold storeV;split
 ·split
  ·exact ok.set _ _
  ·exact ok
 ·exact ok
theorem storeV_top (h:Heap) (a v:PV):(storeV h a v).top=h.top:=by
 unfold storeV;split
 ·split<;>rfl
 ·rfl
theorem mapsetV_ok {h:Heap} (ok:HOk h) (m k v:PV):HOk (Zbu h m k v):=by
 unfold Zbu;split
 ·exact ok.set _ _
 ·exact ok
theorem mapsetV_top (h:Heap) (m k v:PV):(Zbu h m k v).top=h.top:=by
 unfold Zbu;split<;>rfl
theorem stepX_ok {P:Program} {h:Heap} {op:VOp} {v:PV} {h':Heap} {K:PV→Heap→Prop} (H:stepX h op=some (v,h')) (ok:HOk h):(K v h'→Zam P [] h op K)∧HOk h'∧h.top≤h'.top:=by
 have pure:op.pure=true→(bif pokB h op then some (pval [] h op,h) else none)=some (v,h')→(K v h'→Zam P [] h op K)∧HOk h'∧h.top≤h'.top:=by
  intro hp H;obtain ⟨h1,h2⟩:=Zaw H;simp only [Option.some.injEq,Prod.mk.injEq] at h2;obtain ⟨rfl,rfl⟩:=h2;refine ⟨fun hk=>?_,ok,Nat.le_refl _⟩;have:=pokB_ok h1;cases op<;>first|exact ⟨this,hk⟩|simp [VOp.pure] at hp
 cases op<;>simp only [stepX] at H<;>first|exact pure rfl H|(cases H;done)|skip
 case alloc zr =>
  simp only [Option.some.injEq,Prod.mk.injEq] at H;obtain ⟨rfl,rfl⟩:=H;exact ⟨fun hk=>hk,ok.push _,Nat.le_succ _⟩
 case box n a =>
  obtain ⟨h1,h2⟩:=Zaw H;simp only [Option.some.injEq,Prod.mk.injEq] at h2;obtain ⟨rfl,rfl⟩:=h2;exact ⟨fun hk=>⟨h1,hk⟩,ok.push _,Nat.le_succ _⟩
 case bslice z n zr ps =>
  obtain ⟨h1,h2⟩:=Zaw H;simp only [Option.some.injEq,Prod.mk.injEq] at h2;obtain ⟨rfl,rfl⟩:=h2;exact ⟨fun hk=>⟨elemsOkB_ok h1,hk⟩,ok.push _,Nat.le_succ _⟩
 case store s a v' =>
  obtain ⟨h1,h2⟩:=Zaw H;simp only [Option.some.injEq,Prod.mk.injEq] at h2;obtain ⟨rfl,rfl⟩:=h2;exact ⟨fun hk=>⟨storeOkB_ok h1,hk⟩,storeV_ok ok _ _,by rw [storeV_top];exact Nat.le_refl _⟩
 case app z bytes zr str a b =>
  obtain ⟨h1,h2⟩:=Zaw H;simp only [Option.some.injEq,Prod.mk.injEq] at h2;obtain ⟨rfl,rfl⟩:=h2;simp only [Bool.and_eq_true] at h1;refine ⟨fun hk=>⟨oldOkB_ok h1.1.1.1,srcOkB_ok h1.1.1.2,Nat.le_of_ble_eq_true h1.1.2,Nat.le_of_ble_eq_true h1.2,hk⟩,(ok.Za1 _).push _,?_⟩;show h.top≤(Za1 h _).top+1;rw [killed_top];omega
 case mkmap =>
  simp only [Option.some.injEq,Prod.mk.injEq] at H;obtain ⟨rfl,rfl⟩:=H;exact ⟨fun hk=>hk,ok.push _,Nat.le_succ _⟩
 case fx k l =>
  obtain ⟨h1,h2⟩:=Zaw H;simp only [Option.some.injEq] at h2;have hh:=fxV_heap ok k (l.map (VA.ev []));have e1:(fxV h k (l.map (VA.ev []))).1=v:=by rw [h2]
  have e2:(fxV h k (l.map (VA.ev []))).2=h':=by rw [h2]
  rw [e2] at hh;exact ⟨fun hk=>⟨fxOkB_ok h1,by rw [e1,e2];exact hk⟩,hh⟩
 case nd neg a =>
  obtain ⟨h1,h2⟩:=Zaw H;cases hn:isNil (a.ev []) with
  | true =>
   rw [hn] at h2;simp only [cond_true,Option.some.injEq,Prod.mk.injEq] at h2;obtain ⟨rfl,rfl⟩:=h2;refine ⟨fun hk=>⟨h1,fun b b1 _=>?_⟩,ok,Nat.le_refl _⟩;rw [b1 hn];exact hk
  | false =>
   rw [hn] at h2;simp only [cond_false] at h2;obtain ⟨h3,h2⟩:=Zaw h2;simp only [Option.some.injEq,Prod.mk.injEq] at h2;obtain ⟨rfl,rfl⟩:=h2;refine ⟨fun hk=>⟨h1,fun b _ b2=>?_⟩,ok,Nat.le_refl _⟩;rw [b2 h3];exact hk
 case mapset kk m k v' =>
  obtain ⟨h1,h2⟩:=Zaw H;simp only [Option.some.injEq,Prod.mk.injEq] at h2;obtain ⟨rfl,rfl⟩:=h2;simp only [Bool.and_eq_true] at h1;exact ⟨fun hk=>⟨mapHasB_ok h1.1,keysOkB_ok h1.2,hk⟩,mapsetV_ok ok _ _ _,by rw [mapsetV_top];exact Nat.le_refl _⟩
abbrev CX:=Nat→List PV→Heap→RX
def opX (call:CX) (h:Heap) (op:VOp):RX :=
 match op with
 | .call f l=>call f (l.map (VA.ev [])) h
 | .callv f l=>(match f.ev [] with
  | .fn (.func f) a b=>call f (a++l.map (VA.ev [])++b) h
  | _=>none)
 | op=>stepX h op
def CallOk (P:Program) (call:CX):Prop:=∀ f args h v h',call f args h=some (v,h')→HOk h→(∀ K:PV→Heap→Prop,K v h'→Zan P f args h K)∧HOk h'∧h.top≤h'.top
theorem opX_ok {P:Program} {call:CX} (hc:CallOk P call) {h:Heap} {op:VOp} {v:PV} {h':Heap} {K:PV→Heap→Prop} (H:opX call h op=some (v,h')) (ok:HOk h):(K v h'→Zam P [] h op K)∧HOk h'∧h.top≤h'.top:=by
 cases op<;>simp only [opX] at H<;>first|exact stepX_ok H ok|skip
 case call f l =>
  obtain ⟨h1,h2⟩:=hc _ _ _ _ _ H ok;exact ⟨fun hk=>h1 K hk,h2⟩
 case callv f l =>
  split at H
  ·rename_i f' a b hf;obtain ⟨h1,h2⟩:=hc _ _ _ _ _ H ok;exact ⟨fun hk=>by simp only [Zam,hf];exact h1 K hk,h2⟩
  ·cases H
theorem opX_closed {call:CX} {h:Heap} {op:VOp} {r:PV×Heap} (H:opX call h op=some r):op.closed=true:=by
 cases op<;>first|rfl|(simp only [opX,stepX] at H;cases H)
theorem res_closed (t:Tr) (op:VOp):(op.res t).closed=op.closed:=by cases op<;>rfl
def putO (t:Tr) (d:Option Nat) (v:PV):Tr:=match d with|some d=>Tr.put 10 t d v|none=>t
def guardX (t:Tr):Option (Nat×Bool)→Option Bool
 | none=>some true
 | some (d,want)=>guardOf want (t.get d)
def opsX (call:CX):List VOper→Tr→Heap→Option (Tr×Heap)
 | [],t,h=>some (t,h)
 | o::r,t,h=>match guardX t o.guard with
  | some true=>(match opX call h (o.op.res t) with
   | some (v,h')=>opsX call r (putO t o.dst v) h'
   | none=>none)
  | some false=>opsX call r (putO t o.dst .undef) h
  | none=>none
def SimN (N:Nat) (t:Tr) (e:Env):Prop:=Sim t e∧∀ k,N≤k→e.get k=.any
theorem SimN.put {N:Nat} (hN:N≤1000) {t:Tr} {e:Env} (hs:SimN N t e) {d:Option Nat} (hd:∀ k,d=some k→k<N) (v:PV):SimN N (putO t d v) (e.put d v):=by
  cases d with
  | none=>exact hs
  | some d =>
    have hlt:=hd d rfl;refine ⟨fun n=>?_,fun k hk=>?_⟩
    · simp only [putO,Env.put,Env.get]
      rw [Tr.get_put 10 t d n v (by have : (2 : Nat) ^ 10 = 1024 := by decide
                                    omega),hs.1 n]
    · simp only [Env.put,Env.get]
      rw [if_neg (by omega)];exact hs.2 k hk
def DstOk (N:Nat) (q:List VOper):Prop:=∀ o∈q,∀ d,o.dst=some d→d<N
theorem opsX_ok {P : Program} {call : CX} (hc : CallOk P call) {N : Nat} (hN : N ≤ 1000) : ∀ {q : List VOper} {t : Tr} {e : Env} {h : Heap} {t' : Tr} {h' : Heap} {K : Env → Heap → Prop}, opsX call q t h = some (t', h') → DstOk N q → SimN N t e → HOk h →
  ((∀ e',SimN N t' e'→K e' h')→OpsW P q K e h)∧HOk h'∧h.top≤h'.top
 | [],t,e,h,t',h',K,H,_,hs,ok=>by
  simp only [opsX,Option.some.injEq,Prod.mk.injEq] at H;obtain ⟨rfl,rfl⟩:=H;exact ⟨fun hk=>hk e hs,ok,Nat.le_refl _⟩
 | ⟨dst,op,gd⟩::r,t,e,h,t',h',K,H,hd,hs,ok=>by
  have hdst:=hd _ (List.mem_cons_self ..);have hdr:DstOk N r:=fun o ho=>hd o (List.mem_cons_of_mem _ ho);have skip:opsX call r (putO t dst .undef) h=some (t',h')→((∀ e',SimN N t' e'→K e' h')→OpsW P r K (e.put dst .undef) h)∧HOk h'∧h.top≤h'.top :=
   fun H=>opsX_ok hc hN H hdr (hs.put hN hdst _) ok
  have run : ∀ v h1, opX call h (op.res t) = some (v, h1) → opsX call r (putO t dst v) h1 = some (t', h') →
    ((∀ e',SimN N t' e'→K e' h')→Zam P e h op (fun v h'=>OpsW P r K (e.put dst v) h'))∧HOk h'∧h.top≤h'.top:=by
   intro v h1 H1 H2;have hcl:=opX_closed H1;rw [res_closed] at hcl;obtain ⟨s1,s2,s3⟩:=opX_ok (K:=fun v h'=>OpsW P r K (e.put dst v) h') hc H1 ok;obtain ⟨i1,i2,i3⟩:=opsX_ok (K:=K) hc hN H2 hdr (hs.put hN hdst v) s2;exact ⟨fun hk=>StepW_res hs.1 (s1 (i1 hk)) hcl,i2,Nat.le_trans s3 i3⟩
  simp only [opsX] at H;cases gd with
  | none =>
   simp only [guardX] at H;split at H
   ·rename_i v h1 H1;obtain ⟨a,b⟩:=run v h1 H1 H;exact ⟨fun hk=>by rw [OpsW_n];exact a hk,b⟩
   ·cases H
  | some dw =>
   obtain ⟨d,want⟩:=dw;simp only [guardX] at H;rw [hs.1 d] at H;cases hg:guardOf want (e.get d) with
   | none=>rw [hg] at H;cases H
   | some c =>
    rw [hg] at H;cases c with
    | false =>
     simp only at H;obtain ⟨a,b⟩:=skip H;exact ⟨fun hk=>by simp only [OpsW,hg,GuardW_false];exact a hk,b⟩
    | true =>
     simp only at H;split at H
     ·rename_i v h1 H1;obtain ⟨a,b⟩:=run v h1 H1 H;exact ⟨fun hk=>by simp only [OpsW,hg,GuardW_true];exact a hk,b⟩
     ·cases H
theorem cCode_dst {P:Program} {N:Nat} {c:Code} {vc:VC} (hc:Za7 P N c=some vc):∀ q,(∃ d,vc=.region q d)∨(∃ l,vc=.draw2 q l)→DstOk N q:=by
 intro q hv;have key:∀ (ops:Array Oper),cOpers P N ops ops.toList=some q→DstOk N q:=by
  intro ops h3 o ho d hd;obtain ⟨hlen,hget⟩:=cOpers_get h3;obtain ⟨i,hi,rfl⟩:=List.mem_iff_getElem.1 ho;obtain ⟨vo,k1,_,k3,_,_,k5⟩:=hget i (ops.toList[i]'(by omega)) (by simp);rw [List.getElem?_eq_getElem hi] at k1;simp only [Option.some.injEq] at k1;subst k1;exact k5 d (by rw [← k3];exact hd)
 cases c
 case region id ops draw =>
  obtain ⟨p,h3,h|h|h⟩:=Zbd hc
  ·obtain ⟨_,rfl⟩:=h;rcases hv with ⟨d,h⟩|⟨l,h⟩
   ·simp only [VC.region.injEq] at h;obtain ⟨rfl,_⟩:=h;exact key ops h3
   ·cases h
  ·obtain ⟨_,_,⟨_,rfl⟩|rfl⟩:=h
   ·rcases hv with ⟨d,h⟩|⟨l,h⟩
    ·simp only [VC.region.injEq] at h;obtain ⟨rfl,_⟩:=h;exact key ops h3
    ·cases h
   ·rcases hv with ⟨d,h⟩|⟨l,h⟩
    ·cases h
    ·simp only [VC.draw2.injEq] at h;obtain ⟨rfl,_⟩:=h;exact key ops h3
  ·obtain ⟨c,rfl⟩:=h;rcases hv with ⟨d,h⟩|⟨l,h⟩<;>cases h
 all_goals
  exfalso
  rcases hv with ⟨d,rfl⟩|⟨l,rfl⟩ <;>
  ·simp only [Za7,Option.map_eq_some_iff] at hc
   first
   |(simp at hc;done)
   |(split at hc<;>simp at hc)
theorem VW_regionX {P:Program} {N:FK} {Q:Exit→Env→Heap→Prop} {e:Env} {h:Heap} {q:List VOper} (H:DstOk N.n q→OpsW P q (fun e' h'=>Q .normal e' h') e h):VW P N (.region q false) Q e h:=by
 intro c hc;have hdst:=cCode_dst hc q (.inl ⟨_,rfl⟩);cases c
 case region id ops draw =>
  obtain ⟨p,h3,h'|h'|h'⟩:=Zbd hc
  ·obtain ⟨rfl,h'⟩:=h';simp only [VC.region.injEq,and_true] at h';subst h';intro g w a r he hd hs
   apply wpIn_region
   have:=ops_sound (P:=P) (N:=N) (ops:=ops) (Q:=fun x a' w'=>∃ g' e' h',Q x e' h'∧Rel g' w' h'∧Zah g' a' e'∧N.dok x a'.defers h'∧a'.tmps.size=N.n∧Evo g w h g' w' h') (K:=fun e' h'=>Q .normal e' h') (g0:=g) (w0:=w) (h0:=h)
    (fun g' w' h' a' e' k1 k2 k3 k4 k5 k6=>⟨g',_,h',k1,k2,k3,k4,k5,k6⟩) ops.toList q 0 e h (fun j=>by simp) h3 (H hdst) g w a r he hd hs (Evo.refl _ _ _)
   simpa using this
  ·rcases h'.2.2 with ⟨_,h'⟩|h'<;>simp at h'
  ·obtain ⟨c,h'⟩:=h';cases h'
 all_goals
  simp only [Za7,Option.map_eq_some_iff] at hc
  first
  |(simp at hc;done)
  |(split at hc<;>simp at hc)
end Go.VM
namespace Go.VM
open Go
theorem VW_drawX {P : Program} {N : FK} {Q : Exit → Env → Heap → Prop} {e : Env} {h : Heap} {q : List VOper} (hq : Heap) (hl : hq.le h)
  (H:DstOk N.n q→Zbm P hq q (fun e' h'=>Q .normal (Env.keep (List.range N.n) e') h') e h):VW P N (.region q true) Q e h :=
 fun c hc=>VW_draw (List.range N.n) hq hl (H (cCode_dst hc q (.inl ⟨_,rfl⟩))) c hc
theorem VW_draw2X {P : Program} {N : FK} {Q : Exit → Env → Heap → Prop} {e : Env} {h : Heap} {q : List VOper} {late : List Bool} (big mid small : Heap) (hl : big.le h) (hls : small.le h) (hm : Shp mid h)
  (H:DstOk N.n q→DrawG P (hq3 q late big mid small) (zed3 q big mid small) 0 q (fun e' h'=>Q .normal (Env.keep (List.range N.n) e') h') e h):VW P N (.draw2 q late) Q e h :=
 fun c hc=>VW_draw2 (List.range N.n) big mid small hl hls hm (H (cCode_dst hc q (.inr ⟨_,rfl⟩))) c hc
theorem keep_mem (e:Env):∀ (l:List Nat) (t:Nat),(Env.keep l e).get t=if t∈l then e.get t else .any
 | [],t=>by simp [Env.keep,Env.get]
 | k::l,t=>by
  simp only [Env.keep,Env.get,List.mem_cons];by_cases h:k=t
  ·subst h;simp
  ·rw [if_neg h,keep_mem e l t];have:¬ t=k:=fun h'=>h h'.symm;simp [this]
theorem SimN.keep {N:Nat} {t:Tr} {e:Env} (h:SimN N t e):SimN N t (Env.keep (List.range N) e):=by
 refine ⟨fun n=>?_,fun k hk=>?_⟩
 ·rw [keep_mem,h.1 n];by_cases hn:n<N
  ·simp [hn]
  ·rw [h.2 n (by omega)];simp
 ·rw [keep_mem,if_neg (by simpa using hk)]
theorem HL.le_of:∀ {l:List (Nat×AB)} {b:Nat} {f:Nat→Option AB},HL.dec l b→(∀ t ab,HL.get l t=some ab→f t=some ab)→HL.le l f
 | [],_,_,_,_=>trivial
 | (k,v)::r,b,f,h,hf=>by
  refine ⟨hf k v (by simp [HL.get]),HL.le_of h.2 (fun t ab e=>hf t ab ?_)⟩;have hne:k≠t:=by
   rintro rfl;rw [HL.get_none h.2 (Nat.le_refl _)] at e;cases e
  simp only [HL.get,if_neg hne];exact e
def effB (hq:Heap) (op:VOp):Bool :=
 match op with
 | .store _ a _=>(match a.ev [] with|.loc id _ _=>(hq.get id).isNone|_=>false)
 | .mapset _ m _ _=>(match m.ev [] with|.mp id=>(hq.get id).isNone|_=>false)
 | .app _ _ _ _ a _=>(match a.ev [] with|.own id _ _=>(hq.get id).isNone|.nilsl=>true|_=>false)
 | .fx (.clear _ _) _=>false
 | _=>true
theorem le_push {hq h:Heap} (okq:HOk hq) (ok:HOk h) (hl:hq.le h) (x:AB) (ht:h.top+1≤hq.top):hq.le (h.push x):=by
 refine ⟨ht,HL.le_of okq fun t ab e=>?_⟩;have e1:=Heap.le_get hl t ab e;rw [Heap.get_push,if_neg (by
  rintro rfl;have:h.get h.top=none:=HL.get_none ok (Nat.le_refl _);rw [this] at e1;cases e1)]
 exact e1
theorem le_set {hq h:Heap} (okq:HOk hq) (hl:hq.le h) (id:Nat) (x:AB) (hn:(hq.get id).isNone=true):hq.le (h.set id x):=by
 refine ⟨hl.1,HL.le_of okq fun t ab e=>?_⟩;have e1:=Heap.le_get hl t ab e;rw [Heap.get_set,if_neg (by
  rintro rfl;have e':hq.get id=some ab:=e;rw [e'] at hn;cases hn)]
 exact e1
theorem le_del {hq h:Heap} (okq:HOk hq) (hl:hq.le h) (id:Nat) (hn:(hq.get id).isNone=true):hq.le (h.del id):=by
 refine ⟨hl.1,HL.le_of okq fun t ab e=>?_⟩;have e1:=Heap.le_get hl t ab e;rw [Heap.get_del,if_neg (by
  rintro rfl;have e':hq.get id=some ab:=e;rw [e'] at hn;cases hn)]
 exact e1
theorem effB_ok {hq h:Heap} {op:VOp} {v:PV} {h':Heap} (okq:HOk hq) (ok:HOk h) (hl:hq.le h) (hs:op.simple=true) (H:stepX h op=some (v,h')) (he:effB hq op=true) (ht:h'.top≤hq.top):hq.le h':=by
 cases op<;>simp only [VOp.simple] at hs<;>simp only [stepX] at H<;>first|(cases hs;done)|skip
 case alloc zr =>
  simp only [Option.some.injEq,Prod.mk.injEq] at H;obtain ⟨rfl,rfl⟩:=H;exact le_push okq ok hl _ ht
 case box n a =>
  obtain ⟨h1,h2⟩:=Zaw H;simp only [Option.some.injEq,Prod.mk.injEq] at h2;obtain ⟨rfl,rfl⟩:=h2;exact le_push okq ok hl _ ht
 case store s a v' =>
  obtain ⟨h1,h2⟩:=Zaw H;simp only [Option.some.injEq,Prod.mk.injEq] at h2;obtain ⟨rfl,rfl⟩:=h2;simp only [effB] at he;split at he
  ·rename_i id i off hp;rw [hp];simp only [storeV];split
   ·exact le_set okq hl _ _ he
   ·exact hl
  ·cases he
 case app z bytes zr str a b =>
  obtain ⟨h1,h2⟩:=Zaw H;simp only [Option.some.injEq,Prod.mk.injEq] at h2;obtain ⟨rfl,rfl⟩:=h2;simp only [effB] at he;refine le_push okq (ok.Za1 _) ?_ _ ht;split at he
  ·rename_i id off len hp;rw [hp];exact le_del okq hl _ he
  ·rename_i hp;rw [hp];exact hl
  ·cases he
 case mkmap =>
  simp only [Option.some.injEq,Prod.mk.injEq] at H;obtain ⟨rfl,rfl⟩:=H;exact le_push okq ok hl _ ht
 case fx k l =>
  obtain ⟨h1,h2⟩:=Zaw H;simp only [Option.some.injEq] at h2;have e2:(fxV h k (l.map (VA.ev []))).2=h':=by rw [h2]
  subst e2;cases k with
  | slice0 z=>exact le_push okq ok hl _ ht
  | mk0 z=>exact le_push okq ok hl _ ht
  | clear z zr=>cases he
 case nd neg a =>
  obtain ⟨h1,h2⟩:=Zaw H;cases hn:isNil (a.ev []) with
  | true =>
   rw [hn] at h2;simp only [cond_true,Option.some.injEq,Prod.mk.injEq] at h2;rw [← h2.2];exact hl
  | false =>
   rw [hn] at h2;simp only [cond_false] at h2;obtain ⟨h3,h2⟩:=Zaw h2;simp only [Option.some.injEq,Prod.mk.injEq] at h2;rw [← h2.2];exact hl
 case mapset kk m k v' =>
  obtain ⟨h1,h2⟩:=Zaw H;simp only [Option.some.injEq,Prod.mk.injEq] at h2;obtain ⟨rfl,rfl⟩:=h2;simp only [effB] at he;split at he
  ·rename_i id hp;rw [hp];exact le_set okq hl _ _ he
  ·cases he
def viewFin (h':Heap) (r:PV):Option PV :=
 match viewD h' 30 r with
 | some p=>bif p.clB then some p else none
 | none=>none
def pcallX (call:CX) (hq:Heap) (f:Nat) (args:List PV):Option PV :=
 bif PV.clsB args then (match call f args Heap.nil with
  | some (r,h')=>viewFin h' r
  | none=>none)
 else match optL (viewD hq 30) args with
  | some q=>bif PV.clsB q then (match call f q Heap.nil with
   | some (r,h')=>(match viewFin h' r with
    | some p=>bif p.scB then some p else none
    | none=>none)
   | none=>none) else none
  | none=>none
theorem viewFin_ok {h':Heap} {r p:PV} (H:viewFin h' r=some p):View h' r p∧Closed p:=by
 unfold viewFin at H;split at H
 ·rename_i p' hv;obtain ⟨h1,h2⟩:=Zaw H;simp only [Option.some.injEq] at h2;subst h2;exact ⟨viewD_ok hv,PV.clB_ok _ h1⟩
 ·cases H
theorem pcall_of {P:Program} {call:CX} (hc:CallOk P call) {f:Nat} {q:List PV} (hcl:PV.clsB q=true) {r p:PV} {h':Heap} (H:call f q Heap.nil=some (r,h')) (hv:viewFin h' r=some p):Zaj P f q p:=by
 obtain ⟨h1,_⟩:=hc _ _ _ _ _ H (show HOk Heap.nil from trivial);obtain ⟨v1,v2⟩:=viewFin_ok hv;exact Zal (h1 _ v1) v2 (PV.clsB_ok _ hcl)
theorem pcallX_ok {P:Program} {call:CX} (hc:CallOk P call) {hq:Heap} {f:Nat} {args:List PV} {p:PV} (H:pcallX call hq f args=some p):Za5 P f args hq p:=by
 unfold pcallX at H;cases hcl:PV.clsB args with
 | true =>
  rw [hcl] at H;simp only [cond_true] at H;split at H
  ·rename_i r h' hr;exact .inl (pcall_of hc hcl hr H)
  ·cases H
 | false =>
  rw [hcl] at H;simp only [cond_false] at H;split at H
  ·rename_i q hq';obtain ⟨h1,h2⟩:=Zaw H;split at h2
   ·rename_i r h' hr;split at h2
    ·rename_i p' hp;obtain ⟨h3,h4⟩:=Zaw h2;simp only [Option.some.injEq] at h4;subst h4;exact .inr ⟨q,views_ok hq',pcall_of hc h1 hr hp,PV.scB_ok _ h3⟩
    ·cases h2
   ·cases h2
  ·cases H
def quietX (call:CX) (hq:Heap) (op:VOp):Option PV :=
 match op with
 | .call f l=>pcallX call hq f (l.map (VA.ev []))
 | .callv f l=>(match f.ev [] with
  | .fn (.func f) a b=>pcallX call hq f (a++l.map (VA.ev [])++b)
  | _=>none)
 | .bslice z n zr ps=>bif elemsOkB [] z n ps then some (.sl z (Za9 [] (List.replicate n zr) ps)) else none
 | op=>bif op.pure&&pokB hq op then some (pval [] hq op) else none
theorem quietX_ok {P:Program} {call:CX} (hc:CallOk P call) {hq:Heap} {op:VOp} {v:PV} (H:quietX call hq op=some v):QuietV P hq [] op v:=by
 have pure:(bif op.pure&&pokB hq op then some (pval [] hq op) else none)=some v→op.pure=true∧pok [] hq op∧v=pval [] hq op:=by
  intro H;obtain ⟨h1,h2⟩:=Zaw H;simp only [Bool.and_eq_true] at h1;simp only [Option.some.injEq] at h2;exact ⟨h1.1,pokB_ok h1.2,h2.symm⟩
 cases op<;>simp only [quietX] at H<;>simp only [QuietV]<;>first|exact pure H|skip
 case bslice z n zr ps =>
  obtain ⟨h1,h2⟩:=Zaw H;simp only [Option.some.injEq] at h2;exact ⟨elemsOkB_ok h1,h2.symm⟩
 case call f l=>exact pcallX_ok hc H
 case callv f l =>
  split at H
  ·rename_i f' a b hf;simp only [hf];exact pcallX_ok hc H
  ·cases H
def drawX (call:CX) (hq:Heap):List VOper→Tr→Heap→Option (Tr×Heap)
 | [],t,h=>some (t,h)
 | o::r,t,h=>match o.op.simple,o.guard with
  | true,none=>bif effB hq (o.op.res t) then (match stepX h (o.op.res t) with
   | some (v,h')=>bif Nat.ble h'.top hq.top then drawX call hq r (putO t o.dst v) h' else none
   | none=>none) else none
  | true,some _=>none
  | false,g=>match guardX t g with
   | some true=>(match quietX call hq (o.op.res t) with
    | some v=>drawX call hq r (putO t o.dst v) h
    | none=>none)
   | some false=>drawX call hq r (putO t o.dst .undef) h
   | none=>none
theorem res_simple (t:Tr) (op:VOp):(op.res t).simple=op.simple:=by cases op<;>rfl
theorem QuietV_res {P:Program} {t:Tr} {e:Env} (hs:Sim t e) {hq:Heap} {op:VOp} {v:PV} (H:QuietV P hq [] (op.res t) v):QuietV P hq e op v:=by
 have h1:=pval_res hs hq op;have h2:=pok_res hs hq op;have h3:=res_pure t op;cases op<;>simp only [VOp.res,QuietV,hs.ev,elems_res hs,elemsOk_res hs,map_res hs] at H h1 h2 h3 ⊢<;>first|exact H|(rw [← h1,← h2,← h3];exact H)|skip
theorem drawX_ok {P : Program} {call : CX} (hc : CallOk P call) {N : Nat} (hN : N ≤ 1000) {hq : Heap} (okq : HOk hq) : ∀ {q : List VOper} {t : Tr} {e : Env} {h : Heap} {t' : Tr} {h' : Heap} {K : Env → Heap → Prop}, drawX call hq q t h = some (t', h') → DstOk N q → SimN N t e → HOk h → hq.le h →
  ((∀ e',SimN N t' e'→K e' h')→Zbm P hq q K e h)∧HOk h'∧h.top≤h'.top
 | [],t,e,h,t',h',K,H,_,hs,ok,_=>by
  simp only [drawX,Option.some.injEq,Prod.mk.injEq] at H;obtain ⟨rfl,rfl⟩:=H;exact ⟨fun hk=>hk e hs,ok,Nat.le_refl _⟩
 | ⟨dst,op,gd'⟩::r,t,e,h,t',h',K,H,hd,hs,ok,hl=>by
  have hdst:=hd _ (List.mem_cons_self ..);have hdr:DstOk N r:=fun o ho=>hd o (List.mem_cons_of_mem _ ho);simp only [drawX] at H;cases hsi':op.simple with
  | true =>
   rw [hsi'] at H;cases gd' with
   | some dw=>cases H
   | none =>
    simp only at H;obtain ⟨h1,h2⟩:=Zaw H;split at h2
    ·rename_i v h1' H1;obtain ⟨h3,h4⟩:=Zaw h2;have ht:h1'.top≤hq.top:=Nat.le_of_ble_eq_true h3;have hcl:op.closed=true:=by cases op<;>first|rfl|cases hsi'
     obtain ⟨s1,s2,s3⟩:=stepX_ok (P:=P) (K:=fun v h'=>hq.le h'∧Zbm P hq r K (e.put dst v) h') H1 ok;have hl':=effB_ok okq ok hl (by rw [res_simple];exact hsi') H1 h1 ht;obtain ⟨i1,i2,i3⟩:=drawX_ok (K:=K) hc hN okq h4 hdr (hs.put hN hdst v) s2 hl';refine ⟨fun hk=>?_,i2,Nat.le_trans s3 i3⟩;rw [DrawW_n,hsi'];exact StepW_res hs.1 (s1 ⟨hl',i1 hk⟩) hcl
    ·cases h2
  | false =>
   rw [hsi'] at H;simp only at H;have skip:drawX call hq r (putO t dst .undef) h=some (t',h')→((∀ e',SimN N t' e'→K e' h')→Zbm P hq r K (e.put dst .undef) h)∧HOk h'∧h.top≤h'.top :=
    fun H=>drawX_ok hc hN okq H hdr (hs.put hN hdst _) ok hl
   have run : ∀ v, quietX call hq (op.res t) = some v → drawX call hq r (putO t dst v) h = some (t', h') →
     ((∀ e',SimN N t' e'→K e' h')→QW P hq e op true (fun v=>Zbm P hq r K (e.put dst v) h))∧HOk h'∧h.top≤h'.top:=by
    intro v H1 H2;have hqv:=QuietV_res hs.1 (quietX_ok hc H1);obtain ⟨i1,i2,i3⟩:=drawX_ok (K:=K) hc hN okq H2 hdr (hs.put hN hdst v) ok hl;refine ⟨fun hk=>?_,i2,i3⟩;unfold QW;split
    ·rename_i hdet;have hv:=hqv.det hdet;refine ⟨fun _=>?_,?_⟩
     ·cases op<;>simp only [VOp.det,VOp.pure] at hdet<;>first|exact hqv.2.1|exact hqv.1|cases hdet
     ·rw [← hv];exact i1 hk
    ·exact ⟨v,fun _=>hqv,i1 hk⟩
   cases gd' with
   | none =>
    simp only [guardX] at H;split at H
    ·rename_i v H1;obtain ⟨a,b⟩:=run v H1 H;refine ⟨fun hk=>?_,b⟩;rw [DrawW_n,hsi'];exact a hk
    ·cases H
   | some dw =>
    obtain ⟨d,want⟩:=dw;simp only [guardX] at H;rw [hs.1 d] at H;cases hg:guardOf want (e.get d) with
    | none=>rw [hg] at H;cases H
    | some c =>
     rw [hg] at H;cases c with
     | false =>
      simp only at H;obtain ⟨a,b⟩:=skip H;refine ⟨fun hk=>?_,b⟩;simp only [Zbm,hsi',hg,QW_false];exact a hk
     | true =>
      simp only at H;split at H
      ·rename_i v H1;obtain ⟨a,b⟩:=run v H1 H;refine ⟨fun hk=>?_,b⟩;simp only [Zbm,hsi',hg];exact a hk
      ·cases H
def midB (mid:Heap) (op:VOp):Bool :=
 match op with
 | .app _ _ _ _ a _=>(match a.ev [] with|.own id _ _=>(mid.get id).isNone|_=>true)
 | _=>true
def draw2X (call:CX) (big mid small:Heap) (late:List Bool):Nat→List VOper→Tr→Heap→Option (Tr×Heap)
 | _,[],t,h=>some (t,h)
 | k,o::r,t,h=>match o.op.simple,o.guard with
  | true,none=>bif effB small (o.op.res t)&&midB mid (o.op.res t) then (match stepX h (o.op.res t) with
   | some (v,h')=>bif Nat.ble h'.top small.top then draw2X call big mid small late (k+1) r (putO t o.dst v) h' else none
   | none=>none) else none
  | true,some _=>none
  | false,g=>match guardX t g with
   | some true=>(match quietX call (bif late.getD k false then big else bif o.op.isIaddr then mid else small) (o.op.res t) with
    | some v=>draw2X call big mid small late (k+1) r (putO t o.dst v) h
    | none=>none)
   | some false=>draw2X call big mid small late (k+1) r (putO t o.dst .undef) h
   | none=>none
theorem shp_push {mid h:Heap} (ok:HOk h) (hm:Shp mid h) (x:AB):Shp mid (h.push x):=by
 intro id fz z es e;obtain ⟨fz',es',e'⟩:=hm id fz z es e;refine ⟨fz',es',?_⟩;rw [Heap.get_push,if_neg (by
  rintro rfl;have:h.get h.top=none:=HL.get_none ok (Nat.le_refl _);rw [this] at e';cases e')]
 exact e'
theorem shp_set {mid h:Heap} (hm:Shp mid h) {id:Nat} {ab ab0:AB} (hg:h.get id=some ab0) (ha:∀ fz z es,ab0=.arr fz z es→∃ fz' es',ab=.arr fz' z es'):Shp mid (h.set id ab):=by
 intro i fz z es e;obtain ⟨fz',es',e'⟩:=hm i fz z es e;rw [Heap.get_set];by_cases hi:id=i
 ·subst hi;rw [if_pos rfl,hg];rw [hg] at e';simp only [Option.some.injEq] at e';obtain ⟨f2,e2,rfl⟩:=ha _ _ _ e';exact ⟨f2,e2,by simp⟩
 ·rw [if_neg hi];exact ⟨fz',es',e'⟩
theorem shp_step {mid h:Heap} {op:VOp} {v:PV} {h':Heap} (ok:HOk h) (hm:Shp mid h) (hs:op.simple=true) (H:stepX h op=some (v,h')) (he:midB mid op=true):Shp mid h':=by
 cases op<;>simp only [VOp.simple] at hs<;>simp only [stepX] at H<;>first|(cases hs;done)|skip
 case alloc zr =>
  simp only [Option.some.injEq,Prod.mk.injEq] at H;obtain ⟨rfl,rfl⟩:=H;exact shp_push ok hm _
 case box n a =>
  obtain ⟨h1,h2⟩:=Zaw H;simp only [Option.some.injEq,Prod.mk.injEq] at h2;obtain ⟨rfl,rfl⟩:=h2;exact shp_push ok hm _
 case store s a v' =>
  obtain ⟨h1,h2⟩:=Zaw H;simp only [Option.some.injEq,Prod.mk.injEq] at h2;obtain ⟨rfl,rfl⟩:=h2;unfold storeV;split
  ·split
   ·rename_i id i off _ fz z es hg;exact shp_set hm hg (fun fz' z' es' hh=>by simp only [AB.arr.injEq] at hh;obtain ⟨_,rfl,_⟩:=hh;exact ⟨_,_,rfl⟩)
   ·exact hm
  ·exact hm
 case app z bytes zr str a b =>
  obtain ⟨h1,h2⟩:=Zaw H;simp only [Option.some.injEq,Prod.mk.injEq] at h2;obtain ⟨rfl,rfl⟩:=h2;refine shp_push (ok.Za1 _) ?_ _;simp only [midB] at he;cases hp:a.ev []<;>rw [hp] at he<;>simp only [oldId,Za1]<;>try exact hm
  rename_i id off len;intro i fz z' es e;obtain ⟨fz',es',e'⟩:=hm i fz z' es e;refine ⟨fz',es',?_⟩;rw [Heap.get_del,if_neg (by rintro rfl;simp only at he;rw [e] at he;cases he)];exact e'
 case mkmap =>
  simp only [Option.some.injEq,Prod.mk.injEq] at H;obtain ⟨rfl,rfl⟩:=H;exact shp_push ok hm _
 case mapset kk m k v' =>
  obtain ⟨h1,h2⟩:=Zaw H;simp only [Option.some.injEq,Prod.mk.injEq] at h2;obtain ⟨rfl,rfl⟩:=h2;simp only [Bool.and_eq_true] at h1;have hh:=mapHasB_ok h1.1;unfold Zbu;split
  ·rename_i id hp;rw [hp] at hh;simp only [mapHas] at hh;split at hh
   ·rename_i es hg;exact shp_set hm hg (fun fz z es' hh=>by cases hh)
   ·exact hh.elim
  ·exact hm
 case fx k l =>
  obtain ⟨h1,h2⟩:=Zaw H;simp only [Option.some.injEq] at h2;have e2:(fxV h k (l.map (VA.ev []))).2=h':=by rw [h2]
  subst e2;unfold fxV;split
  ·exact shp_push ok hm _
  ·exact shp_push ok hm _
  ·rename_i z zr id off len heq;have hf:=fxOkB_ok h1;rw [heq] at hf;simp only [fxOk] at hf;simp only;split
   ·rename_i fz z' es hg;rw [hg] at hf;simp only at hf;exact shp_set hm hg (fun fz' z'' es' hh=>by simp only [AB.arr.injEq] at hh;obtain ⟨_,rfl,_⟩:=hh;exact ⟨_,_,by rw [hf.2.1]⟩)
   ·exact hm
  ·exact hm
 case nd neg a =>
  obtain ⟨h1,h2⟩:=Zaw H;cases hn:isNil (a.ev []) with
  | true =>
   rw [hn] at h2;simp only [cond_true,Option.some.injEq,Prod.mk.injEq] at h2;rw [← h2.2];exact hm
  | false =>
   rw [hn] at h2;simp only [cond_false] at h2;obtain ⟨h3,h2⟩:=Zaw h2;simp only [Option.some.injEq,Prod.mk.injEq] at h2;rw [← h2.2];exact hm
theorem effB_nw {hq:Heap} {op:VOp} (h:op.writes=false):effB hq op=true:=by
 cases op<;>first|rfl|cases h
theorem res_writes (t:Tr) (op:VOp):(op.res t).writes=op.writes:=by cases op<;>rfl
theorem draw2X_ok {P : Program} {call : CX} (hc : CallOk P call) {N : Nat} (hN : N ≤ 1000) {q0 : List VOper} {big mid small : Heap} {late : List Bool} (okb : HOk big) (oks : HOk small) (htop : small.top = big.top) :
  ∀ {q:List VOper} {k:Nat} {t:Tr} {e:Env} {h:Heap} {t':Tr} {h':Heap} {K:Env→Heap→Prop},draw2X call big mid small late k q t h=some (t',h')→(∀ j,q[j]?=q0[k+j]?)→DstOk N q→SimN N t e→HOk h→small.le h→Shp mid h →
  ((∀ e',SimN N t' e'→K e' h')→DrawG P (hq3 q0 late big mid small) (zed3 q0 big mid small) k q K e h)∧HOk h'∧h.top≤h'.top
 | [],k,t,e,h,t',h',K,H,_,_,hs,ok,_,_=>by
  simp only [draw2X,Option.some.injEq,Prod.mk.injEq] at H;obtain ⟨rfl,rfl⟩:=H;exact ⟨fun hk=>hk e hs,ok,Nat.le_refl _⟩
 | ⟨dst,op,gd'⟩::r,k,t,e,h,t',h',K,H,hq0,hd,hs,ok,hl,hm=>by
  have hdst:=hd _ (List.mem_cons_self ..);have hdr:DstOk N r:=fun o ho=>hd o (List.mem_cons_of_mem _ ho);have h0:q0[k]?=some ⟨dst,op,gd'⟩:=by simpa using (hq0 0).symm
  have hq1:∀ j,r[j]?=q0[(k+1)+j]?:=fun j=>by have:=hq0 (j+1);simpa [Nat.add_assoc,Nat.add_comm 1 j] using this
  have hwk:Zax q0 k=op.writes:=by simp [Zax,h0]
  simp only [draw2X] at H;cases hsi':op.simple with
  | true =>
   rw [hsi'] at H;cases gd' with
   | some dw=>cases H
   | none =>
    simp only at H;obtain ⟨h1,h2⟩:=Zaw H;simp only [Bool.and_eq_true] at h1;split at h2
    ·rename_i v h1' H1;obtain ⟨h3,h4⟩:=Zaw h2;have ht:h1'.top≤small.top:=Nat.le_of_ble_eq_true h3;have hcl:op.closed=true:=by cases op<;>first|rfl|cases hsi'
     obtain ⟨s1,s2,s3⟩:=stepX_ok (P:=P) (K:=fun v h'=>zed3 q0 big mid small k h h'∧DrawG P (hq3 q0 late big mid small) (zed3 q0 big mid small) (k+1) r K (e.put dst v) h') H1 ok;have hl':=effB_ok oks ok hl (by rw [res_simple];exact hsi') H1 h1.1 ht;have hm':=shp_step ok hm (by rw [res_simple];exact hsi') H1 h1.2;have hb':Zax q0 k=false→big.le h→big.le h1':=fun hw hb =>
      effB_ok okb ok hb (by rw [res_simple];exact hsi') H1 (effB_nw (by rw [res_writes,← hwk];exact hw)) (by omega)
     obtain ⟨i1,i2,i3⟩:=draw2X_ok (K:=K) hc hN okb oks htop h4 hq1 hdr (hs.put hN hdst v) s2 hl' hm';refine ⟨fun hk=>?_,i2,Nat.le_trans s3 i3⟩;simp only [DrawG,hsi'];exact StepW_res hs.1 (s1 ⟨⟨hl',hb',fun _=>hm'⟩,i1 hk⟩) hcl
    ·cases h2
  | false =>
   rw [hsi'] at H;simp only at H;have hbif:(bif late.getD k false then big else bif op.isIaddr then mid else small)=hq3 q0 late big mid small k:=by
    simp only [hq3,h0];cases late.getD k false<;>cases op.isIaddr<;>rfl
   rw [hbif] at H;have skip:draw2X call big mid small late (k+1) r (putO t dst .undef) h=some (t',h')→((∀ e',SimN N t' e'→K e' h')→DrawG P (hq3 q0 late big mid small) (zed3 q0 big mid small) (k+1) r K (e.put dst .undef) h)∧HOk h'∧h.top≤h'.top :=
    fun H=>draw2X_ok hc hN okb oks htop H hq1 hdr (hs.put hN hdst _) ok hl hm
   have run : ∀ v, quietX call (hq3 q0 late big mid small k) (op.res t) = some v → draw2X call big mid small late (k + 1) r (putO t dst v) h = some (t', h') →
     ((∀ e',SimN N t' e'→K e' h')→QW P (hq3 q0 late big mid small k) e op true (fun v=>DrawG P (hq3 q0 late big mid small) (zed3 q0 big mid small) (k+1) r K (e.put dst v) h))∧HOk h'∧h.top≤h'.top:=by
    intro v H1 H2;have hqv:=QuietV_res hs.1 (quietX_ok hc H1);obtain ⟨i1,i2,i3⟩:=draw2X_ok (K:=K) hc hN okb oks htop H2 hq1 hdr (hs.put hN hdst v) ok hl hm;refine ⟨fun hk=>?_,i2,i3⟩;unfold QW;split
    ·rename_i hdet;have hv:=hqv.det hdet;refine ⟨fun _=>?_,?_⟩
     ·cases op<;>simp only [VOp.det,VOp.pure] at hdet<;>first|exact hqv.2.1|exact hqv.1|cases hdet
     ·rw [← hv];exact i1 hk
    ·exact ⟨v,fun _=>hqv,i1 hk⟩
   cases gd' with
   | none =>
    simp only [guardX] at H;split at H
    ·rename_i v H1;obtain ⟨a,b⟩:=run v H1 H;refine ⟨fun hk=>?_,b⟩;simp only [DrawG,hsi'];exact a hk
    ·cases H
   | some dw =>
    obtain ⟨d,want⟩:=dw;simp only [guardX] at H;rw [hs.1 d] at H;cases hg:guardOf want (e.get d) with
    | none=>rw [hg] at H;cases H
    | some c =>
     rw [hg] at H;cases c with
     | false =>
      simp only at H;obtain ⟨a,b⟩:=skip H;refine ⟨fun hk=>?_,b⟩;simp only [DrawG,hsi',hg,QW_false];exact a hk
     | true =>
      simp only at H;split at H
      ·rename_i v H1;obtain ⟨a,b⟩:=run v H1 H;refine ⟨fun hk=>?_,b⟩;simp only [DrawG,hsi',hg];exact a hk
      ·cases H
def VRounds (P:Program) (N:FK) (x:VC) (Q:Exit→Env→Heap→Prop):Nat→Env→Heap→Prop
 | 0=>fun _ _=>False
 | n+1=>fun e h=>VW P N x (thenQ (VRounds P N x Q n) Q) e h
theorem VW_rounds {P:Program} {N:FK} {x:VC} {Q:Exit→Env→Heap→Prop} {e:Env} {h:Heap} (n:Nat) (H:VRounds P N x Q n e h):VW P N (.loop x) Q e h:=by
 intro c hc;cases c<;>simp only [Za7,Option.map_eq_some_iff] at hc
 case loop a =>
  obtain ⟨p,h3,h4⟩:=hc;simp only [VC.loop.injEq] at h4;subst h4;intro g w act r he hd hs;refine wpIn_loop_rounds n ?_;have key : ∀ n e1 h1 g1 w1 a1, VRounds P N p Q n e1 h1 → Rel g1 w1 h1 → Zah g1 a1 e1 → a1.defers = N.D → a1.tmps.size = N.n → Evo g w h g1 w1 h1 →
    Code.roundsIn (fw N.ro) 9 P a (fun x a' w'=>∃ g' e' h',Q x e' h'∧Rel g' w' h'∧Zah g' a' e'∧N.dok x a'.defers h'∧a'.tmps.size=N.n∧Evo g w h g' w' h') n a1 w1:=by
   intro n
   induction n with
   | zero=>intro e1 h1 g1 w1 a1 H;exact H.elim
   | succ n ih =>
    intro e1 h1 g1 w1 a1 H r1 he1 hd1 hs1 ev;rw [roundsIn_succ];refine wpIn_mono (H a h3 g1 w1 a1 r1 he1 hd1 hs1) fun ex a' w' ⟨g',e',h',k1,k2,k3,k4,k5,k6⟩=>?_;cases ex with
    | normal=>exact ih e' h' g' w' a' k1 k2 k3 k4 k5 (ev.trans k6)
    | exit id=>exact ⟨g',e',h',k1,k2,k3,k4,k5,ev.trans k6⟩
    | goto l=>exact ⟨g',e',h',k1,k2,k3,k4,k5,ev.trans k6⟩
    | ret=>exact ⟨g',e',h',k1,k2,k3,k4,k5,ev.trans k6⟩
    | panic ch=>exact ⟨g',e',h',k1,k2,k3,k4,k5,ev.trans k6⟩
    | outgrown=>exact ⟨g',e',h',k1,k2,k3,k4,k5,ev.trans k6⟩
  exact key n e h g w act H r he hd hs (Evo.refl _ _ _)
 case seq=>split at hc<;>simp at hc
 case cond=>split at hc<;>simp at hc
 case region=>(repeat' (split at hc))<;>simp at hc
 all_goals simp at hc
end Go.VM
namespace Go.VM
open Go
structure FnD where
 n : Nat
 rs : List RS
 vc : VC
abbrev EX:=VC→Tr→Heap→Option (Exit×Tr×Heap)
def tgt:VOp→Option Nat
 | .store _ a _=>(match a.ev [] with|.loc id _ _=>some id|_=>none)
 | .mapset _ m _ _=>(match m.ev [] with|.mp id=>some id|_=>none)
 | .app _ _ _ _ a _=>(match a.ev [] with|.own id _ _=>some id|_=>none)
 | _=>none
def touchX (call:CX):List VOper→Tr→Heap→List Nat
 | [],_,_=>[]
 | o::r,t,h=>match guardX t o.guard with
  | some true=>(match opX call h (o.op.res t) with
   | some (v,h')=>(match tgt (o.op.res t) with
    | some id=>id::touchX call r (putO t o.dst v) h'
    | none=>touchX call r (putO t o.dst v) h')
   | none=>[])
  | some false=>touchX call r (putO t o.dst .undef) h
  | none=>[]
def quietHeap (q:List VOper) (h:Heap):Heap:=⟨h.l,h.top+q.length⟩
def goneX (call:CX):List VOper→Tr→Heap→List Nat
 | [],_,_=>[]
 | o::r,t,h=>match guardX t o.guard with
  | some true=>(match opX call h (o.op.res t) with
   | some (v,h')=>(match o.op.res t with
    | .app _ _ _ _ (.c (.own id _ _)) _=>id::goneX call r (putO t o.dst v) h'
    | _=>goneX call r (putO t o.dst v) h')
   | none=>[])
  | some false=>goneX call r (putO t o.dst .undef) h
  | none=>[]
def midHeap (call:CX) (q:List VOper) (t:Tr) (h:Heap):Heap :=
 bif q.any (fun o=>match o.op with|.app ..=>true|_=>false) then (match goneX call q t h with
  | ids=>⟨HL.only (fun k=>!ids.any (Nat.beq k)) h.l,h.top⟩) else h
def smallHeap (call:CX) (q:List VOper) (t:Tr) (h:Heap):Heap :=
 match touchX call q t h with
 | ids=>⟨HL.only (fun k=>!ids.any (Nat.beq k)) h.l,h.top+q.length⟩
def Zbc (ex:EX) (call:CX):EX
 | .skip,t,h=>some (.normal,t,h)
 | .region q false,t,h=>(match opsX call q t h with
  | some (t',h')=>some (.normal,t',h')
  | none=>none)
 | .region q true,t,h=>(match drawX call (quietHeap q h) q t h with
  | some (t',h')=>some (.normal,t',h')
  | none=>none)
 | .draw2 q late,t,h=>(match draw2X call (quietHeap q h) (midHeap call q t h) (smallHeap call q t h) late 0 q t h with
  | some (t',h')=>some (.normal,t',h')
  | none=>none)
 | .seq a b,t,h=>(match ex a t h with
  | some (.normal,t',h')=>ex b t' h'
  | r=>r)
 | .cond c a b,t,h=>(match (c.res t).ev [] with
  | .bool true=>ex a t h
  | .bool false=>ex b t h
  | _=>none)
 | .block id b,t,h=>(match ex b t h with
  | some (.exit j,t',h')=>some (bif Nat.beq j id then .normal else .exit j,t',h')
  | r=>r)
 | .loop b,t,h=>(match ex b t h with
  | some (.normal,t',h')=>ex (.loop b) t' h'
  | r=>r)
 | .scope b,t,h=>(match ex b t h with
  | some (.goto _,_,_)=>none
  | r=>r)
 | .exit id,t,h=>some (.exit id,t,h)
 | .ret,t,h=>some (.ret,t,h)
 | .other _,_,_=>none
def argTr:Nat→List PV→Tr→Tr
 | _,[],t=>t
 | k,a::r,t=>argTr (k+1) r (Tr.put 10 t k a)
def rsV (t:Tr) (h:Heap):RS→PV
 | .t n=>t.get n
 | .c n g s=>aggV g ((Za2 h (t.get n)).take s)
def rsB (t:Tr) (h:Heap):RS→Bool
 | .t _=>true
 | .c n g s=>locOkB h (t.get n)&&Nat.ble s (Za2 h (t.get n)).length&&(g||Nat.beq s 1)
def rssV (t:Tr) (h:Heap):List RS→PV
 | [x]=>rsV t h x
 | l=>.tup (l.map (rsV t h))
def letGo (h:Heap) (args:List PV) (v:PV) (h':Heap):Heap :=
 bif PV.clsB args&&v.clB then ⟨HL.only (fun k=>Nat.blt k h.top) h'.l,h'.top⟩ else h'
def callX (ex:EX) (T:Nat→Option FnD):CX:=fun f args h =>
 match T f with
 | some d=>bif Nat.ble args.length d.n&&Nat.ble d.n 1000 then (match ex d.vc (argTr 0 args .lf) h with
  | some (.normal,t',h')=>bif d.rs.all (rsB t' h') then some (rssV t' h' d.rs,letGo h args (rssV t' h' d.rs) h') else none
  | some (.ret,t',h')=>bif d.rs.all (rsB t' h') then some (rssV t' h' d.rs,letGo h args (rssV t' h' d.rs) h') else none
  | _=>none) else none
 | none=>none
def exec (T:Nat→Option FnD):Nat→EX
 | 0=>fun _ _ _=>none
 | n+1=>Zbc (exec T n) (callX (exec T n) T)
def FnOk (P:Program) (f:Nat) (d:FnD):Prop:=∃ fn c,P.funcs[f]?=some fn∧fnOk P f=true∧fn.body=some c∧rsOf P fn.results.toList=some d.rs∧d.n=fn.ntmps∧Za7 P fn.ntmps c=some d.vc
def TOk (P:Program) (T:Nat→Option FnD):Prop:=∀ f d,T f=some d→FnOk P f d
def HExOk (ex:EX):Prop:=∀ vc t h x t' h',ex vc t h=some (x,t',h')→HOk h→HOk h'∧h.top≤h'.top
def VExOk (P:Program) (ex:EX):Prop:=∀ vc t h x t' h',ex vc t h=some (x,t',h')→∀ N,N≤1000→∀ e,SimN N t e→HOk h→∀ Q:Exit→Env→Heap→Prop,
 (∀ e',SimN N t' e'→Q x e' h')→VW P (FK.std N) vc Q e h
def LExOk (P:Program) (ex:EX):Prop:=∀ b t h x t' h',ex (.loop b) t h=some (x,t',h')→HOk h→∃ n,∀ N,N≤1000→∀ e,SimN N t e→∀ Q:Exit→Env→Heap→Prop,
 (∀ e',SimN N t' e'→Q x e' h')→VRounds P (FK.std N) b Q n e h
def HCallOk (call:CX):Prop:=∀ f args h v h',call f args h=some (v,h')→HOk h→HOk h'∧h.top≤h'.top
theorem quietHeap_ok {q:List VOper} {h:Heap} (ok:HOk h):HOk (quietHeap q h)∧(quietHeap q h).le h :=
 ⟨HL.dec_mono ok (Nat.le_add_right _ _),Nat.le_add_right _ _,HL.Zbv ok fun _ _=>.inl rfl⟩
theorem midHeap_ok {call:CX} {q:List VOper} {t:Tr} {h:Heap} (ok:HOk h):Shp (midHeap call q t h) h:=by
 unfold midHeap;cases q.any (fun o=>match o.op with|.app ..=>true|_=>false)
 ·exact fun id fz z es e=>⟨fz,es,e⟩
 ·intro id fz z es e;have e':HL.get (HL.only (fun k=>!(goneX call q t h).any (Nat.beq k)) h.l) id=some (.arr fz z es):=e;rw [HL.get_only _ ok] at e';split at e'
  ·exact ⟨fz,es,e'⟩
  ·cases e'
theorem smallHeap_ok {call:CX} {q:List VOper} {t:Tr} {h:Heap} (ok:HOk h):HOk (smallHeap call q t h)∧(smallHeap call q t h).le h∧(smallHeap call q t h).le (quietHeap q h)∧(smallHeap call q t h).top=(quietHeap q h).top:=by
 have h1:=HL.dec_only (fun k=>!(touchX call q t h).any (Nat.beq k)) ok;have hl:HL.le (HL.only (fun k=>!(touchX call q t h).any (Nat.beq k)) h.l) h.get:=HL.Zbv h1 fun k _=>by
  show HL.get (HL.only _ h.l) k=HL.get h.l k∨_;rw [HL.get_only _ ok];split
  ·exact .inl rfl
  ·exact .inr rfl
 exact ⟨HL.dec_mono h1 (Nat.le_add_right _ _),⟨Nat.le_add_right _ _,hl⟩,⟨Nat.le_refl _,hl⟩,rfl⟩
theorem opX_heap {call:CX} (hc:HCallOk call) {h:Heap} {op:VOp} {v:PV} {h':Heap} (H:opX call h op=some (v,h')) (ok:HOk h):HOk h'∧h.top≤h'.top:=by
 cases op<;>simp only [opX] at H<;>first|exact (stepX_ok (P:=default) (K:=fun _ _=>True) H ok).2|skip
 case call f l=>exact hc _ _ _ _ _ H ok
 case callv f l =>
  split at H
  ·exact hc _ _ _ _ _ H ok
  ·cases H
theorem opsX_heap {call:CX} (hc:HCallOk call):∀ {q:List VOper} {t:Tr} {h:Heap} {t':Tr} {h':Heap},opsX call q t h=some (t',h')→HOk h→HOk h'∧h.top≤h'.top:=by
 intro q
 induction q with
 | nil =>
  intro t h t' h' H ok;simp only [opsX,Option.some.injEq,Prod.mk.injEq] at H;obtain ⟨_,rfl⟩:=H;exact ⟨ok,Nat.le_refl _⟩
 | cons o r ih =>
  intro t h t' h' H ok;simp only [opsX] at H;split at H
  ·split at H
   ·rename_i v h1 H1;obtain ⟨s2,s3⟩:=opX_heap hc H1 ok;obtain ⟨i2,i3⟩:=ih H s2;exact ⟨i2,Nat.le_trans s3 i3⟩
   ·cases H
  ·exact ih H ok
  ·cases H
theorem drawX_heap {call:CX} {hq:Heap}:∀ {q:List VOper} {t:Tr} {h:Heap} {t':Tr} {h':Heap},drawX call hq q t h=some (t',h')→HOk h→HOk h'∧h.top≤h'.top:=by
 intro q
 induction q with
 | nil =>
  intro t h t' h' H ok;simp only [drawX,Option.some.injEq,Prod.mk.injEq] at H;obtain ⟨_,rfl⟩:=H;exact ⟨ok,Nat.le_refl _⟩
 | cons o r ih =>
  intro t h t' h' H ok;simp only [drawX] at H;split at H
  ·obtain ⟨_,H⟩:=Zaw H;split at H
   ·rename_i v h1 H1;obtain ⟨_,H⟩:=Zaw H;obtain ⟨_,s2,s3⟩:=stepX_ok (P:=default) (K:=fun _ _=>True) H1 ok;obtain ⟨i2,i3⟩:=ih H s2;exact ⟨i2,Nat.le_trans s3 i3⟩
   ·cases H
  ·cases H
  ·split at H
   ·split at H
    ·exact ih H ok
    ·cases H
   ·exact ih H ok
   ·cases H
theorem draw2X_heap {call:CX} {big mid small:Heap} {late:List Bool}:∀ {q:List VOper} {k:Nat} {t:Tr} {h:Heap} {t':Tr} {h':Heap},draw2X call big mid small late k q t h=some (t',h')→HOk h→HOk h'∧h.top≤h'.top:=by
 intro q
 induction q with
 | nil =>
  intro k t h t' h' H ok;simp only [draw2X,Option.some.injEq,Prod.mk.injEq] at H;obtain ⟨_,rfl⟩:=H;exact ⟨ok,Nat.le_refl _⟩
 | cons o r ih =>
  intro k t h t' h' H ok;simp only [draw2X] at H;split at H
  ·obtain ⟨_,H⟩:=Zaw H;split at H
   ·rename_i v h1 H1;obtain ⟨_,H⟩:=Zaw H;obtain ⟨_,s2,s3⟩:=stepX_ok (P:=default) (K:=fun _ _=>True) H1 ok;obtain ⟨i2,i3⟩:=ih H s2;exact ⟨i2,Nat.le_trans s3 i3⟩
   ·cases H
  ·cases H
  ·split at H
   ·split at H
    ·exact ih H ok
    ·cases H
   ·exact ih H ok
   ·cases H
theorem stepVC_heap {ex:EX} {call:CX} (he:HExOk ex) (hc:HCallOk call):HExOk (Zbc ex call):=by
 intro vc t h x t' h' H ok;have same:∀ {y:Exit},(some (y,t,h):Option (Exit×Tr×Heap))=some (x,t',h')→HOk h'∧h.top≤h'.top:=by
  intro y H;simp only [Option.some.injEq,Prod.mk.injEq] at H;obtain ⟨_,_,rfl⟩:=H;exact ⟨ok,Nat.le_refl _⟩
 cases vc with
 | skip=>exact same H
 | exit id=>exact same H
 | ret=>exact same H
 | other c=>cases H
 | region q d =>
  cases d with
  | false =>
   simp only [Zbc] at H;split at H
   ·rename_i t1 h1 H1;simp only [Option.some.injEq,Prod.mk.injEq] at H;obtain ⟨_,_,rfl⟩:=H;exact opsX_heap hc H1 ok
   ·cases H
  | true =>
   simp only [Zbc] at H;split at H
   ·rename_i t1 h1 H1;simp only [Option.some.injEq,Prod.mk.injEq] at H;obtain ⟨_,_,rfl⟩:=H;exact drawX_heap H1 ok
   ·cases H
 | draw2 q late =>
  simp only [Zbc] at H;split at H
  ·rename_i t1 h1 H1;simp only [Option.some.injEq,Prod.mk.injEq] at H;obtain ⟨_,_,rfl⟩:=H;exact draw2X_heap H1 ok
  ·cases H
 | seq a b =>
  simp only [Zbc] at H;split at H
  ·rename_i t1 h1 H1;obtain ⟨b1,b2⟩:=he a t h .normal t1 h1 H1 ok;obtain ⟨c1,c2⟩:=he b t1 h1 x t' h' H b1;exact ⟨c1,Nat.le_trans b2 c2⟩
  ·exact he a t h x t' h' H ok
 | cond c a b =>
  simp only [Zbc] at H;split at H
  ·exact he a t h x t' h' H ok
  ·exact he b t h x t' h' H ok
  ·cases H
 | block id b =>
  simp only [Zbc] at H;split at H
  ·rename_i j t1 h1 H1;simp only [Option.some.injEq,Prod.mk.injEq] at H;obtain ⟨_,_,rfl⟩:=H;exact he b t h _ t1 h1 H1 ok
  ·exact he b t h x t' h' H ok
 | scope b =>
  simp only [Zbc] at H;split at H
  ·cases H
  ·exact he b t h x t' h' H ok
 | loop b =>
  simp only [Zbc] at H;split at H
  ·rename_i t1 h1 H1;obtain ⟨b1,b2⟩:=he b t h .normal t1 h1 H1 ok;obtain ⟨c1,c2⟩:=he (.loop b) t1 h1 x t' h' H b1;exact ⟨c1,Nat.le_trans b2 c2⟩
  ·exact he b t h x t' h' H ok
theorem CallOk.heap {P:Program} {call:CX} (h:CallOk P call):HCallOk call:=fun f args hh v h' H ok=>(h f args hh v h' H ok).2
theorem stepVC_ok {P:Program} {ex:EX} {call:CX} (hh:HExOk ex) (he:VExOk P ex) (hl:LExOk P (Zbc ex call)) (hc:CallOk P call):VExOk P (Zbc ex call):=by
 intro vc t h x t' h' H N hN e hs ok Q hk;cases vc with
 | skip =>
  simp only [Zbc,Option.some.injEq,Prod.mk.injEq] at H;obtain ⟨rfl,rfl,rfl⟩:=H;exact VW_skip (hk e hs)
 | exit id =>
  simp only [Zbc,Option.some.injEq,Prod.mk.injEq] at H;obtain ⟨rfl,rfl,rfl⟩:=H;exact VW_exit (hk e hs)
 | ret =>
  simp only [Zbc,Option.some.injEq,Prod.mk.injEq] at H;obtain ⟨rfl,rfl,rfl⟩:=H;exact VW_ret (hk e hs)
 | other c=>cases H
 | region q d =>
  cases d with
  | false =>
   simp only [Zbc] at H;split at H
   ·rename_i t1 h1 H1;simp only [Option.some.injEq,Prod.mk.injEq] at H;obtain ⟨rfl,rfl,rfl⟩:=H;exact VW_regionX fun hd=>(opsX_ok (K:=fun e' h'=>Q .normal e' h') hc hN H1 hd hs ok).1 fun e' hs'=>hk e' hs'
   ·cases H
  | true =>
   simp only [Zbc] at H;split at H
   ·rename_i t1 h1 H1;simp only [Option.some.injEq,Prod.mk.injEq] at H;obtain ⟨rfl,rfl,rfl⟩:=H;obtain ⟨okq,hlq⟩:=quietHeap_ok (q:=q) ok;generalize quietHeap q h=hq at *;exact VW_drawX hq hlq fun hd=>(drawX_ok (K:=fun e' h'=>Q .normal (Env.keep (List.range N) e') h') hc hN okq H1 hd hs ok hlq).1 fun e' hs'=>hk _ hs'.keep
   ·cases H
 | draw2 q late =>
  simp only [Zbc] at H;split at H
  ·rename_i t1 h1 H1;simp only [Option.some.injEq,Prod.mk.injEq] at H;obtain ⟨rfl,rfl,rfl⟩:=H;obtain ⟨okq,hlq⟩:=quietHeap_ok (q:=q) ok;obtain ⟨oks,hls,hsb,htop⟩:=smallHeap_ok (call:=call) (q:=q) (t:=t) ok;exact VW_draw2X _ _ _ hlq hls (midHeap_ok (call:=call) (q:=q) (t:=t) ok) fun hd=>(draw2X_ok (K:=fun e' h'=>Q .normal (Env.keep (List.range N) e') h') hc hN okq oks htop H1 (fun j=>by simp) hd hs ok hls (midHeap_ok (call:=call) (q:=q) (t:=t) ok)).1 fun e' hs'=>hk _ hs'.keep
  ·cases H
 | seq a b =>
  simp only [Zbc] at H;split at H
  ·rename_i t1 h1 H1;have ok1:=(hh a t h .normal t1 h1 H1 ok).1;exact Zab (he a t h .normal t1 h1 H1 N hN e hs ok (thenQ (VW P (FK.std N) b Q) Q) fun e' hs'=>he b t1 h1 x t' h' H N hN e' hs' ok1 Q hk)
  ·rename_i hne;refine Zab (he a t h x t' h' H N hN e hs ok (thenQ (VW P (FK.std N) b Q) Q) fun e' hs'=>?_);cases x with
   | normal=>exact absurd H (hne t' h')
   | exit id=>exact hk e' hs'
   | goto l=>exact hk e' hs'
   | ret=>exact hk e' hs'
   | panic ch=>exact hk e' hs'
   | outgrown=>exact hk e' hs'
 | cond c a b =>
  simp only [Zbc] at H;split at H
  ·rename_i hb;rw [hs.1.ev] at hb;exact Zaf hb (fun _=>he a t h x t' h' H N hN e hs ok Q hk) (fun h=>by cases h)
  ·rename_i hb;rw [hs.1.ev] at hb;exact Zaf hb (fun h=>by cases h) (fun _=>he b t h x t' h' H N hN e hs ok Q hk)
  ·cases H
 | block id b =>
  simp only [Zbc] at H;split at H
  ·rename_i j t1 h1 H1;simp only [Option.some.injEq,Prod.mk.injEq] at H;obtain ⟨rfl,rfl,rfl⟩:=H;refine Zac (he b t h (.exit j) t1 h1 H1 N hN e hs ok (blockQ id Q) fun e' hs'=>?_);have:=hk e' hs';simp only [blockQ];cases hj:Nat.beq j id with
   | true=>rw [hj] at this;rw [if_pos (Nat.eq_of_beq_eq_true hj)];exact this
   | false=>rw [hj] at this;rw [if_neg (fun h=>by rw [h] at hj;simp at hj)];exact this
  ·rename_i hne;refine Zac (he b t h x t' h' H N hN e hs ok (blockQ id Q) fun e' hs'=>?_);cases x with
   | exit j=>exact absurd H (hne j t' h')
   | normal=>exact hk e' hs'
   | goto l=>exact hk e' hs'
   | ret=>exact hk e' hs'
   | panic ch=>exact hk e' hs'
   | outgrown=>exact hk e' hs'
 | scope b =>
  simp only [Zbc] at H;split at H
  ·cases H
  ·rename_i hne;refine VW_scope (he b t h x t' h' H N hN e hs ok (scopeQ Q) fun e' hs'=>?_);cases x with
   | goto l=>exact absurd H (hne l t' h')
   | exit j=>exact hk e' hs'
   | normal=>exact hk e' hs'
   | ret=>exact hk e' hs'
   | panic ch=>exact hk e' hs'
   | outgrown=>exact hk e' hs'
 | loop b =>
  obtain ⟨n,hn⟩:=hl b t h x t' h' H ok;exact VW_rounds n (hn N hN e hs Q hk)
theorem stepVC_loop {P:Program} {ex:EX} {call:CX} (hh:HExOk ex) (he:VExOk P ex) (hl:LExOk P ex):LExOk P (Zbc ex call):=by
 intro b t h x t' h' H ok;simp only [Zbc] at H;split at H
 ·rename_i t1 h1 H1;have ok1:=(hh b t h .normal t1 h1 H1 ok).1;obtain ⟨n,hn⟩:=hl b t1 h1 x t' h' H ok1;exact ⟨n+1,fun N hN e hs Q hk=>he b t h .normal t1 h1 H1 N hN e hs ok (thenQ (VRounds P (FK.std N) b Q n) Q) fun e' hs'=>hn N hN e' hs' Q hk⟩
 ·rename_i hne;refine ⟨1,fun N hN e hs Q hk=>he b t h x t' h' H N hN e hs ok (thenQ (VRounds P (FK.std N) b Q 0) Q) fun e' hs'=>?_⟩;cases x with
  | normal=>exact absurd H (hne t' h')
  | exit id=>exact hk e' hs'
  | goto l=>exact hk e' hs'
  | ret=>exact hk e' hs'
  | panic ch=>exact hk e' hs'
  | outgrown=>exact hk e' hs'
theorem argTr_sim {N:Nat} (hN:N≤1000):∀ (l:List PV) (k:Nat) (t:Tr) (e:Env),SimN N t e→k+l.length≤N→(∀ i,k≤i→e.get i=.any)→Sim (argTr k l t) (argEnv k l++e)
 | [],k,t,e,hs,_,_=>hs.1
 | a::r,k,t,e,hs,hk,hf=>by
  simp only [argTr];intro n;have hlen:k+1+r.length≤N:=by simp at hk;omega
  have hput:=SimN.put (d:=some k) hN hs (fun j hj=>by simp only [Option.some.injEq] at hj;omega) a;have ih:=argTr_sim hN r (k+1) (Tr.put 10 t k a) (e.put (some k) a) hput hlen (fun i hi=>by simp only [Env.put,Env.get];rw [if_neg (by omega)];exact hf i (by omega)) n;rw [ih];have app:∀ (l:List PV) (k:Nat) (e:Env) (n:Nat),Env.get (argEnv k l++e) n=if k≤n∧n<k+l.length then PV.nth l (n-k) else e.get n:=by
   intro l
   induction l with
   | nil=>intro k e n;simp [argEnv];intro h1 h2;omega
   | cons b l ihl =>
    intro k e n;simp only [argEnv,List.cons_append,Env.get,ihl];by_cases h1:k=n
    ·subst h1;simp [PV.nth]
    ·rw [if_neg h1];by_cases h2:k+1≤n∧n<k+1+l.length
     ·rw [if_pos h2,if_pos ⟨by omega,by simp;omega⟩];have:n-k=(n-(k+1))+1:=by omega
      rw [this];simp [PV.nth]
     ·rw [if_neg h2,if_neg (by simp;omega)]
  rw [app,app];by_cases h1:n=k
  ·subst h1;rw [if_neg (by omega),if_pos (by simp)];simp [Env.put,Env.get,PV.nth]
  ·by_cases h2:k+1≤n∧n<k+1+r.length
   ·rw [if_pos h2,if_pos ⟨by omega,by simp;omega⟩];have:n-k=(n-(k+1))+1:=by omega
    rw [this];simp [PV.nth]
   ·rw [if_neg h2,if_neg (by simp;omega)];simp only [Env.put,Env.get];rw [if_neg (by omega)]
theorem argTr_simN {N:Nat} (hN:N≤1000) (l:List PV) (hl:l.length≤N):SimN N (argTr 0 l .lf) (argEnv 0 l):=by
 have h0:SimN N .lf []:=⟨fun n=>rfl,fun k _=>rfl⟩;have:=argTr_sim hN l 0 .lf [] h0 (by omega) (fun _ _=>rfl);rw [List.append_nil] at this;refine ⟨this,fun k hk=>?_⟩;rw [argEnv_get,if_neg (by omega)]
theorem rsB_ok {N:Nat} {t:Tr} {e:Env} (hs:SimN N t e) (h:Heap):∀ {l:List RS},l.all (rsB t h)=true→resOk e h l
 | [],_=>trivial
 | x::r,H=>by
  simp only [List.all_cons,Bool.and_eq_true] at H;refine ⟨?_,rsB_ok hs h H.2⟩;cases x with
  | t n=>trivial
  | c n g s =>
   have h1:=H.1;simp only [rsB,Bool.and_eq_true] at h1;rw [hs.1 n] at h1;exact ⟨locOkB_ok h1.1.1,Nat.le_of_ble_eq_true h1.1.2,gs_ok h1.2⟩
theorem rsV_eq {N:Nat} {t:Tr} {e:Env} (hs:SimN N t e) (h:Heap) (x:RS):rsV t h x=x.ev e h:=by
 cases x with
 | t n=>exact hs.1 n
 | c n g s=>simp only [rsV,RS.ev,hs.1 n]
theorem rssV_eq {N:Nat} {t:Tr} {e:Env} (hs:SimN N t e) (h:Heap) (l:List RS):rssV t h l=resV e h l:=by
 have hm:∀ l:List RS,l.map (rsV t h)=l.map (RS.ev e h):=fun l=>List.map_congr_left fun x _=>rsV_eq hs h x
 match l with
 | []=>rfl
 | [x]=>exact rsV_eq hs h x
 | x::y::r=>simp only [rssV,resV];rw [hm]
theorem letGo_ok {h:Heap} {args:List PV} {v:PV} {h':Heap} (ok:HOk h'):HOk (letGo h args v h')∧(letGo h args v h').top=h'.top∧(letGo h args v h').le h':=by
 unfold letGo;cases PV.clsB args&&v.clB
 ·exact ⟨ok,rfl,ok.le_refl⟩
 ·simp only [cond_true];have h1:=HL.dec_only (fun k=>Nat.blt k h.top) ok;refine ⟨h1,by trivial,Nat.le_refl _,HL.Zbv h1 fun k _=>?_⟩;show HL.get (HL.only _ h'.l) k=HL.get h'.l k∨_;rw [HL.get_only _ ok];split
  ·exact .inl rfl
  ·exact .inr rfl
theorem callX_ok {P:Program} {ex:EX} {T:Nat→Option FnD} (hT:TOk P T) (hh:HExOk ex) (he:VExOk P ex):CallOk P (callX ex T):=by
 intro f args h v h' H ok;unfold callX at H;split at H
 case h_2=>cases H
 rename_i d hd;obtain ⟨hb,H⟩:=Zaw H;simp only [Bool.and_eq_true] at hb;have hn:args.length≤d.n:=Nat.le_of_ble_eq_true hb.1;have hN:d.n≤1000:=Nat.le_of_ble_eq_true hb.2;obtain ⟨fn,c,f1,f2,f3,f4,f5,f6⟩:=hT f d hd;have fin : ∀ (x : Exit) t' h1, (x = .normal ∨ x = .ret) → ex d.vc (argTr 0 args .lf) h = some (x, t', h1) → d.rs.all (rsB t' h1) = true → rssV t' h1 d.rs = v → letGo h args (rssV t' h1 d.rs) h1 = h' →
   (∀ K:PV→Heap→Prop,K v h'→Zan P f args h K)∧HOk h'∧h.top≤h'.top:=by
  intro x t' h1 hx H1 H2 H3 H4;subst H3;obtain ⟨ok1,top1⟩:=hh _ _ _ _ _ _ H1 ok;obtain ⟨l1,l2,l3⟩:=letGo_ok (h:=h) (args:=args) (v:=rssV t' h1 d.rs) ok1;rw [H4] at l1 l2 l3;refine ⟨fun K hk=>?_,l1,by omega⟩;refine Zan.drop (ACall_fn f1 f2 f3 f4 (by omega) f6 ?_);rw [← f5];refine he d.vc _ h x t' h1 H1 d.n hN _ (argTr_simN hN args hn) ok _ fun e' hs'=>?_;have hr:resOk e' h1 d.rs∧∃ h0,h0.le h1∧K (resV e' h1 d.rs) h0:=⟨rsB_ok hs' h1 H2,h',l3,by rw [← rssV_eq hs'];exact hk⟩;rcases hx with rfl|rfl
  ·exact hr
  ·exact hr
 split at H
 ·rename_i t' h1 H1;obtain ⟨H2,H3⟩:=Zaw H;simp only [Option.some.injEq,Prod.mk.injEq] at H3;exact fin .normal t' h1 (.inl rfl) H1 H2 H3.1 H3.2
 ·rename_i t' h1 H1;obtain ⟨H2,H3⟩:=Zaw H;simp only [Option.some.injEq,Prod.mk.injEq] at H3;exact fin .ret t' h1 (.inr rfl) H1 H2 H3.1 H3.2
 ·cases H
theorem exec_ok {P:Program} {T:Nat→Option FnD} (hT:TOk P T):∀ n,HExOk (exec T n)∧VExOk P (exec T n)∧LExOk P (exec T n)
 | 0=>⟨fun _ _ _ _ _ _ H=>(by cases H),fun _ _ _ _ _ _ H=>(by cases H),fun _ _ _ _ _ _ H=>(by cases H)⟩
 | n+1=>by
  obtain ⟨i1,i2,i3⟩:=exec_ok hT n;have hc:=callX_ok hT i1 i2;have hl:LExOk P (Zbc (exec T n) (callX (exec T n) T)):=stepVC_loop i1 i2 i3;exact ⟨stepVC_heap i1 hc.heap,stepVC_ok i1 i2 hl hc,hl⟩
def runX (T:Nat→Option FnD) (n f:Nat) (args:List PV):Option PV:=pcallX (callX (exec T n) T) Heap.nil f args
theorem run_pcall {P:Program} {T:Nat→Option FnD} (hT:TOk P T) (n:Nat) {f:Nat} {args:List PV} {p:PV} (hcl:PV.clsB args=true) (H:runX T n f args=some p):Zaj P f args p:=by
 obtain ⟨i1,i2,i3⟩:=exec_ok hT n;unfold runX pcallX at H;rw [hcl] at H;simp only [cond_true] at H;split at H
 ·rename_i r h' hr;exact pcall_of (callX_ok hT i1 i2) hcl hr H
 ·cases H
def tab:List (Nat×FnD)→Nat→Option FnD
 | [],_=>none
 | (k,d)::r,f=>bif Nat.beq f k then some d else tab r f
theorem tab_ok {P:Program}:∀ {l:List (Nat×FnD)},(∀ x∈l,FnOk P x.1 x.2)→TOk P (tab l)
 | [],_=>fun f d h=>by cases h
 | (k,d)::r,H=>fun f d' h=>by
  simp only [tab] at h;cases hb:Nat.beq f k with
  | true =>
   rw [hb] at h;simp only [cond_true,Option.some.injEq] at h;obtain rfl:=Nat.eq_of_beq_eq_true hb;subst h;exact H (f,d) (List.mem_cons_self ..)
  | false =>
   rw [hb] at h;exact tab_ok (fun x hx=>H x (List.mem_cons_of_mem _ hx)) f d' h
theorem TOk_nil {P:Program}:∀ x∈([]:List (Nat×FnD)),FnOk P x.1 x.2:=fun x hx=>by cases hx
theorem Zaa {P:Program} {k:Nat} {d:FnD} {l:List (Nat×FnD)} (h:FnOk P k d) (hl:∀ x∈l,FnOk P x.1 x.2):∀ x∈(k,d)::l,FnOk P x.1 x.2:=by
 intro x hx;rcases List.mem_cons.1 hx with rfl|hx
 ·exact h
 ·exact hl x hx
end Go.VM
namespace Go.VM
open Go
def DrawH (P:Program) (h0:Heap) (late:List Bool):Nat→List VOper→(Env→Heap→Prop)→Env→Heap→Prop
 | _,[],K,e,h=>K e h
 | k,o::r,K,e,h=>match o.op with
  | .store s a v=>o.guard=none∧Zam P e h (.store s a v) (fun v h'=>DrawH P h0 late (k+1) r K (e.put o.dst v) h')
  | .mapset kk m a v=>o.guard=none∧Zam P e h (.mapset kk m a v) (fun v h'=>DrawH P h0 late (k+1) r K (e.put o.dst v) h')
  | op=>match op.simple,o.guard with
   | true,_=>False
   | false,none=>QW P (if late.getD k false then h0 else if op.isIaddr then h0 else ⟨[],h0.top⟩) e op true (fun v=>DrawH P h0 late (k+1) r K (e.put o.dst v) h)
   | false,some (d,want)=>(match (generalizing:=false) guardOf want (e.get d) with
    | some c=>QW P (if late.getD k false then h0 else if op.isIaddr then h0 else ⟨[],h0.top⟩) e op c (fun v=>DrawH P h0 late (k+1) r K (e.put o.dst v) h)
    | none=>False)
theorem QW.mono {P:Program} {hq:Heap} {e:Env} {op:VOp} {c:Bool} {K1 K2:PV→Prop} (hk:∀ v,K1 v→K2 v) (H:QW P hq e op c K1):QW P hq e op c K2:=by
 unfold QW at H ⊢;split at H
 ·exact ⟨H.1,hk _ H.2⟩
 ·obtain ⟨v,v1,v2⟩:=H;exact ⟨v,v1,hk _ v2⟩
theorem shp_storeV {mid h:Heap} (hm:Shp mid h) (a v:PV):Shp mid (storeV h a v):=by
 unfold storeV;split
 ·split
  ·rename_i id i off _ fz z es hg;exact shp_set hm hg (fun fz' z' es' hh=>by simp only [AB.arr.injEq] at hh;obtain ⟨_,rfl,_⟩:=hh;exact ⟨_,_,rfl⟩)
  ·exact hm
 ·exact hm
theorem shp_mapsetV {mid h:Heap} {m:PV} (hm:Shp mid h) (hh:mapHas h m) (a v:PV):Shp mid (Zbu h m a v):=by
 unfold Zbu;split
 ·rename_i id;simp only [mapHas] at hh;split at hh
  ·rename_i es hg;exact shp_set hm hg (fun fz z es' hh=>by cases hh)
  ·exact hh.elim
 ·exact hm
theorem DrawH.quiet {P : Program} {h0 : Heap} {late : List Bool} {k : Nat} {r : List VOper} {K : Env → Heap → Prop} {e : Env} {h : Heap} {dst : Option Nat} {op : VOp} {gd' : Option (Nat × Bool)} {hqf : Nat → Heap} {Z : Nat → Heap → Heap → Prop}
  (hqk:hqf k=if late.getD k false then h0 else if op.isIaddr then h0 else ⟨[],h0.top⟩) (ih:∀ e,DrawH P h0 late (k+1) r K e h→DrawG P hqf Z (k+1) r K e h)
  (hs:op.simple=false) (H:match (generalizing:=false) op.simple,gd' with
   | true,_=>False
   | false,none=>QW P (if late.getD k false then h0 else if op.isIaddr then h0 else ⟨[],h0.top⟩) e op true (fun v=>DrawH P h0 late (k+1) r K (e.put dst v) h)
   | false,some (d,want)=>(match (generalizing:=false) guardOf want (e.get d) with
    | some c=>QW P (if late.getD k false then h0 else if op.isIaddr then h0 else ⟨[],h0.top⟩) e op c (fun v=>DrawH P h0 late (k+1) r K (e.put dst v) h)
    | none=>False)):DrawG P hqf Z k (⟨dst,op,gd'⟩::r) K e h:=by
 rw [hs] at H;simp only [DrawG,hs,hqk];cases gd' with
 | none=>exact H.mono fun v hv=>ih _ hv
 | some dw =>
  obtain ⟨d,want⟩:=dw;simp only at H ⊢;cases hg:guardOf want (e.get d) with
  | none=>rw [hg] at H;exact H.elim
  | some c=>rw [hg] at H;exact QW.mono (fun v hv=>ih _ hv) H
theorem DrawH.toG {P : Program} {q0 : List VOper} {h0 : Heap} {late : List Bool} {K : Env → Heap → Prop} : ∀ {q : List VOper} {k : Nat} {e : Env} {h : Heap}, (∀ j, q[j]? = q0[k + j]?) → h.top ≤ h0.top → DrawH P h0 late k q K e h →
  DrawG P (hq3 q0 late h0 h0 ⟨[],h0.top⟩) (zed3 q0 h0 h0 ⟨[],h0.top⟩) k q K e h
 | [],_,_,_,_,_,H=>H
 | ⟨dst,op,gd'⟩::r,k,e,h,hq,ht,H=>by
  have h0':q0[k]?=some ⟨dst,op,gd'⟩:=by simpa using (hq 0).symm
  have hq1:∀ j,r[j]?=q0[(k+1)+j]?:=fun j=>by have:=hq (j+1);simpa [Nat.add_assoc,Nat.add_comm 1 j] using this
  have hwk:Zax q0 k=op.writes:=by simp [Zax,h0']
  have hqk:hq3 q0 late h0 h0 ⟨[],h0.top⟩ k=if late.getD k false then h0 else if op.isIaddr then h0 else ⟨[],h0.top⟩:=by simp only [hq3,h0']
  cases op
  case store s a v =>
   obtain ⟨hg,hok,hk⟩:=H;have hg':gd'=none:=hg;subst hg';have htop:(storeV h (a.ev e) (v.ev e)).top≤h0.top:=by rw [storeV_top];exact ht
   exact ⟨hok,⟨⟨htop,trivial⟩,(fun hw=>by rw [hwk] at hw;cases hw),fun hm=>shp_storeV hm _ _⟩,DrawH.toG hq1 htop hk⟩
  case mapset kk m a v =>
   obtain ⟨hg,hok,hok2,hk⟩:=H;have hg':gd'=none:=hg;subst hg';have htop:(Zbu h (m.ev e) (a.ev e) (v.ev e)).top≤h0.top:=by rw [mapsetV_top];exact ht
   exact ⟨hok,hok2,⟨⟨htop,trivial⟩,(fun hw=>by rw [hwk] at hw;cases hw),fun hm=>shp_mapsetV hm hok _ _⟩,DrawH.toG hq1 htop hk⟩
  case mv a=>unfold DrawH at H;exact DrawH.quiet hqk (fun e H=>DrawH.toG hq1 ht H) rfl H
  all_goals
   unfold DrawH at H
   first
   |exact DrawH.quiet hqk (fun e H=>DrawH.toG hq1 ht H) rfl H
   |(exfalso;clear hqk hwk h0' hq;revert H;cases gd'<;>exact id)
theorem VW_draw2H {P:Program} {N:FK} {Q:Exit→Env→Heap→Prop} {e:Env} {h:Heap} {q:List VOper} {late:List Bool} (l:List Nat) (hl:h.le h) (H:DrawH P h late 0 q (fun e' h'=>Q .normal (Env.keep l e') h') e h):VW P N (.draw2 q late) Q e h :=
 VW_draw2 l h h ⟨[],h.top⟩ hl ⟨Nat.le_refl _,trivial⟩ (fun id fz z es e=>⟨fz,es,e⟩) (H.toG (fun j=>by simp) (Nat.le_refl _))
end Go.VM
namespace Go.VM
open Go
section
variable {P : Program} {f : FuncId} {args : List PV} {h : Heap} {K : PV → Heap → Prop}
theorem frz_evo {g:Gh} {w:World} {h:Heap}:Evo g w h (frz g w h) w ⟨[],h.top⟩ :=
  ⟨frz_le g w h,rfl,rfl,rfl,Nat.le_refl _,fun _ _ _=>rfl,
   fun b o v e => by rcases frzM_inv e with h1 | ⟨h1, _⟩
                     · exact .inl h1
                     · exact .inr (.inr h1),
   fun b e he => by rcases frzMM_inv he with h1 | ⟨h1, _⟩
                    · exact .inl h1
                    · exact .inr (.inr h1),
   fun b ⟨id,ab,x,h1,_⟩=>by simp [Heap.get,HL.get] at h1⟩
theorem ACall_f (q:List PV) (hv:Views h args q) (H:Zan P f q ⟨[],h.top⟩ K):Zan P f args h K:=by
 refine ⟨H.1,fun g w vals r ha=>(H.2 (frz g w h) w vals (frz_rel r) (hv.args r ha)).mono ?_⟩;rintro x w' ⟨v,p,g',h',h1,h2,h3,h4,h5⟩;exact ⟨v,p,g',h',h1,h2,h3,h4,frz_evo.trans h5⟩
theorem Zan.weakenL {h0:Heap} (hl:h0.le h) (H:Zan P f args h0 K):Zan P f args h K :=
 ⟨H.1,fun g w vals r ha=>(H.2 g w vals (r.weaken hl) ha).mono fun x w' ⟨v,p,g',h',h1,h2,h3,h4,h5⟩=>⟨v,p,g',h',h1,h2,h3,h4,h5.weakenL hl⟩⟩
end
end Go.VM
namespace Go.VM
open Go
theorem View.locV {h:Heap} {id i off z:Nat} {fz:Bool} {es:List (List PV)} {q:List PV} (hg:h.get id=some (.arr fz z es)) (hi:i<es.length) (hl:q.length+off≤z) (hv:∀ j,j<q.length→View h (PV.nth (PV.row es i) (off+j)) (PV.nth q j)):View h (.loc id i off) (.ro q):=by
 intro g w v r hr;cases hr with
 | loc _ _ _ b o n z' a hb ha =>
  subst ha;rcases r.blk id _ hg with ⟨hb0,_⟩|⟨b',o',n',z'',hb',hlt,hlive,hok⟩
  ·rw [hb] at hb0;cases hb0
  ·rw [hb] at hb';simp only [Option.some.injEq,Prod.mk.injEq] at hb';obtain ⟨rfl,rfl,rfl,rfl⟩:=hb';obtain ⟨rfl,hz,hle',c,ty,h1,h2,h3⟩:=hok;refine .ro b (o+i*z+off) _ _ (fun j=>c.getD (o+i*z+(off+j)) Go.undef) rfl (fun j hj=>?_) (fun j hj=>?_)
   ·obtain ⟨e1,e2,e3⟩:=h3 i (off+j) hi (by omega);rw [show o+i*z+off+j=o+i*z+(off+j) by omega];cases fz
    ·have hin : o + i * z + (off + j) < c.size := by
      have:=Zat (n:=es.length) (z:=z) hi (show off+j<z by omega);omega
     exact frzM_new ((hlive rfl).1 _) hg hb rfl (by simp [World.cell?,h1,hin,Array.getD]) e1
    ·exact Zbe (e3 rfl)
   ·obtain ⟨e1,e2,e3⟩:=h3 i (off+j) hi (by omega);exact hv j hj g w _ r e2
theorem View.loc {h:Heap} {id i z:Nat} {fz:Bool} {es:List (List PV)} {q:List PV} (hg:h.get id=some (.arr fz z es)) (hi:i<es.length) (hq:PV.row es i=q) (hl:q.length≤z):View h (.loc id i 0) (.ro q) :=
 View.locV hg hi (by omega) (fun j hj=>by rw [hq,Nat.zero_add];exact View.refl _ _)
theorem View.ownV {h : Heap} {id off len z : Nat} {fz : Bool} {es q : List (List PV)} (hg : h.get id = some (.arr fz z es)) (hle : off + len ≤ es.length) (hq : q.length = len) (hqz : ∀ i, i < len → (PV.row q i).length = z)
  (hv:∀ i j,i<len→j<z→View h (PV.nth (PV.row es (off+i)) j) (PV.nth (PV.row q i) j)):View h (.own id off len) (.sl z q):=by
 intro g w v r hv';cases hv' with
 | ownE ao =>
  have:q=[]:=List.eq_nil_of_length_eq_zero hq;subst this;exact .slE _ _ _
 | own _ _ _ cap b o n z' a hb ha hc hn =>
  subst ha;rcases r.blk id _ hg with ⟨hb0,_⟩|⟨b',o',n',z'',hb',hlt,hlive,hok⟩
  ·rw [hb] at hb0;cases hb0
  ·rw [hb] at hb';simp only [Option.some.injEq,Prod.mk.injEq] at hb';obtain ⟨rfl,rfl,rfl,rfl⟩:=hb';obtain ⟨rfl,hz,hle',c,ty,h1,h2,h3⟩:=hok;refine .sl b (o+off*z) len cap z _ _ (fun i j=>c.getD (o+(off+i)*z+j) Go.undef) rfl hq hc hqz (fun i j hi hj=>?_) (fun i j hi hj=>?_)
   ·obtain ⟨e1,e2,e3⟩:=h3 (off+i) j (by omega) hj;have e4:o+off*z+i*z+j=o+(off+i)*z+j:=by rw [Nat.add_mul];omega
    rw [e4];cases fz
    ·have hin : o + (off + i) * z + j < c.size := by
      have:=Zat (n:=es.length) (z:=z) (show off+i<es.length by omega) hj;omega
     exact frzM_new ((hlive rfl).1 _) hg hb rfl (by simp [World.cell?,h1,hin,Array.getD]) e1
    ·exact Zbe (e3 rfl)
   ·obtain ⟨e1,e2,e3⟩:=h3 (off+i) j (by omega) hj;exact hv i j hi hj g w _ r e2
theorem View.own_all {h:Heap} {id z n:Nat} {fz:Bool} {es:List (List PV)} (hg:h.get id=some (.arr fz z es)) (hn:n=es.length):View h (.own id 0 n) (.sl z es):=by
 have hv:=View.own (off:=0) (len:=n) hg (by omega);rw [List.drop_zero,hn,List.take_length] at hv;rw [hn];exact hv
theorem View.fn {h:Heap} {f:Fn} {pf pc qf qc:List PV} (h1:pf.length=qf.length) (h2:pc.length=qc.length) (hf:∀ j,j<qf.length→View h (PV.nth pf j) (PV.nth qf j)) (hc:∀ j,j<qc.length→View h (PV.nth pc j) (PV.nth qc j)):View h (.fn f pf pc) (.fn f qf qc):=by
 intro g w v r hr;cases hr with
 | fn _ fs cs _ _ s1 s2 r1 r2=>exact .fn f fs cs qf qc (by omega) (by omega) (fun j hj=>hf j hj g w _ r (r1 j (by omega))) (fun j hj=>hc j hj g w _ r (r2 j (by omega)))
theorem View.agg {h:Heap} {l q:List PV} (hl:l.length=q.length) (hv:∀ j,j<q.length→View h (PV.nth l j) (PV.nth q j)):View h (.agg l) (.agg q):=by
 intro g w v r hr;obtain ⟨vs,rfl,hs,h1,hrr⟩:=hr.agg_inv;exact .agg _ _ (by omega) (fun j hj=>h1 j (by omega)) (fun j hj=>hv j hj g w _ r (hrr j (by omega)))
theorem View.any (h:Heap) (r:PV):View h r .any:=fun _ _ v _ _=>.any v
def EView (h:Heap) (e:Env):Env→Prop
 | []=>True
 | (k,p)::r=>View h (e.get k) p∧EView h e r
theorem EView.rep {g:Gh} {w:World} {h:Heap} (r:Rel g w h) {a:Act} {e:Env} (he:Zah g a e):∀ {e':Env},EView h e e'→Zah (frz g w h) a e'
 | [],_=>fun _=>.any _
 | (k,p)::q,hv=>fun t=>by
  by_cases e1:k=t
  ·subst e1;simp only [Env.get,if_true];exact hv.1 g w _ r (he k)
  ·simp only [Env.get,if_neg e1];exact EView.rep r he hv.2 t
section
variable {P : Program} {N : FK} {Q : Exit → Env → Heap → Prop} {e : Env} {h : Heap}
theorem Zaz {c:VC} (e':Env) (hv:EView h e e') (H:VW P N c Q e' ⟨[],h.top⟩):VW P N c Q e h:=by
 intro x hx g w a r hr hd hs;refine wpIn_mono (H x hx (frz g w h) w a (frz_rel r) (hv.rep r hr) hd hs) fun ex a' w' ⟨g',e1,h',k1,k2,k3,k4,k5,k6⟩=>⟨g',e1,h',k1,k2,k3,k4,k5,frz_evo.trans k6⟩
end
end Go.VM
namespace Go.VM
open Go
def midQ {σ:Type} (st:σ→Env×Heap) (Q:Exit→Env→Heap→Prop):Exit→Env→Heap→Prop
 | .normal,e,h=>∃ s,(st s).1.le e∧(st s).2.le h
 | x,e,h=>Q x e h
theorem VW_mid {P:Program} {N:FK} {Q Q1:Exit→Env→Heap→Prop} {e:Env} {h:Heap} {c y:VC} {σ:Type} (st:σ→Env×Heap) (H1:VW P N c (midQ st Q) e h) (H2:∀ s,VW P N y Q1 (st s).1 (st s).2):VW P N c (thenQ (VW P N y Q1) Q) e h :=
 H1.mono fun x e h hx=>by
  cases x with
  | normal =>
   obtain ⟨s,a,b⟩:=hx;exact VW.weaken a b (H2 s)
  | _=>exact hx
end Go.VM
namespace Go.VM
open Go
theorem memExt_below {g:Gh} {w w':World} {h:Heap} (r:Rel g w h) (hb:RowKit.Below w.heap.size w w'):MemExt g w g.m w':=by
 have hin:∀ {b:Nat} {x:Obj},w.heap[b]?=some x→w'.heap[b]?=w.heap[b]?:=fun {b x} e=>hb.block b (by
  by_cases hlt:b<w.heap.size
  ·exact hlt
  ·rw [Array.getElem?_eq_none (by omega)] at e;cases e)
 refine ⟨fun _ _ _ e=>e,fun b o v e=>?_,fun _ _ _ e=>.inl e,fun _ _ e=>e,fun b e he=>?_,fun _ _ e=>.inl e⟩
 ·obtain ⟨h1,h2⟩:=r.mem b o v e;refine ⟨?_,h2⟩;unfold World.cell? at h1 ⊢;cases hh:w.heap[b]? with
  | none=>rw [hh] at h1;cases h1
  | some x=>rw [hin hh];exact h1
 ·have h1:=r.mmem b e he;obtain ⟨o,h2⟩:=h1.there;rw [hin h2];exact h1
theorem PCall_of {P : Program} {f : FuncId} {args : List PV} {p : PV} (hf : fnOk P f = true) (hc : ClosedL args)
  (H:∀ (g:Gh) (w:World) (vals:Array Value),Rel g w Heap.nil→Args g vals args→Calls P f vals w fun e w'=>∃ v,e=.returned v∧(∀ g,Rep g v p)∧RowKit.Below w.heap.size w w'):Zaj P f args p :=
 ⟨hf,hc,fun g w vals r ha=>(H g w vals r ha).mono fun x w' ⟨v,h1,h2,h3⟩=>⟨v,g.m,h1,h2 _,memExt_below r h3,h3⟩⟩
theorem args_1 {g:Gh} {vals:Array Value} {p:PV} (h:Args g vals [p]):∃ v,vals=#[v]∧Rep g v p:=by
 obtain ⟨h1,h2⟩:=h;have:=h2 0 (by simp);refine ⟨vals[0]'(by simp [h1]),?_,?_⟩
 ·apply Array.ext
  ·simp [h1]
  ·intro i hi hj;have:i=0:=by simp at hj;omega
   subst this;rfl
 ·simpa [Array.getD_eq_getD_getElem?,h1,PV.nth] using this
theorem args_2 {g:Gh} {vals:Array Value} {p q:PV} (h:Args g vals [p,q]):∃ v u,vals=#[v,u]∧Rep g v p∧Rep g u q:=by
 obtain ⟨h1,h2⟩:=h;have a0:=h2 0 (by simp);have a1:=h2 1 (by simp);refine ⟨vals[0]'(by simp [h1]),vals[1]'(by simp [h1]),?_,?_,?_⟩
 ·apply Array.ext
  ·simp [h1]
  ·intro i hi hj;have:i=0∨i=1:=by simp at hj;omega
   rcases this with rfl|rfl<;>rfl
 ·simpa [Array.getD_eq_getD_getElem?,h1,PV.nth] using a0
 ·simpa [Array.getD_eq_getD_getElem?,h1,PV.nth] using a1
theorem str_eq {s:ByteArray} {l:List UInt8} (h:s.data.toList=l):s=⟨l.toArray⟩:=by
 subst h;cases s;simp
end Go.VM
namespace Go.VM
open Go
section
variable {P : Program} {N : FK} {ops : Array Oper} {q : List VOper} {hqf : Nat → Heap} {Z : Nat → Heap → Heap → Prop}
end
end Go.VM
namespace Go.VM
open Go
theorem HL.get_append (l m:List (Nat×AB)) (t:Nat):HL.get (l++m) t=match HL.get l t with|some x=>some x|none=>HL.get m t:=by
 induction l with
 | nil=>rfl
 | cons x r ih =>
  obtain ⟨k,v⟩:=x;simp only [List.cons_append,HL.get];split
  ·rfl
  ·exact ih
theorem HL.get_app_l {l m:List (Nat×AB)} {t:Nat} {x:AB} (h:HL.get l t=some x):HL.get (l++m) t=some x:=by rw [HL.get_append,h]
theorem HL.get_app_r {l m:List (Nat×AB)} {t:Nat} (h:HL.get l t=none):HL.get (l++m) t=HL.get m t:=by rw [HL.get_append,h]
structure Beside (l1 l2 : List (Nat × AB)) : Prop where
 apart : ∀ id ab, HL.get l2 id = some ab → HL.get l1 id = none
 cells : ∀ id fz z, HL.get l2 id ≠ some (.arr fz z [])
theorem frame_rel {g g' : Gh} {w w' : World} {l1 l2 : List (Nat × AB)} {t : Nat} {h' : Heap} (hb : Beside l1 l2) (r : Rel g w ⟨l1 ++ l2, t⟩) (r' : Rel g' w' h') (ev : Evo g w ⟨l1, t⟩ g' w' h')
  (ht:t≤h'.top) (hn:∀ id,(HL.get l2 id).isSome=true→h'.get id=none) (hl:∀ id ab,h'.get id=some ab→ab.live=true) :
  Rel g' w' ⟨h'.l++l2,h'.top⟩∧Evo g w ⟨l1++l2,t⟩ g' w' ⟨h'.l++l2,h'.top⟩:=by
 have hsub:∀ b,Owned g ⟨l1,t⟩ b→Owned g ⟨l1++l2,t⟩ b:=fun b ⟨id,ab,x,e,k⟩=>⟨id,ab,x,HL.get_app_l e,k⟩;have old:∀ id ab,HL.get l2 id=some ab→∃ b o n z,g.β id=some (b,o,n,z)∧b<w.heap.size∧(ab.live=true→g.free b)∧ab.ok g w b o n z∧¬ Owned g ⟨l1,t⟩ b:=by
  intro id ab e;have e1:(⟨l1++l2,t⟩:Heap).get id=some ab:=by
   show HL.get (l1++l2) id=some ab;rw [HL.get_app_r (hb.apart id ab e)];exact e
  rcases r.blk id ab e1 with ⟨_,fz,z,h2⟩|⟨b,o,n,z,k1,k2,k3,k4⟩
  ·subst h2;exact absurd e (hb.cells id fz z)
  ·refine ⟨b,o,n,z,k1,k2,k3,k4,?_⟩;rintro ⟨id2,ab2,x2,f1,f2,f3,f4⟩;have hne:id2≠id:=by
    intro h;subst h;have:=hb.apart _ _ e;simp only [Heap.get] at f1;rw [this] at f1;cases f1
   exact r.apart id2 id x2 _ ab2 ab hne (HL.get_app_l f1) e1 (by simp [f2]) f3 k1 f4
 have get2:∀ id ab,(⟨h'.l++l2,h'.top⟩:Heap).get id=some ab→h'.get id=some ab∨(h'.get id=none∧HL.get l2 id=some ab):=by
  intro id ab e;have e':HL.get (h'.l++l2) id=some ab:=e;rw [HL.get_append] at e';cases hh:HL.get h'.l id with
  | some x=>rw [hh] at e';left;simp only [Heap.get,hh];exact e'
  | none=>rw [hh] at e';right;exact ⟨hh,e'⟩
 refine ⟨⟨r'.mem,r'.mmem,fun id hid=>⟨(r'.fin id hid).1,?_⟩,fun id ab e=>?_,fun id id2 x x2 ab ab2 hne e e2 hlv hx hx2=>?_⟩,⟨ev.le,ev.os,ev.tape,ev.output,ev.size,fun b hb' hno=>ev.block b hb' (fun ho=>hno (hsub b ho)),fun b o v e=>(ev.mem b o v e).imp id (Or.imp id (hsub b)),fun b e he=>(ev.mmem b e he).imp id (Or.imp id (hsub b)),fun b ho=>?_⟩⟩
 ·show HL.get (h'.l++l2) id=none;have e1:HL.get h'.l id=none:=(r'.fin id hid).2;rw [HL.get_app_r e1];cases e2:HL.get l2 id with
  | none=>rfl
  | some ab =>
   have e3:HL.get (l1++l2) id=none:=(r.fin id (Nat.le_trans ht hid)).2;rw [HL.get_app_r (hb.apart id ab e2),e2] at e3;cases e3
 ·rcases get2 id ab e with e1|⟨_,e1⟩
  ·exact r'.blk id ab e1
  ·obtain ⟨b,o,n,z,k1,k2,k3,k4,k5⟩:=old id ab e1
   right
   refine ⟨b,o,n,z,ev.le.2.1 _ _ k1,Nat.lt_of_lt_of_le k2 ev.size,fun hlv=>⟨fun x=>?_,?_⟩,AB.ok_move k4 ev.le (ev.block b k2 k5)⟩
   ·cases hm:g'.m b x with
    | none=>rfl
    | some v =>
     rcases ev.mem b x v hm with h1|h1|h1
     ·rw [(k3 hlv).1 x] at h1;cases h1
     ·omega
     ·exact absurd h1 k5
   ·cases hm:g'.m.mm b with
    | none=>rfl
    | some v =>
     rcases ev.mmem b v hm with h1|h1|h1
     ·rw [(k3 hlv).2] at h1;cases h1
     ·omega
     ·exact absurd h1 k5
 ·rcases get2 id ab e with e1|⟨n1,e1⟩<;>rcases get2 id2 ab2 e2 with f1|⟨m1,f1⟩
  ·exact r'.apart id id2 x x2 ab ab2 hne e1 f1 hlv hx hx2
  ·obtain ⟨b,o,n,z,k1,k2,k3,k4,k5⟩:=old id2 ab2 f1;have:=ev.le.2.1 _ _ k1;rw [hx2] at this;cases this;intro he;rcases ev.own x.1 ⟨id,ab,x,e1,hl id ab e1,hx,rfl⟩ with h1|h1
   ·rw [he] at h1;exact k5 h1
   ·rw [he] at h1;simp only at h1;omega
  ·obtain ⟨b,o,n,z,k1,k2,k3,k4,k5⟩:=old id ab e1;have:=ev.le.2.1 _ _ k1;rw [hx] at this;cases this;intro he;rcases ev.own x2.1 ⟨id2,ab2,x2,f1,hl id2 ab2 f1,hx2,rfl⟩ with h1|h1
   ·rw [← he] at h1;exact k5 h1
   ·rw [← he] at h1;simp only at h1;omega
  ·obtain ⟨b,o,n,z,k1,k2,k3,k4,k5⟩:=old id ab e1;obtain ⟨b2,o2,n2,z2,j1,j2,j3,j4,j5⟩:=old id2 ab2 f1;have h1:=ev.le.2.1 _ _ k1;rw [hx] at h1;cases h1;have h2:=ev.le.2.1 _ _ j1;rw [hx2] at h2;cases h2;have e3:(⟨l1++l2,t⟩:Heap).get id=some ab:=by show HL.get (l1++l2) id=some ab;rw [HL.get_app_r (hb.apart id ab e1)];exact e1
   have e4:(⟨l1++l2,t⟩:Heap).get id2=some ab2:=by show HL.get (l1++l2) id2=some ab2;rw [HL.get_app_r (hb.apart id2 ab2 f1)];exact f1
   exact r.apart id id2 _ _ ab ab2 hne e3 e4 hlv k1 j1
 ·obtain ⟨id,ab,x,e,hlv,hx,rfl⟩:=ho;rcases get2 id ab e with e1|⟨n1,e1⟩
  ·exact (ev.own x.1 ⟨id,ab,x,e1,hlv,hx,rfl⟩).imp (hsub _) (fun h=>h)
  ·obtain ⟨b,o,n,z,k1,k2,k3,k4,k5⟩:=old id ab e1;have h1:=ev.le.2.1 _ _ k1;rw [hx] at h1;cases h1
   left
   refine ⟨id,ab,_,?_,hlv,k1,rfl⟩;show HL.get (l1++l2) id=some ab;rw [HL.get_app_r (hb.apart id ab e1)];exact e1
theorem Zan.frame {P : Program} {f : FuncId} {args : List PV} {K : PV → Heap → Prop} {l1 l2 : List (Nat × AB)} {t : Nat} (hb : Beside l1 l2)
  (H:Zan P f args ⟨l1,t⟩ (fun p h'=>t≤h'.top∧(∀ id,(HL.get l2 id).isSome=true→h'.get id=none)∧(∀ id ab,h'.get id=some ab→ab.live=true)∧K p ⟨h'.l++l2,h'.top⟩)):Zan P f args ⟨l1++l2,t⟩ K:=by
 refine ⟨H.1,fun g w vals r ha=>?_⟩;have r1 : Rel g w ⟨l1, t⟩ := ⟨r.mem, r.mmem, fun id hid => ⟨(r.fin id hid).1, by
   have:=(r.fin id hid).2;cases e:HL.get l1 id with
   | none=>exact e
   | some ab=>simp only [Heap.get,HL.get_app_l e] at this;cases this⟩,
  fun id ab e=>r.blk id ab (HL.get_app_l e),fun id id' x x' ab ab' hne e e'=>r.apart id id' x x' ab ab' hne (HL.get_app_l e) (HL.get_app_l e')⟩
 refine (H.2 g w vals r1 ha).mono ?_;rintro x w' ⟨v,p,g',h',h1,⟨k1,k2,k3,k4⟩,h3,h4,h5⟩;obtain ⟨R,E⟩:=frame_rel hb r h4 h5 k1 k2 k3;exact ⟨v,p,g',_,h1,k4,h3,R,E⟩
theorem HL.get_mem:∀ {l:List (Nat×AB)} {id:Nat} {ab:AB},HL.get l id=some ab→(id,ab)∈l
 | [],_,_,h=>by simp [HL.get] at h
 | (k,v)::r,id,ab,h=>by
  by_cases e:k=id
  ·subst e;simp only [HL.get,if_true,Option.some.injEq] at h;subst h;exact List.mem_cons_self
  ·simp only [HL.get,if_neg e] at h;exact List.mem_cons_of_mem _ (HL.get_mem h)
theorem HL.get_no:∀ {l:List (Nat×AB)} {id:Nat},(∀ q∈l,id≠q.1)→HL.get l id=none:=by
 intro l id h;cases e:HL.get l id with
 | none=>rfl
 | some ab=>exact absurd rfl (h _ (HL.get_mem e))
theorem Zan.frameL {P : Program} {f : FuncId} {args : List PV} {K : PV → Heap → Prop} {l1 l2 : List (Nat × AB)} {t : Nat} (h1 : ∀ p ∈ l2, ∀ q ∈ l1, p.1 ≠ q.1) (hc : ∀ p ∈ l2, ∀ fz z, p.2 ≠ .arr fz z [])
  (H:Zan P f args ⟨l1,t⟩ (fun p h'=>t≤h'.top∧(∀ p∈l2,∀ q∈h'.l,p.1≠q.1)∧(∀ q∈h'.l,q.2.live=true)∧K p ⟨h'.l++l2,h'.top⟩)):Zan P f args ⟨l1++l2,t⟩ K:=by
 refine Zan.frame ⟨fun id ab e=>HL.get_no (h1 _ (HL.get_mem e)),fun id fz z e=>hc _ (HL.get_mem e) fz z rfl⟩ (H.mono ?_);rintro p h' ⟨k1,k2,k3,k4⟩;refine ⟨k1,fun id hid=>?_,fun id ab e=>k3 _ (HL.get_mem e),k4⟩;cases e:HL.get l2 id with
 | none=>rw [e] at hid;cases hid
 | some ab=>exact HL.get_no (k2 _ (HL.get_mem e))
end Go.VM
namespace Go.VM
open Go
theorem Gz.closed (a:Gz):∀ x∈a.enc,Closed x:=by
 intro x hx;simp only [Gz.enc,List.mem_cons,List.not_mem_nil,or_false] at hx;rcases hx with rfl|rfl|rfl|rfl
 all_goals first|exact cI _|exact cS _|exact closed_acs _
theorem closed_gzs (l:List Gz):Closed (.sl 4 (l.map Gz.enc)):=Zak (fun w _=>w.closed)
end Go.VM
namespace Go.VM
open Go
def DrawA (P:Program) (h0:Heap) (late:List Bool):Nat→List VOper→(Env→Heap→Prop)→Env→Heap→Prop
 | _,[],K,e,h=>K e h
 | k,o::r,K,e,h=>match o.op.simple,o.guard with
  | true,none=>Zam P e h o.op (fun v h'=>h'.top≤h0.top∧(o.op.writes=false→h0.le h→h0.le h')∧DrawA P h0 late (k+1) r K (e.put o.dst v) h')
  | true,some _=>False
  | false,none=>QW P (if late.getD k false then h0 else ⟨[],h0.top⟩) e o.op true (fun v=>DrawA P h0 late (k+1) r K (e.put o.dst v) h)
  | false,some (d,want)=>(match guardOf want (e.get d) with
   | some c=>QW P (if late.getD k false then h0 else ⟨[],h0.top⟩) e o.op c (fun v=>DrawA P h0 late (k+1) r K (e.put o.dst v) h)
   | none=>False)
theorem DrawA.toG {P : Program} {q0 : List VOper} {h0 : Heap} {late : List Bool} {K : Env → Heap → Prop} : ∀ {q : List VOper} {k : Nat} {e : Env} {h : Heap}, (∀ j, q[j]? = q0[k + j]?) → DrawA P h0 late k q K e h →
  DrawG P (fun i=>if late.getD i false then h0 else ⟨[],h0.top⟩) (fun i h h'=>(⟨[],h0.top⟩:Heap).le h'∧(Zax q0 i=false→h0.le h→h0.le h')) k q K e h
 | [],_,_,_,_,H=>H
 | o::r,k,e,h,hq,H=>by
  have h0':q0[k]?=some o:=by simpa using (hq 0).symm
  have hq1:∀ j,r[j]?=q0[(k+1)+j]?:=fun j=>by have:=hq (j+1);simpa [Nat.add_assoc,Nat.add_comm 1 j] using this
  have hwk:Zax q0 k=o.op.writes:=by simp [Zax,h0']
  obtain ⟨dst,op,gu⟩:=o;simp only [DrawA] at H;simp only [DrawG];cases hs:op.simple with
  | true =>
   cases gu with
   | none =>
    simp only [hs] at H ⊢;exact Zam.mono (fun v h' kk=>⟨⟨⟨kk.1,trivial⟩,fun hw=>kk.2.1 (by rw [← hwk];exact hw)⟩,DrawA.toG hq1 kk.2.2⟩) H
   | some d=>simp only [hs] at H
  | false =>
   cases gu with
   | none =>
    simp only [hs] at H ⊢;exact QW.mono (fun v hv=>DrawA.toG hq1 hv) H
   | some dw =>
    obtain ⟨d,want⟩:=dw;simp only [hs] at H ⊢;cases hg:guardOf want (e.get d) with
    | none=>rw [hg] at H;exact H.elim
    | some c=>rw [hg] at H;exact QW.mono (fun v hv=>DrawA.toG hq1 hv) H
end Go.VM
namespace Go.VM
open Go
def all2 {α:Type} (p:α→α→Bool):List α→List α→Bool
 | [],[]=>true
 | a::r,b::q=>bif p a b then all2 p r q else false
 | _,_=>false
theorem all2_ok {α:Type} {p:α→α→Bool} (hp:∀ a b,p a b=true→a=b):∀ {l m:List α},all2 p l m=true→l=m
 | [],[],_=>rfl
 | [],_::_,h=>by cases h
 | _::_,[],h=>by cases h
 | a::r,b::q,h=>by
  unfold all2 at h;cases e:p a b with
  | false=>rw [e] at h;cases h
  | true =>
   rw [e] at h;rw [hp _ _ e,all2_ok hp h]
def eqU (a b:UInt8):Bool:=Nat.beq a.toNat b.toNat
theorem eqU_ok (a b:UInt8) (h:eqU a b=true):a=b:=UInt8.toNat_inj.1 (Nat.eq_of_beq_eq_true h)
def eqF:Nat→PV→PV→Bool
 | 0,_,_=>false
 | n+1,a,b=>match a,b with
  | .bool x,.bool y=>bif x then y else !y
  | .int k x,.int l y=>decide (k=l)&&decide (x=y)
  | .str s,.str t=>all2 eqU s t
  | .nilp,.nilp=>true
  | .nilsl,.nilsl=>true
  | .nilmp,.nilmp=>true
  | .nilfn,.nilfn=>true
  | .nilif,.nilif=>true
  | .fn (.func f) [] [],.fn (.func g) [] []=>Nat.beq f g
  | .ro cs,.ro ds=>all2 (eqF n) cs ds
  | .sl z es,.sl y ds=>Nat.beq z y&&all2 (all2 (eqF n)) es ds
  | .agg cs,.agg ds=>all2 (eqF n) cs ds
  | .tup cs,.tup ds=>all2 (eqF n) cs ds
  | _,_=>false
theorem eqF_ok:∀ (n:Nat) (a b:PV),eqF n a b=true→a=b
 | 0,_,_,h=>by cases h
 | n+1,a,b,h=>by
  have ih:=eqF_ok n;unfold eqF at h;split at h
  ·rename_i x y;cases x<;>cases y<;>first|rfl|cases h
  ·simp only [Bool.and_eq_true,decide_eq_true_eq] at h;rw [h.1,h.2]
  ·rw [all2_ok eqU_ok h]
  ·rfl
  ·rfl
  ·rfl
  ·rfl
  ·rfl
  ·rw [Nat.eq_of_beq_eq_true h]
  ·rw [all2_ok ih h]
  ·simp only [Bool.and_eq_true] at h;rw [Nat.eq_of_beq_eq_true h.1,all2_ok (fun _ _=>all2_ok ih) h.2]
  ·rw [all2_ok ih h]
  ·rw [all2_ok ih h]
  ·cases h
def orc:List (Nat×List PV×PV)→Nat→List PV→Option PV
 | [],_,_=>none
 | (g,q,p)::r,f,a=>bif Nat.beq f g then (bif all2 (eqF 60) a q then some p else orc r f a) else orc r f a
def OrOk (P:Program) (L:List (Nat×List PV×PV)):Prop:=∀ x∈L,Zaj P x.1 x.2.1 x.2.2
theorem OrOk_nil {P:Program}:OrOk P []:=fun _ h=>by cases h
theorem Za0 {P:Program} {f:Nat} {q:List PV} {p:PV} {L:List (Nat×List PV×PV)} (h:Zaj P f q p) (H:OrOk P L):OrOk P ((f,q,p)::L):=by
 intro x hx;rcases List.mem_cons.1 hx with rfl|hx
 ·exact h
 ·exact H x hx
theorem orc_ok {P:Program}:∀ {L:List (Nat×List PV×PV)},OrOk P L→∀ {f:Nat} {a:List PV} {p:PV},orc L f a=some p→Zaj P f a p
 | [],_,f,a,p,h=>by cases h
 | (g,q,r)::L,H,f,a,p,h=>by
  have H2:OrOk P L:=fun x hx=>H x (List.mem_cons_of_mem _ hx);unfold orc at h;cases e1:Nat.beq f g with
  | false=>rw [e1] at h;exact orc_ok H2 h
  | true =>
   rw [e1] at h;simp only [cond_true] at h;cases e2:all2 (eqF 60) a q with
   | false=>rw [e2] at h;exact orc_ok H2 h
   | true =>
    rw [e2] at h;simp only [cond_true,Option.some.injEq] at h;subst h;rw [Nat.eq_of_beq_eq_true e1,all2_ok (eqF_ok 60) e2];exact H _ List.mem_cons_self
def elseC (c d:CX):CX:=fun f a h=>match c f a h with
 | some r=>some r
 | none=>d f a h
theorem elseC_ok {P:Program} {c d:CX} (hc:CallOk P c) (hd:CallOk P d):CallOk P (elseC c d):=by
 intro f args h v h' H ok;unfold elseC at H;split at H
 ·rename_i r hr;simp only [Option.some.injEq] at H;subst H;exact hc _ _ _ _ _ hr ok
 ·exact hd _ _ _ _ _ H ok
def execO (T:Nat→Option FnD) (c:CX):Nat→EX
 | 0=>fun _ _ _=>none
 | n+1=>Zbc (execO T c n) (elseC c (callX (execO T c n) T))
theorem execO_ok {P:Program} {T:Nat→Option FnD} {c:CX} (hC:CallOk P c) (hT:TOk P T):∀ n,HExOk (execO T c n)∧VExOk P (execO T c n)∧LExOk P (execO T c n)
 | 0=>⟨fun _ _ _ _ _ _ H=>(by cases H),fun _ _ _ _ _ _ H=>(by cases H),fun _ _ _ _ _ _ H=>(by cases H)⟩
 | n+1=>by
  obtain ⟨i1,i2,i3⟩:=execO_ok hC hT n;have hc:=elseC_ok hC (callX_ok hT i1 i2);have hl:LExOk P (Zbc (execO T c n) (elseC c (callX (execO T c n) T))):=stepVC_loop i1 i2 i3;exact ⟨stepVC_heap i1 hc.heap,stepVC_ok i1 i2 hl hc,hl⟩
def runO (T:Nat→Option FnD) (c:CX) (n f:Nat) (args:List PV):Option PV:=pcallX (callX (execO T c n) T) Heap.nil f args
theorem Zas {P:Program} {T:Nat→Option FnD} {c:CX} (hC:CallOk P c) (hT:TOk P T) (n:Nat) {f:Nat} {args:List PV} {p:PV} (hcl:PV.clsB args=true) (H:runO T c n f args=some p):Zaj P f args p:=by
 obtain ⟨i1,i2,i3⟩:=execO_ok hC hT n;unfold runO pcallX at H;rw [hcl] at H;simp only [cond_true] at H;split at H
 ·rename_i r h' hr;exact pcall_of (callX_ok hT i1 i2) hcl hr H
 ·cases H
end Go.VM
