import Derived.Test.YtldogpfookkbaaaGreatDoorVmZ
set_option linter.all false
namespace Go.VM
open Go
structure Bulky {H:Type} (bk:DataW H→Nat):Prop where
 str:∀s:List UInt8,s.length≤bk (.lit (.string s))
 slen:∀es sp,es.length≤bk (.slice es sp)
 sl:∀es sp, ∀d∈es,bk d≤bk (.slice es sp)
 ag:∀ps, ∀d∈ps,bk d≤bk (.agg ps)
def Zp2:Nat:=1048576
structure ReadsU (P:Program) (W:World) (n:Nat) (t:TypeId) {α:Type} (ok:α→Prop) (enc:α→List PV):Prop where
 run:∀(_:Zdp W) (H:Type) (en:TypeId×Value→H) (base:Nat) (spare:Nat→Bool) (held:Bool) (cs:List Value) (x:DataW H×List MemPlace) (bk:DataW H→Nat) (_:Bulky bk),DataW.trod en P W base spare held n t cs=some x→bk x.1≤Zp2→ ∃a,ok a∧Zpp (g0 W) cs (enc a)
section
variable {P:Program} {W:World} {n:Nat} {t:TypeId}
theorem Reads.u{α:Type}{ok:α→Prop}{enc:α→List PV}(h:Reads P W n t ok enc):ReadsU P W n t ok enc:=⟨fun hk H en base spare held cs x bk hb hx _=>h.run hk H en base spare held cs x hx⟩
theorem Zs2(ht:P.underlying t=some .string):ReadsU P W n t (fun a:List UInt8=>a.length≤Zp2) (fun a=>[.str a]):=by
 constructor;intro hk H en base spare held cs x bk hB hx hw;cases n with
 |zero=>simp[DataW.trod]at hx
 |succ n=>
  unfold DataW.trod at hx;rw[ht]at hx;split at hx<;>try (simp_all;done)
  rename_i s heq;split at hx
  case isFalse=>cases hx
  rename_i hc;refine⟨s.data.toList,?_,Zpp.one rfl (.str _ _ rfl)⟩;simp only[Zx0]at hx;subst hx;exact Nat.le_trans (hB.str _) hw
theorem ReadsU.map{α β:Type}{ok:α→Prop}{enc:α→List PV}{ok':β→Prop}{enc':β→List PV}(f:α→β)(h:ReadsU P W n t ok enc)(ho:∀a,ok a→ok' (f a))(he:∀a,enc' (f a)=enc a):ReadsU P W n t ok' enc':=
 ⟨fun hk H en base spare held cs x bk hB hx hz=>by
  obtain⟨a,a1,a2⟩:=h.run hk H en base spare held cs x bk hB hx hz;exact⟨f a,ho a a1,by rw[he];exact a2⟩⟩
theorem Zc8{α:Type}{ok:α→Prop}{enc:α→List PV}:ReadsU P W 0 t ok enc:=Zlc.u
theorem Zvu{e:TypeId}{z:Nat}{α:Type}{ok:α→Prop}{enc:α→List PV}(ht:P.underlying t=some (.slice e))(hz:P.cellsOf e=z)(h0:z≠0)(hl:∀a,(enc a).length=z)(h:ReadsU P W n e ok enc):
    ReadsU P W (n+1) t (fun l:List α=>l.length≤Zp2∧∀a∈l,ok a) (fun l=>[.sl z (l.map enc)]):=by
  constructor;intro hk H en base spare held cs x bk hB hx hw;rcases DataW.trod_slice ht hx with⟨rfl,rfl⟩|⟨a,len,cap,elems,rest,m,hm,rfl,rfl,hb,hlc,hcap,hel,hread,_,_⟩
  ·exact⟨[],⟨by simp,by simp⟩,Zpp.one rfl (.slE _ _ _)⟩
  obtain rfl:n=m:=by omega
  rw[hz]at hread;have hsize:len≤Zp2:=by
    have:=hB.slen (elems.map (·.1)) (rest.map (·.1));rw[Zyc,hel]at this;exact Nat.le_trans this hw
  by_cases hlen:len=0
  · subst hlen
    exact⟨[],⟨by simp,by simp⟩,Zpp.one rfl (.slE _ _ _)⟩
  have each:∀i:Fin len,∃b,ok b∧∀j,j<z→∃v,W.cell? (a.add (i.val*z)|>.add j)=some v∧v.oneCell'=true∧Rep (g0 W) v (PV.nth (enc b) j):=by
    intro i;have hr:=hread i.val i.isLt;rw[Zye (by rw[hel];exact i.isLt)]at hr;obtain⟨ci,hc,hx⟩:=Option.bind_eq_some_iff.1 hr;obtain⟨b,hb1,hb2⟩:=h.run hk H en base spare held ci _ bk hB hx (Nat.le_trans (hB.sl _ _ _ (List.mem_map_of_mem (Zyl _))) hw);obtain⟨_,hcl,hcells⟩:=World.cells?_some hc;refine⟨b,hb1,fun j hj=>?_⟩;have h1:=hb2.2 j (by rw[hl];exact hj);refine⟨ci.getD j Go.undef,?_,h1⟩;rw[hcells j hj,Zx1,Zye (by omega)];rfl
  obtain⟨f,hf⟩:=Classical.axiomOfChoice each;have hspot:a.spot=none:=by
    obtain⟨v,hv,_⟩:=(hf ⟨0,by omega⟩).2 0 (by omega);simp only[Nat.zero_mul,Addr.add,if_true]at hv;unfold World.cell? at hv;split at hv
    · split at hv
      ·cases hv
      ·rename_i hs;simpa using hs
    ·cases hv
  have hadd:∀k j,((a.add k).add j)=⟨a.block,a.off+k+j,none⟩:=by
    intro k j;obtain⟨b,o,sp⟩:=a;simp only at hspot;subst hspot;simp only[Addr.add];by_cases hk:k=0<;>by_cases hj:j=0<;>simp[hk,hj]
  refine⟨List.ofFn f,⟨by simpa using hsize,fun b hb=>?_⟩,Zpp.one rfl ?_⟩
  · obtain⟨i,rfl⟩:=(List.mem_ofFn).1 hb
    exact(hf i).1
  · have hrow:∀i (hi:i<len),PV.row ((List.ofFn f).map enc) i=enc (f ⟨i,hi⟩):=by
      intro i hi;simp[PV.row,Zx1,hi]
    refine .sl a.block a.off len cap z a _ (fun i j=>(W.cell? ⟨a.block,a.off+i*z+j,none⟩).getD Go.undef) (by cases a;simp_all) (by simp) hlc (fun i hi=>?_) (fun i j hi hj=>?_) (fun i j hi hj=>?_)
    ·rw[hrow i hi,hl]
    · obtain⟨v,hv,h1,h2⟩:=(hf ⟨i,hi⟩).2 j hj
      rw[hadd]at hv;have e1:W.cell? ⟨a.block,a.off+i*z+j,none⟩=some v:=hv;rw[e1];exact g0_m hk e1 h1
    · obtain⟨v,hv,h1,h2⟩:=(hf ⟨i,hi⟩).2 j hj
      rw[hadd]at hv;have e1:W.cell? ⟨a.block,a.off+i*z+j,none⟩=some v:=hv;rw[e1,hrow i hi];exact h2
structure FReadsU (P:Program) (W:World) (n:Nat) (fs:List Field) (o:Nat) {α:Type} (ok:α→Prop) (enc:α→List PV):Prop where
 run:∀(_:Zdp W) (H:Type) (en:TypeId×Value→H) (base:Nat) (spare:Nat→Bool) (held:Bool) (cs:List Value) (bk:DataW H→Nat) (_:Bulky bk),
  (∀f∈fs, ∃x,DataW.trod en P W base spare held n f.type ((cs.drop f.offset).take (P.cellsOf f.type))=some x∧bk x.1≤Zp2)→ ∃a,ok a∧Zpp (g0 W) ((cs.drop o).take (enc a).length) (enc a)
theorem Zdz{o:Nat}:FReadsU P W n [] o (fun _:Unit=>True) (fun _=>[]):=⟨fun _ _ _ _ _ _ _ _ _ _=>⟨(),trivial,by simpa using Zpp.nil⟩⟩
theorem Zan{f:Field}{fs:List Field}{o z:Nat}{α β:Type}{ok:α→Prop}{enc:α→List PV}{ok':β→Prop}{enc':β→List PV}(h:ReadsU P W n f.type ok enc)(hz:P.cellsOf f.type=z)(hl:∀a,(enc a).length=z)(ho:f.offset=o)(k:FReadsU P W n fs (o+z) ok' enc'):FReadsU P W n (f::fs) o (fun x:α×β=>ok x.1∧ok' x.2) (fun x=>enc x.1++enc' x.2):=by
 constructor;intro hk H en base spare held cs bk hB hall;obtain⟨x,hx,hw⟩:=hall f (by simp);obtain⟨a,a1,a2⟩:=h.run hk H en base spare held _ x bk hB hx hw;obtain⟨b,b1,b2⟩:=k.run hk H en base spare held cs bk hB (fun g hg=>hall g (by simp[hg]));refine⟨(a,b),⟨a1,b1⟩,?_⟩;rw[ho,hz]at a2;have:=a2.append b2;rw[←List.drop_drop]at this;have e1:(enc a++enc' b).length=z+(enc' b).length:=by simp[hl]
 simp only[e1];rw[List.take_add];exact this
theorem Zcp{fs:Array Field}{l:List Field}{z:Nat}{α:Type}{ok:α→Prop}{enc:α→List PV}(ht:P.underlying t=some (.struct fs))(hfl:fs.toList=l)(hz:P.cellsOf t=z)
  (h:FReadsU P W n l 0 ok enc)(hl:∀a,(enc a).length=z):ReadsU P W (n+1) t ok enc:=by
 constructor;intro hk H en base spare held cs x bk hB hx hw;obtain⟨xs,m,hm,rfl,hlen,hxs,hread⟩:=DataW.trod_struct ht hx;obtain rfl:n=m:=by omega
 obtain⟨a,a1,a2⟩:=h.run hk H en base spare held cs bk hB (fun f hf=>by
  rw[←hfl]at hf;obtain⟨i,hi,e⟩:=List.getElem_of_mem hf;have hi':i<fs.size:=by simpa using hi
  have:=hread i f (by rw[←e];simp[hi']);rw[Zye (by rw[hxs];exact hi')]at this;exact⟨_,this,Nat.le_trans (hB.ag _ _ (List.mem_map_of_mem (Zyl _))) hw⟩)
 refine⟨a,a1,?_⟩;rw[hl,List.drop_zero,Zyi (by rw[hlen,hz];exact Nat.le_refl _)]at a2;exact a2
theorem ReadsU.one(hk:Zdp W){α:Type}{ok:α→Prop}{enc:α→PV}{H:Type}{en:TypeId×Value→H}{base:Nat}{spare:Nat→Bool}{held:Bool}{v:Value}{d:DataW H}{ps:List MemPlace}
  (h:∀n,ReadsU P W n t ok (fun a=>[enc a]))(hv:v.cells=#[v])(hd:DataW.Trod en P W base spare held t v d ps)(bk:DataW H→Nat)(hB:Bulky bk)(hw:bk d≤Zp2):∃a,ok a∧Rep (g0 W) v (enc a):=by
 obtain⟨fuel,hx⟩:=hd;obtain⟨a,a1,a2,a3⟩:=(h fuel).run hk H en base spare held _ _ bk hB hx hw;rw[hv]at a3;exact⟨a,a1,(a3 0 (by simp)).2⟩
theorem ReadsU.agg(hk:Zdp W){α:Type}{ok:α→Prop}{enc:α→List PV}{H:Type}{en:TypeId×Value→H}{base:Nat}{spare:Nat→Bool}{held:Bool}{vs:Array Value}{d:DataW H}{ps:List MemPlace}
  (h:∀n,ReadsU P W n t ok enc)(hd:DataW.Trod en P W base spare held t (.agg vs) d ps)(bk:DataW H→Nat)(hB:Bulky bk)(hw:bk d≤Zp2):∃a,ok a∧Rep (g0 W) (.agg vs) (.agg (enc a)):=by
 obtain⟨fuel,hx⟩:=hd;obtain⟨a,a1,a2,a3⟩:=(h fuel).run hk H en base spare held _ _ bk hB hx hw;simp only[Value.cells]at a2 a3;refine⟨a,a1,.agg _ _ (by simpa using a2) (fun j hj=>?_) (fun j hj=>?_)⟩
 ·have:=(a3 j hj).1;simpa[Zx6]using this
 ·have:=(a3 j hj).2;simpa[Zx6]using this
end
theorem Z4l{P:Program}{W:World}(hk:Zdp W){params:Array TypeId}{args:Array Value}{base:Nat}(hval:∀(j:Nat) t v,params[j]?=some t→args[j]?=some v→Value.okWide P W .any base t v)(j:Nat){t:TypeId}{v:Value}(h1:params[j]?=some t)(h2:args[j]?=some v)
  {fs:Array Field}{α:Type}{ok:α→Prop}{enc:α→List PV}{H:Type}{en:TypeId×Value→H}{b':Nat}{spare:Nat→Bool}{held:Bool}{d:DataW H}{ps:List MemPlace}
  (ht:P.underlying t=some (.struct fs))(h:∀n,ReadsU P W n t ok enc)(hd:DataW.Trod en P W b' spare held t v d ps)(bk:DataW H→Nat)(hB:Bulky bk)(hw:bk d≤Zp2):∃a,ok a∧Rep (g0 W) v (.agg (enc a)):=by
 have hv:=hval j t v h1 h2;unfold Value.okWide at hv;rw[ht]at hv;obtain⟨cs,rfl,_⟩:=hv;exact ReadsU.agg hk h hd bk hB hw
theorem Z0c{P:Program}{W:World}(hk:Zdp W){params:Array TypeId}{args:Array Value}{base:Nat}(hval:∀(j:Nat) t v,params[j]?=some t→args[j]?=some v→Value.okWide P W .any base t v)(j:Nat){t:TypeId}{v:Value}(h1:params[j]?=some t)(h2:args[j]?=some v)
  {α:Type}{ok:α→Prop}{enc:α→PV}{H:Type}{en:TypeId×Value→H}{b':Nat}{spare:Nat→Bool}{held:Bool}{d:DataW H}{ps:List MemPlace}
  (hc:Value.okWide P W .any base t v→v.cells=#[v])(h:∀n,ReadsU P W n t ok (fun a=>[enc a]))(hd:DataW.Trod en P W b' spare held t v d ps)(bk:DataW H→Nat)(hB:Bulky bk)(hw:bk d≤Zp2):∃a,ok a∧Rep (g0 W) v (enc a):=
 ReadsU.one hk h (hc (hval j t v h1 h2)) hd bk hB hw
end Go.VM
