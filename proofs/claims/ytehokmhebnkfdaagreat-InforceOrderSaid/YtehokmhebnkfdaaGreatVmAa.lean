import Derived.Test.YtehokmhebnkfdaaGreatVmP
import Derived.Test.YtehokmhebnkfdaaGreatVmA
import Derived.SizedLaws
set_option linter.all false
namespace Go.VM
open Go
def Light {H:Type} (P:Program) (t:TypeId) (d:DataW H):Prop:=∀ n ∈ d.weights P t,n ≤ reachBytes
structure ReadsZ (P : Program) (W : World) (n : Nat) (t : TypeId) {α : Type} (ok : α → Prop) (enc : α → List PV) : Prop where
  run : ∀ (_ : KnownW W) (H : Type) (en : TypeId × Value → H) (base : Nat) (spare : Nat → Bool) (held : Bool) (cs : List Value) (x : DataW H × List MemPlace), DataW.trod en P W base spare held n t cs = some x → Light P t x.1 → ∃ a, ok a ∧ CRep (g0 W) cs (enc a)
section
variable {P : Program} {W : World} {n : Nat} {t : TypeId}
theorem Reads.z {α:Type} {ok:α → Prop} {enc:α → List PV} (h:Reads P W n t ok enc):ReadsZ P W n t ok enc:=⟨fun hk H en base spare held cs x hx _=>h.run hk H en base spare held cs x hx⟩
theorem ReadsZ.map {α β:Type} {ok:α → Prop} {enc:α → List PV} {ok':β → Prop} {enc':β → List PV} (f:α → β) (h:ReadsZ P W n t ok enc) (ho:∀ a,ok a → ok' (f a)) (he:∀ a,enc' (f a) = enc a):ReadsZ P W n t ok' enc' :=
  ⟨fun hk H en base spare held cs x hx hz=>by
    obtain ⟨a,a1,a2⟩:=h.run hk H en base spare held cs x hx hz
    exact ⟨f a,ho a a1,by rw [he]; exact a2⟩⟩
theorem readsZ_zero {α:Type} {ok:α → Prop} {enc:α → List PV}:ReadsZ P W 0 t ok enc:=Zdk.z
theorem light_all {H:Type} {e:TypeId}:∀ {l:List (DataW H)} {d:DataW H},d ∈ l → (∀ n ∈ DataW.weightsAll P e l,n ≤ reachBytes) → Light P e d
  | x :: r,d,hd,h,n,hn=>by
    rcases List.mem_cons.1 hd with rfl | hd'
    · exact h n (by simp only [DataW.weightsAll,List.mem_append]; exact .inl hn)
    · exact light_all hd' (fun m hm=>h m (by simp only [DataW.weightsAll,List.mem_append]; exact .inr hm)) n hn
theorem light_each {H:Type}:∀ {ts:List TypeId} {ds:List (DataW H)} {j:Nat} {t:TypeId} {d:DataW H},ts[j]? = some t → ds[j]? = some d → (∀ n ∈ DataW.weightsEach P ts ds,n ≤ reachBytes) → Light P t d :=
  fun ht hd h n hn=>h n (DataW.weights_mem_each ht hd n hn)
theorem readsZ_slice {e : TypeId} {z b : Nat} {α : Type} {ok : α → Prop} {enc : α → List PV} (ht : P.underlying t = some (.slice e)) (hz : P.cellsOf e = z) (h0 : z ≠ 0) (hbb : P.bytesOf e = b) (hl : ∀ a, (enc a).length = z) (h : ReadsZ P W n e ok enc) :
    ReadsZ P W (n + 1) t (fun l:List α=>l.length ≤ maxLen ∧ l.length * b ≤ reachBytes ∧ ∀ a ∈ l,ok a) (fun l=>[.sl z (l.map enc)]):=by
  constructor; intro hk H en base spare held cs x hx hw
  rcases DataW.trod_slice ht hx with ⟨rfl,rfl⟩ | ⟨a,len,cap,elems,rest,m,hm,rfl,rfl,hb,hlc,hcap,hel,hread,_,_⟩
  · exact ⟨[],⟨by simp,by simp,by simp⟩,CRep.one rfl (.slE _ _ _)⟩
  obtain rfl:n = m:=by omega
  rw [hz] at hread
  have hw':∀ k ∈ (((elems.map (·.1)).length * b + (rest.map (·.1)).length * b) :: (DataW.weightsAll P e (elems.map (·.1)) ++ DataW.weightsAll P e (rest.map (·.1)))),k ≤ reachBytes:=by
    intro k hk
    refine hw k ?_
    simp only [DataW.weights,ht,hbb]
    rcases List.mem_cons.1 hk with rfl | hk
    · rw [Nat.add_mul]; exact List.mem_cons_self
    · exact List.mem_cons_of_mem _ hk
  have hsize:len * b ≤ reachBytes:=by
    have:=hw' _ List.mem_cons_self
    simp only [List.length_map,hel] at this
    omega
  by_cases hlen:len = 0
  · subst hlen
    exact ⟨[],⟨by simp,by simp,by simp⟩,CRep.one rfl (.slE _ _ _)⟩
  have each:∀ i:Fin len,∃ b,ok b ∧ ∀ j,j < z → ∃ v,W.cell? (a.add (i.val * z) |>.add j) = some v ∧ v.oneCell' = true ∧ Rep (g0 W) v (PV.nth (enc b) j):=by
    intro i
    have hr:=hread i.val i.isLt
    rw [List.getElem?_eq_getElem (by rw [hel]; exact i.isLt)] at hr
    obtain ⟨ci,hc,hx⟩:=Option.bind_eq_some_iff.1 hr
    obtain ⟨b,hb1,hb2⟩:=h.run hk H en base spare held ci _ hx (light_all (l:=elems.map (·.1)) (List.mem_map_of_mem (List.getElem_mem _)) (fun k hk=>hw' k (List.mem_cons_of_mem _ (List.mem_append_left _ hk))))
    obtain ⟨_,hcl,hcells⟩:=World.cells?_some hc
    refine ⟨b,hb1,fun j hj=>?_⟩
    have h1:=hb2.2 j (by rw [hl]; exact hj)
    refine ⟨ci.getD j Go.undef,?_,h1⟩
    rw [hcells j hj,List.getD_eq_getElem?_getD,List.getElem?_eq_getElem (by omega)]
    rfl
  obtain ⟨f,hf⟩:=Classical.axiomOfChoice each
  have hspot:a.spot = none:=by
    obtain ⟨v,hv,_⟩:=(hf ⟨0,by omega⟩).2 0 (by omega)
    simp only [Nat.zero_mul,Addr.add,if_true] at hv
    unfold World.cell? at hv
    split at hv
    · split at hv
      · cases hv
      · rename_i hs; simpa using hs
    · cases hv
  have hadd:∀ k j,((a.add k).add j) = ⟨a.block,a.off + k + j,none⟩:=by
    intro k j
    obtain ⟨b,o,sp⟩:=a
    simp only at hspot
    subst hspot
    simp only [Addr.add]
    by_cases hk:k = 0 <;> by_cases hj:j = 0 <;> simp [hk,hj]
  refine ⟨List.ofFn f,⟨by simp; omega,by simpa using hsize,fun b hb=>?_⟩,CRep.one rfl ?_⟩
  · obtain ⟨i,rfl⟩:=(List.mem_ofFn).1 hb
    exact (hf i).1
  · have hrow : ∀ i (hi : i < len), PV.row ((List.ofFn f).map enc) i = enc (f ⟨i, hi⟩) := by
      intro i hi
      simp [PV.row,List.getD_eq_getElem?_getD,hi]
    refine .sl a.block a.off len cap z a _ (fun i j=>(W.cell? ⟨a.block,a.off + i * z + j,none⟩).getD Go.undef) (by cases a; simp_all) (by simp) hlc (fun i hi=>?_) (fun i j hi hj=>?_) (fun i j hi hj=>?_)
    · rw [hrow i hi,hl]
    · obtain ⟨v,hv,h1,h2⟩:=(hf ⟨i,hi⟩).2 j hj
      rw [hadd] at hv
      have e1:W.cell? ⟨a.block,a.off + i * z + j,none⟩ = some v:=hv
      rw [e1]
      exact g0_m hk e1 h1
    · obtain ⟨v,hv,h1,h2⟩:=(hf ⟨i,hi⟩).2 j hj
      rw [hadd] at hv
      have e1:W.cell? ⟨a.block,a.off + i * z + j,none⟩ = some v:=hv
      rw [e1,hrow i hi]
      exact h2
structure FReadsZ (P : Program) (W : World) (n : Nat) (fs : List Field) (o : Nat) {α : Type} (ok : α → Prop) (enc : α → List PV) : Prop where
  run : ∀ (_ : KnownW W) (H : Type) (en : TypeId × Value → H) (base : Nat) (spare : Nat → Bool) (held : Bool) (cs : List Value),
    (∀ f ∈ fs, ∃ x, DataW.trod en P W base spare held n f.type ((cs.drop f.offset).take (P.cellsOf f.type)) = some x ∧ Light P f.type x.1) → ∃ a, ok a ∧ CRep (g0 W) ((cs.drop o).take (enc a).length) (enc a)
theorem freadsZ_nil {o:Nat}:FReadsZ P W n [] o (fun _:Unit=>True) (fun _=>[]):=⟨fun _ _ _ _ _ _ _ _=>⟨(),trivial,by simpa using CRep.nil⟩⟩
theorem Zco {f:Field} {fs:List Field} {o z:Nat} {α β:Type} {ok:α → Prop} {enc:α → List PV} {ok':β → Prop} {enc':β → List PV} (h:ReadsZ P W n f.type ok enc) (hz:P.cellsOf f.type = z) (hl:∀ a,(enc a).length = z) (ho:f.offset = o) (k:FReadsZ P W n fs (o + z) ok' enc'):FReadsZ P W n (f :: fs) o (fun x:α × β=>ok x.1 ∧ ok' x.2) (fun x=>enc x.1 ++ enc' x.2):=by
  constructor; intro hk H en base spare held cs hall
  obtain ⟨x,hx,hw⟩:=hall f (by simp)
  obtain ⟨a,a1,a2⟩:=h.run hk H en base spare held _ x hx hw
  obtain ⟨b,b1,b2⟩:=k.run hk H en base spare held cs (fun g hg=>hall g (by simp [hg]))
  refine ⟨(a,b),⟨a1,b1⟩,?_⟩
  rw [ho,hz] at a2
  have:=a2.append b2
  rw [← List.drop_drop] at this
  have e1:(enc a ++ enc' b).length = z + (enc' b).length:=by simp [hl]
  simp only [e1]
  rw [List.take_add]
  exact this
theorem readsZ_struct {fs : Array Field} {l : List Field} {z : Nat} {α : Type} {ok : α → Prop} {enc : α → List PV} (ht : P.underlying t = some (.struct fs)) (hfl : fs.toList = l) (hz : P.cellsOf t = z)
    (h:FReadsZ P W n l 0 ok enc) (hl:∀ a,(enc a).length = z):ReadsZ P W (n + 1) t ok enc:=by
  constructor; intro hk H en base spare held cs x hx hw
  obtain ⟨xs,m,hm,rfl,hlen,hxs,hread⟩:=DataW.trod_struct ht hx
  obtain rfl:n = m:=by omega
  simp only [Light,DataW.weights,ht] at hw
  obtain ⟨a,a1,a2⟩:=h.run hk H en base spare held cs (fun f hf=>by
    rw [← hfl] at hf
    obtain ⟨i,hi,e⟩:=List.getElem_of_mem hf
    have hi':i < fs.size:=by simpa using hi
    have:=hread i f (by rw [← e]; simp [hi'])
    rw [List.getElem?_eq_getElem (by rw [hxs]; exact hi')] at this
    refine ⟨_,this,light_each (j:=i) ?_ ?_ hw⟩
    · rw [List.getElem?_map,List.getElem?_eq_getElem hi,e]; rfl
    · rw [List.getElem?_map,List.getElem?_eq_getElem (by rw [hxs]; exact hi')]; rfl)
  refine ⟨a,a1,?_⟩
  rw [hl,List.drop_zero,List.take_of_length_le (by rw [hlen,hz]; exact Nat.le_refl _)] at a2
  exact a2
theorem ReadsZ.one (hk : KnownW W) {α : Type} {ok : α → Prop} {enc : α → PV} {H : Type} {en : TypeId × Value → H} {base : Nat} {spare : Nat → Bool} {held : Bool} {v : Value} {d : DataW H} {ps : List MemPlace}
    (h:∀ n,ReadsZ P W n t ok (fun a=>[enc a])) (hv:v.cells = #[v]) (hd:DataW.Trod en P W base spare held t v d ps) (hw:Light P t d):∃ a,ok a ∧ Rep (g0 W) v (enc a):=by
  obtain ⟨fuel,hx⟩:=hd
  obtain ⟨a,a1,a2,a3⟩:=(h fuel).run hk H en base spare held _ _ hx hw
  rw [hv] at a3
  exact ⟨a,a1,(a3 0 (by simp)).2⟩
theorem ReadsZ.agg (hk : KnownW W) {α : Type} {ok : α → Prop} {enc : α → List PV} {H : Type} {en : TypeId × Value → H} {base : Nat} {spare : Nat → Bool} {held : Bool} {vs : Array Value} {d : DataW H} {ps : List MemPlace}
    (h:∀ n,ReadsZ P W n t ok enc) (hd:DataW.Trod en P W base spare held t (.agg vs) d ps) (hw:Light P t d):∃ a,ok a ∧ Rep (g0 W) (.agg vs) (.agg (enc a)):=by
  obtain ⟨fuel,hx⟩:=hd
  obtain ⟨a,a1,a2,a3⟩:=(h fuel).run hk H en base spare held _ _ hx hw
  simp only [Value.cells] at a2 a3
  refine ⟨a,a1,.agg _ _ (by simpa using a2) (fun j hj=>?_) (fun j hj=>?_)⟩
  · have:=(a3 j hj).1; simpa [Array.getD_eq_getD_getElem?] using this
  · have:=(a3 j hj).2; simpa [Array.getD_eq_getD_getElem?] using this
end
theorem readsZ_arg1 {P : Program} {W : World} (hk : KnownW W) {params : Array TypeId} {args : Array Value} {base : Nat} (hval : ∀ (j : Nat) t v, params[j]? = some t → args[j]? = some v → Value.okWide P W .any base t v) (j : Nat) {t : TypeId} {v : Value} (h1 : params[j]? = some t) (h2 : args[j]? = some v)
    {α:Type} {ok:α → Prop} {enc:α → PV} {H:Type} {en:TypeId × Value → H} {b':Nat} {spare:Nat → Bool} {held:Bool} {d:DataW H} {ps:List MemPlace}
    (hc:Value.okWide P W .any base t v → v.cells = #[v]) (h:∀ n,ReadsZ P W n t ok (fun a=>[enc a])) (hd:DataW.Trod en P W b' spare held t v d ps) (hw:Light P t d):∃ a,ok a ∧ Rep (g0 W) v (enc a) :=
  ReadsZ.one hk h (hc (hval j t v h1 h2)) hd hw
theorem light_arg {H:Type} {P:Program} {ts:List TypeId} {ds:List (DataW H)} (hz:(DataW.weightsEach P ts ds).all (· ≤ reachBytes) = true) (j:Nat) {t:TypeId} {d:DataW H} (ht:ts[j]? = some t) (hd:ds[j]? = some d):Light P t d :=
  light_each ht hd (fun n hn=>by simpa using List.all_eq_true.1 hz n hn)
def maxItems:Nat:=1000000000000
def itemsOk (l:List It):Prop:=l.length ≤ maxItems
def Ac.okZ (a:Ac):Prop:=a.ok ∧ itemsOk a.items
def Gz.okZ (g:Gz):Prop:=i64 g.number ∧ i64 g.day ∧ okS g.prior ∧ okL Ac.okZ g.acts
end Go.VM
