import Derived.Test.YtldogpfookkbaaaGreatDoorVmZ
import Derived.Test.YtldogpfookkbaaaGreatDoorVm8
import Derived.Laws.Entries
import Derived.Laws.Slices
import Derived.Test.YtldogpfookkbaaaGreatDoorVmC
import Derived.SizedLaws
import Derived.Laws.IdiomStrings
set_option linter.all false
namespace Go.VM
open Go
theorem row_result {g : Gh} {w w' : World} {h : Heap} (r : Rel g w h) (hb : RowKit.Below w.heap.size w w') (vs : List Value) (ps : List PV) (hl : ps.length = vs.length)
  (hr:∀ j,j<vs.length→∀ g:Gh,Rep g (vs.getD j Go.undef) (PV.nth ps j)) (h1:∀ j,j<vs.length→(vs.getD j Go.undef).oneCell'=true)
  {gb cap:Nat} {cur:Array Value} {t:TypeId} {fr:Nat×Nat} (hbase:w.heap.size≤gb) (hgb:w'.heap[gb]?=some (.cells cur t fr)) (hcap:vs.length≤cap) (hcur:∀ j,j<vs.length→cur[j]?=some (vs.getD j Go.undef)) :
  ∃ m':Mem,Rep ⟨m',fun _=>none⟩ (.slice (some ⟨gb,0,none⟩) vs.length cap) (.sl 1 (ps.map fun p=>[p]))∧MemExt g w m' w':=by
 let m':Mem:=⟨fun bb oo=>if bb=gb then (if oo<vs.length then some (vs.getD oo Go.undef) else none) else g.m bb oo,g.m.mm,fun bb l hp=>⟨(g.m.kn bb l hp).1,fun j hj=>by rw [if_neg (fun e=>by have:=(r.mmem _ _ (g.m.kn bb l hp).1).lt;omega)];exact (g.m.kn bb l hp).2 j hj⟩,fun bb k hp=>by obtain ⟨v,h1,h2⟩:=g.m.kg bb k hp;exact ⟨v,by rw [if_neg (fun e=>by have h3:=(r.mem _ _ _ h1).1;rw [e,World.cell?,Array.getElem?_eq_none (by omega)] at h3;cases h3)];exact h1,h2⟩,g.m.ks.mono fun bb oo v h1=>by rw [if_neg (fun e=>by have h3:=(r.mem _ _ _ h1).1;rw [e,World.cell?,Array.getElem?_eq_none (by omega)] at h3;cases h3)];exact h1⟩
 have hlg:∀ bb oo v,g.m bb oo=some v→bb≠gb:=by
  rintro bb oo v e rfl;have:=(r.mem _ _ _ e).1;rw [World.cell?,Array.getElem?_eq_none (by omega)] at this;cases this
 have base:=memExt_below r hb;refine ⟨m',?_,?_⟩
 ·refine .sl gb 0 vs.length cap 1 _ _ (fun i _=>vs.getD i Go.undef) rfl (by simp [hl]) hcap (fun i hi=>?_) (fun i j hi hj=>?_) (fun i j hi hj=>?_)
  ·have hi':i<ps.length:=by omega
   simp [PV.row,List.getD_eq_getElem?_getD,hi']
  ·obtain rfl:j=0:=by omega
   show (if gb=gb then (if 0+i*1+0<vs.length then some (vs.getD (0+i*1+0) Go.undef) else none) else _)=_;rw [if_pos rfl,if_pos (by omega)];simp
  ·obtain rfl:j=0:=by omega
   have hi':i<ps.length:=by omega
   have e:PV.nth (PV.row (ps.map fun p=>[p]) i) 0=PV.nth ps i:=by simp [PV.row,PV.nth,List.getD_eq_getElem?_getD,hi']
   rw [e];exact hr i hi _
 ·refine ⟨fun bb oo v e=>?_,fun bb oo v e=>?_,fun bb oo v e=>?_,base.oldM,base.okM,base.newM⟩
  ·show (if bb=gb then _ else _)=_;rw [if_neg (hlg bb oo v e)];exact e
  ·have e':(if bb=gb then (if oo<vs.length then some (vs.getD oo Go.undef) else none) else g.m bb oo)=some v:=e;by_cases h2:bb=gb
   ·subst h2;rw [if_pos rfl] at e';by_cases h3:oo<vs.length
    ·rw [if_pos h3] at e';simp only [Option.some.injEq] at e';subst e';refine ⟨?_,h1 oo h3⟩;have:=hcur oo h3;simp [World.cell?,hgb,this]
    ·rw [if_neg h3] at e';cases e'
   ·rw [if_neg h2] at e';exact base.ok bb oo v e'
  ·have e':(if bb=gb then (if oo<vs.length then some (vs.getD oo Go.undef) else none) else g.m bb oo)=some v:=e;by_cases h2:bb=gb
   ·subst h2;exact .inr hbase
   ·rw [if_neg h2] at e';exact .inl e'
end Go.VM
namespace Go.VM
open Go
variable {P : Program} {o : Oper} {e : Env} {h : Heap} {K : PV → Heap → Prop}
end Go.VM
namespace Go.VM
open Go
variable {P : Program} {o : Oper} {e : Env} {h : Heap} {K : PV → Heap → Prop}
end Go.VM
namespace Go.VM
open Go
variable {P : Program} {o : Oper} {e : Env} {h : Heap} {K : PV → Heap → Prop}
theorem SlIs.rep {m:Mem} {β:Nat→Option (Nat×Nat×Nat×Nat)} {v:Value} {xs:List Int} (h:SlIs m.c v xs):Rep ⟨m,β⟩ v (.sl 1 (xs.map fun x=>[PV.int .i64 x])):=by
 rcases h with ⟨rfl,rfl⟩|⟨b,of,cap,h1,rfl,h3⟩
 ·exact .slE _ _ _
 ·refine .sl b of xs.length cap 1 _ _ (fun i _=>.int .i64 (xs.getD i 0)) rfl (by simp) h1 (fun i hi=>?_) (fun i j hi hj=>?_) (fun i j hi hj=>?_)
  ·simp [PV.row,List.getD_eq_getElem?_getD,hi]
  ·obtain rfl:j=0:=by omega
   have:=h3 i hi
   simpa using this
  ·obtain rfl:j=0:=by omega
   have:PV.nth (PV.row (xs.map fun x=>[PV.int .i64 x]) i) 0=.int .i64 (xs.getD i 0):=by
    simp [PV.row,PV.nth,List.getD_eq_getElem?_getD,hi]
   rw [this];exact .int _ _
end Go.VM
namespace Go.VM
open Go
def Light {H:Type} (P:Program) (t:TypeId) (d:DataW H):Prop:=∀ n∈d.weights P t,n≤reachBytes
structure ReadsZ (P : Program) (W : World) (n : Nat) (t : TypeId) {α : Type} (ok : α → Prop) (enc : α → List PV) : Prop where
 run : ∀ (_ : Zbp W) (H : Type) (en : TypeId × Value → H) (base : Nat) (spare : Nat → Bool) (held : Bool) (cs : List Value) (x : DataW H × List MemPlace), DataW.trod en P W base spare held n t cs = some x → Light P t x.1 → ∃ a, ok a ∧ CRep (g0 W) cs (enc a)
section
variable {P : Program} {W : World} {n : Nat} {t : TypeId}
theorem Reads.z {α:Type} {ok:α→Prop} {enc:α→List PV} (h:Reads P W n t ok enc):ReadsZ P W n t ok enc:=⟨fun hk H en base spare held cs x hx _=>h.run hk H en base spare held cs x hx⟩
theorem ReadsZ.map {α β:Type} {ok:α→Prop} {enc:α→List PV} {ok':β→Prop} {enc':β→List PV} (f:α→β) (h:ReadsZ P W n t ok enc) (ho:∀ a,ok a→ok' (f a)) (he:∀ a,enc' (f a)=enc a):ReadsZ P W n t ok' enc' :=
 ⟨fun hk H en base spare held cs x hx hz=>by
  obtain ⟨a,a1,a2⟩:=h.run hk H en base spare held cs x hx hz;exact ⟨f a,ho a a1,by rw [he];exact a2⟩⟩
structure FReadsZ (P : Program) (W : World) (n : Nat) (fs : List Field) (o : Nat) {α : Type} (ok : α → Prop) (enc : α → List PV) : Prop where
 run : ∀ (_ : Zbp W) (H : Type) (en : TypeId × Value → H) (base : Nat) (spare : Nat → Bool) (held : Bool) (cs : List Value),
  (∀ f ∈ fs, ∃ x, DataW.trod en P W base spare held n f.type ((cs.drop f.offset).take (P.cellsOf f.type)) = some x ∧ Light P f.type x.1) → ∃ a, ok a ∧ CRep (g0 W) ((cs.drop o).take (enc a).length) (enc a)
theorem ReadsZ.one (hk : Zbp W) {α : Type} {ok : α → Prop} {enc : α → PV} {H : Type} {en : TypeId × Value → H} {base : Nat} {spare : Nat → Bool} {held : Bool} {v : Value} {d : DataW H} {ps : List MemPlace}
  (h:∀ n,ReadsZ P W n t ok (fun a=>[enc a])) (hv:v.cells=#[v]) (hd:DataW.Trod en P W base spare held t v d ps) (hw:Light P t d):∃ a,ok a∧Rep (g0 W) v (enc a):=by
 obtain ⟨fuel,hx⟩:=hd;obtain ⟨a,a1,a2,a3⟩:=(h fuel).run hk H en base spare held _ _ hx hw;rw [hv] at a3;exact ⟨a,a1,(a3 0 (by simp)).2⟩
theorem ReadsZ.agg (hk : Zbp W) {α : Type} {ok : α → Prop} {enc : α → List PV} {H : Type} {en : TypeId × Value → H} {base : Nat} {spare : Nat → Bool} {held : Bool} {vs : Array Value} {d : DataW H} {ps : List MemPlace}
  (h:∀ n,ReadsZ P W n t ok enc) (hd:DataW.Trod en P W base spare held t (.agg vs) d ps) (hw:Light P t d):∃ a,ok a∧Rep (g0 W) (.agg vs) (.agg (enc a)):=by
 obtain ⟨fuel,hx⟩:=hd;obtain ⟨a,a1,a2,a3⟩:=(h fuel).run hk H en base spare held _ _ hx hw;simp only [Value.cells] at a2 a3;refine ⟨a,a1,.agg _ _ (by simpa using a2) (fun j hj=>?_) (fun j hj=>?_)⟩
 ·have:=(a3 j hj).1;simpa [Array.getD_eq_getD_getElem?] using this
 ·have:=(a3 j hj).2;simpa [Array.getD_eq_getD_getElem?] using this
end
end Go.VM
namespace Go.VM
open Go Go.RowKit
theorem OpS_bytes {P : Program} {o : Oper} {e : Env} {h : Heap} {K : PV → Heap → Prop} {src dst el : TypeId} {x : Operand} {va : VA} {s : List UInt8} (ho : o.op = .convert src dst x) (hs : P.underlying src = some .string) (hd : P.underlying dst = some (.slice el))
  (hel:P.underlying el=some (.int .u8)) (hx:cA x=some va) (hv:va.ev e=.str s) (hk:K (.sl 1 (s.map fun b=>[.int .u8 b.toNat])) h):OpS P o e h K:=by
 refine OpS.of_value fun g w a r he=>?_;have hrep:=Zai he hx;rw [hv] at hrep;obtain ⟨z,hz,hb⟩:=hrep.str_inv;have hrun:=run_bytes_of_string (P:=P) w src dst el z hs hd hel;generalize hcap:grownCap w z.size 0 el=cap at hrun;have hge:z.size≤cap:=by rw [← hcap];exact Nat.le_trans (Nat.le_refl _) (grownCap_ge w z.size 0 el)
 have hbl:z.size=s.length:=by rw [← hb];simp
 generalize hw':w.drew.alloc (.cells (bytesRow z cap) el ((bytesRow z cap).size,(bytesRow z cap).size+1))=w' at hrun;have hbel:Below w.heap.size w w':=by
  rw [← hw'];exact ((Below.refl w.heap.size w).drew).alloc (Nat.le_refl _) _
 have hget:∀ j,j<s.length→(s.map fun b=>Value.int .u8 (b.toNat:Int)).getD j Go.undef=.int .u8 (s.getD j 0).toNat:=fun j hj=>by simp [List.getD_eq_getElem?_getD,hj]
 obtain ⟨m', hr, hm⟩ := row_result (cap := cap) (gb := w.heap.size) (cur := bytesRow z cap) (t := el) (fr := ((bytesRow z cap).size, (bytesRow z cap).size + 1)) r hbel (s.map fun b => Value.int .u8 (b.toNat : Int)) (s.map fun b => PV.int .u8 (b.toNat : Int)) (by simp) (fun j hj g => by
   rw [List.length_map] at hj;rw [hget j hj];have:PV.nth (s.map fun b=>PV.int .u8 (b.toNat:Int)) j=.int .u8 (s.getD j 0).toNat:=by simp [PV.nth,List.getD_eq_getElem?_getD,hj]
   rw [this];exact .int _ _) (fun j hj=>by rw [List.length_map] at hj;rw [hget j hj];rfl) (Nat.le_refl _) (by rw [← hw'];exact heap_alloc_new w.drew _) (by simp;omega) (fun j hj=>by
   rw [List.length_map] at hj;rw [hget j hj];have hj2:j<z.data.size:=by rw [← hb] at hj;simpa using hj
   unfold bytesRow;rw [Array.getElem?_append_left (by simpa using hj2),Array.getElem?_map,Array.getElem?_eq_getElem hj2];subst hb;simp only [List.getD_eq_getElem?_getD,Array.getElem?_toList,Array.getElem?_eq_getElem hj2,Option.map_some,Option.getD_some])
 obtain ⟨R,E⟩:=r.below hm hbel;have hle:Gh.le ⟨m',fun _=>none⟩ ⟨m',g.β⟩:=⟨fun _ _ _ e=>e,(fun _ _ e=>by cases e),fun _ _ e=>e⟩;refine ⟨.slice (some ⟨w.heap.size,0,none⟩) s.length cap,_,⟨m',g.β⟩,w',h,?_,hk,?_,R,E⟩
 ·rw [hbl] at hrun;simp [execOp,ho,hz,hrun]
 ·rw [List.map_map,List.length_map] at hr;exact hr.mono hle
end Go.VM
