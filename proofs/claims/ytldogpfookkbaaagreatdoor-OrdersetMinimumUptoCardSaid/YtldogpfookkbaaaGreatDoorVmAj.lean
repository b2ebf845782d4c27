import Derived.Test.YtldogpfookkbaaaGreatDoorVmZ
import Derived.Laws.IdiomStrings
set_option linter.all false
namespace Go.VM
open Go Go.RowKit
theorem Z6g{P:Program}{o:Oper}{e:Env}{h:Heap}{K:PV→Heap→Prop}{src dst el:TypeId}{x:Operand}{va:VA}{s:List UInt8}(ho:o.op=.convert src dst x)(hs:P.underlying src=some .string)(hd:P.underlying dst=some (.slice el))
  (hel:P.underlying el=some (.int .u8))(hx:cA x=some va)(hv:va.ev e=.str s)(hk:K (.sl 1 (s.map fun b=>[.int .u8 b.toNat])) h):OpS P o e h K:=by
 refine OpS.of_value fun g w a r he=>?_;have hrep:=Zat he hx;rw[hv]at hrep;obtain⟨z,hz,hb⟩:=hrep.str_inv;have hrun:=run_bytes_of_string (P:=P) w src dst el z hs hd hel;generalize hcap:grownCap w z.size 0 el=cap at hrun;have hge:z.size≤cap:=by rw[←hcap];exact Nat.le_trans (Nat.le_refl _) (grownCap_ge w z.size 0 el)
 have hbl:z.size=s.length:=by rw[←hb];simp
 generalize hw':w.drew.alloc (.cells (bytesRow z cap) el ((bytesRow z cap).size,(bytesRow z cap).size+1))=w' at hrun;have hbel:Below w.heap.size w w':=by
  rw[←hw'];exact((Below.refl w.heap.size w).drew).alloc (Nat.le_refl _) _
 have hget:∀j,j<s.length→(s.map fun b=>Value.int .u8 (b.toNat:Int)).getD j Go.undef=.int .u8 (s.getD j 0).toNat:=fun j hj=>by simp[Zx1,hj]
 obtain⟨m',hr,hm⟩:=Zqv (cap:=cap) (gb:=w.heap.size) (cur:=bytesRow z cap) (t:=el) (fr:=((bytesRow z cap).size,(bytesRow z cap).size+1)) r hbel (s.map fun b=>Value.int .u8 (b.toNat:Int)) (s.map fun b=>PV.int .u8 (b.toNat:Int)) (by simp) (fun j hj g=>by
   rw[Zyc]at hj;rw[hget j hj];have:PV.nth (s.map fun b=>PV.int .u8 (b.toNat:Int)) j=.int .u8 (s.getD j 0).toNat:=by simp[PV.nth,Zx1,hj]
   rw[this];exact .int _ _) (fun j hj=>by rw[Zyc]at hj;rw[hget j hj];rfl) (Nat.le_refl _) (by rw[←hw'];exact heap_alloc_new w.drew _) (by simp;omega) (fun j hj=>by
   rw[Zyc]at hj;rw[hget j hj];have hj2:j<z.data.size:=by rw[←hb]at hj;simpa using hj
   unfold bytesRow;rw[Array.getElem?_append_left (by simpa using hj2),Array.getElem?_map,Array.getElem?_eq_getElem hj2];subst hb;simp only[Zx1,Array.getElem?_toList,Array.getElem?_eq_getElem hj2,Zys,Option.getD_some])
 obtain⟨R,E⟩:=r.below hm hbel;have hle:Gh.le ⟨m',fun _=>none⟩ ⟨m',g.β⟩:=⟨fun _ _ _ e=>e,(fun _ _ e=>by cases e),fun _ _ e=>e⟩;refine⟨.slice (some ⟨w.heap.size,0,none⟩) s.length cap,_,⟨m',g.β⟩,w',h,?_,hk,?_,R,E⟩
 ·rw[hbl]at hrun;simp[execOp,ho,hz,hrun]
 ·rw[List.map_map,Zyc]at hr;exact hr.mono hle
end Go.VM
