import Derived.Test.YtldogpfookkbaaaGreatDoorVm4
import Derived.Laws.Cover3
import Derived.Scope
import Derived.Sort.LoopGhostIn
import Derived.LoopNIn
import Derived.OrdersIn
set_option linter.all false
namespace Go.VM
open Go
def Zm0(g:Gh)(vals:Array Value)(args:List PV):Prop:=vals.size=args.length∧∀j,j<args.length→Rep g (vals.getD j Go.undef) (PV.nth args j)
def Zam(P:Program)(f:FuncId)(args:List PV)(h:Heap)(K:PV→Heap→Prop):Prop:=
 Ztr P f=true∧∀g w (vals:Array Value),Rel g w h→Zm0 g vals args→
  Calls P f vals w fun x w'=>∃v p g' h',x=.returned v∧K p h'∧Rep g' v p∧Rel g' w' h'∧Evo g w h g' w' h'
def fw(ro:Option Nat):Fence:={ fn:=fun _=>True,depth:=none,alive:=false,round:=ro }
theorem Xdd{ro:Option Nat}(n:Nat):(fw ro).room n:=fun _ h=>by simp[fw]at h
theorem Zk6{ro:Option Nat}{n:Nat}{P:Program}{f:FuncId}{args:Array Value}{w:World}{R:Ending→World→Prop}:CallsIn (fw ro) n P f args w R↔Calls P f args w R:=
 ⟨fun h=>(callsIn_wide (n:=n)).1 h,fun h=>(callsIn_wide (n:=n)).2 h⟩
theorem Z5w{n:Nat}{P:Program}{c:Code}{Q:Exit→Act→World→Prop}{a:Act}{w:World}:c.wpIn (fw none) n P Q a w↔c.wp P Q a w:=wpIn_wide
def OpS(P:Program)(o:Oper)(e:Env)(h:Heap)(K:PV→Heap→Prop):Prop:=
 ∀g w a (next:Act→World→Prop) (Q:Exit→Act→World→Prop),Rel g w h→Zas g a e→
  (∀v pv g' w' h',K pv h'→Rep g' v pv→Rel g' w' h'→Evo g w h g' w' h'→next (a.put o.dst v) w')→o.uponIn (fw none) 9 P a next Q ((execOp a.eval o).run P w)
def Zb6(e:Env):List (List PV)→List (Nat×VA)→List (List PV)
 |rows,[]=>rows
 |rows,(i,a)::r=>Zb6 e (rows.set i (a.ev e).cells) r
def Zct(e:Env)(z n:Nat):List (Nat×VA)→Prop
 | []=>True
 |(i,a)::r=>(a.ev e).fits z=true∧i<n∧Zct e z n r
def Zec(h:Heap)(p v:PV):Heap:=
 match p with
 | .loc id i off=>(match h.get id with
  |some (.arr _ z es)=>h.set id (.arr false z (es.set i (overlay (PV.row es i) off v.cells)))
  |_=>h)
 |_=>h
def Zfe(h:Heap)(s:Nat)(p v:PV):Prop:=
 v.fits s=true∧match p with
 | .loc id i off=>(match h.get id with
  |some (.arr fz z es)=>fz=false∧i<es.length∧off+s≤z
  |_=>False)
 |_=>False
def Zfm(h:Heap):PV→Prop
 | .mp id=>(match h.get id with
  |some (.map _)=>True
  |_=>False)
 |_=>False
def Zcu(h:Heap)(m k v:PV):Heap:=
 match m with
 | .mp id=>h.set id (.map (Zdo k v (Zbl h m)))
 |_=>h
def fxV(h:Heap):FX→List PV→PV×Heap
 | .slice0 z,_=>(.own h.top 0 0,h.push (.arr false z []))
 | .mk0 z,_=>(.own h.top 0 0,h.push (.arr false z []))
 | .clear z zr,[.own id off len]=>(.tup [],match h.get id with
  |some (.arr _ _ es)=>h.set id (.arr false z (es.take off++List.replicate len zr++es.drop (off+len)))
  |_=>h)
 | .clear _ _,_=>(.tup [],h)
def Zr3(h:Heap):FX→List PV→Prop
 | .slice0 z,[a]=>(match a with
  | .nilsl|.sl _ _=>True
  | .own _ _ _=>True
  |_=>False)
 | .mk0 _,[]=>True
 | .clear z zr,[a]=>(match a with
  | .nilsl=>True
  | .own id off len=>(match h.get id with
   |some (.arr fz z' es)=>fz=false∧z'=z∧off+len≤es.length∧zr.length=z
   |_=>False)
  |_=>False)
 |_,_=>False
def Zig:PV→Bool
 | .nilsl|.sl _ _|.own _ _ _=>true
 |_=>false
def Zau(P:Program)(e:Env)(h:Heap)(op:VOp)(K:PV→Heap→Prop):Prop:=
 match op with
 | .alloc zr=>K (.loc h.top 0 0) (h.push (.arr false zr.length [zr]))
 | .box n a=>(a.ev e).fits n=true∧K (.loc h.top 0 0) (h.push (.arr false n [(a.ev e).cells]))
 | .bslice z n zr ps=>Zct e z n ps∧K (.own h.top 0 n) (h.push (.arr false z (Zb6 e (List.replicate n zr) ps)))
 | .store s a v=>Zfe h s (a.ev e) (v.ev e)∧K .undef (Zec h (a.ev e) (v.ev e))
 | .app z bytes _ str a b=>Zk4 h z (a.ev e)∧Zf9 h str z (b.ev e)∧(Zbz h (a.ev e)).length+(Zax h (b.ev e)).length≤4611686018427387904∧
   ((Zbz h (a.ev e)).length+(Zax h (b.ev e)).length)*bytes≤140737488355328∧
   K (.own h.top 0 ((Zbz h (a.ev e)).length+(Zax h (b.ev e)).length)) ((Zbp h (Zga (a.ev e))).push (.arr false z (Zbz h (a.ev e)++Zax h (b.ev e))))
 | .call f args=>Zam P f (args.map (VA.ev e)) h K
 | .callv f args=>(match f.ev e with
  | .fn (.func f) first cap=>Zam P f (first++args.map (VA.ev e)++cap) h K
  |_=>False)
 | .mkmap=>K (.mp h.top) (h.push (.map []))
 | .mapset kk m k v=>Zfm h (m.ev e)∧Zlz kk (k.ev e) (Zbl h (m.ev e))∧K .undef (Zcu h (m.ev e) (k.ev e) (v.ev e))
 | .fx k l=>Zr3 h k (l.map (VA.ev e))∧K (fxV h k (l.map (VA.ev e))).1 (fxV h k (l.map (VA.ev e))).2
 | .nd neg a=>Zig (a.ev e)=true∧∀b,(isNil (a.ev e)=true→b=true)→(notNil (a.ev e)=true→b=false)→K (.bool (b !=neg)) h
 | .other o=>OpS P o e h K
 |op=>pok e h op∧K (Zcq e h op) h
section
variable {P:Program} {o:Oper} {e:Env} {h:Heap} {K:PV→Heap→Prop}
theorem OpS.of_value(H:∀g w a,Rel g w h→Zas g a e→∃v p g' w' h',(execOp a.eval o).run P w=.ok (.value v) w'∧K p h'∧Rep g' v p∧Rel g' w' h'∧Evo g w h g' w' h'):OpS P o e h K:=by
 intro g w a next Q r he hn
 obtain⟨v,p,g',w',h',e1,e2,e3,e4,e5⟩:=H g w a r he;rw[e1];exact hn v p g' w' h' e2 e3 e4 e5
theorem Zk7(w:World)(O:Obj){k:Nat}(hk:k<w.heap.size):({ w with heap:=w.heap.push O }:World).heap[k]?=w.heap[k]?:=by
 show(w.heap.push O)[k]?=_;rw[Array.getElem?_push,if_neg (by omega)]
theorem Z5x(w:World)(O:Obj):({ w with heap:=w.heap.push O }:World).heap[w.heap.size]?=some O:=by
 show(w.heap.push O)[w.heap.size]?=_;simp
theorem Zhx(w:World)(O:Obj):({ w with heap:=w.heap.push O }:World).heap.size=w.heap.size+1:=by
 show(w.heap.push O).size=_;simp
theorem Znn{g:Gh}{w:World}(r:Rel g w h)(c:Array Value)(t:TypeId)(z:Nat)(rows:List (List PV))(hz:∀i,i<rows.length→(PV.row rows i).length=z)(hrows:RowsIn g c.toList z rows):
  ∃g',g.le g'∧g'.β h.top=some (w.heap.size,0,c.size,z)∧Rel g' { w with heap:=w.heap.push (.cells c t (0,0)) } (h.push (.arr false z rows))∧
   Evo g w h g' { w with heap:=w.heap.push (.cells c t (0,0)) } (h.push (.arr false z rows)):=by
 obtain⟨g',f2,_,f3,f4,f5⟩:=r.put none w.heap.size 0 c.size z (.arr false z rows) { w with heap:=w.heap.push (.cells c t (0,0)) }
  (.inl (Nat.le_refl _)) (fun k hk _=>Zk7 _ _ hk) (by rw[Zhx];omega) (by rw[Zhx];omega) rfl rfl rfl rfl (fun g' hg'=>by
   refine⟨rfl,hz,?_,c,t,Z5x _ _,rfl,fun i j hi hj=>?_⟩
   ·have:=hrows.1;rw[Array.length_toList]at this;omega
   ·obtain⟨h1,h2⟩:=hrows.2 i j hi hj;have e1:c.getD (0+i*z+j) Go.undef=c.toList.getD (i*z+j) Go.undef:=by simp[Zx6]
    rw[e1];exact⟨h1,h2.mono hg',fun hh=>by cases hh⟩)
 exact⟨g',f2,f3,f4,f5⟩
theorem Zno{g:Gh}{c:Array Value}{cs:List PV}(hs:c.size=cs.length)(hr:∀j,j<cs.length→(c.getD j Go.undef).oneCell'=true∧Rep g (c.getD j Go.undef) (PV.nth cs j)):RowsIn g c.toList cs.length [cs]:=by
 refine⟨by simp[hs],fun i j hi hj=>?_⟩;obtain rfl:i=0:=by simpa using hi
 have e1:c.toList.getD (0*cs.length+j) Go.undef=c.getD j Go.undef:=by simp[Zx6]
 rw[e1];exact hr j hj
theorem Z5y(cs:List PV):∀i,i<[cs].length→(PV.row [cs] i).length=cs.length:=by
 intro i hi;have:i=0:=by simp at hi;omega
 subst this;rfl
theorem Zw4(es:List (List PV))(k:Nat)(x:List PV)(hk:k<es.length):PV.row (es.set k x) k=x:=by
 simp only[PV.row,Zx1];rw[List.getElem?_set_self hk];rfl
theorem Zqk(es:List (List PV))(k j:Nat)(x:List PV)(hk:k≠j):PV.row (es.set j x) k=PV.row es k:=by
 simp only[PV.row,Zx1];rw[List.getElem?_set_ne (Ne.symm hk)]
theorem Zw5{t:TypeId}{zr:List PV}(ho:o.op=.alloc t)(hz:zeroOf P t=some zr)(hk:K (.loc h.top 0 0) (h.push (.arr false zr.length [zr]))):OpS P o e h K:=by
 refine OpS.of_value fun g w a r he=>?_;obtain⟨i,v,hi,hv,hcs⟩:=Zes hz;obtain⟨z1,z2⟩:=Zdt (g:=g) hcs;obtain⟨g',f2,f3,f4,f5⟩:=Znn r v.cells t zr.length [zr] (Z5y _) (Zno z1 z2);refine⟨_,_,g',_,_,?_,hk,.loc h.top 0 0 w.heap.size 0 v.cells.size zr.length ⟨w.heap.size,0,none⟩ f3 (by simp),f4,f5⟩;simp[execOp,ho,Instr.alloc,Ze6 hi hv,newVar,newRow]
theorem Z5z{t:TypeId}{x:Operand}{n:Nat}{va:VA}(ho:o.op=.box t x)(hx:cA x=some va)(hf:(va.ev e).fits n=true)(hk:K (.loc h.top 0 0) (h.push (.arr false n [(va.ev e).cells]))):OpS P o e h K:=by
 refine OpS.of_value fun g w a r he=>?_;obtain⟨z1,z2,z3,z4⟩:=(Zat he hx).cells_size hf;subst z2;obtain⟨g',f2,f3,f4,f5⟩:=Znn r (a.eval x).cells t (va.ev e).cells.length [(va.ev e).cells] (Z5y _) (Zno z1 (fun j hj=>⟨z3 j hj,z4 j hj⟩));refine⟨_,_,g',_,_,?_,hk,.loc h.top 0 0 w.heap.size 0 _ _ ⟨w.heap.size,0,none⟩ f3 (by simp),f4,f5⟩;simp[execOp,ho,Instr.box,newVar,newRow]
theorem Zw6{t:TypeId}{x y:Operand}{s:Nat}{va vb:VA}(ho:o.op=.store t x y)(hx:cA x=some va)(hy:cA y=some vb)(hs:Zc2 P t=some s)
  (hok:Zfe h s (va.ev e) (vb.ev e))(hk:K .undef (Zec h (va.ev e) (vb.ev e))):OpS P o e h K:=by
 intro g w a next Q r he hn
 obtain⟨hf,hok⟩:=hok;obtain⟨z1,z2,z3,z4⟩:=(Zat he hy).cells_size hf;have hv:=Zat he hx;cases hp:va.ev e<;>simp only[hp]at hok hk hv
 rename_i id i off;split at hok
 case h_2=>exact hok.elim
 rename_i fz z es hg;obtain⟨rfl,hi,hle⟩:=hok;simp only[Zec,hg]at hk;obtain⟨b,o',n,z',hb,hv⟩:=hv.loc_inv;rcases r.blk id _ hg with⟨hb0,_⟩|⟨b2,o2,n2,z2',hb',hlt,hm,hok⟩
 ·rw[hb]at hb0;cases hb0
 rw[hb]at hb';simp only[Zx0,Prod.mk.injEq]at hb';obtain⟨rfl,rfl,rfl,rfl⟩:=hb';obtain⟨rfl,hz,hfit,c,tt,h1,h2,h3⟩:=hok;have hbound:=Za7 (n:=es.length) (z:=z) hi (j:=z-1);have hiz:(i+1)*z≤es.length*z:=Nat.mul_le_mul_right _ hi;rw[Nat.succ_mul]at hiz;have hone:∀v∈(a.eval y).cells.toList,v.oneCell'=true:=by
  intro v hv;obtain⟨k,hk,rfl⟩:=List.mem_iff_getElem.1 hv;rw[Array.length_toList]at hk;have:=z3 k (by omega)
  simpa[Array.getD,hk]using this
 have hst:=run_storeCells_at P b (o'+i*z+off) tt (a.eval y).cells.toList 0 c w h1 (by simp;omega) hone;simp only[Nat.add_zero,Array.length_toList,z1]at hst;have hrun:(execOp a.eval o).run P w=.ok .skip (w.setRow b (c.toList.take (o'+i*z+off)++(a.eval y).cells.toList++c.toList.drop (o'+i*z+off+s)).toArray):=by
  simp[execOp,ho,hv,Instr.storeAt,Instr.sureAddr,storeVar,Zeb hs,z1,hst]
 rw[hrun];have hheap:=setRow_heap w b c (c.toList.take (o'+i*z+off)++(a.eval y).cells.toList++c.toList.drop (o'+i*z+off+s)).toArray tt (0,0) h1;have hsame:∀k,k≠b→(w.setRow b (c.toList.take (o'+i*z+off)++(a.eval y).cells.toList++c.toList.drop (o'+i*z+off+s)).toArray).heap[k]?=w.heap[k]?:=by
  intro k hk;simp only[World.setRow,Array.getElem?_modify];rw[if_neg (Ne.symm hk)]
 have hsz:(w.setRow b (c.toList.take (o'+i*z+off)++(a.eval y).cells.toList++c.toList.drop (o'+i*z+off+s)).toArray).heap.size=w.heap.size:=by simp[World.setRow]
 generalize hW:w.setRow b (c.toList.take (o'+i*z+off)++(a.eval y).cells.toList++c.toList.drop (o'+i*z+off+s)).toArray=W at*;have hWos:W.os=w.os∧W.tape=w.tape∧W.output=w.output:=by rw[←hW];exact⟨rfl,rfl,rfl⟩
 have hrow:(PV.row es i).length=z:=hz i hi;have hov:(overlay (PV.row es i) off (vb.ev e).cells).length=z:=by rw[Zni _ _ _ (by rw[z2];omega),hrow]
 obtain ⟨R,E⟩:=r.set (ab:=.arr false z (es.set i (overlay (PV.row es i) off (vb.ev e).cells))) hg rfl hb W (fun k _ hk=>hsame k hk) (by omega) hWos.1 hWos.2.1 hWos.2.2 rfl (by
  refine⟨rfl,fun k hk=>?_,by simpa using hfit,_,tt,hheap,by simp[z1];omega,fun k j hk hj=>?_⟩
  ·simp only[List.length_set]at hk;by_cases hki:k=i
   ·subst hki;rw[Zw4 _ _ _ hi];exact hov
   ·rw[Zqk _ _ _ _ hki];exact hz k hk
  ·simp only[List.length_set]at hk;have hl1:(c.toList.take (o'+i*z+off)).length=o'+i*z+off:=by simp;omega
   by_cases hin:k=i∧off≤j∧j<off+s
   ·obtain⟨rfl,hj1,hj2⟩:=hin;have e1:(c.toList.take (o'+k*z+off)++(a.eval y).cells.toList++c.toList.drop (o'+k*z+off+s)).toArray.getD (o'+k*z+j) Go.undef=(a.eval y).cells.getD (j-off) Go.undef:=by
     rw[Zx6,List.getElem?_toArray,List.append_assoc,List.getElem?_append_right (by rw[hl1];omega),hl1,List.getElem?_append_left (by simp[z1];omega),Array.getElem?_toList,Zx6]
     congr 2;omega
    have e2:PV.nth (PV.row (es.set k (overlay (PV.row es k) off (vb.ev e).cells)) k) j=PV.nth (vb.ev e).cells (j-off):=by
     have:PV.row (es.set k (overlay (PV.row es k) off (vb.ev e).cells)) k=overlay (PV.row es k) off (vb.ev e).cells  :=Zw4 _ _ _ hi;rw[this,Zit _ _ _ (by rw[z2];omega),if_pos ⟨hj1,by rw[z2];exact hj2⟩]
    rw[e1,e2];exact⟨z3 _ (by omega),z4 _ (by omega),fun hh=>by cases hh⟩
   ·have hkz:=Za7 hk hj;have e1:(c.toList.take (o'+i*z+off)++(a.eval y).cells.toList++c.toList.drop (o'+i*z+off+s)).toArray.getD (o'+k*z+j) Go.undef=c.getD (o'+k*z+j) Go.undef:=by
     by_cases hb1:o'+k*z+j<o'+i*z+off
     ·rw[Zx6,List.getElem?_toArray,List.append_assoc,List.getElem?_append_left (by rw[hl1];exact hb1),List.getElem?_take,if_pos hb1,Array.getElem?_toList,Zx6]
     ·have hge:o'+i*z+off+s≤o'+k*z+j:=by
       by_cases hki:k=i
       ·subst hki;omega
       ·have:i<k:=by
         rcases Nat.lt_or_ge i k with h|h
         ·exact h
         ·have hlt:k<i:=by omega
          have:(k+1)*z≤i*z:=Nat.mul_le_mul_right _ hlt;rw[Nat.succ_mul]at this;omega
        have:(i+1)*z≤k*z:=Nat.mul_le_mul_right _ this;rw[Nat.succ_mul]at this;omega
      have hl2:(c.toList.take (o'+i*z+off)++(a.eval y).cells.toList).length=o'+i*z+off+s:=by simp[z1];omega
      rw[Zx6,List.getElem?_toArray,List.getElem?_append_right (by rw[hl2];exact hge),hl2,List.getElem?_drop,Array.getElem?_toList,Zx6]
      congr 2;omega
    have e2:PV.nth (PV.row (es.set i (overlay (PV.row es i) off (vb.ev e).cells)) k) j=PV.nth (PV.row es k) j:=by
     by_cases hki:k=i
     ·subst hki;have:PV.row (es.set k (overlay (PV.row es k) off (vb.ev e).cells)) k=overlay (PV.row es k) off (vb.ev e).cells  :=Zw4 _ _ _ hi;rw[this,Zit _ _ _ (by rw[z2];omega),if_neg (by rw[z2];omega)]
     ·rw[Zqk _ _ _ _ hki]
    rw[e1,e2];obtain⟨q1,q2,_⟩:=h3 k j hk hj;exact⟨q1,q2,fun hh=>by cases hh⟩)
 exact hn Go.undef .undef g W _ hk .undef R E
theorem Zw7{t:TypeId}(ho:o.op=.makeMap t none)(hk:K (.mp h.top) (h.push (.map []))):OpS P o e h K:=by
 refine OpS.of_value fun g w a r he=>?_;obtain⟨g',f2,_,f3,f4,f5⟩:=r.put none w.heap.size 0 0 0 (.map []) { w with heap:=w.heap.push (.map #[] 0) }
  (.inl (Nat.le_refl _)) (fun k hk _=>Zk7 _ _ hk) (by rw[Zhx];omega) (by rw[Zhx];omega) rfl rfl rfl rfl (fun g' hg'=>⟨#[],0,Z5x _ _,rfl,fun i e p h1=>by simp at h1,fun _=>MapKept.stamped_empty 0⟩)
 refine⟨_,_,g',_,_,?_,hk,.mp h.top w.heap.size 0 0 0 f3,f4,f5⟩;simp[execOp,ho,Instr.makeMap]
theorem Zt6{g:Gh}{v u:Value}{p q:PV}(hp:Zh9 p=true)(hq:Zh9 q=true)(hv:Rep g v p)(hu:Rep g u q):(v=u→Zbo p q=true)∧(∀k,Zgw k p q→Zbo p q=true→v=u):=by
 cases p<;>simp only[Zh9,Zyu]at hp<;>cases q<;>simp only[Zh9,Zyu]at hq
 case bool.bool a b=>
  rw[hv.bool_inv,hu.bool_inv];exact⟨fun h=>by simpa[Zbo]using h,fun k _ h=>by simp only[Zbo,beq_iff_eq]at h;rw[h]⟩
 case int.int k1 a k2 b=>
  rw[hv.int_inv,hu.int_inv];refine⟨fun h=>by simp only[Value.int.injEq]at h;simp[Zbo,h.2],fun k hk h=>?_⟩;simp only[Zbo,beq_iff_eq]at h;cases k<;>simp only[Zgw]at hk
  rw[hk,h]
 case str.str a b=>
  obtain⟨s,rfl,hs⟩:=hv.str_inv;obtain⟨t,rfl,ht⟩:=hu.str_inv;refine⟨fun h=>?_,fun k _ h=>?_⟩
  ·simp only[Value.string.injEq]at h;subst h;simp[Zbo,←hs,←ht]
  ·simp only[Zbo,beq_iff_eq]at h;rw[←hs,←ht]at h;have:s=t:=by
    obtain⟨⟨x⟩⟩:=s;obtain⟨⟨y⟩⟩:=t
    simpa using h
   rw[this]
 all_goals
  refine⟨fun h=>?_,fun k hk=>?_⟩
  ·exfalso
   subst h;cases hv<;>cases hu
  ·cases k<;>simp only[Zgw]at hk
theorem Zt7{g:Gh}:∀(cx cy:List PV) (xs ys:List Value),cx.all Zh9=true→cy.all Zh9=true→xs.length=cx.length→ys.length=cy.length→(∀j,j<cx.length→Rep g (xs.getD j Go.undef) (PV.nth cx j))→(∀j,j<cy.length→Rep g (ys.getD j Go.undef) (PV.nth cy j))→
  (xs=ys→cx.length=cy.length→Zay cx cy=true)∧(∀ks,Zf7 ks cx cy→Zay cx cy=true→xs=ys)
 | [],cy,xs,ys,_,_,h1,h2,_,_=>by
  refine⟨fun _ _=>by simp[Zay],fun ks hk _=>?_⟩;cases cy with
  |nil=>
   have e1:xs=[]:=List.length_eq_zero_iff.1 h1;have e2:ys=[]:=List.length_eq_zero_iff.1 h2;rw[e1,e2]
  |cons y r=>cases ks<;>simp only[Zf7]at hk
 |x::r,[],xs,ys,_,_,h1,h2,_,_=>by
  refine⟨fun _ h=>by simp at h,fun ks hk _=>?_⟩;cases ks<;>simp only[Zf7]at hk
 |x::r,y::q,[],ys,_,_,h1,_,_,_=>by simp at h1
 |x::r,y::q,a::xs,[],_,_,_,h2,_,_=>by simp at h2
 | x::r,y::q,a::xs,b::ys,f1,f2,h1,h2,r1,r2=>by
  simp only[List.all_cons,Zx4]at f1 f2;have h0:=Zt6 f1.1 f2.1 (by simpa[PV.nth]using r1 0 (by simp)) (by simpa[PV.nth]using r2 0 (by simp));have ih:=Zt7 (g:=g) r q xs ys f1.2 f2.2 (by simpa using h1) (by simpa using h2) (fun j hj=>by simpa[PV.nth]using r1 (j+1) (by simpa using hj)) (fun j hj=>by simpa[PV.nth]using r2 (j+1) (by simpa using hj));refine⟨fun h hl=>?_,fun ks hk he=>?_⟩
  ·simp only[List.cons.injEq]at h;simp only[Zay,Zx4];exact⟨h0.1 h.1,ih.1 h.2 (by simpa using hl)⟩
  ·cases ks with
   |nil=>simp only[Zf7]at hk
   |cons k ks=>
    simp only[Zf7]at hk;simp only[Zay,Zx4]at he;rw[h0.2 k hk.1 he.1,ih.2 ks hk.2 he.2]
theorem Z50{k:EK}{p q:PV}(h:Zgw k p q):Zh9 p=true∧Zh9 q=true:=by
 cases k<;>cases p<;>simp only[Zgw]at h<;>cases q<;>simp only[Zgw]at h<;>exact⟨rfl,rfl⟩
theorem Zt8:∀{ks:List EK} {a b:List PV},Zf7 ks a b→a.all Zh9=true∧b.all Zh9=true
 | [],[],[],_=>⟨rfl,rfl⟩
 |k::ks,x::r,y::q,h=>by
  have h1:=Z50 h.1;have h2:=Zt8 h.2;simp only[List.all_cons,Zx4];exact⟨⟨h1.1,h2.1⟩,⟨h1.2,h2.2⟩⟩
 | [],_::_,_,h=>by simp only[Zf7]at h
 | [],[],_::_,h=>by simp only[Zf7]at h
 |_::_,[],_,h=>by simp only[Zf7]at h
 |_::_,_::_,[],h=>by simp only[Zf7]at h
theorem Zfn{kk:KK}{a b:PV}(h:Zc3 kk a b):Zwr a=true∧Zwr b=true:=by
 cases kk with
 |one k=>
  simp only[Zc3]at h;cases k<;>cases a<;>simp only[Zgw]at h<;>cases b<;>simp only[Zgw]at h<;>exact⟨rfl,rfl⟩
 |st ks=>
  simp only[Zc3]at h;obtain⟨ha,hb,hk⟩:=h;cases a<;>simp only[Zc3.isAggP']at ha
  cases b<;>simp only[Zc3.isAggP']at hb
  exact Zt8 (by simpa[PV.cells]using hk)
theorem Z51{k:PV}:∀{es:List (PV×PV)},Zbn k es=none→∀p∈es,Zc4 k p.1=false
 | [],_,p,hp=>by cases hp
 | (x,v)::r,h,p,hp=>by
  simp only[Zbn]at h;split at h
  ·cases h
  ·rename_i hx;rcases List.mem_cons.1 hp with rfl|hp'
   ·simpa using hx
   ·exact Z51 h p hp'
theorem Z52{g:Gh}{v u:Value}{p q:PV}{kk:KK}(hp:Zwr p=true)(hq:Zwr q=true)(hv:Rep g v p)(hu:Rep g u q)(hk:Zc3 kk p q):v=u↔Zc4 p q=true:=by
 cases kk with
 | one k=>
  simp only[Zc3]at hk;have c1:Zh9 p=true∧Zh9 q=true:=by
   cases k<;>cases p<;>simp only[Zgw]at hk<;>cases q<;>simp only[Zgw]at hk<;>exact⟨rfl,rfl⟩
  have e:Zc4 p q=Zbo p q:=by
   obtain⟨a,b⟩:=c1;cases p<;>simp only[Zh9,Zyu]at a<;>cases q<;>simp only[Zh9,Zyu]at b<;>simp[Zc4,PV.cells,Zay]
  rw[e];have h0:=Zt6 c1.1 c1.2 hv hu;exact⟨h0.1,h0.2 k hk⟩
 | st ks=>
  simp only[Zc3]at hk;obtain⟨ha,hb,hk⟩:=hk;cases p<;>simp only[Zc3.isAggP']at ha
  cases q<;>simp only[Zc3.isAggP']at hb
  rename_i cs ds;obtain⟨vs,rfl,s1,_,r1⟩:=hv.agg_inv;obtain⟨us,rfl,s2,_,r2⟩:=hu.agg_inv;have hl:=Ze7 ks _ _ hk;simp only[PV.cells]at hk hl;have h0:=Zt7 (g:=g) cs ds vs.toList us.toList (by simpa[Zwr]using hp) (by simpa[Zwr]using hq) (by simpa using s1) (by simpa using s2)
   (fun j hj=>by have:=r1 j hj;simpa[Zx6]using this) (fun j hj=>by have:=r2 j hj;simpa[Zx6]using this)
  simp only[Zc4,PV.cells];constructor
  ·intro h;simp only[Value.agg.injEq]at h;exact h0.1 (by rw[h]) (by omega)
  ·intro h;have:=h0.2 ks hk h;rw[Array.toList_inj.1 this]
theorem Zl0{t kt et:TypeId}{x y z:Operand}{kk:KK}{va vb vc:VA}(ho:o.op=.mapUpdate t x y z∨o.op=.insert t x y z)(ht:P.underlying t=some (.map kt et))(hkk:Z90 P kt=some kk)(hx:cA x=some va)(hy:cA y=some vb)(hz:cA z=some vc)
  (h1:Zfm h (va.ev e))(h2:Zlz kk (vb.ev e) (Zbl h (va.ev e)))(hk:K .undef (Zcu h (va.ev e) (vb.ev e) (vc.ev e))):OpS P o e h K:=by
 intro g w a next Q r he hn
 have hm:=Zat he hx;have hkey:=Zat he hy;have hval:=Zat he hz;generalize va.ev e=m at hm h1 h2 hk;cases m<;>simp only[Zfm]at h1
 rename_i id;split at h1
 case h_2=>exact h1.elim
 rename_i es hg;have hrows:Zbl h (.mp id)=es:=by simp[Zbl,hg]
 rw[hrows]at h2;simp only[Zcu,hrows]at hk;have hok':Zg2 h (.mp id):=by simp[Zg2,hg]
 rcases Zr0 r hm hok' with⟨hv,_⟩|⟨b,ents,clock,hv,hh,hent⟩
 ·rw[hv]at hm;cases hm
 rw[hrows]at hent;obtain⟨rr,q1,q2⟩:=Zr1 (P:=P) (w:=w) hkk hkey hent h2.2;have hc:∀em,(Instr.checkKey em 10000 kt (a.eval y)).run P w=.ok () w:=fun em=>Zt1 hkk hkey h2.1;have hlt:b<w.heap.size:=(Array.getElem?_eq_some_iff.1 hh).1;have hnew:∀O,({ w with heap:=w.heap.setIfInBounds b O }:World).heap[b]?=some O:=fun O=>(MapKept.heap_set hh).1;have hold:∀O k,k≠b→({ w with heap:=w.heap.setIfInBounds b O }:World).heap[k]?=w.heap[k]?:=fun O k hkb=>(MapKept.heap_set hh).2 k hkb;have hsz:∀O,({ w with heap:=w.heap.setIfInBounds b O }:World).heap.size=w.heap.size:=fun O=>by simp
 obtain⟨o',n',z',hβ⟩:∃o' n' z',g.β id=some (b,o',n',z'):=by
  rw[hv]at hm;cases hm with
  |mp id b o n z hb=>exact⟨_,_,_,hb⟩
 have hst:MapKept.Stamped ents clock:=by
  rcases r.blk id _ hg with⟨_,fz,z,hx⟩|⟨b',o2,n2,z2,hb',_,_,hok2⟩
  ·cases hx
  ·rw[hβ]at hb';simp only[Zx0,Prod.mk.injEq]at hb';obtain⟨rfl,-⟩:=hb';obtain⟨en,cl,e1,_,_,e4⟩:=hok2;rw[hh]at e1;simp only[Zx0,Obj.map.injEq]at e1;obtain⟨rfl,rfl⟩:=e1;exact e4 fun p hp=>(Zfn (h2.2 p hp)).2
 have fin:∀(ents':Array MapEntry) (clock':Nat),MapKept.Stamped ents' clock'→Xck g ents'.toList (Zdo (vb.ev e) (vc.ev e) es)→(execOp a.eval o).run P w= .ok .skip { w with heap:=w.heap.setIfInBounds b (.map ents' clock') }→
   o.uponIn (fw none) 9 P a next Q ((execOp a.eval o).run P w):=by
  intro ents' clock' hst' hent' hrun;rw[hrun];obtain⟨R,E⟩:=r.set (ab:=.map (Zdo (vb.ev e) (vc.ev e) es)) hg rfl hβ { w with heap:=w.heap.setIfInBounds b (.map ents' clock') } (fun k _ hkb=>hold _ k hkb) (by rw[hsz];omega) rfl rfl rfl rfl
   ⟨ents',clock',hnew _,by simpa using hent'.1,fun i x p hx hp=>hent'.2 i x p (by simpa using hx) hp,fun _=>hst'⟩
  exact hn Go.undef .undef g _ _ hk .undef R E
 rcases q2 with⟨f1,f2,rfl⟩|⟨j,x,p,f1,f2,f3,f4,rfl,f6⟩
 ·refine fin (ents.push { key:=a.eval y,val:=a.eval z,born:=clock }) (clock+1) (MapKept.stamped_push hst fun x hx hk=>?_) ?_ ?_
  ·obtain⟨i,hi,rfl⟩:=List.mem_iff_getElem.1 hx;have hie:i<es.length:=by rw[←hent.1];exact hi
   have hr1:=(hent.2 i _ es[i] (Zye hi) (Zye hie)).1;have hok1:=h2.2 es[i] (Zyl hie);have:=(Z52 (Zfn h2.1).1 (Zfn hok1).2 hkey hr1 hok1).1 hk.symm;rw[Z51 f1 _ (Zyl hie)]at this;cases this
  ·rw[f2];refine⟨by simp;simpa using hent.1,fun i x p hx hp=>?_⟩;have hlen:ents.size=es.length:=by simpa using hent.1
   simp only[Array.toList_push]at hx;by_cases hi:i<es.length
   ·rw[List.getElem?_append_left (by simpa[hlen]using hi)]at hx;rw[List.getElem?_append_left hi]at hp;exact hent.2 i x p hx hp
   ·have hi':i=es.length:=by
     have:=(List.getElem?_eq_some_iff.1 hp).1;simp at this;omega
    subst hi';rw[List.getElem?_append_right (by simp[hlen])]at hx;rw[List.getElem?_append_right (by simp)]at hp;simp[hlen]at hx hp;subst hx;subst hp;exact⟨hkey,hval⟩
  ·rcases ho with ho|ho<;>simp[execOp,ho,Instr.mapUpdate,run_underlying ht,hv,MapKept.run_getObj_map hh,hc,q1,MapKept.run_setObj_map _ hh]
 ·have hj:j<ents.size:=by have:=(List.getElem?_eq_some_iff.1 f3).1;simpa using this
  have hje:ents[j]?=some x:=by simpa using f3
  have hstay:(Instr.keyThatStays x.key (a.eval y)).run P w=.ok (a.eval y) w:=by simp[Instr.keyThatStays,f6.1]
  refine fin (ents.modify j fun e=>{ e with key:=a.eval y,val:=a.eval z }) clock (MapKept.stamped_modify hst j _ (fun _ _=>rfl) (fun e he hje'=>?_)) ?_ ?_
  ·rw[hje]at hje';simp only[Zx0]at hje';subst hje';have hj2:j<es.length:=(List.getElem?_eq_some_iff.1 f4).1;have hp1:p∈es:=List.mem_of_getElem? f4;have hr1:=(hent.2 j x p f3 f4).1;have hok1:=h2.2 p hp1;exact(Z52 (Zfn h2.1).1 (Zfn hok1).2 hkey hr1 hok1).2 f6.2
  ·rw[f2];refine⟨by simp;simpa using hent.1,fun i x' p' hx hp=>?_⟩;simp only[Array.getElem?_toList,Array.getElem?_modify]at hx;by_cases hi:j=i
   ·subst hi;rw[if_pos rfl,hje]at hx;rw[List.getElem?_set_self (List.getElem?_eq_some_iff.1 f4).1]at hp;simp only[Zys,Zx0]at hx hp;subst hx;subst hp;exact⟨hkey,hval⟩
   ·rw[if_neg hi]at hx;rw[List.getElem?_set_ne hi]at hp;exact hent.2 i x' p' (by simpa using hx) hp
  ·have hstay':(Instr.keyThatStays ((Option.map (fun x=>x.key) ents[j]?).getD (a.eval y)) (a.eval y)).run P w=.ok (a.eval y) w:=by rw[hje];exact hstay
   rcases ho with ho|ho<;>simp[execOp,ho,Instr.mapUpdate,run_underlying ht,hv,MapKept.run_getObj_map hh,hc,q1,hje,hstay,MapKept.run_setObj_map _ hh]
theorem Z21{t ty:TypeId}{z:Nat}{x hi mx:Operand}{lo:Option Operand}{va:VA}(hx:cA x=some va)(hu:P.underlying t=some (.slice ty))(hs:Zc2 P ty=some z)(hl:lo=none∨∃l,lo=some l∧Zky l=true)(hh:Zky hi=true)(hm:Zky mx=true)
    {g:Gh}{w:World}{a:Act}(he:Zas g a e)(hok:Zr3 h (.slice0 z) [va.ev e])(ho:o.op=.slice t x lo (some hi) (some mx)):
    ∃ao,(execOp a.eval o).run P w=.ok (.value (.slice ao 0 0)) w:=by
  have hz:∀{y:Operand},Zky y=true→a.eval y=.int .i64 0:=by
    intro y hy;unfold Zky at hy;split at hy
    ·rfl
    ·cases hy
  have hv:=Zat he hx;have hsl:∃ao len cap,a.eval x=.slice ao len cap:=by
    generalize a.eval x=vx at hv;simp only[Zr3]at hok;split at hok
    ·rename_i hp;rw[hp]at hv;cases hv;exact⟨_,_,_,rfl⟩
    ·rename_i hp;rw[hp]at hv;cases hv<;>exact⟨_,_,_,rfl⟩
    ·rename_i hp;rw[hp]at hv;cases hv<;>exact⟨_,_,_,rfl⟩
    ·exact hok.elim
  obtain⟨ao,len,cap,hval⟩:=hsl;have hb0:∀(y:Nat) c,(Instr.sliceBound (.int .i64 0) y c).run P w=.ok 0 w:=by
    intro y c;simp[Instr.sliceBound,asIntOf]
  refine⟨if 0=0 then ao else ao.map (·.add (0*z)),?_⟩;rcases hl with rfl|⟨l,rfl,hl⟩
  ·simp[execOp,ho,Instr.sliceAt,Instr.slice,run_underlying hu,hval,Instr.sliceBounds,hz hh,hz hm,hb0,Zeb hs]
  ·simp[execOp,ho,Instr.sliceAt,Instr.slice,run_underlying hu,hval,Instr.sliceBounds,hz hh,hz hm,hz hl,hb0,Zeb hs]
theorem Z1b{z:Nat}:∀{rows:List (List PV)},(∀r∈rows,r.length=z)→rows.flatten.length=rows.length*z
 | [],_=>by simp
 |r::rs,h=>by
  rw[List.flatten_cons,Zx5,h r (by simp),Z1b (fun x hx=>h x (by simp[hx])),Zyd,Nat.succ_mul];omega
theorem Zr4{z:Nat}:∀{rows:List (List PV)},(∀r∈rows,r.length=z)→∀i j,i<rows.length→j<z→PV.nth rows.flatten (i*z+j)=PV.nth (PV.row rows i) j
 | [],_,i,_,hi,_=>by simp at hi
 |r::rs,h,0,j,_,hj=>by
  have hr:r.length=z:=h r List.mem_cons_self;have e1:PV.row (r::rs) 0=r:=rfl;rw[e1];simp only[PV.nth,List.flatten_cons,Nat.zero_mul,Nat.zero_add,Zx1];rw[List.getElem?_append_left (by omega)]
 |r::rs,h,i+1,j,hi,hj=>by
  have hr:r.length=z:=h r List.mem_cons_self;have hrs:∀x∈rs,x.length=z:=fun x hx=>h x (Zx7 _ hx);have ih:=Zr4 hrs i j (by simpa using hi) hj;have e1:PV.row (r::rs) (i+1)=PV.row rs i:=rfl;rw[e1,←ih];simp only[PV.nth,List.flatten_cons,Zx1];rw[Nat.succ_mul,List.getElem?_append_right (by omega),hr,show i*z+z+j-z=i*z+j by omega]
theorem Z1c{z:Nat}:∀{rows:List (List PV)},(∀r∈rows,r.length=z)→∀(i:Nat) (x:List PV),i<rows.length→x.length=z→(rows.set i x).flatten=overlay rows.flatten (i*z) x
 | [],_,i,_,hi,_=>by simp at hi
 |r::rs,h,0,x,_,hx=>by
  have hr:r.length=z:=h r List.mem_cons_self;simp only[List.set_cons_zero,List.flatten_cons,overlay,Nat.zero_mul,List.take_zero,List.nil_append,Nat.zero_add];rw[show x.length=r.length by omega,List.drop_left]
 | r::rs,h,i+1,x,hi,hx=>by
  have hr:r.length=z:=h r List.mem_cons_self;have hrs:∀x∈rs,x.length=z:=fun x hx=>h x (Zx7 _ hx);have hi':i<rs.length:=by simpa using hi
  have ih:=Z1c hrs i x hi' hx;simp only[List.set_cons_succ,List.flatten_cons,ih,overlay];have t1:(r++rs.flatten).take ((i+1)*z)=r++rs.flatten.take (i*z):=by
   rw[Nat.succ_mul,List.take_append,Zyi (by omega),hr,show i*z+z-z=i*z by omega]
  have t2:(r++rs.flatten).drop ((i+1)*z+x.length)=rs.flatten.drop (i*z+x.length):=by
   rw[Nat.succ_mul,List.drop_append,List.drop_eq_nil_of_le (by omega),hr,show i*z+z+x.length-z=i*z+x.length by omega,List.nil_append]
  rw[t1,t2];simp
theorem Zql{z n:Nat}:∀(ps:List (Nat×VA)) (rows:List (List PV)),(∀r∈rows,r.length=z)→rows.length=n→Zct e z n ps→
  (Zb6 e rows ps).flatten=Zgx e rows.flatten (ps.map fun p=>(p.1*z,z,p.2))∧(∀r∈Zb6 e rows ps,r.length=z)∧(Zb6 e rows ps).length=n∧Ze5 e (n*z) (ps.map fun p=>(p.1*z,z,p.2))
 | [],rows,h,hl,_=>⟨rfl,h,hl,trivial⟩
 | (i,a)::ps,rows,h,hl,⟨h1,h2,h3⟩=>by
  have hc:=Z2y h1;have hall:∀r∈rows.set i (a.ev e).cells,r.length=z:=by
   intro r hr;rcases List.mem_or_eq_of_mem_set hr with h'|h'
   ·exact h r h'
   ·rw[h'];exact hc
  obtain⟨q1,q2,q3,q4⟩:=Zql ps (rows.set i (a.ev e).cells) hall (by simpa using hl) h3;refine⟨?_,q2,q3,h1,?_,q4⟩
  ·simp only[Zb6,List.map_cons,Zgx];rw[q1,Z1c h i _ (by omega) hc]
  ·have:(i+1)*z≤n*z:=Nat.mul_le_mul_right _ h2;rw[Nat.succ_mul]at this;exact this
theorem Znp:∀{ps:List (Nat×Operand)} {qs:List (Nat×VA)},Zjc ps=some qs→ps.length=qs.length∧∀(i:Nat) (p:Nat×Operand) (q:Nat×VA),ps[i]?=some p→qs[i]?=some q→q.1=p.1∧cA p.2=some q.2
 | [],qs,h=>by simp only[Zjc,Zx0]at h;subst h;exact⟨rfl,fun i p q hp=>by simp at hp⟩
 | (i,x)::r,qs,h=>by
  simp only[Zjc]at h;split at h
  ·rename_i va q h2 h3;simp only[Zx0]at h;subst h;obtain⟨ih1,ih2⟩:=Znp h3;refine⟨by simp[ih1],fun j p q' hp hq=>?_⟩;cases j with
   |succ j=>exact ih2 j p q' (by simpa using hp) (by simpa using hq)
   |zero=>
    simp only[Zyp,Zx0]at hp hq;subst hp hq;exact⟨rfl,h2⟩
  ·cases h
theorem Zk8{t ty:TypeId}{n z:Nat}{zr:List PV}{parts:Array (Nat×Operand)}{ps:List (Nat×VA)}(ho:o.op=.buildSlice t n parts)(hu:P.underlying t=some (.slice ty))(hs:Zc2 P ty=some z)(hz:zeroOf P ty=some zr)(hp:Zjc parts.toList=some ps)
  (hn:n*z≤2 ^ 20)(hzl:zr.length=z)(hz0:z≠0)(hok:Zct e z n ps){g:Gh}(w:World){a:Act}(he:Zas g a e):
  ∃out:Array Value,(execOp a.eval o).run P w=.ok (.value (.slice (some ⟨w.heap.size,0,none⟩) n n)) { w with heap:=w.heap.push (.cells out ty (0,0)) }∧out.size=n*z∧
   RowsIn g out.toList z (Zb6 e (List.replicate n zr) ps)∧(∀i,i<(Zb6 e (List.replicate n zr) ps).length→(PV.row (Zb6 e (List.replicate n zr) ps) i).length=z)∧(Zb6 e (List.replicate n zr) ps).length=n:=by
 obtain⟨i,v,hi,hv,hcs⟩:=Zes hz;obtain⟨z1,z2⟩:=Zdt (g:=g) hcs;obtain⟨c1,c2⟩:=Znp hp;have hall:∀r∈List.replicate n zr,r.length=z:=fun r hr=>by rw[List.eq_of_mem_replicate hr];exact hzl
 obtain⟨q1,q2,q3,q4⟩:=Zql ps (List.replicate n zr) hall (by simp) hok;have hfl:(List.replicate n zr).flatten.length=n*z:=by rw[Z1b hall];simp
 have hzero:∃z0:Array Value,((n*z=0→z0= #[])∧(n*z≠0→z0=v.cells))∧
   ((Array.range (n*z)).map (fun k=>z0[k % z0.size]!)).size=n*z∧∀k,k<n*z→((Array.range (n*z)).map (fun k=>z0[k % z0.size]!)).getD k Go.undef=v.cells.getD (k % z) Go.undef:=by
  by_cases h0:n*z=0
  ·refine⟨#[],⟨fun _=>rfl,fun h=>absurd h0 h⟩,by simp,fun k hk=>by omega⟩
  ·refine⟨v.cells,⟨fun h=>absurd h h0,fun _=>rfl⟩,by simp,fun k hk=>?_⟩;have hm:k % z<v.cells.size:=by rw[z1,hzl];exact Nat.mod_lt _ (by omega)
   rw[z1,hzl];have e1:((Array.range (n*z)).map (fun k=>v.cells[k % z]!)).getD k Go.undef=v.cells[k % z]!:=by simp[Array.getD,hk]
   rw[e1,getElem!_pos v.cells (k % z) hm];simp[Array.getD,hm]
 obtain⟨z0,hz1,hz2,hz3⟩:=hzero;obtain⟨out,o1,o2,o3,o4⟩:=Zk1 he (fun i=>some (i*z,z)) parts.toList (ps.map fun p=>(p.1*z,z,p.2)) ((Array.range (n*z)).map (fun k=>z0[k % z0.size]!)) (List.replicate n zr).flatten (by simpa using c1)
  (fun i p q h1 h2=>by
   simp only[List.getElem?_map,Option.map_eq_some_iff]at h2;obtain⟨q',hq',rfl⟩:=h2;obtain⟨d1,d2⟩:=c2 i p q' h1 hq';exact⟨by simp[d1],d2⟩)
  (by rw[hz2,hfl]) (fun j hj=>by
   rw[hfl]at hj;rw[hz3 j hj];obtain⟨s1,s2,s3⟩:=Zhw hj;have:=z2 (j % z) (by rw[hzl];exact s2);have e1:PV.nth (List.replicate n zr).flatten j=PV.nth zr (j % z):=by
    have:=Zr4 hall (j / z) (j % z) (by simpa using s1) s2;rw[s3]at this;rw[this];simp[PV.row,Zx1,s1]
   rw[e1];exact this) (by rw[hfl];exact q4)
 rw[hfl]at o2 o3 o4;have hrows:RowsIn g out.toList z (Zb6 e (List.replicate n zr) ps):=by
  refine⟨by rw[Array.length_toList,o2,q3],fun i j hi hj=>?_⟩;rw[q3]at hi;have hk:=Za7 hi hj;obtain⟨w1,w2⟩:=o4 _ hk;have e1:out.toList.getD (i*z+j) Go.undef=out.getD (i*z+j) Go.undef:=by simp[Zx6]
  rw[e1];rw[←q1,Zr4 q2 i j (by omega) hj]at w2;exact⟨w1,w2⟩
 refine⟨out,?_,o2,hrows,(fun i hi=>q2 _ (by simp[PV.row,Zx1,hi])),q3⟩;have hlim:¬(2 ^ 24<n*z):=by omega
 simp only[execOp,ho,Instr.buildSlice,Sem.run_bind,run_underlying hu,Result.andThen_ok,Zeb hs];have hmap:(parts.map fun(i,x)=>(i,a.eval x)).toList=parts.toList.map fun p=>(p.1,a.eval p.2):=by rw[Array.toList_map]
 rw[if_neg hlim];by_cases h0:n*z=0
 ·have e0:=hz1.1 h0;subst e0;rw[if_pos h0];simp only[Sem.run_bind,Sem.run_pure,Result.andThen_ok,hmap,o1,newRow,run_newObj]
 ·have e0:=hz1.2 h0;subst e0;rw[if_neg h0];simp only[Sem.run_bind,Sem.run_pure,Result.andThen_ok,Ze6 hi hv,hmap,o1,newRow,run_newObj]
theorem Zl1{t ty:TypeId}{n z:Nat}{zr:List PV}{parts:Array (Nat×Operand)}{ps:List (Nat×VA)}(ho:o.op=.buildSlice t n parts)(hu:P.underlying t=some (.slice ty))(hs:Zc2 P ty=some z)(hz:zeroOf P ty=some zr)(hp:Zjc parts.toList=some ps)
  (hn:n*z≤2 ^ 20)(hzl:zr.length=z)(hz0:z≠0)(hok:Zct e z n ps)(hk:K (.own h.top 0 n) (h.push (.arr false z (Zb6 e (List.replicate n zr) ps)))):OpS P o e h K:=by
 refine OpS.of_value fun g w a r he=>?_;obtain⟨out,hrun,o2,hrows,hz',_⟩:=Zk8 ho hu hs hz hp hn hzl hz0 hok w he;obtain⟨g',f2,f3,f4,f5⟩:=Znn r out ty z (Zb6 e (List.replicate n zr) ps) hz' hrows;exact⟨_,_,g',_,_,hrun,hk,.own h.top 0 n n w.heap.size 0 out.size z ⟨w.heap.size,0,none⟩ f3 (by simp) (Nat.le_refl _) (by rw[o2];omega),f4,f5⟩
theorem Zqm{g:Gh}{w:World}(r:Rel g w h)(c:Array Value)(t:TypeId)(z:Nat)(rows:List (List PV))(hz:∀i,i<rows.length→(PV.row rows i).length=z)(hrows:RowsIn g c.toList z rows):
  ∃g',g'.β=g.β∧Rep g' (.slice (some ⟨w.heap.size,0,none⟩) rows.length rows.length) (.sl z rows)∧Rel g' { w with heap:=w.heap.push (.cells c t (0,0)) } h∧Evo g w h g' { w with heap:=w.heap.push (.cells c t (0,0)) } h:=by
 have hold:∀b o v,g.m b o=some v→b<w.heap.size:=by
  intro b o v hm;have:=(r.mem b o v hm).1;rcases Nat.lt_or_ge b w.heap.size with h'|h'
  ·exact h'
  ·simp[World.cell?,Array.getElem?_eq_none h']at this
 have hmold:∀b e,g.m.mm b=some e→b<w.heap.size:=fun b e hm=>(r.mmem b e hm).lt
 let g':Gh:=⟨⟨fun b o=>if b=w.heap.size then(if o<rows.length*z then some (c.getD o Go.undef)else none)else g.m b o,g.m.mm,fun b l hp=>⟨(g.m.kn b l hp).1,fun j hj=>by rw[if_neg (Nat.ne_of_lt (hmold _ _ (g.m.kn b l hp).1))];exact(g.m.kn b l hp).2 j hj⟩,fun b k hp=>by obtain⟨v,h1,h2⟩:=g.m.kg b k hp;exact⟨v,by rw[if_neg (Nat.ne_of_lt (hold _ _ _ h1))];exact h1,h2⟩,g.m.ks.mono fun bb oo v e=>by rw[if_neg (Nat.ne_of_lt (hold _ _ _ e))];exact e⟩,g.β⟩
 have hle:g.le g':=⟨fun b o v e=>by
  have:=hold b o v e;show(if b=w.heap.size then _ else _)=_;rw[if_neg (by omega)];exact e,fun _ _ e=>e,fun _ _ e=>e⟩
 have hcell:∀i j,i<rows.length→j<z→(c.getD (i*z+j) Go.undef).oneCell'=true∧Rep g (c.getD (i*z+j) Go.undef) (PV.nth (PV.row rows i) j):=by
  intro i j hi hj;obtain⟨h1,h2⟩:=hrows.2 i j hi hj;have e1:c.getD (i*z+j) Go.undef=c.toList.getD (i*z+j) Go.undef:=by simp[Zx6]
  rw[e1];exact⟨h1,h2⟩
 have hsize:c.size=rows.length*z:=by have:=hrows.1;rw[Array.length_toList]at this;exact this
 refine⟨g',rfl,?_,⟨fun b o v e=>?_,fun b e he=>?_,r.fin,fun id ab e=>?_,r.apart⟩,⟨hle,rfl,rfl,rfl,by rw[Zhx];omega,fun b hb _=>Zk7 _ _ hb,fun b o v e=>?_,fun b e he=>.inl he,fun b ho=>.inl ho⟩⟩
 ·refine .sl w.heap.size 0 rows.length rows.length z _ rows (fun i j=>c.getD (i*z+j) Go.undef) rfl rfl (Nat.le_refl _) hz (fun i j hi hj=>?_) (fun i j hi hj=>(hcell i j hi hj).2.mono hle);have:=Za7 hi hj;show(if w.heap.size=w.heap.size then _ else _)=_;rw[if_pos rfl,if_pos (by omega)];simp
 ·have e':(if b=w.heap.size then(if o<rows.length*z then some (c.getD o Go.undef)else none)else g.m b o)=some v:=e;split at e'
  ·rename_i hb;subst hb;split at e'
   ·rename_i hlt;simp only[Zx0]at e';subst e';obtain⟨s1,s2,s3⟩:=Zhw hlt;have hc:=(hcell (o / z) (o % z) s1 s2).1;rw[s3]at hc;refine⟨?_,hc⟩;have hlt':o<c.size:=by omega
    simp[World.cell?,Array.getD,hlt']
   ·cases e'
  ·obtain⟨h1,h2⟩:=r.mem b o v e';refine⟨?_,h2⟩;have:=Zk7 w (.cells c t (0,0)) (hold b o v e')
   simpa[World.cell?,this]using h1
 ·show e.At (w.heap.push _)[b]?;rw[Zk7 w (.cells c t (0,0)) (hmold b e he)];exact r.mmem b e he
 ·rcases r.blk id ab e with h1|⟨b,o,n,z',h1,h2,h3,h4⟩
  ·exact .inl h1
  ·refine .inr ⟨b,o,n,z',h1,by rw[Zhx];omega,fun hl=>⟨fun x=>?_,(h3 hl).2⟩,AB.ok_move h4 hle (Zk7 _ _ h2)⟩;show(if b=w.heap.size then _ else _)=_;rw[if_neg (by omega)];exact(h3 hl).1 x
 ·have e':(if b=w.heap.size then(if o<rows.length*z then some (c.getD o Go.undef)else none)else g.m b o)=some v:=e;split at e'
  ·rename_i hb;exact .inr (.inl (by omega))
  ·exact .inl e'
theorem Zr5{t ty:TypeId}{n z:Nat}{zr:List PV}{parts:Array (Nat×Operand)}{ps:List (Nat×VA)}(ho:o.op=.buildSlice t n parts)(hu:P.underlying t=some (.slice ty))(hs:Zc2 P ty=some z)(hz:zeroOf P ty=some zr)(hp:Zjc parts.toList=some ps)
  (hn:n*z≤2 ^ 20)(hzl:zr.length=z)(hz0:z≠0)(hok:Zct e z n ps)(hk:K (.sl z (Zb6 e (List.replicate n zr) ps)) h):OpS P o e h K:=by
 refine OpS.of_value fun g w a r he=>?_;obtain⟨out,hrun,o2,hrows,hz',hl⟩:=Zk8 ho hu hs hz hp hn hzl hz0 hok w he;obtain⟨g',_,f3,f4,f5⟩:=Zqm r out ty z (Zb6 e (List.replicate n zr) ps) hz' hrows;rw[hl]at f3;exact⟨_,_,g',_,_,hrun,hk,f3,f4,f5⟩
theorem Zqn{g:Gh}{w:World}(r:Rel g w h){id b o n z off:Nat}{es news:List (List PV)}{cs:List Value}(hg:h.get id=some (.arr false z es))(hβ:g.β id=some (b,o,n,z))(hcs:RowsIn g cs z news)
  (hnz:∀i,i<news.length→(PV.row news i).length=z)(hle:off+news.length≤es.length)(W:World)(c c':Array Value)(tt:TypeId)(hc:w.heap[b]?=some (.cells c tt (0,0)))(hc':W.heap[b]?=some (.cells c' tt (0,0)))(hsz:c'.size=c.size)
  (hin:∀k,k<cs.length→c'.getD (o+off*z+k) Go.undef=cs.getD k Go.undef)(hout:∀k,k<o+off*z∨o+off*z+cs.length≤k→c'.getD k Go.undef=c.getD k Go.undef)
  (hw:∀k,k<w.heap.size→k≠b→W.heap[k]?=w.heap[k]?)(hs:w.heap.size≤W.heap.size)(h1:W.os=w.os)(h2:W.tape=w.tape)(h3:W.output=w.output):
  Rel g W (h.set id (.arr false z (es.take off++news++es.drop (off+news.length))))∧Evo g w h g W (h.set id (.arr false z (es.take off++news++es.drop (off+news.length)))):=by
 rcases r.blk id _ hg with⟨hb0,_⟩|⟨b',o',n',z',hb',hlt,hm,hok⟩
 ·rw[hβ]at hb0;cases hb0
 rw[hβ]at hb';simp only[Zx0,Prod.mk.injEq]at hb';obtain⟨rfl,rfl,rfl,rfl⟩:=hb';obtain⟨_,hz,hfit,c0,tt0,q1,q2,q3⟩:=hok;rw[hc]at q1;simp only[Zx0,Obj.cells.injEq]at q1;obtain⟨rfl,rfl,_⟩:=q1;have hlen:(es.take off++news++es.drop (off+news.length)).length=es.length:=by simp;omega
 have hrow:∀i,i<es.length→PV.row (es.take off++news++es.drop (off+news.length)) i=if i<off then PV.row es i else if i<off+news.length then PV.row news (i-off)else PV.row es i:=by
  intro i hi;have t1:(es.take off).length=off:=by simp;omega
  simp only[PV.row,Zx1];by_cases h1:i<off
  ·rw[if_pos h1,List.append_assoc,List.getElem?_append_left (by omega),List.getElem?_take,if_pos h1]
  ·rw[if_neg h1];by_cases h2:i<off+news.length
   ·rw[if_pos h2,List.append_assoc,List.getElem?_append_right (by omega),t1,List.getElem?_append_left (by omega)]
   ·rw[if_neg h2,List.getElem?_append_right (by simp;omega),List.getElem?_drop]
    congr 2
    simp;omega
 refine r.set hg rfl hβ W hw hs h1 h2 h3 rfl ⟨rfl,fun i hi=>?_,by rw[hlen];exact hfit,c',tt,hc',by rw[hsz];exact q2,fun i j hi hj=>?_⟩
 ·rw[hlen]at hi;rw[hrow i hi];split
  ·exact hz i hi
  ·split
   ·exact hnz _ (by omega)
   ·exact hz i hi
 ·rw [hlen]at hi;rw[hrow i hi];have hcl:=hcs.1;split
  ·rename_i hio;have hk:(i+1)*z≤off*z:=Nat.mul_le_mul_right _ hio;rw[Nat.succ_mul]at hk;rw[hout _ (.inl (by omega))];obtain⟨a1,a2,_⟩:=q3 i j hi hj;exact⟨a1,a2,fun hh=>by cases hh⟩
  ·rename_i hio;split
   ·rename_i hil;have hk:=Za7 (n:=news.length) (i:=i-off) (by omega) hj;have e1:o+i*z+j=o+off*z+((i-off)*z+j):=by
     have:i*z=off*z+(i-off)*z:=by rw[←Nat.add_mul];congr 1;omega
     omega
    rw[e1,hin _ (by rw[hcl];exact hk)];obtain⟨a1,a2⟩:=hcs.2 (i-off) j (by omega) hj;exact⟨a1,a2,fun hh=>by cases hh⟩
   ·rename_i hil;have hk:(off+news.length)*z≤i*z:=Nat.mul_le_mul_right _ (by omega);rw[Nat.add_mul]at hk;rw[hout _ (.inr (by omega))];obtain⟨a1,a2,_⟩:=q3 i j hi hj;exact⟨a1,a2,fun hh=>by cases hh⟩
theorem Rel.same{g:Gh}{w:World}{h:Heap}(r:Rel g w h)(h':Heap)(hg:∀i,h'.get i=h.get i)(ht:h'.top=h.top):Rel g w h'∧Evo g w h g w h':=by
 refine⟨⟨r.mem,r.mmem,fun i hi=>?_,fun i ab e=>r.blk i ab (by rw[←hg];exact e),fun i i' x x' ab ab' hne e e'=>r.apart i i' x x' ab ab' hne (by rw[←hg];exact e) (by rw[←hg];exact e')⟩,
  ⟨g.le_refl,rfl,rfl,rfl,Nat.le_refl _,fun _ _ _=>rfl,fun _ _ _ e=>.inl e,fun _ _ e=>.inl e,fun b ho=>?_⟩⟩
 ·rw[hg];exact r.fin i (by omega)
 ·obtain⟨i,ab,x,e,rest⟩:=ho;exact .inl ⟨i,ab,x,by rw[←hg];exact e,rest⟩
theorem Zw8{t ty:TypeId}{z:Nat}{zr:List PV}{x:Operand}{va:VA}(type:TypeId)(hrunop:∀ρ:Operand→Value,execOp ρ o=(do pure (.value (←Builtin.clear_ #[t] type #[ρ x])):Sem Next))(hx:cA x=some va)(hu:P.underlying t=some (.slice ty))(hs:Zc2 P ty=some z)(hz:zeroOf P ty=some zr)
  (hok:Zr3 h (.clear z zr) [va.ev e])(hk:K (fxV h (.clear z zr) [va.ev e]).1 (fxV h (.clear z zr) [va.ev e]).2):OpS P o e h K:=by
 refine OpS.of_value fun g w a r he=>?_;have hv:=Zat he hx;rw[hrunop];generalize va.ev e=pv at*;generalize a.eval x=vx at hv;have tup0:∀g,Rep g (.tuple #[]) (.tup []):=fun g=>.tup _ _ rfl (fun j hj=>by simp at hj);have zero:∀ao cap,vx=.slice ao 0 cap→((do pure (.value (←Builtin.clear_ #[t] type #[vx])):Sem Next)).run P w=.ok (.value (.tuple #[])) w:=by
  rintro ao cap rfl;cases ao<;>simp[Builtin.clear_,run_underlying hu]
 simp only[Zr3]at hok;split at hok
 ·cases hv;exact⟨_,_,g,w,h,zero none 0 rfl,hk,tup0 g,r,Evo.refl _ _ _⟩
 ·rename_i id off len;split at hok
  case h_2=>exact hok.elim
  rename_i fz z' es hg;obtain⟨rfl,rfl,hle,hzl⟩:=hok;simp only[fxV,hg]at hk;rcases Zgb r hv hg hle with⟨rfl,ao,rfl⟩|⟨cap,b,o',n,c,tt,rfl,hb,hc,hn,hlt,h1,h2,hra⟩
  ·simp only[Nat.add_zero,List.replicate_zero,Zyj,List.take_append_drop]at hk;obtain⟨r1,r2⟩:=r.same (h.set id (.arr false z' es)) (fun i=>by rw[Heap.get_set,hg];split<;>simp_all) rfl;exact⟨_,_,g,w,_,zero ao 0 rfl,hk,tup0 g,r1,r2⟩
  ·by_cases h0:len=0
   ·subst h0;simp only[Nat.add_zero,List.replicate_zero,Zyj,List.take_append_drop]at hk;obtain⟨r1,r2⟩:=r.same (h.set id (.arr false z' es)) (fun i=>by rw[Heap.get_set,hg];split<;>simp_all) rfl;exact⟨_,_,g,w,_,zero _ cap rfl,hk,tup0 g,r1,r2⟩
   obtain⟨i,v,hi,hzv,hcs⟩:=Zes hz;obtain⟨z1,z2⟩:=Zdt (g:=g) hcs;have hone:∀x∈(Builtin.zeroCells v.cells len).toList,x.oneCell'=true:=by
    intro x hx;obtain⟨k,hk,rfl⟩:=List.mem_iff_getElem.1 hx;rw[Array.length_toList]at hk;simp only[Builtin.zeroCells,Array.size_map,Array.size_range]at hk;have hm:k % v.cells.size<v.cells.size:=Nat.mod_lt _ (by
     rcases Nat.eq_zero_or_pos v.cells.size with h|h
     ·rw[h]at hk;simp at hk
     ·exact h)
    have:=(z2 (k % v.cells.size) (by rw[←z1];exact hm)).1
    simpa[Builtin.zeroCells,getElem!_pos v.cells (k % v.cells.size) hm,Array.getD,hm]using this
   have hzz:z'=v.cells.size:=by rw[z1];exact hzl.symm
   have hsize:(Builtin.zeroCells v.cells len).toList.length=len*z':=by rw[Array.length_toList,size_zeroCells,hzz]
   have hcells:RowsIn g (Builtin.zeroCells v.cells len).toList z' (List.replicate len zr):=by
    refine⟨by rw[hsize];simp,fun i j hi hj=>?_⟩;simp only[List.length_replicate]at hi;have hk:=Za7 hi hj;have hj':j<v.cells.size:=by omega
    have hmod:(i*z'+j) % v.cells.size=j:=by
     rw[←hzz,Nat.add_comm,Nat.add_mul_mod_self_right,Nat.mod_eq_of_lt hj]
    have e1:(Builtin.zeroCells v.cells len).toList.getD (i*z'+j) Go.undef=v.cells.getD j Go.undef:=by
     have hk':i*z'+j<len*v.cells.size:=by rw[←hzz];exact hk
     simp[Builtin.zeroCells,Zx1,hk',hmod,getElem!_pos v.cells j hj',Array.getD,hj']
    have e2:PV.row (List.replicate len zr) i=zr:=by simp[PV.row,Zx1,hi]
    rw[e1,e2];exact z2 j (by rw[←z1];exact hj')
   have hbound:o'+off*z'+len*z'≤c.size:=by
    have:len*z'≤cap*z':=Nat.mul_le_mul_right _ hc;omega
   have hst:=run_storeCells_at P b (o'+off*z') tt (Builtin.zeroCells v.cells len).toList 0 c w h1 (by rw[hsize];omega) hone;simp only[Nat.add_zero]at hst;have hrun:((do pure (.value (←Builtin.clear_ #[t] type #[.slice (some ⟨b,o'+off*z',none⟩) len cap])):Sem Next)).run P w=.ok (.value (.tuple #[])) (w.setRow b (c.toList.take (o'+off*z')++(Builtin.zeroCells v.cells len).toList++c.toList.drop (o'+off*z'+(Builtin.zeroCells v.cells len).toList.length)).toArray):=by
    have hl:len=(len-1)+1:=by omega
    rw[hl]at hst⊢;simp[Builtin.clear_,run_underlying hu,Ze6 hi hzv,hst]
   have hheap:=setRow_heap w b c (c.toList.take (o'+off*z')++(Builtin.zeroCells v.cells len).toList++c.toList.drop (o'+off*z'+(Builtin.zeroCells v.cells len).toList.length)).toArray tt (0,0) h1;have hsame:∀k,k≠b→(w.setRow b (c.toList.take (o'+off*z')++(Builtin.zeroCells v.cells len).toList++c.toList.drop (o'+off*z'+(Builtin.zeroCells v.cells len).toList.length)).toArray).heap[k]?=w.heap[k]?:=by
    intro k hk;simp only[World.setRow,Array.getElem?_modify];rw[if_neg (Ne.symm hk)]
   have hszW:(w.setRow b (c.toList.take (o'+off*z')++(Builtin.zeroCells v.cells len).toList++c.toList.drop (o'+off*z'+(Builtin.zeroCells v.cells len).toList.length)).toArray).heap.size=w.heap.size:=by simp[World.setRow]
   generalize hzs:(Builtin.zeroCells v.cells len).toList=zs at*;have hl1:(c.toList.take (o'+off*z')).length=o'+off*z':=by simp;omega
   obtain⟨R,E⟩:=Zqn r (off:=off) (news:=List.replicate len zr) (cs:=zs) hg hb hcells (fun i hi=>by simp only[List.length_replicate]at hi;simp[PV.row,Zx1,hi,hzl]) (by simpa using hle) (w.setRow b (c.toList.take (o'+off*z')++zs++c.toList.drop (o'+off*z'+zs.length)).toArray) c (c.toList.take (o'+off*z')++zs++c.toList.drop (o'+off*z'+zs.length)).toArray tt h1 hheap
    (by simp;omega)
    (fun k hk=>by
     rw[Zx6,List.getElem?_toArray,List.append_assoc,List.getElem?_append_right (by rw[hl1];omega),hl1,List.getElem?_append_left (by omega),Zx1]
     congr 2;omega)
    (fun k hk=>by
     rcases hk with hk|hk
     ·rw[Zx6,List.getElem?_toArray,List.append_assoc,List.getElem?_append_left (by rw[hl1];exact hk),List.getElem?_take,if_pos hk,Array.getElem?_toList,Zx6]
     ·have hl2:(c.toList.take (o'+off*z')++zs).length=o'+off*z'+zs.length:=by rw[Zx5,hl1]
      rw[Zx6,List.getElem?_toArray,List.getElem?_append_right (by rw[hl2];exact hk),hl2,List.getElem?_drop,Array.getElem?_toList,Zx6]
      congr 2;omega)
    (fun k _ hk=>hsame k hk) (by omega) rfl rfl rfl
   simp only[List.length_replicate]at R E;exact⟨_,_,g,_,_,hrun,hk,tup0 g,R,E⟩
 ·exact hok.elim
theorem Z95{neg:Bool}{va:VA}(hc:cX P o=some (.nd neg va))(hs:Zau P e h (.nd neg va) K):OpS P o e h K:=by
 obtain⟨hsl,hk⟩:=hs;refine OpS.of_value fun g w a r he=>?_;obtain⟨dst,op,type,pos,after,guard⟩:=o;cases op
 case binOp op t x y yt=>
  have key:∀{x:Operand},cA x=some va→nilC y=true→nilT P t=true→∃ao l c ty,a.eval x=.slice ao l c∧a.eval y=.slice none 0 0∧P.underlying t=some (.slice ty)∧(isNil (va.ev e)=true→ao.isNone=true)∧(notNil (va.ev e)=true→ao.isNone=false):=by
   intro x hx hy ht;have hv:=Zat he hx;have hyv:a.eval y=.slice none 0 0:=by
    unfold nilC at hy;split at hy
    ·rfl
    ·cases hy
   obtain⟨ty,hu⟩:∃ty,P.underlying t=some (.slice ty):=by
    unfold nilT at ht;split at ht
    ·rename_i ty hu;exact⟨ty,hu⟩
    ·cases ht
   generalize a.eval x=vx at hv;cases hp:va.ev e<;>rw[hp]at hv hsl<;>simp only[Zig,Zyu]at hsl
   case nilsl=>cases hv;exact⟨_,_,_,ty,rfl,hyv,hu,fun _=>rfl,(fun h=>by cases h)⟩
   case sl z es=>
    cases hv with
    |slE a cap=>exact⟨_,_,_,ty,rfl,hyv,hu,(fun h=>by cases h),(fun h=>by cases h)⟩
    |sl b o len cap z a es vs ha hl hc hz hm hr=>exact⟨_,_,_,ty,rfl,hyv,hu,(fun h=>by cases h),fun _=>rfl⟩
   case own id off len=>
    cases hv with
    |ownE ao=>exact⟨_,_,_,ty,rfl,hyv,hu,(fun h=>by cases h),(fun h=>by cases h)⟩
    |own _ _ _ cap b o n z a hb ha hc hn=>exact⟨_,_,_,ty,rfl,hyv,hu,(fun h=>by cases h),fun _=>rfl⟩
  cases op<;>simp only[cX]at hc<;>try (cases hc;done)
  ·split at hc
   ·rename_i hh;simp only[Zx4]at hh;obtain⟨va',hx,hq⟩:=Zal hc;simp only[VOp.nd.injEq]at hq;obtain⟨rfl,rfl⟩:=hq;obtain⟨ao,l,c,ty,e1,e2,hu,n1,n2⟩:=key hx hh.1 hh.2;refine⟨.bool ao.isNone,.bool ao.isNone,g,w,h,?_,by simpa using hk ao.isNone n1 n2,.bool _,r,Evo.refl _ _ _⟩;simp only[execOp,e1,e2,eqGuard,binOp];simp[run_equal_slice_nil w t ty ao l c hu]
   ·cases hc
  ·split at hc
   ·rename_i hh;simp only[Zx4]at hh;obtain⟨va',hx,hq⟩:=Zal hc;simp only[VOp.nd.injEq]at hq;obtain⟨rfl,rfl⟩:=hq;obtain⟨ao,l,c,ty,e1,e2,hu,n1,n2⟩:=key hx hh.1 hh.2;refine⟨.bool (!ao.isNone),.bool (ao.isNone !=true),g,w,h,?_,hk ao.isNone n1 n2,by simpa using Rep.bool (!ao.isNone),r,Evo.refl _ _ _⟩;simp only[execOp,e1,e2,eqGuard,binOp];simp[run_equal_slice_nil w t ty ao l c hu]
   ·cases hc
 case slice t x lo hi mx=>
  exfalso
  cases lo<;>cases hi<;>cases mx<;>simp only[cX]at hc<;>first
   |(cases hc;done)
   |((repeat' (split at hc))<;>first|(cases hc;done)|(obtain⟨z,_,hq⟩:=Zal hc;cases hq))
 case nilCheck x=>simp only[cX]at hc;obtain⟨z,_,hq⟩:=Zal hc;cases hq
 case unOp uop t x=>cases uop<;>simp only[cX]at hc<;>first|(cases hc;done)|(obtain⟨z,_,hq⟩:=Zal hc;cases hq)
 case insert t m k v=>
  simp only[cX]at hc;split at hc
  ·obtain⟨z,_,hq⟩:=Zal hc;cases hq
  ·cases hc
 case buildSlice t n parts=>
  exfalso
  simp only[cX]at hc
  (repeat' (split at hc))<;>simp at hc
 case call c=>
  exfalso
  simp only[cX,Zp9]at hc
  (repeat' (split at hc))<;>simp at hc
 case convert=>simp only[cX]at hc;(repeat' (split at hc))<;>simp at hc
 case indexAddr=>simp only[cX]at hc;(repeat' (split at hc))<;>simp at hc
 case index=>simp only[cX]at hc;(repeat' (split at hc))<;>simp at hc
 all_goals (simp only[cX]at hc;cases hc)
theorem Z96{k:FX}{l:List VA}(hc:cX P o=some (.fx k l))(hok:Zr3 h k (l.map (VA.ev e)))(hk:K (fxV h k (l.map (VA.ev e))).1 (fxV h k (l.map (VA.ev e))).2):OpS P o e h K:=by
 obtain⟨dst,op,type,pos,after,guard⟩:=o;have fin:∀{t ty:TypeId} {z:Nat} {x hi mx:Operand} {lo:Option Operand} {va:VA},cA x=some va→P.underlying t=some (.slice ty)→Zc2 P ty=some z→(lo=none∨ ∃l,lo=some l∧Zky l=true)→Zky hi=true→Zky mx=true→
   VOp.fx (.slice0 z) [va]=.fx k l→op=.slice t x lo (some hi) (some mx)→OpS P ⟨dst,op,type,pos,after,guard⟩ e h K:=by
  intro t ty z x hi mx lo va hx hu hs hl hh hm hq ho;simp only[VOp.fx.injEq]at hq;obtain⟨rfl,rfl⟩:=hq;refine OpS.of_value fun g w a r he=>?_;obtain⟨ao,hrun⟩:=Z21 (o:=⟨dst,op,type,pos,after,guard⟩) hx hu hs hl hh hm he hok ho;obtain⟨r1,r2⟩:=r.none Option.none z w rfl rfl rfl rfl;exact⟨_,_,g,w,_,hrun,hk,.ownE _ _ _,r1,r2⟩
 cases op
 case slice t x lo hi mx=>
  cases lo<;>cases hi<;>cases mx<;>simp only[cX]at hc<;>try (cases hc;done)
  ·split at hc
   ·rename_i hz;simp only[Zx4]at hz;split at hc
    ·rename_i ty va hu hx;obtain⟨z,hs,hq⟩:=Zal hc;exact fin hx hu hs (.inl rfl) hz.1 hz.2 hq rfl
    ·cases hc
   ·cases hc
  ·split at hc
   ·rename_i hz;simp only[Zx4]at hz;split at hc
    ·rename_i ty va hu hx;obtain⟨z,hs,hq⟩:=Zal hc;exact fin hx hu hs (.inr ⟨_,rfl,hz.1.1⟩) hz.1.2 hz.2 hq rfl
    ·cases hc
   ·cases hc
 case nilCheck x=>simp only[cX]at hc;obtain⟨z,_,hq⟩:=Zal hc;cases hq
 case unOp uop t x=>cases uop<;>simp only[cX]at hc<;>first|(cases hc;done)|(obtain⟨z,_,hq⟩:=Zal hc;cases hq)
 case insert t m k v=>
  simp only[cX]at hc;split at hc
  ·obtain⟨z,_,hq⟩:=Zal hc;cases hq
  ·cases hc
 case binOp op t x y yt=>
  exfalso
  cases op<;>simp only[cX]at hc<;>first
   |(cases hc;done)
   |(split at hc<;>first|(cases hc;done)|(obtain⟨z,_,hq⟩:=Zal hc;cases hq))
 case buildSlice t n parts=>
  simp only[cX]at hc;split at hc
  case isFalse=>cases hc
  rename_i hnp;simp only[Zx4,beq_iff_eq,Array.isEmpty_iff]at hnp;obtain⟨rfl,rfl⟩:=hnp;split at hc
  case h_2=>cases hc
  rename_i ty hu;split at hc
  case h_2=>cases hc
  rename_i z zr hz hzr;split at hc
  case isFalse=>cases hc
  rename_i hcond;simp only[Zx4,beq_iff_eq,bne_iff_ne,ne_eq]at hcond;simp only[Zx0,VOp.fx.injEq]at hc;obtain⟨rfl,rfl⟩:=hc;exact Zl1 (ps:=[]) rfl hu hz hzr rfl (by simp) hcond.1 hcond.2 trivial hk
 case call c=>
  obtain⟨callee,args,argTypes⟩:=c;simp only[cX,Zp9]at hc;split at hc
  case h_2=>cases hc
  split at hc
  case h_2=>cases hc
  rename_i x t hxl htl;have h1:args=#[x]:=by rw[←Array.toArray_toList (xs:=args),hxl]
  have h2:argTypes=#[t]:=by rw[←Array.toArray_toList (xs:=argTypes),htl]
  subst h1 h2;split at hc
  case h_2=>cases hc
  rename_i ty va hu hx;split at hc
  case h_2=>cases hc
  rename_i z zr hz hzr;split at hc
  case isFalse=>cases hc
  simp only[Zx0,VOp.fx.injEq]at hc;obtain⟨rfl,rfl⟩:=hc;exact Zw8 type (fun ρ=>by simp[execOp,resolve,invoke,builtin]) hx hu hz hzr hok hk
 case convert=>simp only[cX]at hc;(repeat' (split at hc))<;>simp at hc
 case indexAddr=>simp only[cX]at hc;(repeat' (split at hc))<;>simp at hc
 case index=>simp only[cX]at hc;(repeat' (split at hc))<;>simp at hc
 all_goals (simp only[cX]at hc;cases hc)
theorem Zr6{g:Gh}{a:Act}(he:Zas g a e){l:Array Operand}{q:List VA}(hq:cAs l.toList=some q):Zm0 g (l.map a.eval) (q.map (VA.ev e)):=by
 have hl:=Zk0 hq;rw[Array.length_toList]at hl;refine⟨by simp[hl],fun j hj=>?_⟩;have:=Zww he hq j (by simpa using hj);have e1:(l.map a.eval).getD j Go.undef=(l.toList.map a.eval).getD j Go.undef:=by simp[Zx6]
 rw[e1];exact this
theorem Zjj{f:FuncId}(hf:Ztr P f=true)(args:Array Value)(w:World):(callFunc f args).run P w=.ok (.enter f args) w:=by
 unfold Ztr at hf;split at hf
 ·rename_i fn hfn;simp only[Zx4,bne_iff_ne,ne_eq]at hf;have hb:fn.body.isNone=false:=by
   cases hb:fn.body with
   |none=>rw[hb]at hf;simp at hf
   |some c=>rfl
  simp[callFunc,hfn,hf.1];intro hnone;rw[hnone]at hb;simp at hb
 ·cases hf
theorem Znq{f:FuncId}{args:List PV}(H:Zam P f args h K){g:Gh}{w:World}{vals:Array Value}(r:Rel g w h)(ha:Zm0 g vals args){a:Act}{next:Act→World→Prop}{Q:Exit→Act→World→Prop}
  (hrun:(execOp a.eval o).run P w=.ok (.enter f vals) w)
  (hn:∀v pv g' w' h',K pv h'→Rep g' v pv→Rel g' w' h'→Evo g w h g' w' h'→next (a.put o.dst v) w'):o.uponIn (fw none) 9 P a next Q ((execOp a.eval o).run P w):=by
 rw[hrun];refine⟨fun k=>by simp[fw]at k,Zk6.2 ((H.2 g w vals r ha).mono ?_)⟩;rintro x w' ⟨v,p,g',h',rfl,h1,h2,h3,h4⟩;exact hn v p g' w' h' h1 h2 h3 h4
end
section
variable {P:Program} {o:Oper} {e:Env} {h:Heap} {K:PV→Heap→Prop}
theorem Rep.fn_inv{g:Gh}{v:Value}{f:Fn}{pf pc:List PV}(h:Rep g v (.fn f pf pc)):∃fs cs,v=.func f fs cs∧Zm0 g fs pf∧Zm0 g cs pc:=by
 cases h with
 |fn _ fs cs _ _ s1 s2 r1 r2=>exact⟨fs,cs,rfl,⟨s1,r1⟩,⟨s2,r2⟩⟩
theorem Zm0.append{g:Gh}{x y:Array Value}{a b:List PV}(ha:Zm0 g x a)(hb:Zm0 g y b):Zm0 g (x++y) (a++b):=by
 refine⟨by simp[ha.1,hb.1],fun j hj=>?_⟩;by_cases hlt:j<a.length
 ·have e1:(x++y).getD j Go.undef=x.getD j Go.undef:=by
   simp[Zx6,Array.getElem?_append_left (show j<x.size by rw[ha.1];exact hlt)]
  have e2:PV.nth (a++b) j=PV.nth a j:=by simp[PV.nth,Zx1,List.getElem?_append_left hlt]
  rw[e1,e2];exact ha.2 j hlt
 ·have e1:(x++y).getD j Go.undef=y.getD (j - a.length) Go.undef:=by
   rw[Zx6,Array.getElem?_append_right (by rw[ha.1];omega),ha.1,Zx6]
  have e2:PV.nth (a++b) j=PV.nth b (j-a.length):=by
   simp only[PV.nth,Zx1];rw[List.getElem?_append_right (by omega)]
  rw[e1,e2];exact hb.2 _ (by simp at hj;omega)
theorem Zm1{g:Gh}{w:World}(r:Rel g w h){str:Bool}{z:Nat}{p:PV}{v:Value}(hv:Rep g v p)(hok:Zf9 h str z p):∀x∈Zax h p,x.length=z:=by
 intro x hx;cases p<;>simp only[Zf9]at hok<;>simp only[Zax,Zya]at hx
 case str s=>
  obtain⟨_,rfl⟩:=hok;simp only[List.mem_map]at hx;obtain⟨c,_,rfl⟩:=hx;rfl
 case sl z' es=>
  obtain⟨_,rfl⟩:=hok;cases hv with
  |slE=>cases hx
  |sl b o len cap z a es vs ha hl hc hz hm hr=>
   obtain⟨k,hk,rfl⟩:=List.mem_iff_getElem.1 hx;have:=hz k (by omega)
   simpa[PV.row,Zx1,hk]using this
 case own id off len=>
  obtain⟨_,hok⟩:=hok;split at hok
  case h_2=>exact hok.elim
  rename_i fz z' es hg;obtain⟨rfl,hle⟩:=hok;simp only[hg]at hx;have hx':x∈es:=List.mem_of_mem_drop (List.mem_of_mem_take hx);obtain⟨k,hk,rfl⟩:=List.mem_iff_getElem.1 hx';rcases r.blk id _ hg with⟨_,fz',z'',he⟩|⟨b,o,n,z'',_,_,_,hokk⟩
  ·simp only[AB.arr.injEq]at he;obtain⟨_,_,rfl⟩:=he;simp at hk
  ·obtain⟨rfl,hz,_⟩:=hokk;have:=hz k hk
   simpa[PV.row,Zx1,hk]using this
theorem Z1d{t u ty:TypeId}{i:TypeInfo}{d:TypeDesc}{zr:List PV}{str:Bool}{x y:Operand}{va vb:VA}(o:Oper)(type:TypeId)(hrunop:∀ρ:Operand→Value,execOp ρ o=(do pure (.value (←Builtin.append_ #[t,u] type #[ρ x,ρ y])):Sem Next))
  (hx:cA x=some va)(hy:cA y=some vb)(ht:P.underlying t=some (.slice ty))(hu:P.underlying u=some d)(hd:∀k,d≠.int k)(hi:P.info? ty=some i)(hzo:zeroOf P ty=some zr)(hzl:zr.length=i.size)
  (hs:Zau P e h (.app i.size i.bytes zr str va vb) K):OpS P o e h K:=by
 obtain⟨h1,h2,h3,h4,h5⟩:=hs;refine OpS.of_value fun g w a r he=>?_;have hp:=Zat he hx;have hq:=Zat he hy;obtain⟨v,w',g',e1,e3,e4,e5⟩:=Z5v (ty:=type) ht hu hd hi hzo hzl r hp hq h1 h2 (Zm1 r hq h2) h3 h4;exact⟨v,_,g',w',_,by rw[hrunop];simp[e1],h5,e3,e4,e5⟩
theorem Zt9{vop:VOp}(hc:Z01 P o=some vop)(hs:Zau P e h vop K):OpS P o e h K:=by
 by_cases hp:vop.pure=true
 ·have hs':pok e h vop∧K (Zcq e h vop) h:=by
   cases vop<;>first|exact hs|simp[VOp.pure]at hp
  refine OpS.of_value fun g w a r he=>?_;obtain⟨v,e1,e2⟩:=Znm hc hp hs'.1 r he;exact⟨v,_,g,w,h,e1,hs'.2,e2,r,Evo.refl _ _ _⟩
 obtain⟨dst,op,type,pos,after,guard⟩:=o;cases op<;>simp only[Z01]at hc
 case move x=>obtain⟨va,hx,rfl⟩:=Zal hc;simp[VOp.pure]at hp
 case assign x=>obtain⟨va,hx,rfl⟩:=Zal hc;simp[VOp.pure]at hp
 case pick c x y=>split at hc<;>simp at hc;subst hc;simp[VOp.pure]at hp
 case alloc t=>
  obtain⟨z,hz,rfl⟩:=Zal hc;exact Zw5 rfl hz hs
 case box t x=>
  split at hc
  ·rename_i va n h1 h2;simp only[Zx0]at hc;subst hc;exact Z5z rfl h1 hs.1 hs.2
  ·cases hc
 case build t parts=>
  split at hc
  ·split at hc
   ·simp only[Zx0]at hc;subst hc;simp[VOp.pure]at hp
   ·cases hc
  ·cases hc
 case buildSlice t n parts=>
  split at hc
  ·rename_i ty hu;split at hc
   ·rename_i z zr ps h1 h2 h3;split at hc
    ·rename_i hcond;simp only[Zx0]at hc;subst hc;simp only[Zx4,Zx3,beq_iff_eq,bne_iff_ne,ne_eq]at hcond;exact Zl1 rfl hu h1 h2 h3 hcond.1.1 hcond.1.2 hcond.2 hs.1 hs.2
    ·cases hc
   ·cases hc
  ·cases hc
 case load t x=>split at hc<;>simp at hc;subst hc;simp[VOp.pure]at hp
 case store t x y=>
  split at hc
  ·rename_i va vb s h1 h2 h3;simp only[Zx0]at hc;subst hc;exact Zw6 rfl h1 h2 h3 hs.1 hs.2
  ·cases hc
 case binOp op t x y yt=>
  split at hc
  ·simp only[Zx0]at hc;subst hc;simp[VOp.pure]at hp
  ·simp only[Zx0]at hc;subst hc;simp[VOp.pure]at hp
  ·simp only[Zx0]at hc;subst hc;simp[VOp.pure]at hp
  ·split at hc
   ·split at hc
    ·split at hc
     ·simp only[Zx0]at hc;subst hc;simp[VOp.pure]at hp
     ·cases hc
    ·cases hc
   ·split at hc
    ·split at hc
     ·simp only[Zx0]at hc;subst hc;simp[VOp.pure]at hp
     ·cases hc
    ·cases hc
   ·cases hc
  ·simp only[Zx0]at hc;subst hc;exact hs
 case unOp op t x=>obtain⟨va,hx,rfl⟩:=Zal hc;simp[VOp.pure]at hp
 case convert s d x=>
  split at hc
  ·simp only[Zx0]at hc;subst hc;simp[VOp.pure]at hp
  ·simp only[Zx0]at hc;subst hc;simp[VOp.pure]at hp
  ·simp only[Zx0]at hc;subst hc;exact hs
 case makeFunc f x y=>split at hc<;>simp at hc;subst hc;simp[VOp.pure]at hp
 case slice t x lo hi mx=>
  cases mx with
  |some m=>simp at hc;subst hc;exact hs
  |none=>
   simp only at hc;split at hc
   ·simp only[Zx0]at hc;subst hc;simp[VOp.pure]at hp
   ·obtain⟨z,hz,rfl⟩:=Zal hc;simp[VOp.pure]at hp
   ·cases hc
 case fieldAddr t x f=>
  split at hc
  ·split at hc
   ·split at hc
    ·cases hc
    ·simp only[Zx0]at hc;subst hc;simp[VOp.pure]at hp
   ·cases hc
  ·cases hc
 case field t x f=>
  split at hc
  ·split at hc
   ·simp only[Zx0]at hc;subst hc;simp[VOp.pure]at hp
   ·cases hc
  ·cases hc
 case indexAddr t x i=>
  split at hc
  ·obtain⟨z,hz,rfl⟩:=Zal hc;simp[VOp.pure]at hp
  ·cases hc
 case index t x i=>split at hc<;>simp at hc;subst hc;simp[VOp.pure]at hp
 case extract x i=>obtain⟨va,hx,rfl⟩:=Zal hc;simp[VOp.pure]at hp
 case call c=>
  obtain⟨callee,args,argTypes⟩:=c;have args2:∀{x y:Operand},args.toList=[x,y]→args=#[x,y]:=fun hh=>by rw[←Array.toArray_toList (xs:=args),hh]
  have types2:∀{x y:TypeId},argTypes.toList=[x,y]→argTypes=#[x,y]:=fun hh=>by rw[←Array.toArray_toList (xs:=argTypes),hh]
  unfold Z2u at hc;simp only at hc;split at hc
  ·split at hc
   ·split at hc
    ·simp only[Zx0]at hc;subst hc;simp[VOp.pure]at hp
    ·simp only[Zx0]at hc;subst hc;simp[VOp.pure]at hp
    ·simp only[Zx0]at hc;subst hc;simp[VOp.pure]at hp
    ·cases hc
   ·cases hc
  ·split at hc
   case h_2=>cases hc
   rename_i x y t u hxy htu;obtain rfl:=args2 hxy;obtain rfl:=types2 htu;split at hc
   ·rename_i va vb ty ty' h1 h2 h3 h4;split at hc
    ·rename_i z zr hz hzr;split at hc
     ·rename_i hcond;simp only[Zx4,beq_iff_eq]at hcond;obtain⟨i,hi,rfl⟩:=Zal hc;have hzi:z=i.size:=by simpa[Zc2,hi]using hz.symm
      subst hzi;exact Z1d (d:=.slice ty') _ type (fun ρ=>by simp[execOp,resolve,invoke,builtin]) h1 h2 h3 h4 (fun k hk=>by cases hk) hi hzr hcond.2 hs
     ·cases hc
    ·cases hc
   ·rename_i va vb ty h1 h2 h3 h4;split at hc
    ·rename_i z zr hz hzr;split at hc
     ·rename_i hcond;simp only[Zx4,beq_iff_eq]at hcond;obtain⟨i,hi,rfl⟩:=Zal hc;have hzi:z=i.size:=by simpa[Zc2,hi]using hz.symm
      subst hzi;exact Z1d (d:=.string) _ type (fun ρ=>by simp[execOp,resolve,invoke,builtin]) h1 h2 h3 h4 (fun k hk=>by cases hk) hi hzr hcond.2 hs
     ·cases hc
    ·cases hc
   ·cases hc
  ·obtain⟨q,_,rfl⟩:=Zal hc;simp[VOp.pure]at hp
  ·obtain⟨q,_,rfl⟩:=Zal hc;simp[VOp.pure]at hp
  ·split at hc
   ·rename_i f hf;obtain⟨q,hq,rfl⟩:=Zal hc;intro g w a next Q r he hn
    have ha:=Zr6 he hq;refine Znq hs r ha ?_ hn;simp[execOp,resolve,invoke,Act.eval,Deferred.ofValue,Zjj hf]
   ·cases hc
  ·split at hc
   ·rename_i f hf;obtain⟨q,hq,rfl⟩:=Zal hc;intro g w a next Q r he hn
    have ha:=Zr6 he hq;refine Znq hs r ha ?_ hn;simp[execOp,resolve,invoke,Act.eval,Deferred.ofValue,Zjj hf]
   ·cases hc
  ·split at hc
   ·rename_i va q h1 hq;simp only[Zx0]at hc;subst hc;intro g w a next Q r he hn
    simp only[Zau]at hs;have hf:=Zat he h1;split at hs
    case h_2=>exact hs.elim
    rename_i f first cap hpv
    rw[hpv]at hf;have ha:=Zr6 he hq;obtain⟨fs,cs,hv,a1,a2⟩:=hf.fn_inv;have hargs:=(a1.append ha).append a2;refine Znq hs r hargs ?_ hn;simp only[execOp,resolve,hv,Deferred.ofValue,Sem.run_bind,Sem.run_pure,Result.andThen_ok,invoke];exact Zjj hs.1 _ _
   ·cases hc
  ·simp only[Zx0]at hc;subst hc;exact hs
 case makeMap t r=>
  cases r<;>simp only[Zx0]at hc<;>subst hc
  ·exact Zw7 rfl hs
  ·exact hs
 case lookup t m k ok=>
  split at hc
  ·split at hc
   ·simp only[Zx0]at hc;subst hc;simp[VOp.pure]at hp
   ·simp only[Zx0]at hc;subst hc;exact hs
  ·simp only[Zx0]at hc;subst hc;exact hs
 case mapUpdate t m k v=>
  split at hc
  ·rename_i kt et va vb vc hu h1 h2 h3;split at hc
   ·rename_i kk h4;simp only[Zx0]at hc;subst hc;exact Zl0 (.inl rfl) hu h4 h1 h2 h3 hs.1 hs.2.1 hs.2.2
   ·simp only[Zx0]at hc;subst hc;exact hs
  ·simp only[Zx0]at hc;subst hc;exact hs
 all_goals (simp only[Zx0]at hc;subst hc;exact hs)
theorem Zb8{vop:VOp}(hc:cOp P o=some vop)(hs:Zau P e h vop K):OpS P o e h K:=by
 unfold cOp at hc;split at hc
 ·simp only[Zx0]at hc;subst hc;exact hs
 rename_i hraw;clear hraw;split at hc
 ·rename_i ba hx;simp only[Zx0]at hc;subst hc;refine OpS.of_value fun g w a r he=>?_;obtain⟨v,e1,e2⟩:=Zqi (h:=h) hx hs.1 he;exact⟨v,_,g,w,h,e1,hs.2,e2,r,Evo.refl _ _ _⟩
 rename_i hno;clear hno;split at hc
 ·rename_i vo hx;simp only[Zx0]at hc;subst hc;have hk:=Z08 hx;cases vo<;>simp only[VOp.isX]at hk
  case px k l=>
   refine OpS.of_value fun g w a r he=>?_;obtain⟨v,e1,e2⟩:=Z07 (h:=h) hx hs.1 r he;exact⟨v,_,g,w,h,e1,hs.2,e2,r,Evo.refl _ _ _⟩
  case fx k l=>exact Z96 hx hs.1 hs.2
  case nd neg a=>exact Z95 hx hs
  case mapset kk m k v=>
   obtain⟨dst,op,type,pos,after,guard⟩:=o;cases op
   case insert t mm kk' vv=>
    simp only[cX]at hx;split at hx
    ·rename_i kt et va vb vc hu h1 h2 h3;obtain⟨kk0,h4,hq⟩:=Zal hx;simp only[VOp.mapset.injEq]at hq;obtain⟨rfl,rfl,rfl,rfl⟩:=hq;exact Zl0 (.inr rfl) hu h4 h1 h2 h3 hs.1 hs.2.1 hs.2.2
    ·cases hx
   case nilCheck x=>simp only[cX]at hx;obtain⟨z,_,hq⟩:=Zal hx;cases hq
   case unOp uop t x=>cases uop<;>simp only[cX]at hx<;>first|(cases hx;done)|(obtain⟨z,_,hq⟩:=Zal hx;cases hq)
   case slice t x lo hi mx=>
    cases lo<;>cases hi<;>cases mx<;>simp only[cX]at hx<;>first
     |(cases hx;done)
     |((repeat' (split at hx))<;>first|(cases hx;done)|(obtain⟨z,_,hq⟩:=Zal hx;cases hq))
   case binOp op t x y yt=>
    exfalso
    cases op<;>simp only[cX]at hx<;>first
     |(cases hx;done)
     |(split at hx<;>first|(cases hx;done)|(obtain⟨z,_,hq⟩:=Zal hx;cases hq))
   case buildSlice t n parts=>
    exfalso
    simp only[cX]at hx
    (repeat' (split at hx))<;>simp at hx
   case call c=>
    exfalso
    simp only[cX,Zp9]at hx
    (repeat' (split at hx))<;>simp at hx
   case convert=>simp only[cX]at hx;(repeat' (split at hx))<;>simp at hx
   case indexAddr=>simp only[cX]at hx;(repeat' (split at hx))<;>simp at hx
   case index=>simp only[cX]at hx;(repeat' (split at hx))<;>simp at hx
   all_goals (simp only[cX]at hx;cases hx)
 ·split at hc
  ·rename_i v hv;simp only[Zx0]at hc;subst hc;exact Zt9 hv hs
  ·simp only[Zx0]at hc;subst hc;exact hs
end
structure VOper where
 dst:Option Nat
 op:VOp
 guard:Option (Nat×Bool)
 deriving Inhabited
abbrev Yi(n:Int):VA:= .c (.int .i64 n)
abbrev Yt:VA:= .c (.bool true)
abbrev Yf:VA:= .c (.bool false)
abbrev ZM(d s:Nat):VOper:=⟨some d, .mv (.t s),none⟩
abbrev ZO(d:Nat)(o:VOp):VOper:=⟨some d,o,none⟩
abbrev ZN(o:VOp):VOper:=⟨none,o,none⟩
abbrev ZG(d:Nat)(o:VOp)(g:Nat)(b:Bool):VOper:=⟨some d,o,some (g,b)⟩
abbrev ZU:List PV:=[.int .i64 0, .int .i64 0, .int .i64 0, .int .i64 0, .str [], .nilsl, .nilsl, .nilsl]
abbrev Yo:PV:= .int .i64 0
abbrev YI:List PV:=[Yo, .nilsl, .nilsl,Yo,Yo,Yo,Yo,Yo,Yo,(.str []), .nilsl, .nilsl, .nilsl, .nilsl, .nilsl,(.str []),(.str []),Yo,Yo,(.str []),Yo,Yo,Yo,(.str []), .nilsl]
abbrev Yl(d s:Nat):VOper:=⟨some d, .load false 1 (.t s),none⟩
abbrev Ym(d n s:Nat):VOper:=⟨some d, .load true n (.t s),none⟩
abbrev Yk(d s:Nat)(g:Nat)(b:Bool):VOper:=⟨some d, .load false 1 (.t s),some (g,b)⟩
abbrev Yj(d n s:Nat)(g:Nat)(b:Bool):VOper:=⟨some d, .load true n (.t s),some (g,b)⟩
abbrev Ya(d o s:Nat):VOper:=⟨some d, .faddr o (.t s),none⟩
abbrev Yb(d o s:Nat)(g:Nat)(b:Bool):VOper:=⟨some d, .faddr o (.t s),some (g,b)⟩
abbrev Yn(d s:Nat):VOper:=⟨some d, .un .not (.t s),none⟩
abbrev Yq(d s:Nat)(g:Nat)(b:Bool):VOper:=⟨some d, .un .not (.t s),some (g,b)⟩
abbrev Yx(d z a i:Nat):VOper:=⟨some d, .iaddr z (.t a) (.t i),none⟩
abbrev Yy(d z a i:Nat)(g:Nat)(b:Bool):VOper:=⟨some d, .iaddr z (.t a) (.t i),some (g,b)⟩
abbrev Ye(d s:Nat):VOper:=⟨some d, .len false (.t s),none⟩
abbrev Yd(d s:Nat)(g:Nat)(b:Bool):VOper:=⟨some d, .len false (.t s),some (g,b)⟩
abbrev Yp(d s i:Nat):VOper:=⟨some d, .ext (.t s) i,none⟩
abbrev Yg(d s:Nat)(g:Nat)(b:Bool):VOper:=⟨some d, .mv (.t s),some (g,b)⟩
abbrev Ys(n a v:Nat):VOper:=⟨none, .store n (.t a) (.t v),none⟩
abbrev Yz(d a b:Nat):VOper:=⟨some d, .pick (.t a) (.t b) Yf,none⟩
abbrev Yh(d a b:Nat):VOper:=⟨some d, .pick (.t a) Yt (.t b),none⟩
abbrev Yw(d n s:Nat):VOper:=⟨some d, .box n (.t s),none⟩
abbrev Yv(d:Nat)(v:VA):VOper:=⟨some d, .mv v,none⟩
abbrev Yr(d:Nat)(o:BinOp)(a b:Nat):VOper:=⟨some d, .bin o (.t a) (.t b),none⟩
abbrev Yu(d:Nat)(o:BinOp)(a:Nat)(n:Int):VOper:=⟨some d, .bin o (.t a) (Yi n),none⟩
abbrev Yc(d f:Nat)(l:List Nat):VOper:=⟨some d, .call f (l.map .t),none⟩
inductive VC where
 |skip
 |region (ops:List VOper) (draw:Bool)
 |draw2 (ops:List VOper) (late:List Bool)
 |seq (a b:VC)
 |cond (c:VA) (thn els:VC)
 |block (id:Nat) (body:VC)
 |loop (body:VC)
 |scope (body:VC)
 |exit (id:Nat)
 |ret
 |other (c:Code)
 deriving Inhabited
abbrev ZR(q:List VOper)(x:VC):VC:= .seq (.region q false) x
abbrev YC(n:Nat)(a b:VC):VC:= .cond (.t n) a b
theorem YY:(∀d s,Yl d s=⟨some d, .load false 1 (.t s),none⟩)∧(∀d n s,Ym d n s=⟨some d, .load true n (.t s),none⟩)∧(∀d s g b,Yk d s g b=⟨some d, .load false 1 (.t s),some (g,b)⟩)∧(∀d n s g b,Yj d n s g b=⟨some d, .load true n (.t s),some (g,b)⟩)∧(∀d o s,Ya d o s=⟨some d, .faddr o (.t s),none⟩)∧(∀d o s g b,Yb d o s g b=⟨some d, .faddr o (.t s),some (g,b)⟩)∧(∀d s,Yn d s=⟨some d, .un .not (.t s),none⟩)∧(∀d s g b,Yq d s g b=⟨some d, .un .not (.t s),some (g,b)⟩)∧(∀d z a i,Yx d z a i=⟨some d, .iaddr z (.t a) (.t i),none⟩)∧(∀d z a i g b,Yy d z a i g b=⟨some d, .iaddr z (.t a) (.t i),some (g,b)⟩)∧(∀d s,Ye d s=⟨some d, .len false (.t s),none⟩)∧(∀d s g b,Yd d s g b=⟨some d, .len false (.t s),some (g,b)⟩)∧(∀d s i,Yp d s i=⟨some d, .ext (.t s) i,none⟩)∧(∀d s g b,Yg d s g b=⟨some d, .mv (.t s),some (g,b)⟩)∧(∀n a v,Ys n a v=⟨none, .store n (.t a) (.t v),none⟩)∧(∀d a b,Yz d a b=⟨some d, .pick (.t a) (.t b) Yf,none⟩)∧(∀d a b,Yh d a b=⟨some d, .pick (.t a) Yt (.t b),none⟩)∧(∀d n s,Yw d n s=⟨some d, .box n (.t s),none⟩)∧(∀d v,Yv d v=⟨some d, .mv v,none⟩)∧(∀d o a b,Yr d o a b=⟨some d, .bin o (.t a) (.t b),none⟩)∧(∀d o a n,Yu d o a n=⟨some d, .bin o (.t a) (Yi n),none⟩)∧(∀d f l,Yc d f l=⟨some d, .call f (l.map .t),none⟩)∧(∀a l,List.map VA.t (a::l)=VA.t a::List.map VA.t l)∧List.map VA.t []=[]∧(∀n,Yi n= .c (.int .i64 n))∧Yt= .c (.bool true)∧Yf= .c (.bool false)∧(∀d s,ZM d s=⟨some d, .mv (.t s),none⟩)∧(∀d o,ZO d o=⟨some d,o,none⟩)∧(∀o,ZN o=⟨none,o,none⟩)∧(∀d o g b,ZG d o g b=⟨some d,o,some (g,b)⟩)∧ZU=[.int .i64 0, .int .i64 0, .int .i64 0, .int .i64 0, .str [], .nilsl, .nilsl, .nilsl]∧YI=[Yo, .nilsl, .nilsl,Yo,Yo,Yo,Yo,Yo,Yo,(.str []), .nilsl, .nilsl, .nilsl, .nilsl, .nilsl,(.str []),(.str []),Yo,Yo,(.str []),Yo,Yo,Yo,(.str []), .nilsl]∧Yo= .int .i64 0∧(∀q x,ZR q x= .seq (.region q false) x)∧(∀n a b,YC n a b= .cond (.t n) a b):=by
 refine⟨?_, ?_, ?_, ?_, ?_, ?_, ?_, ?_, ?_, ?_, ?_, ?_, ?_, ?_, ?_, ?_, ?_, ?_, ?_, ?_, ?_, ?_, ?_, ?_, ?_, ?_, ?_, ?_, ?_, ?_, ?_, ?_, ?_, ?_, ?_, ?_⟩<;>intros<;>rfl
def Zih(ops:Array Oper):Option (Nat×Bool)→Option (Option (Nat×Bool))
  |none=>some none
  | some (j,want)=>match(ops[j]?).bind (·.dst)with
    |some d=>some (some (d,want))
    |none=>none
def Z9s(N:Nat):Option Nat→Bool
 |some d=>decide (d<N)
 |none=>true
def ndB:Op→Bool
 | .defer _=>false
 |_=>true
theorem ndB_ne{x:Op}(h:ndB x=true):∀c,x≠.defer c:=fun c e=>by rw[e]at h;cases h
def Zcr(P:Program)(N:Nat)(ops:Array Oper):List Oper→Option (List VOper)
 | []=>some []
 |o::r=>match cOp P o,Zih ops o.guard,Zcr P N ops r with
  |some op,some gd,some q=>if Z9s N o.dst&&ndB o.op then some (⟨o.dst,op,gd⟩::q)else none
  |_,_,_=>none
def VOp.vas:VOp→List VA
 | .mv a|.un _ a|.conv _ a|.strid a|.b2s a|.s2b a|.faddr _ a|.fld _ _ _ a|.ext a _|.len _ a|.box _ a|.load _ _ a|.isnil _ a=>[a]
 | .pick a b c=>[a,b,c]
 | .alloc _|.mkmap=>[]
 | .build _ ps=>ps.map fun p=>p.2.2
 | .bslice _ _ _ ps=>ps.map fun p=>p.2
 | .store _ a b|.bin _ a b|.binb _ a b|.eqs _ _ a b|.iaddr _ a b|.idx a b|.app _ _ _ _ a b=>[a,b]
 | .mkfn _ x y=>x++y
 | .slice _ _ a lo hi=>a::(lo.toList++hi.toList)
 | .mm _ l=>l
 | .lookup _ _ _ a b=>[a,b]
 | .mlen a=>[a]
 | .mapset _ a b c=>[a,b,c]
 | .call _ l=>l
 | .callv f l=>f::l
 | .px _ l=>l
 | .fx _ l=>l
 | .nd _ a=>[a]
 | .other _=>[]
def VOp.closed:VOp→Bool
 | .other _=>false
 |_=>true
def VOp.simple:VOp→Bool
 | .alloc _|.box .. | .store .. | .app .. | .mapset .. | .mkmap|.fx .. | .nd ..=>true
 |_=>false
def VOp.det:VOp→Bool
 | .bslice ..=>true
 |op=>op.pure
def VOper.reads(o:VOper):List Nat:=
 (o.op.vas.filterMap fun|.t n=>some n|_=>none)++(match o.guard with|some (d,_)=>[d]|none=>[])
def VOper.apart(x y:VOper):Bool:=
 (match x.dst with|some d=>!y.reads.contains d&&y.dst !=some d|none=>true)&&(match y.dst with|some d=>!x.reads.contains d|none=>true)
def Z22(q:List VOper)(k:Nat):Bool:=match q[k]? with|some o=>o.op.simple|none=>false
def Zaz(ops:Array Oper)(listed:Array Bool):Nat→Nat→Nat→Bool
 |0,_,_=>false
 |f+1,k,j=>match ops[j]? with
  |some o=>o.after.any fun e=>Region.binds .any e&&(e.on==k||(!(listed.getD e.on true)&&Zaz ops listed f k e.on))
  |none=>false
def Zpn(ops:Array Oper)(q:List VOper)(listed:Array Bool)(k:Nat):Bool:=
 (List.range ops.size).all fun j=>j==k||listed.getD j true||
  Zaz ops listed ops.size k j||
  (match q[k]?,q[j]? with
  |some x,some y=>x.apart y && !(x.op.simple&&y.op.simple)&&(!x.op.simple||y.op.det)
  |_,_=>false)
def Zej(ops:Array Oper)(q:List VOper):Nat→Nat→Array Bool→Bool
 |0,_,listed=>(Region.ready .any ops listed).isEmpty
 |n+1,k,listed=>(Region.ready .any ops listed).contains k&&Zpn ops q listed k&&q.all (fun o=>o.op.closed)&&Zej ops q n (k+1) (listed.setIfInBounds k true)
def VOp.writes:VOp→Bool
 | .store .. | .mapset .. | .app .. | .fx ..=>true
 |_=>false
def Za2(q:List VOper)(k:Nat):Bool:=match q[k]? with|some o=>o.op.writes|none=>false
def Z97(ops:Array Oper)(q:List VOper)(i:Nat):Bool:=(List.range ops.size).all fun j=>!(Za2 q j)||Zaz ops (Array.replicate ops.size false) ops.size i j
def Zr7(ops:Array Oper)(q:List VOper):List Bool:=(List.range ops.size).map (Z97 ops q)
def Zb1(P:Program)(N:Nat):Code→Option VC
 | .skip=>some .skip
 | .region id ops draw=>match Zcr P N ops ops.toList with
  |some q=>if draw then(if P.follows .mixedOrders&&Zej ops q ops.size 0 (Array.replicate ops.size false)then(if q.any (fun o=>o.op.writes)then some (.draw2 q (Zr7 ops q))else some (.region q true))else some (.other (.region id ops draw)))else some (.region q false)
  |none=>none
 | .seq a b=>match Zb1 P N a,Zb1 P N b with
  |some x,some y=>some (.seq x y)
  |_,_=>none
 | .cond c a b=>match cA c,Zb1 P N a,Zb1 P N b with
  |some v,some x,some y=>some (.cond v x y)
  |_,_,_=>none
 | .block id c=>(Zb1 P N c).map (.block id)
 | .loop c=>(Zb1 P N c).map .loop
 | .scope c=>(Zb1 P N c).map .scope
 | .exit id=>some (.exit id)
 | .ret=>some .ret
 | .label _=>some .skip
 |c=>some (.other c)
def guardOf(want:Bool):PV→Option Bool
 | .bool b=>some (b==want)
 | .undef=>some false
 |_=>none
def Zqo(P:Program)(e:Env)(h:Heap)(op:VOp)(c:Bool)(K:PV→Heap→Prop):Prop:=
 match op.pure with
 |true=>(c=true→pok e h op)∧K (gd c (Zcq e h op)) h
 |false=>(c=true→Zau P e h op K)∧(c=false→K .undef h)
def Zfo(P:Program):List VOper→(Env→Heap→Prop)→Env→Heap→Prop
 | [],K,e,h=>K e h
 | o::r,K,e,h=>match o.guard with
  |none=>Zau P e h o.op (fun v h'=>Zfo P r K (e.put o.dst v) h')
  |some (d,want)=>match guardOf want (e.get d)with
   |some c=>Zqo P e h o.op c (fun v h'=>Zfo P r K (e.put o.dst v) h')
   |none=>False
structure FK where
 n:Nat
 ro:Option Nat
 D:List Deferred
 X:List Deferred→Heap→Prop
def FK.std(n:Nat):FK:=⟨n,none,[],fun _ _=>False⟩
instance:CoeOut FK Nat:=⟨FK.n⟩
def FK.dok(N:FK)(x:Exit)(d:List Deferred)(h:Heap):Prop:=match x with
 | .ret=>d=N.D∨N.X d h
 |_=>d=N.D
theorem Xde{ro:Option Nat}{P:Program}{o:Oper}{a:Act}{next:Act→World→Prop}{Q:Exit→Act→World→Prop}:∀{r:Result Next},o.uponIn (fw none) 9 P a next Q r→o.uponIn (fw ro) 9 P a next Q r
 | .ok (.value _) _,h=>h
 | .ok .skip _,h=>h
 | .ok (.defer _) _,h=>h
 | .ok (.enter _ _) _,h=>h
 | .ok (.row _ _) _,h=>h
 | .ok (.round _ _ _ _ _) _,h=>h
 | .halt (.panic _) _,h=>h
theorem Z53{ro:Option Nat}{P:Program}{o:Oper}(hn:ndB o.op=true){a:Act}{w:World}{next:Act→World→Prop}{Q:Exit→Act→World→Prop}(h:o.uponIn (fw none) 9 P a next Q ((execOp a.eval o).run P w)):o.wpIn (fw ro) 9 P a w next Q:=
 ⟨fun _ _=>trivial,by rw[Oper.semAt_eq _ _ _ (ndB_ne hn)];exact Xde h⟩
def AW(P:Program)(N:FK)(c:Code)(Q:Exit→Env→Heap→Prop)(e:Env)(h:Heap):Prop:=
 ∀g w a,Rel g w h→Zas g a e→a.defers=N.D→a.tmps.size=N.n→
  c.wpIn (fw N.ro) 9 P (fun x a' w'=>∃g' e' h',Q x e' h'∧Rel g' w' h'∧Zas g' a' e'∧N.dok x a'.defers h'∧a'.tmps.size=N.n∧Evo g w h g' w' h') a w
theorem Ze8(a:Act)(d:Option Nat)(v:Value):(a.put d v).tmps.size=a.tmps.size∧(a.put d v).defers=a.defers:=by
 cases d<;>simp[Act.put]
theorem Zqp{g:Gh}{a:Act}{e:Env}(he:Zas g a e){ops:Array Oper}{j:Nat}{want:Bool}{d:Nat}(hd:(ops[j]?).bind (·.dst)=some d){c:Bool}(hc:guardOf want (e.get d)=some c):
    (yielded ops a.tmps j==some want)=c:=by
  have hv:=he d;unfold yielded;rw[hd];simp only[Option.bind_some];cases hp:e.get d<;>simp only[hp,guardOf,Zx0]at hc<;>try (cases hc;done)
  case undef=>
    subst hc;rw[hp]at hv;by_cases hlt:d<a.tmps.size
    · have e1:a.tmps.getD d Go.undef=a.tmps[d]:=by simp[Array.getD,hlt]
      rw[e1]at hv;rw[Array.getElem?_eq_getElem hlt];generalize a.tmps[d]=v at hv;cases hv;rfl
    ·rw[Array.getElem?_eq_none (by omega)];rfl
  case bool b=>
    subst hc;rw[hp]at hv;by_cases hlt:d<a.tmps.size
    · have e1:a.tmps.getD d Go.undef=a.tmps[d]:=by simp[Array.getD,hlt]
      rw[e1]at hv;rw[Array.getElem?_eq_getElem hlt,hv.bool_inv];cases b<;>cases want<;>rfl
    · have e1:a.tmps.getD d Go.undef=Go.undef:=by simp[Array.getD,hlt]
      rw[e1]at hv;cases hv
theorem Zua{P:Program}{N:FK}{ops:Array Oper}{Q:Exit→Act→World→Prop}{K:Env→Heap→Prop}{g0:Gh}{w0:World}{h0:Heap}
    (hQ:∀g w h a e,K e h→Rel g w h→Zas g a e→a.defers=N.D→a.tmps.size=N.n→Evo g0 w0 h0 g w h→Q .normal a w):
    ∀ (l:List Oper) (q:List VOper) (k:Nat) (e:Env) (h:Heap),(∀j,l[j]?=ops[k+j]?)→Zcr P N.n ops l=some q→Zfo P q K e h→
      ∀g w a,Rel g w h→Zas g a e→a.defers=N.D→a.tmps.size=N.n→Evo g0 w0 h0 g w h→wpOpsIn (fw N.ro) 9 P ops Q ((List.range l.length).map (k+·)) a w
  | [],q,k,e,h,_,hc,hw,g,w,a,r,he,hd,hs,hev=>by
    simp only[Zcr,Zx0]at hc;subst hc;exact hQ g w h a e hw r he hd hs hev
  | o::l,q,k,e,h,hl,hc,hw,g,w,a,r,he,hd,hs,hev=>by
    have h0:ops[k]?=some o:=by simpa using(hl 0).symm
    have hl':∀j,l[j]?=ops[(k+1)+j]?:=fun j=>by have:=hl (j+1);simpa[Nat.add_assoc,Nat.add_comm 1 j]using this
    simp only[Zcr]at hc;split at hc
    case h_2=>cases hc
    rename_i op gu qs h1 h2 h3;have hdn:(Z9s N.n o.dst&&ndB o.op)=true:=by
      by_cases hh:(Z9s N.n o.dst&&ndB o.op)=true
      ·exact hh
      ·rw[if_neg hh]at hc;cases hc
    rw[if_pos hdn]at hc;obtain⟨hdst,hnd⟩:=Bool.and_eq_true_iff.1 hdn;simp only[Zx0]at hc;subst hc;have hdlt:∀t,o.dst=some t→t<a.tmps.size:=by
      intro t ht;rw[ht]at hdst;rw[hs];simpa[Z9s]using hdst
    have hlist:(List.range (o::l).length).map (k+·)=k::(List.range l.length).map ((k+1)+·):=by
      simp only[Zyd,List.range_succ_eq_map,List.map_cons,Nat.add_zero,List.map_map]
      congr 1
      apply List.map_congr_left
      intro x _;simp only[Function.comp];omega
    rw[hlist,wpOpsIn_cons];unfold wpOpIn;simp only[h0];have next:∀(v:Value) (pv:PV) (g':Gh) (w':World) (h':Heap),Zfo P qs K (e.put o.dst pv) h'→Rep g' v pv→Rel g' w' h'→Evo g w h g' w' h'→
        wpOpsIn (fw N.ro) 9 P ops Q ((List.range l.length).map ((k+1)+·)) (a.put o.dst v) w':=by
      intro v pv g' w' h' hk hv hr hev';exact Zua hQ l qs (k+1) _ _ hl' h3 hk g' w' _ hr ((he.mono hev'.le).put hv hdlt) (by rw[(Ze8 a o.dst v).2];exact hd) (by rw[(Ze8 a o.dst v).1];exact hs) (hev.trans hev')
    have skip:Zfo P qs K (e.put o.dst .undef) h→wpOpsIn (fw N.ro) 9 P ops Q ((List.range l.length).map ((k+1)+·)) (a.put o.dst Go.undef) w:=
      fun hk=>next Go.undef .undef g w h hk .undef r (Evo.refl _ _ _)
    have run:Zau P e h op (fun v h'=>Zfo P qs K (e.put o.dst v) h')→o.wpIn (fw N.ro) 9 P a w (wpOpsIn (fw N.ro) 9 P ops Q ((List.range l.length).map ((k+1)+·))) Q:=
      fun hsw=>Z53 hnd (Zb8 h1 hsw g w a _ Q r he next)
    simp only[Zfo]at hw;unfold Region.wanted;cases hog:o.guard with
    | none=>
      rw[hog]at h2;simp only[Zih,Zx0]at h2;subst h2;simp only[if_true];exact run hw
    | some jw=>
      obtain⟨j,want⟩:=jw;rw[hog]at h2;simp only[Zih]at h2;split at h2
      case h_2=>cases h2
      rename_i d hdd;simp only[Zx0]at h2;subst h2;simp only at hw;split at hw
      case h_2=>exact hw.elim
      rename_i c hcg;have hy:=Zqp he hdd hcg;simp only[hy];simp only[Zqo]at hw;cases c
      · simp only[Zyu,if_false]
        refine⟨fun _ _=>trivial,?_⟩
        apply skip
        split at hw
        ·have:=hw.2;simpa[gd]using this
        ·exact hw.2 rfl
      · simp only[if_true]
        apply run
        split at hw
        · rename_i hpure
          have h2':=hw.2;simp only[gd,if_true]at h2';have h1':=hw.1 rfl;cases op<;>first|exact⟨h1',h2'⟩|simp[VOp.pure]at hpure
        ·exact hw.1 rfl
theorem Z54{P:Program}{N:FK}{id:Nat}{ops:Array Oper}{q:List VOper}{Q:Exit→Env→Heap→Prop}{e:Env}{h:Heap}(l:List Nat)(hc:Zcr P N.n ops ops.toList=some q)(hw:Zfo P q (fun e' h'=>Q .normal (Env.keep l e') h') e h):
  AW P N (.region id ops false) Q e h:=by
 intro g w a r he hd hs
 apply wpIn_region
 have:=Zua (P:=P) (N:=N) (ops:=ops) (Q:=fun x a' w'=>∃g' e' h',Q x e' h'∧Rel g' w' h'∧Zas g' a' e'∧N.dok x a'.defers h'∧a'.tmps.size=N.n∧Evo g w h g' w' h') (K:=fun e' h'=>Q .normal (Env.keep l e') h') (g0:=g) (w0:=w) (h0:=h)
  (fun g' w' h' a' e' k1 k2 k3 k4 k5 k6=>⟨g',_,h',k1,k2,k3.keep l,k4,k5,k6⟩) ops.toList q 0 e h (fun j=>by simp) hc hw g w a r he hd hs (Evo.refl _ _ _)
 simpa using this
section rules
variable {P:Program} {N:FK} {Q:Exit→Env→Heap→Prop} {e:Env} {h:Heap}
theorem AW.mono{c:Code}{Q':Exit→Env→Heap→Prop}(H:AW P N c Q e h)(hq:∀x e h,Q x e h→Q' x e h):AW P N c Q' e h:=
 fun g w a r he hd hs=>wpIn_mono (H g w a r he hd hs) fun _ _ _ ⟨g',e',h',k1,k⟩=>⟨g',e',h',hq _ _ _ k1,k⟩
theorem AW.weaken{c:Code}{e':Env}{h':Heap}(he:e'.le e)(hh:h'.le h)(H:AW P N c Q e' h'):AW P N c Q e h:=
 fun g w a r er hd hs=>wpIn_mono (H g w a (r.weaken hh) (er.le he) hd hs) fun _ _ _ ⟨g',e2,h2,k1,k2,k3,k4,k5,k6⟩=>⟨g',e2,h2,k1,k2,k3,k4,k5,k6.weakenL hh⟩
theorem Xdf(H:Q .normal e h):AW P N .skip Q e h:=fun g w a r he hd hs=>wpIn_skip ⟨g,e,h,H,r,he,hd,hs,Evo.refl _ _ _⟩
theorem Z98{l:Nat}(H:Q .normal e h):AW P N (.label l) Q e h:=fun g w a r he hd hs=>wpIn_label ⟨g,e,h,H,r,he,hd,hs,Evo.refl _ _ _⟩
theorem Xdg{id:Nat}(H:Q (.exit id) e h):AW P N (.exit id) Q e h:=fun g w a r he hd hs=>wpIn_exit ⟨g,e,h,H,r,he,hd,hs,Evo.refl _ _ _⟩
theorem AW_ret(H:Q .ret e h):AW P N .ret Q e h:=fun g w a r he hd hs=>wpIn_ret ⟨g,e,h,H,r,he,.inl hd,hs,Evo.refl _ _ _⟩
def Zg4(K:Env→Heap→Prop)(Q:Exit→Env→Heap→Prop):Exit→Env→Heap→Prop
 | .normal,e,h=>K e h
 |x,e,h=>Q x e h
theorem Z55{x y:Code}(H:AW P N x (Zg4 (AW P N y Q) Q) e h):AW P N (.seq x y) Q e h:=by
 intro g w a r he hd hs
 apply wpIn_seq
 refine wpIn_mono (H g w a r he hd hs) fun ex a' w' ⟨g',e',h',k1,k2,k3,k4,k5,k6⟩=>?_;cases ex with
 |normal=>exact wpIn_mono (k1 g' w' a' k2 k3 k4 k5) fun _ _ _ ⟨g2,e2,h2,m1,m2,m3,m4,m5,m6⟩=>⟨g2,e2,h2,m1,m2,m3,m4,m5,k6.trans m6⟩
 |exit id=>exact⟨g',e',h',k1,k2,k3,k4,k5,k6⟩
 |goto l=>exact⟨g',e',h',k1,k2,k3,k4,k5,k6⟩
 |ret=>exact⟨g',e',h',k1,k2,k3,k4,k5,k6⟩
 |panic ch=>exact⟨g',e',h',k1,k2,k3,k4,k5,k6⟩
 |outgrown=>exact⟨g',e',h',k1,k2,k3,k4,k5,k6⟩
theorem Xdh{c:Operand}{v:VA}{x y:Code}{b:Bool}(hc:cA c=some v)(hb:v.ev e=.bool b)(ht:b=true→AW P N x Q e h)(hf:b=false→AW P N y Q e h):AW P N (.cond c x y) Q e h:=by
 intro g w a r he hd hs;have:=Zat he hc;rw[hb]at this;exact wpIn_cond_split this.bool_inv (fun hh=>ht hh g w a r he hd hs) (fun hh=>hf hh g w a r he hd hs)
def Zii(id:Nat)(Q:Exit→Env→Heap→Prop):Exit→Env→Heap→Prop
 | .exit id',e,h=>if id'=id then Q .normal e h else Q (.exit id') e h
 |x,e,h=>Q x e h
theorem Z99{id:Nat}{c:Code}(H:AW P N c (Zii id Q) e h):AW P N (.block id c) Q e h:=by
 intro g w a r he hd hs
 apply wpIn_block
 refine wpIn_mono (H g w a r he hd hs) fun ex a' w' ⟨g',e',h',k1,k⟩=>?_;cases ex with
 |exit id'=>
  simp only[Zii]at k1;simp only[Exit.inBlock];split at k1
  ·rename_i hid;rw[if_pos hid];exact⟨g',e',h',k1,k⟩
  ·rename_i hid;rw[if_neg hid];exact⟨g',e',h',k1,k⟩
 |normal=>exact⟨g',e',h',k1,k⟩
 |goto l=>exact⟨g',e',h',k1,k⟩
 |ret=>exact⟨g',e',h',k1,k⟩
 |panic ch=>exact⟨g',e',h',k1,k⟩
 |outgrown=>exact⟨g',e',h',k1,k⟩
theorem Xdi{c:Code}{σ:Type}(st:σ→Env×Heap)(μ:σ→Nat)(s0:σ)(h1:(st s0).1.le e)(h2:(st s0).2.le h)
  (round:∀s,AW P N c (Zg4 (fun e' h'=>∃s',(st s').1.le e'∧(st s').2.le h'∧μ s'<μ s) Q) (st s).1 (st s).2):AW P N (.loop c) Q e h:=by
 intro g w a r he hd hs;refine wpIn_loop_ghost (fun n a' w'=>∃s g',μ s=n∧Rel g' w' (st s).2∧Zas g' a' (st s).1∧a'.defers=N.D∧a'.tmps.size=N.n∧Evo g w h g' w' (st s).2) (μ s0)
  ⟨s0,g,rfl,r.weaken h2,he.le h1,hd,hs,(Evo.refl g w h).weakenR h2⟩ ?_
 rintro n a' w' ⟨s,g',rfl,r',he',hd',hs',hev⟩;refine wpIn_mono (round s g' w' a' r' he' hd' hs') fun ex a2 w2 ⟨g2,e2,hh2,k1,k2,k3,k4,k5,k6⟩=>?_;cases ex with
 |normal=>
  obtain⟨s',l1,l2,l3⟩:=k1;exact⟨μ s',l3,s',g2,rfl,k2.weaken l2,k3.le l1,k4,k5,(hev.trans k6).weakenR l2⟩
 |exit id=>exact⟨g2,e2,hh2,k1,k2,k3,k4,k5,hev.trans k6⟩
 |goto l=>exact⟨g2,e2,hh2,k1,k2,k3,k4,k5,hev.trans k6⟩
 |ret=>exact⟨g2,e2,hh2,k1,k2,k3,k4,k5,hev.trans k6⟩
 |panic ch=>exact⟨g2,e2,hh2,k1,k2,k3,k4,k5,hev.trans k6⟩
 |outgrown=>exact⟨g2,e2,hh2,k1,k2,k3,k4,k5,hev.trans k6⟩
end rules
def VW(P:Program)(N:FK)(vc:VC)(Q:Exit→Env→Heap→Prop)(e:Env)(h:Heap):Prop:=∀c,Zb1 P N.n c=some vc→AW P N c Q e h
section vrules
variable {P:Program} {N:FK} {Q:Exit→Env→Heap→Prop} {e:Env} {h:Heap}
theorem VW.mono{c:VC}{Q':Exit→Env→Heap→Prop}(H:VW P N c Q e h)(hq:∀x e h,Q x e h→Q' x e h):VW P N c Q' e h:=fun x hx=>(H x hx).mono hq
theorem VW.weaken{c:VC}{e':Env}{h':Heap}(he:e'.le e)(hh:h'.le h)(H:VW P N c Q e' h'):VW P N c Q e h:=fun x hx=>(H x hx).weaken he hh
theorem Znr(H:Q .normal e h):VW P N .skip Q e h:=by
 intro c hc;cases c<;>simp only[Zb1,Option.map_eq_some_iff]at hc
 case skip=>exact Xdf H
 case label=>exact Z98 H
 case seq=>split at hc<;>simp at hc
 case cond=>split at hc<;>simp at hc
 case region=>(repeat' (split at hc))<;>simp at hc
 all_goals simp at hc
theorem Z56{id:Nat}(H:Q (.exit id) e h):VW P N (.exit id) Q e h:=by
 intro c hc;cases c<;>simp only[Zb1,Option.map_eq_some_iff]at hc
 case exit id'=>simp only[Zx0,VC.exit.injEq]at hc;subst hc;exact Xdg H
 case seq=>split at hc<;>simp at hc
 case cond=>split at hc<;>simp at hc
 case region=>(repeat' (split at hc))<;>simp at hc
 all_goals simp at hc
theorem Zd4(H:Q .ret e h):VW P N .ret Q e h:=by
 intro c hc;cases c<;>simp only[Zb1,Option.map_eq_some_iff]at hc
 case ret=>exact AW_ret H
 case seq=>split at hc<;>simp at hc
 case cond=>split at hc<;>simp at hc
 case region=>(repeat' (split at hc))<;>simp at hc
 all_goals simp at hc
theorem Zaa{x y:VC}(H:VW P N x (Zg4 (VW P N y Q) Q) e h):VW P N (.seq x y) Q e h:=by
 intro c hc;cases c<;>simp only[Zb1,Option.map_eq_some_iff]at hc
 case seq a b=>
  split at hc
  ·rename_i p q h1 h2;simp only[Zx0,VC.seq.injEq]at hc;obtain⟨rfl,rfl⟩:=hc;refine Z55 ((H a h1).mono fun ex e' h' hk=>?_);cases ex with
   |normal=>exact hk b h2
   |exit id=>exact hk
   |goto l=>exact hk
   |ret=>exact hk
   |panic ch=>exact hk
   |outgrown=>exact hk
  ·cases hc
 case cond=>split at hc<;>simp at hc
 case region=>(repeat' (split at hc))<;>simp at hc
 all_goals simp at hc
theorem Zae{v:VA}{x y:VC}{b:Bool}(hb:v.ev e=.bool b)(ht:b=true→VW P N x Q e h)(hf:b=false→VW P N y Q e h):VW P N (.cond v x y) Q e h:=by
 intro c hc;cases c<;>simp only[Zb1,Option.map_eq_some_iff]at hc
 case cond op a b'=>
  split at hc
  ·rename_i p q s h1 h2 h3;simp only[Zx0,VC.cond.injEq]at hc;obtain⟨rfl,rfl,rfl⟩:=hc;exact Xdh h1 hb (fun hh=>ht hh a h2) (fun hh=>hf hh b' h3)
  ·cases hc
 case seq=>split at hc<;>simp at hc
 case region=>(repeat' (split at hc))<;>simp at hc
 all_goals simp at hc
theorem Zab{id:Nat}{x:VC}(H:VW P N x (Zii id Q) e h):VW P N (.block id x) Q e h:=by
 intro c hc;cases c<;>simp only[Zb1,Option.map_eq_some_iff]at hc
 case block id' a=>
  obtain⟨p,h1,h2⟩:=hc;simp only[VC.block.injEq]at h2;obtain⟨rfl,rfl⟩:=h2;exact Z99 (H a h1)
 case seq=>split at hc<;>simp at hc
 case cond=>split at hc<;>simp at hc
 case region=>(repeat' (split at hc))<;>simp at hc
 all_goals simp at hc
theorem Zai{x:VC}{σ:Type}(st:σ→Env×Heap)(μ:σ→Nat)(s0:σ)(h1:(st s0).1.le e)(h2:(st s0).2.le h)
  (round:∀s,VW P N x (Zg4 (fun e' h'=>∃s',(st s').1.le e'∧(st s').2.le h'∧μ s'<μ s) Q) (st s).1 (st s).2):VW P N (.loop x) Q e h:=by
 intro c hc;cases c<;>simp only[Zb1,Option.map_eq_some_iff]at hc
 case loop a=>
  obtain⟨p,h3,h4⟩:=hc;simp only[VC.loop.injEq]at h4;subst h4;exact Xdi st μ s0 h1 h2 fun s=>round s a h3
 case seq=>split at hc<;>simp at hc
 case cond=>split at hc<;>simp at hc
 case region=>(repeat' (split at hc))<;>simp at hc
 all_goals simp at hc
theorem Zb7{M id:Nat}{ops:Array Oper}{draw:Bool}{vc:VC}(hc:Zb1 P M (.region id ops draw)=some vc):∃q,Zcr P M ops ops.toList=some q∧
  (draw=false∧vc=.region q false∨draw=true∧(P.follows .mixedOrders&&Zej ops q ops.size 0 (Array.replicate ops.size false))=true∧(q.any (fun o=>o.op.writes)=false∧vc=.region q true∨vc=.draw2 q (Zr7 ops q))∨∃c,vc=.other c):=by
 simp only[Zb1]at hc;split at hc
 ·rename_i q h3;refine⟨q,h3,?_⟩;split at hc
  ·rename_i hd;split at hc
   ·rename_i hB;split at hc
    ·simp only[Zx0]at hc;exact .inr (.inl ⟨hd,hB,.inr hc.symm⟩)
    ·rename_i hw;simp only[Zx0]at hc;exact .inr (.inl ⟨hd,hB,.inl ⟨by simpa using hw,hc.symm⟩⟩)
   ·simp only[Zx0]at hc;exact .inr (.inr ⟨_,hc.symm⟩)
  ·rename_i hd;simp only[Zx0]at hc;exact .inl ⟨by simpa using hd,hc.symm⟩
 ·cases hc
theorem Zad{q:List VOper}(l:List Nat)(H:Zfo P q (fun e' h'=>Q .normal (Env.keep l e') h') e h):VW P N (.region q false) Q e h:=by
 intro c hc;cases c
 case region id ops draw=>
  obtain⟨p,h3,h|h|h⟩:=Zb7 hc
  ·obtain⟨rfl,h⟩:=h;simp only[VC.region.injEq,and_true]at h;subst h;exact Z54 l h3 H
  ·rcases h.2.2 with⟨_,h⟩|h<;>simp at h
  ·obtain⟨c,h⟩:=h;cases h
 all_goals
  simp only[Zb1,Option.map_eq_some_iff]at hc
  first
  |(simp at hc;done)
  |(split at hc<;>simp at hc)
def Zed:Nat→List PV→Env
 |_,[]=>[]
 |k,a::r=>(k,a)::Zed (k+1) r
theorem Zk9:∀(l:List PV) (k t:Nat),(Zed k l).get t=if k≤t∧t<k+l.length then PV.nth l (t-k)else .any
 | [],k,t=>by simp[Zed,Env.get];intro h1 h2;omega
 | a::r,k,t=>by
  simp only[Zed,Env.get,Zk9 r];by_cases h1:k=t
  ·subst h1;simp[PV.nth]
  ·rw[if_neg h1];by_cases h2:k+1≤t∧t<k+1+r.length
   ·rw[if_pos h2,if_pos ⟨by omega,by simp;omega⟩];have:t-k=(t-(k+1))+1:=by omega
    rw[this];simp[PV.nth]
   ·rw[if_neg h2,if_neg (by simp;omega)]
inductive RS where
 |t (n:Nat)
 |c (n:Nat) (agg:Bool) (s:Nat)
 deriving Inhabited
def RS.ev(e:Env)(h:Heap):RS→PV
 | .t n=>e.get n
 | .c n g s=>Z2v g ((Zba h (e.get n)).take s)
def RS.ok(e:Env)(h:Heap):RS→Prop
 | .t _=>True
 | .c n g s=>Zfl h (e.get n)∧s≤(Zba h (e.get n)).length∧(g=false→s=1)
def Zia(e:Env)(h:Heap):List RS→Prop
 | []=>True
 |x::r=>x.ok e h∧Zia e h r
def Ztn(e:Env)(h:Heap):List RS→PV
 | [t]=>t.ev e h
 |ts=>.tup (ts.map (RS.ev e h))
def Z5g(rs:List RS)(K:PV→Heap→Prop):Exit→Env→Heap→Prop
 | .normal,e,h=>Zia e h rs∧K (Ztn e h rs) h
 | .ret,e,h=>Zia e h rs∧K (Ztn e h rs) h
 |_,_,_=>False
def Z5h(P:Program):List ResultVar→Option (List RS)
  | []=>some []
  | .tmp t::r=>(Z5h P r).map (.t t::·)
  | .cell a t::r=>match Zeq P t,Zc2 P t,Z5h P r with
    |some g,some s,some q=>some (.c a g s::q)
    |_,_,_=>none
theorem Z57{P:Program}{g:Gh}{w:World}{h:Heap}{e:Env}{a:Act}(hr:Rel g w h)(he:Zas g a e)(F:ResultVar→Sem Value)(hF:∀t,F (.tmp t)=pure (a.tmps.getD t Go.undef))(hG:∀c t,F (.cell c t)=(do loadVar t (←asAddr (a.tmps.getD c Go.undef)))):
  ∀{l:List ResultVar} {ts:List RS},Z5h P l=some ts→Zia e h ts→
  ∃vs:List Value,(l.mapM F).run P w=.ok vs w∧vs.length=ts.length∧∀j,j<ts.length→Rep g (vs.getD j Go.undef) (PV.nth (ts.map (RS.ev e h)) j)
 | [],ts,hs,_=>by simp only[Z5h,Zx0]at hs;subst hs;exact⟨[],rfl,rfl,fun j hj=>by simp at hj⟩
 | .tmp t::r,ts,hs,ok=>by
  simp only[Z5h,Option.map_eq_some_iff]at hs;obtain⟨q,hq,rfl⟩:=hs;obtain⟨vs,e1,e2,e3⟩:=Z57 hr he F hF hG hq ok.2;refine⟨a.tmps.getD t Go.undef::vs,by simp only[List.mapM_cons,hF,Sem.run_bind,Sem.run_pure,Result.andThen_ok,e1],by simp[e2],fun j hj=>?_⟩;cases j with
  |zero=>simpa[PV.nth,RS.ev]using he t
  |succ j=>simpa[PV.nth]using e3 j (by simpa using hj)
 | .cell c t::r,ts,hs,ok=>by
  simp only[Z5h]at hs;split at hs
  case h_2=>cases hs
  rename_i b s q hb hsz hq;simp only[Zx0]at hs;subst hs;obtain⟨⟨o1,o2,o3⟩,ok'⟩:=ok;obtain⟨vs,e1,e2,e3⟩:=Z57 hr he F hF hG hq ok';obtain⟨v,hv,hrep⟩:=Zqa (P:=P) (w:=w) (h:=h) (a:=a) (e:=e) (x:=.tmp c) (va:=.t c) hr he rfl hb hsz ⟨o1,o2,o3⟩;obtain⟨bl,o,us,hval,_⟩:=Ztu hr (he c) o1;have hrun:(F (.cell c t)).run P w=.ok v w:=by
   rw[hG];have e5:a.eval (.tmp c)=a.tmps.getD c Go.undef:=rfl;rw[e5,hval]at hv;rw[hval]
   simpa[Instr.loadAt,Instr.sureAddr,asAddr]using hv
  refine⟨v::vs,by simp only[List.mapM_cons,Sem.run_bind,hrun,Sem.run_pure,Result.andThen_ok,e1],by simp[e2],fun j hj=>?_⟩;cases j with
  |zero=>simpa[PV.nth,RS.ev,Zcq,VA.ev]using hrep
  |succ j=>simpa[PV.nth]using e3 j (by simpa using hj)
theorem Ziu{P:Program}{w:World}{fn:Func}{ts:List RS}{h:Heap}(hs:Z5h P fn.results.toList=some ts){g:Gh}{a:Act}{e:Env}(hr:Rel g w h)(he:Zas g a e)(hok:Zia e h ts):
  ∃v,(results fn a.tmps).run P w=.ok v w∧Rep g v (Ztn e h ts):=by
 unfold results;obtain⟨vs,e1,e2,e3⟩:=Z57 (P:=P) hr he (fun
  | .tmp t=>pure (a.tmps.getD t Go.undef)
  | .cell c t=>do loadVar t (←asAddr (a.tmps.getD c Go.undef))) (fun t=>rfl) (fun c t=>rfl) hs hok
 rw[Sem.run_bind,Array.mapM_eq_mapM_toList,Sem.run_map];generalize hX:Sem.run P (List.mapM _ fn.results.toList) w=X;have hX':X=.ok vs w:=hX.symm.trans e1;rw[hX'];simp only[Result.andThen_ok,Sem.run_pure];refine⟨_,rfl,?_⟩
 match ts,vs,e2 with
 | [t],[v],_=>simpa[Ztn,PV.nth]using e3 0 (by simp)
 | [],[],_=>exact .tup _ _ rfl (fun j hj=>by simp at hj)
 |t::u::r,v::x::vs,e2=>
  have hne:¬(v::x::vs).toArray.size=1:=by simp
  rw[dif_neg hne];refine .tup _ _ (by simpa using e2) (fun j hj=>?_);have:=e3 j (by simpa using hj)
  simpa[Zx6]using this
theorem Xaa{f:FuncId}{fn:Func}{c:Code}{vc:VC}{ts:List RS}{args:List PV}{K:PV→Heap→Prop}(hf:P.funcs[f]?=some fn)(hok:Ztr P f=true)(hb:fn.body=some c)(hr:Z5h P fn.results.toList=some ts)
  (hn:args.length≤fn.ntmps)(hc:Zb1 P fn.ntmps c=some vc)(H:VW P (FK.std fn.ntmps) vc (Z5g ts K) (Zed 0 args) h):Zam P f args h K:=by
 refine⟨hok,fun g w vals r ha=>?_⟩;refine calls_of_wp hf hb ?_;have he:Zas g { tmps:=vals++Array.replicate (fn.ntmps-vals.size) Go.undef,defers:=[] } (Zed 0 args):=by
  intro t;rw[Zk9];by_cases h1:0≤t∧t<0+args.length
  ·rw[if_pos h1];have hlt:t<vals.size:=by rw[ha.1];omega
   have e1:(vals++Array.replicate (fn.ntmps-vals.size) Go.undef).getD t Go.undef=vals.getD t Go.undef:=by
    simp[Zx6,Array.getElem?_append_left hlt]
   show Rep g ((vals++Array.replicate (fn.ntmps-vals.size) Go.undef).getD t Go.undef) _;rw[e1];exact ha.2 t (by omega)
  ·rw[if_neg h1];exact .any _
 refine wp_mono (Z5w.1 (H c hc g w _ r he rfl (by simp[ha.1,FK.std];omega))) fun x a' w' ⟨g',e',h',k1,k2,k3,k4,k5,k6⟩=>?_;have fin:a'.defers=[]→Zia e' h' ts∧K (Ztn e' h' ts) h'→bodyPost P fn (fun x w'=>∃v p g' h',x=.returned v∧K p h'∧Rep g' v p∧Rel g' w' h'∧Evo g w h g' w' h') .ret a' w':=by
  rintro kd ⟨ho,hk⟩;obtain⟨v,hv,hrep⟩:=Ziu (P:=P) (w:=w') hr k2 k3 ho;exact⟨kd,v,hv,v,_,g',h',rfl,hk,hrep,k2,k6⟩
 cases x with
 |normal=>exact fin k4 k1
 |ret=>exact fin (k4.elim (fun h=>h) (fun h=>h.elim)) k1
 |exit id=>exact k1.elim
 |goto l=>exact k1.elim
 |panic ch=>exact k1.elim
 |outgrown=>exact k1.elim
end vrules
noncomputable def Z9t (g:Gh)(w:World)(h:Heap)(b o:Nat):Option Value:=by
 classical
 exact match g.m b o with
  |some v=>some v
  | none=>if ∃id z es x,h.get id=some (.arr false z es)∧g.β id=some x∧x.1=b then
    (match w.cell? ⟨b,o,none⟩with
    |some v=>if v.oneCell'=true then some v else none
    |none=>none)
   else none
noncomputable def Zpo (g:Gh)(w:World)(h:Heap)(b:Nat):Option MK:=by
 classical
 exact match g.m.mm b with
  |some e=>some e
  | none=>if ∃id es x,h.get id=some (.map es)∧g.β id=some x∧x.1=b then
    (match w.heap[b]? with
    |some (.map ents c)=>some (.map ents c)
    |_=>none)
   else none
theorem Zet{g:Gh}{w:World}{h:Heap}{b:Nat}{e:MK}(hm:g.m.mm b=some e):Zpo g w h b=some e:=by
 unfold Zpo;simp[hm]
theorem Zub{g:Gh}{w:World}{h:Heap}{b clock:Nat}{e:Array MapEntry}(hm:g.m.mm b=none){id:Nat}{es:List (PV×PV)}{x:Nat×Nat×Nat×Nat}(h1:h.get id=some (.map es))(h2:g.β id=some x)(h3:x.1=b)
  (hc:w.heap[b]?=some (.map e clock)):Zpo g w h b=some (.map e clock):=by
 unfold Zpo;rw[hm];simp only;rw[if_pos ⟨id,es,x,h1,h2,h3⟩,hc]
theorem Zg5{g:Gh}{w:World}{h:Heap}{b:Nat}{e:MK}(hm:Zpo g w h b=some e):g.m.mm b=some e∨(Ze3 g h b∧∃ents clock,e=.map ents clock∧w.heap[b]?=some (.map ents clock)):=by
 unfold Zpo at hm;split at hm
 ·rename_i v' hv;simp only[Zx0]at hm;subst hm;exact .inl hv
 ·split at hm
  ·rename_i hex;obtain⟨id,es,x,h1,h2,h3⟩:=hex;split at hm
   ·rename_i ents clock hc;simp only[Zx0]at hm;subst hm;exact .inr ⟨⟨id,_,x,h1,rfl,h2,h3⟩,ents,clock,rfl,hc⟩
   ·cases hm
  ·cases hm
theorem Zcl{g:Gh}{w:World}{h:Heap}{b o:Nat}{v:Value}(hm:g.m b o=some v):Z9t g w h b o=some v:=by
 unfold Z9t;simp[hm]
theorem Zm2{g:Gh}{w:World}{h:Heap}{b o:Nat}{v:Value}(hm:g.m b o=none){id z:Nat}{es:List (List PV)}{x:Nat×Nat×Nat×Nat}(h1:h.get id=some (.arr false z es))(h2:g.β id=some x)(h3:x.1=b)
  (hc:w.cell? ⟨b,o,none⟩=some v)(ho:v.oneCell'=true):Z9t g w h b o=some v:=by
 unfold Z9t;rw[hm];simp only;rw[if_pos ⟨id,z,es,x,h1,h2,h3⟩,hc];simp[ho]
theorem Zjk{g:Gh}{w:World}{h:Heap}{b o:Nat}{v:Value}(hm:Z9t g w h b o=some v):g.m b o=some v∨(Ze3 g h b∧w.cell? ⟨b,o,none⟩=some v∧v.oneCell'=true):=by
 unfold Z9t at hm;split at hm
 ·rename_i v' hv;simp only[Zx0]at hm;subst hm;exact .inl hv
 ·split at hm
  ·rename_i hex;obtain⟨id,z,es,x,h1,h2,h3⟩:=hex;split at hm
   ·split at hm
    ·rename_i v' hv ho;simp only[Zx0]at hm;subst hm;exact .inr ⟨⟨id,_,x,h1,rfl,h2,h3⟩,hv,ho⟩
    ·cases hm
   ·cases hm
  ·cases hm
noncomputable def frz (g:Gh)(w:World)(h:Heap):Gh:=⟨⟨Z9t g w h,Zpo g w h,fun b l hp=>⟨Zet (g.m.kn b l hp).1,fun j hj=>Zcl ((g.m.kn b l hp).2 j hj)⟩,fun b k hp=>by obtain⟨v,h1,h2⟩:=g.m.kg b k hp;exact⟨v,Zcl h1,h2⟩,g.m.ks.mono fun _ _ _ e=>Zcl e⟩,g.β⟩
theorem Z1e(g:Gh)(w:World)(h:Heap):g.le (frz g w h):=⟨fun _ _ _ e=>Zcl e,fun _ _ e=>e,fun _ _ e=>Zet e⟩
theorem Zgc{g:Gh}{w:World}{h:Heap}(r:Rel g w h):Rel (frz g w h) w ⟨[],h.top⟩:=
  ⟨fun b o v e => by rcases Zjk e with h1|⟨_,h1,h2⟩
                     ·exact r.mem b o v h1
                     ·exact⟨h1,h2⟩,
   fun b e he => by rcases Zg5 he with h1|⟨_,en,cl,rfl,h1⟩
                    ·exact r.mmem b e h1
                    ·exact h1,
   fun id hid=>⟨(r.fin id hid).1,rfl⟩,fun id ab e=>by simp[Heap.get,HL.get]at e,fun id id' x x' ab ab' _ e=>by simp[Heap.get,HL.get]at e⟩
def Gh.bare(g:Gh):Gh:=⟨g.m,fun _=>none⟩
theorem Rel.bare{g:Gh}{w:World}{h:Heap}(r:Rel g w h):Rel g.bare w Heap.nil:=
 ⟨r.mem,r.mmem,fun id _=>⟨rfl,rfl⟩,fun id ab e=>by simp[Heap.get,HL.get,Heap.nil]at e,fun id id' x x' ab ab' _ e=>by simp[Heap.get,HL.get,Heap.nil]at e⟩
def Za8(l:List PV):Prop:=∀x∈l,Closed x
theorem CL1{a:PV}(h0:Closed a):Za8 [a]:=by
 intro y hy;simp only[Zyb,Zya,or_false]at hy;rcases hy with rfl
 ·exact h0
theorem CL2{a b:PV}(h0:Closed a)(h1:Closed b):Za8 [a,b]:=by
 intro y hy;simp only[Zyb,Zya,or_false]at hy;rcases hy with rfl|rfl
 ·exact h0
 ·exact h1
theorem CL3{a b c:PV}(h0:Closed a)(h1:Closed b)(h2:Closed c):Za8 [a,b,c]:=by
 intro y hy;simp only[Zyb,Zya,or_false]at hy;rcases hy with rfl|rfl|rfl
 ·exact h0
 ·exact h1
 ·exact h2
theorem CL4{a b c d:PV}(h0:Closed a)(h1:Closed b)(h2:Closed c)(h3:Closed d):Za8 [a,b,c,d]:=by
 intro y hy;simp only[Zyb,Zya,or_false]at hy;rcases hy with rfl|rfl|rfl|rfl
 ·exact h0
 ·exact h1
 ·exact h2
 ·exact h3
theorem CL5{a b c d e:PV}(h0:Closed a)(h1:Closed b)(h2:Closed c)(h3:Closed d)(h4:Closed e):Za8 [a,b,c,d,e]:=by
 intro y hy;simp only[Zyb,Zya,or_false]at hy;rcases hy with rfl|rfl|rfl|rfl|rfl
 ·exact h0
 ·exact h1
 ·exact h2
 ·exact h3
 ·exact h4
theorem Za8.args{g:Gh}{vals:Array Value}{l:List PV}(hc:Za8 l)(ha:Zm0 g vals l):Zm0 g.bare vals l:=
 ⟨ha.1,fun j hj=>by
  refine hc _ ?_ g _ (ha.2 j hj);simp only[PV.nth,Zx1,Zye hj,Option.getD_some];exact Zyl hj⟩
def View(h:Heap)(r p:PV):Prop:=∀g w v,Rel g w h→Rep g v r→Rep (frz g w h) v p
theorem View.refl(h:Heap)(r:PV):View h r r:=fun g w v _ hv=>hv.mono (Z1e g w h)
theorem Vr{h:Heap}{r:PV}:View h r r:=View.refl h r
theorem Vt{p:Prop}[Decidable p](h:p:=by omega):decide p=true:=Zyf h
theorem Vf{p:Prop}[Decidable p](h:¬p:=by omega):decide p=false:=Zyg h
theorem oT{p:Prop}[Decidable p](h:decide p=true):p:=of_decide_eq_true h
theorem oF{p:Prop}[Decidable p](h:decide p=false):¬p:=of_decide_eq_false h
theorem View.nil(h:Heap)(z:Nat):View h .nilsl (.sl z []):=fun g w v _ hv=>by cases hv;exact .slE _ _ _
theorem View.own{h:Heap}{id off len z:Nat}{fz:Bool}{es:List (List PV)}(hg:h.get id=some (.arr fz z es))(hle:off+len≤es.length):View h (.own id off len) (.sl z ((es.drop off).take len)):=by
 intro g w v r hv;cases hv with
 |ownE ao=>simp only[List.take_zero];exact .slE _ _ _
 | own _ _ _ cap b o n z' a hb ha hc hn=>
  subst ha;rcases r.blk id _ hg with⟨hb0,_⟩|⟨b',o',n',z'',hb',hlt,hlive,hok⟩
  ·rw[hb]at hb0;cases hb0
  ·rw [hb]at hb';simp only[Zx0,Prod.mk.injEq]at hb';obtain⟨rfl,rfl,rfl,rfl⟩:=hb';obtain⟨rfl,hz,hle',c,ty,h1,h2,h3⟩:=hok;refine .sl b (o+off*z) len cap z _ _ (fun i j=>c.getD (o+(off+i)*z+j) Go.undef) rfl (by simp;omega) hc (fun i hi=>?_) (fun i j hi hj=>?_) (fun i j hi hj=>?_)
   ·rw[Zhv _ _ _ hi,Zhu];exact hz _ (by omega)
   ·obtain⟨e1,e2,e3⟩:=h3 (off+i) j (by omega) hj;have e4:o+off*z+i*z+j=o+(off+i)*z+j:=by rw[Nat.add_mul];omega
    rw[e4];cases fz
    ·have hin:o+(off+i)*z+j<c.size:=by
      have:=Za7 (n:=es.length) (z:=z) (show off+i<es.length by omega) hj;omega
     exact Zm2 ((hlive rfl).1 _) hg hb rfl (by simp[World.cell?,h1,hin,Array.getD]) e1
    ·exact Zcl (e3 rfl)
   ·obtain⟨e1,e2,e3⟩:=h3 (off+i) j (by omega) hj;rw[Zhv _ _ _ hi,Zhu];exact e2.mono (Z1e g w h)
theorem View.map{h:Heap}{id:Nat}{es q:List (PV×PV)}(hg:h.get id=some (.map es))(hl:es.length=q.length)(hv:∀(i:Nat) (a b:PV×PV),es[i]?=some a→q[i]?=some b→View h a.1 b.1∧View h a.2 b.2)(hf:Zmw q→Zmw es:=by exact id):View h (.mp id) (.rmp q):=by
 intro g w v r hr;cases hr with
 | mp _ b o n z hb=>
  rcases r.blk id _ hg with⟨_,fz,zz,hh⟩|⟨b',o',n',z',hb',hlt,hlive,hok⟩
  ·cases hh
  ·rw[hb]at hb';simp only[Zx0,Prod.mk.injEq]at hb';obtain⟨rfl,rfl,rfl,rfl⟩:=hb';obtain⟨ents,clock,e1,e2,e3,e4⟩:=hok;have pick:∀(i:Nat) (p:PV×PV),q[i]?=some p→∃a,es[i]?=some a:=by
    intro i p hp;have:=(List.getElem?_eq_some_iff.1 hp).1;exact⟨es[i],Zye (by omega)⟩
   refine .rmp b ents q (Zub (hlive rfl).2 hg hb rfl e1) (by omega) (fun i e p he hp=>?_) (fun i e p he hp=>?_) (fun q=>e4 (hf q))
   ·obtain⟨a,ha⟩:=pick i p hp;exact(hv i a p ha hp).1 g w _ r (e3 i e a he ha).1
   ·obtain⟨a,ha⟩:=pick i p hp;exact(hv i a p ha hp).2 g w _ r (e3 i e a he ha).2
theorem Zla{es:List (PV×PV)}(h:∀e∈es,Closed e.1∧Closed e.2):Closed (.rmp es):=by
 intro g v hv;cases hv with
 |rmp b ents es hm hl hk hv hs=>
  exact .rmp b ents es hm hl (fun i e p he hp=>(h p (List.mem_of_getElem? hp)).1 g _ (hk i e p he hp)) (fun i e p he hp=>(h p (List.mem_of_getElem? hp)).2 g _ (hv i e p he hp)) hs
theorem View.tup{h:Heap}{l q:List PV}(hl:l.length=q.length)(hv:∀j,j<q.length→View h (PV.nth l j) (PV.nth q j)):View h (.tup l) (.tup q):=by
 intro g w v r hr;obtain⟨vs,rfl,hs,hrr⟩:=hr.tup_inv;exact .tup _ _ (by omega) (fun j hj=>hv j hj g w _ r (hrr j (by omega)))
theorem View.tup2{h:Heap}{a b c d:PV}(h1:View h a c)(h2:View h b d):View h (.tup [a,b]) (.tup [c,d]):=
 View.tup rfl (fun j hj=>by
  match j,hj with
  |0,_=>exact h1
  |1,_=>exact h2)
def Zcx(h:Heap):List PV→List PV→Prop
 | [],[]=>True
 |a::r,b::q=>View h a b∧Zcx h r q
 |_,_=>False
theorem Zcx.args{g:Gh}{w:World}{h:Heap}(r:Rel g w h){vals:Array Value}{l q:List PV}(hv:Zcx h l q)(ha:Zm0 g vals l):Zm0 (frz g w h) vals q:=by
 have key:∀(l q:List PV),Zcx h l q→l.length=q.length∧∀j,j<q.length→View h (PV.nth l j) (PV.nth q j):=by
  intro l
  induction l with
  |nil=>intro q hv;cases q with
   |nil=>exact⟨rfl,fun j hj=>by simp at hj⟩
   |cons b q=>exact hv.elim
  | cons a l ih=>intro q hv;cases q with
   |nil=>exact hv.elim
   |cons b q=>
    obtain⟨h1,h2⟩:=hv;obtain⟨i1,i2⟩:=ih q h2;refine⟨by simp[i1],fun j hj=>?_⟩;cases j with
    |zero=>exact h1
    |succ j=>exact i2 j (by simpa using hj)
 obtain⟨k1,k2⟩:=key l q hv;exact⟨by rw[ha.1,k1],fun j hj=>k2 j hj g w _ r (ha.2 j (by omega))⟩
theorem Closed.of_scalar{p:PV}(h:Scalar p):Closed p:=fun g v hv=>h g v hv _
theorem Zda(k:IntKind)(n:Int):Scalar (.int k n):=fun g v hv g'=>by cases hv;exact .int _ _
theorem Zbs(b:Bool):Scalar (.bool b):=fun g v hv g'=>by cases hv;exact .bool _
theorem Zen(s:List UInt8):Scalar (.str s):=fun g v hv g'=>by cases hv;exact .str _ _ ‹_›
theorem Z23{l:List PV}(h:∀x∈l,Scalar x):Scalar (.tup l):=by
 intro g v hv g';obtain⟨vs,rfl,hs,hr⟩:=hv.tup_inv;refine .tup _ _ hs (fun j hj=>?_);refine h _ ?_ g _ (hr j hj) g';simp only[PV.nth,Zx1,Zye hj,Option.getD_some];exact Zyl hj
theorem Z24{l:List PV}(h:∀x∈l,Scalar x):Scalar (.agg l):=by
 intro g v hv g';obtain⟨vs,rfl,hs,ho,hr⟩:=hv.agg_inv;refine .agg _ _ hs ho (fun j hj=>?_);refine h _ ?_ g _ (hr j hj) g';simp only[PV.nth,Zx1,Zye hj,Option.getD_some];exact Zyl hj
theorem Zar:Closed .nilsl:=fun g v hv=>by cases hv;exact .nilsl
theorem Zbb{l:List PV}(h:∀x∈l,Closed x):Closed (.tup l):=by
 intro g v hv;obtain⟨vs,rfl,hs,hr⟩:=hv.tup_inv;refine .tup _ _ hs (fun j hj=>?_);refine h _ ?_ g _ (hr j hj);simp only[PV.nth,Zx1,Zye hj,Option.getD_some];exact Zyl hj
theorem Zah{l:List PV}(h:∀x∈l,Closed x):Closed (.agg l):=by
 intro g v hv;obtain⟨vs,rfl,hs,ho,hr⟩:=hv.agg_inv;refine .agg _ _ hs ho (fun j hj=>?_);refine h _ ?_ g _ (hr j hj);simp only[PV.nth,Zx1,Zye hj,Option.getD_some];exact Zyl hj
theorem Zjl{z:Nat}{es:List (List PV)}(h:∀e∈es,∀x∈e,Closed x):Closed (.sl z es):=by
 intro g v hv;cases hv with
 |slE=>exact .slE _ _ _
 | sl b o len cap z a es vs ha hl hc hz hm hr=>
  refine .sl b o len cap z a es vs ha hl hc hz hm (fun i j hi hj=>?_);have hi':i<es.length:=by omega
  have hz':=hz i hi;refine h (PV.row es i) ?_ _ ?_ g _ (hr i j hi hj)
  ·simp only[PV.row,Zx1,Zye hi',Option.getD_some];exact Zyl hi'
  ·have hj':j<(PV.row es i).length:=by omega
   simp only[PV.nth,Zx1,Zye hj',Option.getD_some];exact Zyl hj'
theorem Zbf{cs:List PV}(h:∀x∈cs,Closed x):Closed (.ro cs):=by
 intro g v hv;cases hv with
 |ro b o a cs vs ha hm hr=>
  refine .ro b o a cs vs ha hm (fun j hj=>?_);refine h _ ?_ g _ (hr j hj);simp only[PV.nth,Zx1,Zye hj,Option.getD_some];exact Zyl hj
structure MemExt (g:Gh) (w:World) (m':Mem) (w':World):Prop where
 old:∀b o v,g.m b o=some v→m' b o=some v
 ok:∀b o v,m' b o=some v→w'.cell? ⟨b,o,none⟩=some v∧v.oneCell'=true
 new:∀b o v,m' b o=some v→g.m b o=some v∨w.heap.size≤b
 oldM:∀b e,g.m.mm b=some e→m'.mm b=some e
 okM:∀b e,m'.mm b=some e→e.At w'.heap[b]?
 newM:∀b e,m'.mm b=some e→g.m.mm b=some e∨w.heap.size≤b
def Zgy(P:Program)(f:FuncId)(args:List PV)(p:PV):Prop:=
 Ztr P f=true∧Za8 args∧∀g w (vals:Array Value),Rel g w Heap.nil→Zm0 g vals args→
  Calls P f vals w fun x w'=>∃v m',x=.returned v∧Rep ⟨m',fun _=>none⟩ v p∧MemExt g w m' w'∧RowKit.Below w.heap.size w w'
theorem Zac{P:Program}{f:FuncId}{args:List PV}{p:PV}(H:Zam P f args Heap.nil (fun r h'=>View h' r p))(hp:Closed p)(hargs:Za8 args):Zgy P f args p:=by
 refine⟨H.1,hargs,fun g w vals r ha=>(H.2 g w vals r ha).mono ?_⟩;rintro x w' ⟨v,q,g',h',rfl,h1,h2,h3,h4⟩;have hno:∀b,¬Ze3 g Heap.nil b:=by rintro b ⟨id,ab,x,e,_⟩;simp[Heap.get,HL.get,Heap.nil]at e
 refine⟨v,(frz g' w' h').m,rfl,hp _ _ (h1 g' w' v h3 h2),⟨fun b o v e=>Zcl (h4.le.1 _ _ _ e),fun b o v e=>?_,fun b o v e=>?_,fun b e he=>Zet (h4.le.2.2 _ _ he),fun b e he=>(Zgc h3).mmem b e he,fun b e he=>?_⟩,⟨h4.os,h4.tape,h4.output,h4.size,fun k hk=>h4.block k hk (hno k)⟩⟩
 ·exact(Zgc h3).mem b o v e
 ·rcases Zjk e with e1|⟨e1,_⟩
  ·rcases h4.mem b o v e1 with e2|e2|e2
   ·exact .inl e2
   ·exact .inr e2
   ·exact(hno _ e2).elim
  ·rcases h4.own b e1 with e2|e2
   ·exact(hno _ e2).elim
   ·exact .inr e2
 ·rcases Zg5 he with e1|⟨e1,_⟩
  ·rcases h4.mmem b e e1 with e2|e2|e2
   ·exact .inl e2
   ·exact .inr e2
   ·exact(hno _ e2).elim
  ·rcases h4.own b e1 with e2|e2
   ·exact(hno _ e2).elim
   ·exact .inr e2
section
variable {P:Program} {f:FuncId} {args:List PV} {p:PV} {h:Heap}
theorem Rel.below{g:Gh}{w w':World}(r:Rel g w h){m':Mem}(hm:MemExt g w m' w')(hb:RowKit.Below w.heap.size w w'):Rel ⟨m',g.β⟩ w' h∧Evo g w h ⟨m',g.β⟩ w' h:=by
 have hle:g.le ⟨m',g.β⟩:=⟨hm.old,fun _ _ e=>e,hm.oldM⟩;refine⟨⟨hm.ok,hm.okM,r.fin,fun id ab e=>?_,r.apart⟩,⟨hle,hb.os,hb.tape,hb.output,hb.size,fun b h1 _=>hb.block b h1,fun b o v e=>(hm.new b o v e).imp id .inl,fun b e he=>(hm.newM b e he).imp id .inl,fun b ho=>.inl ho⟩⟩;rcases r.blk id ab e with h1|⟨b,o,n,z,h1,h2,h3,h4⟩
 ·exact .inl h1
 ·refine .inr ⟨b,o,n,z,h1,Nat.lt_of_lt_of_le h2 hb.size,fun hl=>⟨fun x=>?_,?_⟩,AB.ok_move h4 hle (hb.block b h2)⟩
  ·show m' b x=Option.none;cases hx:m' b x with
   |none=>rfl
   |some v=>
    rcases hm.new b x v hx with h5|h5
    ·rw[(h3 hl).1 x]at h5;cases h5
    ·omega
  ·show m'.mm b=Option.none;cases hx:m'.mm b with
   |none=>rfl
   |some e=>
    rcases hm.newM b e hx with h5|h5
    ·rw[(h3 hl).2]at h5;cases h5
    ·omega
def Zby(P:Program)(f:FuncId)(args:List PV)(h:Heap)(p:PV):Prop:=
 Zgy P f args p∨∃q,Zcx h args q∧Zgy P f q p∧Scalar p
theorem Zby.run(H:Zby P f args h p){g:Gh}{w:World}{vals:Array Value}(r:Rel g w h)(ha:Zm0 g vals args):
  Calls P f vals w fun x w'=>∃v g',x=.returned v∧Rep g' v p∧Rel g' w' h∧Evo g w h g' w' h:=by
 rcases H with H|⟨q,hv,H,hs⟩
 ·refine(H.2.2 g.bare w vals r.bare (H.2.1.args ha)).mono ?_;rintro x w' ⟨v,m',rfl,h1,h2,h3⟩;obtain⟨R,E⟩:=r.below (m':=m') (w':=w') ⟨h2.old,h2.ok,h2.new,h2.oldM,h2.okM,h2.newM⟩ h3;have hle:Gh.le ⟨m',fun _=>none⟩ ⟨m',g.β⟩:=⟨fun _ _ _ e=>e,(fun _ _ e=>by cases e),fun _ _ e=>e⟩;exact⟨v,⟨m',g.β⟩,rfl,h1.mono hle,R,E⟩
 ·refine(H.2.2 (frz g w h).bare w vals (Zgc r).bare (H.2.1.args (hv.args r ha))).mono ?_;rintro x w' ⟨v,m',rfl,h1,h2,h3⟩;obtain⟨R,E⟩:=r.below (m':=g.m) (w':=w') ⟨fun _ _ _ e=>e,fun b o v e=>h2.ok b o v (h2.old b o v (Zcl e)),fun _ _ _ e=>.inl e,fun _ _ e=>e,fun b e he=>h2.okM b e (h2.oldM b e (Zet he)),fun _ _ e=>.inl e⟩ h3;exact⟨v,_,rfl,hs _ _ h1 _,R,E⟩
theorem Zby.fn(H:Zby P f args h p):Ztr P f=true:=by
 rcases H with H|⟨q,hv,H,hs⟩<;>exact H.1
theorem Zby.call{K:PV→Heap→Prop}(H:Zby P f args h p)(hk:K p h):Zam P f args h K:=by
 refine⟨H.fn,fun g w vals r ha=>(H.run r ha).mono ?_⟩;rintro x w' ⟨v,g',rfl,h1,h2,h3⟩;exact⟨v,p,g',h,rfl,hk,h1,h2,h3⟩
theorem Zag{K:PV→Heap→Prop}(H:Zgy P f args p)(hk:K p h):Zam P f args h K:=Zby.call (.inl H) hk
theorem Xdj{K:PV→Heap→Prop}(q:List PV)(hv:Zcx h args q)(H:Zgy P f q p)(hs:Scalar p)(hk:K p h):Zam P f args h K:=Zby.call (.inr ⟨q,hv,H,hs⟩) hk
theorem Zam.mono{K K':PV→Heap→Prop}(H:Zam P f args h K)(hk:∀p h,K p h→K' p h):Zam P f args h K':=
 ⟨H.1,fun g w vals r ha=>(H.2 g w vals r ha).mono fun x w' ⟨v,p,g',h',h1,h2,h3⟩=>⟨v,p,g',h',h1,hk _ _ h2,h3⟩⟩
end
end Go.VM
