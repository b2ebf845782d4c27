import Derived.Test.YtldogpfookkbaaaGreatDoorVmAy
set_option linter.all false
namespace Go.VM
open Go
variable {P:Program} {o:Oper} {e:Env} {h:Heap} {K:PV→Heap→Prop}
theorem Zvb{t el:TypeId}{x y:Operand}{va vb:VA}{z n:Nat}{zr:List PV}{kx ky:IntKind}(ho:o.op=.makeSlice t x y)(ht:P.underlying t=some (.slice el))(hinf:((P.info? el).map fun i=>(i.size,Nat.ble i.bytes 1000))=some (z,true))(hzo:zeroOf P el=some zr)(hzl:zr.length=z)
  (hx:cA x=some va)(hy:cA y=some vb)(hvx:va.ev e=.int kx n)(hvy:vb.ev e=.int ky n)(hn:n≤1000000)(H:K (.own h.top 0 n) (h.push (.arr false z (List.replicate n zr)))):OpS P o e h K:=by
 obtain⟨i,hi,hi2⟩:=Option.map_eq_some_iff.1 hinf;simp only[Prod.mk.injEq]at hi2;obtain⟨hs,hb⟩:=hi2;have hb':i.bytes≤1000:=Zym hb;obtain⟨j,zv,hj,hz,hcs⟩:=Zes hzo;rw[hi]at hj;simp only[Zx0]at hj;subst hj;refine OpS.of_value fun g w a r he=>?_;obtain⟨zs,zc⟩:=Zdt (g:=g) hcs;have h1:=Zat he hx;have h2:=Zat he hy;rw[hvx]at h1;rw[hvy]at h2;generalize hax:a.eval x=ax at h1;generalize hay:a.eval y=ay at h2;cases h1;cases h2;have hbn:i.bytes*n≤1000*1000000:=Nat.mul_le_mul hb' hn;have hbi:((i.bytes:Int)*(n:Int))≤281474976710656:=by have:((i.bytes*n:Nat):Int)≤((1000*1000000:Nat):Int):=Int.ofNat_le.2 hbn;rw[Int.natCast_mul]at this;omega
 have hrun:=run_make (P:=P) w t el i zv ht hi hz kx ky (n:Int) (n:Int) (by omega) (Int.le_refl _) hbi (by omega);rw[hs,Zyk]at hrun;have hsz:=size_madeCells zv.cells (n*z);have hget:∀i j,i<n→j<z→(madeCells zv.cells (n*z)).toList.getD (i*z+j) Go.undef=zv.cells.getD j Go.undef:=fun i j hi hj=>by
  have hk:=Za7 hi hj;have hm:(i*z+j) % zv.cells.size=j:=by rw[zs,hzl,Nat.add_comm,Nat.add_mul_mod_self_right];exact Nat.mod_eq_of_lt hj
  have hjs:j<zv.cells.size:=by rw[zs,hzl];exact hj
  simp[madeCells,Zx1,hk,hm,hjs]
 obtain⟨g',f2,f3,f4,f5⟩:=Znn r (madeCells zv.cells (n*z)) el z (List.replicate n zr) (fun i hi=>by
   rw[List.length_replicate]at hi;simp[PV.row,Zx1,hi,hzl]) ⟨by rw[Array.length_toList,hsz,List.length_replicate],fun i j hi hj=>by
   rw[List.length_replicate]at hi;rw[hget i j hi hj];have e1:PV.row (List.replicate n zr) i=zr:=by simp[PV.row,Zx1,hi]
   rw[e1];exact zc j (by omega)⟩
 refine⟨.slice (some ⟨w.heap.size,0,none⟩) n n,_,g',_,_,?_,H,.own h.top 0 n n w.heap.size 0 _ z _ f3 (by simp) (Nat.le_refl _) (by rw[hsz];omega),f4,f5⟩;simp only[execOp,ho,hax,hay,Sem.run_bind,hrun,Result.andThen_ok];rfl
theorem Z30{w:World}{dT sT ty elem:TypeId}{i:TypeInfo}{g o n dCap:Nat}{cur:Array Value}{t:TypeId}{cs:List Value}{x:Value}(hu:P.underlying dT=some (.slice elem))(hi:P.info? elem=some i)
  (hg:w.heap[g]?=some (.cells cur t (0,0)))(hx:(Builtin.lenOf x).run P w=.ok n w)(hn:(Builtin.firstCells i.size n x).run P w=.ok cs.toArray w)(hfit:o+cs.length≤cur.size)(h1:∀v∈cs,v.oneCell'=true):
  (Builtin.copy_ #[dT,sT] ty #[.slice (some ⟨g,o,none⟩) n dCap,x]).run P w=.ok (goInt n) (w.setRow g (cur.toList.take o++cs++cur.toList.drop (o+cs.length)).toArray):=by
 have hst:=run_storeCells_at P g o t cs 0 cur w hg (by simpa using hfit) h1;simp only[Nat.add_zero]at hst;have hmin:Nat.min n n=n:=Nat.min_self n;simp[Builtin.copy_,run_underlying hu,hx,hmin,sizeOf,typeInfo,hi,hn,hst]
theorem Zzu{w:World}{dT sT ty elem:TypeId}{i:TypeInfo}{ao:Option Addr}{x:Value}(hu:P.underlying dT=some (.slice elem))(hi:P.info? elem=some i)
  (hx:(Builtin.lenOf x).run P w=.ok 0 w)(hn:(Builtin.firstCells i.size 0 x).run P w=.ok #[] w):
  (Builtin.copy_ #[dT,sT] ty #[.slice ao 0 0,x]).run P w=.ok (goInt 0) w:=by
 have hmin:Nat.min 0 0=0:=rfl;cases ao<;>simp[Builtin.copy_,run_underlying hu,hx,hmin,sizeOf,typeInfo,hi,hn,storeCells]
theorem Zvc{t t2 el:TypeId}{x y:Operand}{va vb:VA}{id n:Nat}{z:Nat}{es:List (List PV)}(ho:o.op=.call { callee:=.builtin .copy,args:=#[x,y],argTypes:=#[t,t2] })(ht:P.underlying t=some (.slice el))(hs:Zc2 P el=some z)
  (hx:cA x=some va)(hy:cA y=some vb)(hvx:va.ev e=.own id 0 n)(hg:h.get id=some (.arr false z es))(hes:es.length=n)(hso:Zf9 h false z (vb.ev e))(hl:(Zax h (vb.ev e)).length=n)
  (hset:h.set id (.arr false z es)=h)(H:K (.int .i64 n) (h.set id (.arr false z (Zax h (vb.ev e))))):OpS P o e h K:=by
 have H0:n=0→K (.int .i64 0) h:=fun hn=>by
  subst hn;rw[List.length_eq_zero_iff.1 hl,←List.length_eq_zero_iff.1 hes,hset]at H;exact H
 obtain⟨i,hi,hiz⟩:∃i,P.info? el=some i∧i.size=z:=by
  unfold Zc2 at hs;exact Option.map_eq_some_iff.1 hs
 refine OpS.of_value fun g w a r he=>?_;have h1:=Zat he hx;have h2:=Zat he hy;rw[hvx]at h1;obtain⟨hlen,hnews⟩:=Zr2 (P:=P) r h2 hso;have hrl:=Zm1 r h2 hso;rw[hl]at hlen hnews;obtain⟨cs,hc1,hc2⟩:=hnews w rfl;rw[←hiz]at hc1;rcases Zgb r h1 hg (by omega)with⟨rfl,ao,hv⟩|⟨cap,b,o',n',c,ty,hv,hβ,hcap,hfit,hlt,hw,hcn,hrows⟩
 ·have hcs:cs=[]:=by have:=hc2.1;rw[List.length_eq_zero_iff.1 hl]at this;simpa using this
  subst hcs;refine⟨goInt 0,.int .i64 0,g,w,h,?_,H0 rfl,.int _ _,r,Evo.refl _ _ _⟩;have:=Zzu (ty:=o.type) (sT:=t2) (ao:=ao) ht hi hlen hc1;simp[execOp,ho,resolve,invoke,builtin,hv,this]
 ·simp only[Nat.zero_mul,Nat.add_zero]at hv hfit hrows;have hcl:cs.length=n*z:=by rw[hc2.1,hl]
  have hcz:n*z≤cap*z:=Nat.mul_le_mul_right _ hcap;have hf2:o'+cs.length≤c.size:=by rw[hcl,hcn];omega
  have hrun:=Z30 (ty:=o.type) (sT:=t2) (dCap:=cap) ht hi hw hlen hc1 hf2 (Z1a hc2);have hheap:(w.setRow b (c.toList.take (o')++cs++c.toList.drop (o'+cs.length)).toArray).heap[b]?=some (.cells (c.toList.take (o')++cs++c.toList.drop (o'+cs.length)).toArray ty (0,0)):=setRow_heap w b c _ ty (0,0) hw;obtain⟨R,E⟩:=r.set (ab:=.arr false z (Zax h (vb.ev e))) hg rfl hβ (w.setRow b (c.toList.take (o')++cs++c.toList.drop (o'+cs.length)).toArray)
   (fun k _ hk=>by simp only[World.setRow,Array.getElem?_modify];rw[if_neg (Ne.symm hk)]) (by simp[World.setRow]) rfl rfl rfl rfl (by
    refine⟨rfl,fun k hk=>hrl _ (by simp only[PV.row,Zx1,Zye hk,Option.getD_some];exact Zyl hk),by rw[hl];omega,_,ty,hheap,by simp;omega,fun x y hx' hy=>?_⟩;obtain⟨e2,e3⟩:=hc2.2 x y hx' hy;have hk:=Za7 hx' hy;rw[hl]at hk;have e4:(c.toList.take (o')++cs++c.toList.drop (o'+cs.length)).toArray.getD (o'+x*z+y) Go.undef=cs.getD (x*z+y) Go.undef:=by
     have hl1:(c.toList.take (o')).length=o':=by simp;omega
     rw[Zx6,List.getElem?_toArray,List.append_assoc,List.getElem?_append_right (by rw[hl1];omega),hl1,List.getElem?_append_left (by rw[hcl];omega),Zx1]
     congr 2;omega
    rw[e4];exact⟨e2,e3,fun hh=>by cases hh⟩)
  refine⟨goInt n,.int .i64 n,g,_,_,?_,H,.int _ _,R,E⟩;have e1:(execOp a.eval o).run P w=((Builtin.copy_ #[t,t2] o.type #[a.eval x,a.eval y]).run P w).andThen fun v w'=>.ok (.value v) w':=by simp[execOp,ho,resolve,invoke,builtin]
  rw[e1,hv,hrun];rfl
section
variable {P:Program} {N:FK} {Q:Exit→Env→Heap→Prop} {e:Env} {h:Heap}
end
theorem Zam.frzR{P:Program}{f:FuncId}{args:List PV}{h:Heap}{K:PV→Heap→Prop}
  (H:Zam P f args h (fun p h'=>∃(l1 l2:List (Nat×AB)) (t:Nat) (q:PV),Heap.le ⟨l1++l2,t⟩ h'∧(∀x∈l2,∀y∈l1,x.1≠y.1)∧(∀x∈l2,∀fz z,x.2≠.arr fz z [])∧View ⟨l1,t⟩ p q∧K q ⟨l2,t⟩)):Zam P f args h K:=by
 refine⟨H.1,fun g w vals r ha=>(H.2 g w vals r ha).mono ?_⟩;rintro x w' ⟨v,p,g',h',rfl,⟨l1,l2,t,q,hh,h1,hc,hv,hk⟩,rep,r',ev⟩;have r0:=r'.weaken hh;have hb:Beside l1 l2:=⟨fun id ab e=>HL.get_no (h1 _ (HL.get_mem e)),fun id fz z e=>hc _ (HL.get_mem e) fz z rfl⟩;have r1:Rel g' w' ⟨l1,t⟩:=⟨r0.mem,r0.mmem,fun id hid=>⟨(r0.fin id hid).1,by
   have:=(r0.fin id hid).2;cases e:HL.get l1 id with
   |none=>exact e
   |some ab=>simp only[Heap.get,HL.get_app_l e]at this;cases this⟩,
  fun id ab e=>r0.blk id ab (HL.get_app_l e),fun id id' x x' ab ab' hne e e'=>r0.apart id id' x x' ab ab' hne (HL.get_app_l e) (HL.get_app_l e')⟩
 obtain⟨R,E⟩:=Zug hb r0 (Zgc r1) (Zse (h:=⟨l1,t⟩)) (Nat.le_refl t) (fun _ _=>rfl) (fun id ab e=>by simp[Heap.get,HL.get]at e);exact⟨v,q,frz g' w' ⟨l1,t⟩,⟨l2,t⟩,rfl,hk,hv _ _ _ r1 rep,R,ev.trans (E.weakenL hh)⟩
end Go.VM
