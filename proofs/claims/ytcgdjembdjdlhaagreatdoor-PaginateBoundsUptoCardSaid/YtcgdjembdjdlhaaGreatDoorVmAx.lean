import Derived.Test.YtcgdjembdjdlhaaGreatDoorVmZ
import Derived.Laws.MakeOwn
set_option linter.all false
namespace Go.VM
open Go
variable {P : Program} {o : Oper} {e : Env} {h : Heap} {K : PV → Heap → Prop}
theorem OpS_make {t el : TypeId} {x y : Operand} {va vb : VA} {n : Nat} {kx ky : IntKind} (ho : o.op = .makeSlice t x y) (ht : P.underlying t = some (.slice el)) (hinf : ((P.info? el).map fun i => (i.zero, i.size, i.bytes)) = some (some (.int .i64 0), 1, 8))
  (hx:cA x=some va) (hy:cA y=some vb) (hvx:va.ev e=.int kx n) (hvy:vb.ev e=.int ky n) (hn:n≤1000000) (H:K (.own h.top 0 n) (h.push (.arr false 1 (List.replicate n [PV.int .i64 0])))):OpS P o e h K:=by
 obtain ⟨i,hi,hi2⟩:=Option.map_eq_some_iff.1 hinf;simp only [Prod.mk.injEq] at hi2;obtain ⟨hz,hs,hb⟩:=hi2;refine OpS.of_value fun g w a r he=>?_;have h1:=Zas he hx;have h2:=Zas he hy;rw [hvx] at h1;rw [hvy] at h2;generalize hax:a.eval x=ax at h1;generalize hay:a.eval y=ay at h2;cases h1;cases h2;have hrun:=run_make (P:=P) w t el i (.int .i64 0) ht hi hz kx ky (n:Int) (n:Int) (by omega) (Int.le_refl _) (by rw [hb];omega) (by omega);rw [hs,Nat.mul_one,Int.toNat_natCast] at hrun;have hsz:=size_madeCells (Value.int .i64 0).cells n;have hget:∀ j,j<n→(madeCells (Value.int .i64 0).cells n).toList.getD j Go.undef=.int .i64 0:=fun j hj=>by
  simp [madeCells,Value.cells,List.getD_eq_getElem?_getD,hj,Nat.mod_one]
 obtain ⟨g', f2, f3, f4, f5⟩ := new_row r (madeCells (Value.int .i64 0).cells n) el 1 (List.replicate n [PV.int .i64 0]) (fun i hi => by
   rw [List.length_replicate] at hi;simp [PV.row,List.getD_eq_getElem?_getD,hi]) ⟨by rw [Array.length_toList,hsz,List.length_replicate,Nat.mul_one],fun i j hi hj=>by
   rw [List.length_replicate] at hi;obtain rfl:j=0:=by omega
   rw [Nat.mul_one,Nat.add_zero,hget i hi];refine ⟨rfl,?_⟩;have:PV.nth (PV.row (List.replicate n [PV.int .i64 0]) i) 0=.int .i64 0:=by simp [PV.row,PV.nth,List.getD_eq_getElem?_getD,hi]
   rw [this];exact .int _ _⟩
 refine ⟨.slice (some ⟨w.heap.size,0,none⟩) n n,_,g',_,_,?_,H,.own h.top 0 n n w.heap.size 0 _ 1 _ f3 rfl (Nat.le_refl _) (by rw [hsz];omega),f4,f5⟩;simp only [execOp,ho,hax,hay,Sem.run_bind,hrun,Result.andThen_ok];rfl
end Go.VM
