import Derived.Test.YtldogpfookkbaaaGreatDoorB6
import Derived.Test.YtldogpfookkbaaaGreatDoorShAll
import Derived.Test.YtldogpfookkbaaaGreatDoorVmAg
import Derived.Lib.SlKeysI
import Derived.Lib.RowBridge
import Derived.Test.YtldogpfookkbaaaGreatDoorVmBa
set_option linter.all false
namespace Go.Proofs.YtldogpfookkbaaaGreatDoor.w
open Go Go.RowKit Go.Shelf Go.Sort Go.VM
set_option maxRecDepth 100000
theorem ints_cells {g:Gh} {w:World} {h:Heap} (r:Rel g w h) {v:Value} {l:List Int} (hv:Rep g v (.sl 1 (l.map fun x=>[pI x]))):IntsAt w.heap.size w v l:=by
 generalize hes:l.map (fun x=>[pI x])=es at hv;cases hv with
 | slE a cap z=>exact .inl ⟨a,cap,rfl,by simpa using hes⟩
 | sl b o len cap z a es vs ha hl hc hz hm hr =>
  subst hes;subst ha;have hlen:l.length=len:=by simpa using hl
  subst hlen;by_cases h0:l=[]
  ·subst h0;exact .inl ⟨_,_,rfl,rfl⟩
  ·have h1:0<l.length:=List.length_pos_iff.2 h0;have cell:∀ j,j<l.length→w.cell? ⟨b,o+j,none⟩=some (.int .i64 (l[j]?.getD 0)):=by
    intro j hj;have k1:=hm j 0 hj (by omega);have k2:=hr j 0 hj (by omega);have e:PV.nth (PV.row (l.map fun x=>[pI x]) j) 0=pI l[j]:=by simp [PV.row,PV.nth,List.getD_eq_getElem?_getD,hj]
    rw [e] at k2;obtain hk:=k2.int_inv;have k3:=(r.mem _ _ _ k1).1;rw [hk] at k3
    simpa [hj] using k3
   refine .inr ⟨b,o,cap,rfl,?_,cell⟩;have:=cell 0 h1;rcases Nat.lt_or_ge b w.heap.size with h2|h2
   ·exact h2
   ·simp [World.cell?,Array.getElem?_eq_none h2] at this
set_option maxHeartbeats 4000000 in
theorem sorted_calls (g : Nat) (lb : Array Value) (eg : ∀ args w, (callFunc g args).run Tryz.prog w = .ok (.enter g args) w) (S Sp : List Int → Prop) (N : Nat) (hN : N ≤ 1000000) (hS : ∀ l, S l → l.length ≤ N) (w : World)
  (hseq:SeqStopsK Fence.wide 1 Tryz.prog g lb (fun x:Int=>#[Value.int .i64 x]) (Below w.heap.size) S Sp N w) :
  Calls Tryz.prog 27 #[.func (.func g) #[] lb] w fun e w'=>∃ (v:Value) (ss:List Int),e=.returned v∧S ss∧w'.ownsRow w.heap.size 3 1 v ss.length ((srtI ss).map (Value.int .i64))∧Below w.heap.size w w':=by
 have hm:N≤maxLen:=Nat.le_trans hN (by decide);have C:=fun w0 (h0:w0=w)=>(callsIn_wide (n:=3)).1 (collect_in Fence.wide 3 trivial trivial rfl (by omega) g lb trivial eg S Sp N hm (by omega) hS w hseq)
 go_enter Tryz.func27,Tryz.ntmps27
 go_wp2_with (go_at_call 50;refine (C _ rfl).mono ?_;rintro e W ⟨v,ss,rfl,hSs,hrow,hnil,hb⟩)
 rcases hrow.2 with ⟨rfl,hz⟩|⟨gb,cap,cur,rfl,hbase,hgb,r1,r2,r3,r4⟩
 ·have hss:ss=[]:=List.eq_nil_of_length_eq_zero hz;subst hss
  go_wp2_with (go_at_call 51;refine (Tryz.slices_Sort_int_none none 0 W).mono ?_;rintro e w' ⟨rfl,rfl⟩)
  go_ret
  exact ⟨.slice none 0 0,[],rfl,hSs,by simpa [srtI] using hrow,hb⟩
 ·have hH:Holds (Value.int .i64) W gb 0 ss.toArray:=holds_of_block_i hgb (by simpa using r4);have hgl:gb<W.heap.size:=(Array.getElem?_eq_some_iff.1 hgb).1;have hlen:=hS ss hSs;have cS:=Tryz.slices_Sort_int gb 0 cap ss W hH hgl (by omega)
  go_wp2_with (go_at_call 51;refine cS.mono ?_;rintro e w' ⟨rfl,nn,os,rfl⟩)
  go_ret
  exact ⟨_,ss,rfl,hSs,ownsRow_sorted_i (by simp [srtI]) hbase hgb r1 r2 r3,hb.grown (grownBy_sorted_i _) hb.size (fun j hj=>by cases hj;exact hbase)⟩
end Go.Proofs.YtldogpfookkbaaaGreatDoor.w
