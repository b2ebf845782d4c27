import Derived.Test.YtjmekckcffckoabGreatDoorP3
import Derived.Test.YtjmekckcffckoabGreatDoorSp
import Derived.Test.YtjmekckcffckoabGreatDoorShAll
import Derived.Test.YtjmekckcffckoabGreatDoorVmAg
import Derived.Lib.SlKeysI
import Derived.Lib.RowBridge
set_option linter.all false
namespace Go.Proofs.YtjmekckcffckoabGreatDoor.w
open Go Go.RowKit Go.Shelf Go.Sort Go.VM
set_option maxRecDepth 100000
theorem ints_cells {g:Gh} {w:World} {h:Heap} (r:Rel g w h) {v:Value} {l:List Int} (hv:Rep g v (.sl 1 (l.map fun x=>[pI x]))):IntsAt w.heap.size w v l:=by
  generalize hes:l.map (fun x=>[pI x]) = es at hv
  cases hv with
  | slE a cap z=>exact .inl ⟨a,cap,rfl,by simpa using hes⟩
  | sl b o len cap z a es vs ha hl hc hz hm hr =>
    subst hes
    subst ha
    have hlen:l.length = len:=by simpa using hl
    subst hlen
    by_cases h0:l = []
    · subst h0; exact .inl ⟨_,_,rfl,rfl⟩
    · have h1:0 < l.length:=List.length_pos_iff.2 h0
      have cell:∀ j,j < l.length → w.cell? ⟨b,o + j,none⟩ = some (.int .i64 (l[j]?.getD 0)):=by
        intro j hj
        have k1:=hm j 0 hj (by omega)
        have k2:=hr j 0 hj (by omega)
        have e:PV.nth (PV.row (l.map fun x=>[pI x]) j) 0 = pI l[j]:=by simp [PV.row,PV.nth,List.getD_eq_getElem?_getD,hj]
        rw [e] at k2
        obtain hk:=k2.int_inv
        have k3:=(r.mem _ _ _ k1).1
        rw [hk] at k3
        simpa [hj] using k3
      refine .inr ⟨b,o,cap,rfl,?_,cell⟩
      have:=cell 0 h1
      rcases Nat.lt_or_ge b w.heap.size with h2 | h2
      · exact h2
      · simp [World.cell?,Array.getElem?_eq_none h2] at this
set_option maxHeartbeats 4000000 in
theorem sorted_calls (g : Nat) (lb : Array Value) (eg : ∀ args w, (callFunc g args).run Tryz.prog w = .ok (.enter g args) w) (S Sp : List Int → Prop) (N : Nat) (hN : N ≤ 1000000) (hS : ∀ l, S l → l.length ≤ N) (w : World)
    (hseq:SeqStopsK Fence.wide 1 Tryz.prog g lb (fun x:Int=>#[Value.int .i64 x]) (Below w.heap.size) S Sp N w) :
    Calls Tryz.prog 50 #[.func (.func g) #[] lb] w fun e w'=>∃ (v:Value) (ss:List Int),e = .returned v ∧ S ss ∧ w'.ownsRow w.heap.size 3 1 v ss.length ((srtI ss).map (Value.int .i64)) ∧ Below w.heap.size w w':=by
  have hm:N ≤ maxLen:=Nat.le_trans hN (by decide)
  have C:=fun w0 (h0:w0 = w)=>(callsIn_wide (n:=3)).1 (collect_in Fence.wide 3 trivial trivial rfl (by omega) g lb trivial eg S Sp N hm (by omega) hS w hseq)
  go_enter Tryz.func50,Tryz.ntmps50
  go_wp2_with (go_at_call 78; refine (C _ rfl).mono ?_; rintro e W ⟨v,ss,rfl,hSs,hrow,hnil,hb⟩)
  rcases hrow.2 with ⟨rfl,hz⟩ | ⟨gb,cap,cur,rfl,hbase,hgb,r1,r2,r3,r4⟩
  · have hss:ss = []:=List.eq_nil_of_length_eq_zero hz
    subst hss
    go_wp2_with (go_at_call 79; refine (Tryz.slices_Sort_int_none none 0 W).mono ?_; rintro e w' ⟨rfl,rfl⟩)
    go_ret
    exact ⟨.slice none 0 0,[],rfl,hSs,by simpa [srtI] using hrow,hb⟩
  · have hH:Holds (Value.int .i64) W gb 0 ss.toArray:=holds_of_block_i hgb (by simpa using r4)
    have hgl:gb < W.heap.size:=(Array.getElem?_eq_some_iff.1 hgb).1
    have hlen:=hS ss hSs
    have cS:=Tryz.slices_Sort_int gb 0 cap ss W hH hgl (by omega)
    go_wp2_with (go_at_call 79; refine cS.mono ?_; rintro e w' ⟨rfl,nn,os,rfl⟩)
    go_ret
    exact ⟨_,ss,rfl,hSs,ownsRow_sorted_i (by simp [srtI]) hbase hgb r1 r2 r3,hb.grown (grownBy_sorted_i _) hb.size (fun j hj=>by cases hj; exact hbase)⟩
theorem putCells_at (c:Array Value) (d:Array Int) (j:Nat) (h:j < d.size) (hc:j < c.size):(putCells (Value.int .i64) 0 d c)[j]? = some (.int .i64 d[j]!):=by
  simp [putCells,h,hc]
set_option maxHeartbeats 4000000 in
theorem sp_concordance_once (l:List Int) (hl:l.length ≤ 1000000):PCall Tryz.prog 25 [.sl 1 (l.map fun x=>[pI x])] (.sl 1 ((Zcd l).map fun x=>[pI x])):=by
  refine ⟨by kernel_rfl,by intro x hx; rw [List.mem_singleton] at hx; subst hx; exact closed_sc _,fun g w vals r ha=>?_⟩
  obtain ⟨v0,rfl,hv⟩:=args_1 ha
  have hI:=ints_cells r hv
  have key:Calls Tryz.prog 25 #[v0] w fun e w'=>(e = .returned (.slice none 0 0) ∧ Zcd l = [] ∧ Below w.heap.size w w') ∨ (∃ gb cap cur,e = .returned (.slice (some ⟨gb,0,none⟩) (Zcd l).length cap) ∧ w.heap.size ≤ gb ∧ w'.heap[gb]? = some (.cells cur 3 (0,0)) ∧ (Zcd l).length ≤ cap ∧ (∀ j,j < (Zcd l).length → cur[j]? = some (.int .i64 ((Zcd l).getD j 0))) ∧ Below w.heap.size w w'):=by
    have hsl:∃ a len cap,v0 = .slice a len cap:=by
      rcases hI with ⟨a,cap,rfl,_⟩ | ⟨b,off,cap,rfl,_⟩
      · exact ⟨_,_,_,rfl⟩
      · exact ⟨_,_,_,rfl⟩
    obtain ⟨a,len,cap0,rfl⟩:=hsl
    have CV:=fun w0=>(callsIn_wide (n:=1)).1 (values_in Fence.wide 1 trivial rfl a len cap0 w0)
    have CS:=fun w1 (hw:w1 = w.alloc (.cells #[.slice a len cap0] 22)) =>
      sorted_calls 80 #[.pointer (some ⟨w.heap.size,0,none⟩)] (enters_of Tryz.func80 (by kernel_rfl) rfl) (fun ys=>ys = l) (fun pre=>pre <+: l) l.length hl (fun _ h=>by rw [h]; exact Nat.le_refl _) w1
        (values_stops Fence.wide 1 trivial rfl (Nat.le_refl _) w.heap.size w1.heap.size (.slice a len cap0) l (by omega) w1 (by rw [hw]; simp) (Nat.le_refl _) (by rw [hw]; exact (Boxed.new w 22 (.slice a len cap0)).cell) (by
          have hb:Below w.heap.size w w1:=by rw [hw]; exact (Below.refl _ w).alloc (Nat.le_refl _) _
          rcases hI.below hb with ⟨a',cap',e1,e2⟩ | ⟨b,off,cap',e1,hb',hc⟩
          · exact .inl ⟨a',cap',e1,e2⟩
          · exact .inr ⟨b,off,cap',e1,Nat.lt_of_lt_of_le hb' hb.size,hc⟩))
    have hb0:Below w.heap.size w (w.alloc (.cells #[.slice a len cap0] 22)):=(Below.refl _ w).alloc (Nat.le_refl _) _
    go_enter Tryz.func25,Tryz.ntmps25
    go_wp2_with (first
      | (go_at_call 51; refine (CV _).mono ?_; rintro e w1 ⟨rfl,rfl⟩)
      | (go_at_call 50; refine (CS _ rfl).mono ?_; rintro e w2 ⟨v,ss,rfl,rfl,hrow,hb2⟩))
    have hsz0:(w.alloc (.cells #[.slice a len cap0] 22)).heap.size = w.heap.size + 1:=by simp
    have hb3:Below w.heap.size w w2:=hb0.trans (hb2.mono (by omega))
    rcases hrow.2 with ⟨rfl,hz⟩ | ⟨gb,cap,cur,rfl,hbase,hgb,r1,r2,r3,r4⟩
    · have hss:ss = []:=List.eq_nil_of_length_eq_zero hz
      subst hss
      go_wp2_with (go_at_call 49; refine (Tryz.slices_Compact_int_empty none 0 w2).mono ?_; rintro e w3 ⟨rfl,rfl⟩)
      go_ret
      exact .inl ⟨rfl,List.eq_nil_of_length_eq_zero (by have:=onceI_len ([]:List Int); simpa using this),hb3⟩
    · have hzl:(srtI ss).length = ss.length:=by simp [srtI]
      have hcl:=Lib.compact_length_le (srtI ss)
      have hH:Holds (Value.int .i64) w2 gb 0 (srtI ss).toArray:=holds_of_block_i hgb (by rw [hzl]; simpa using r4)
      have cC:=Tryz.slices_Compact_int gb 0 cap (srtI ss) w2 hH (by omega) (by omega)
      rw [hzl] at cC
      have hgo:Zcd ss = Lib.compact (srtI ss):=rfl
      generalize hD:Lib.compact (srtI ss) ++ List.replicate (ss.length - (Lib.compact (srtI ss)).length) 0 = Dz at cC
      have hDl:Dz.length = ss.length:=by rw [← hD]; simp; omega
      have hDg:∀ j,j < (Zcd ss).length → Dz.getD j 0 = (Zcd ss).getD j 0:=fun j hj=>by
        rw [← hD,hgo,List.getD_eq_getElem?_getD,List.getD_eq_getElem?_getD,List.getElem?_append_left (by rw [hgo] at hj; exact hj)]
      go_wp2_with (go_at_call 49; refine cC.mono ?_; rintro e w3 ⟨rfl,q,rfl⟩)
      go_ret
      refine .inr ⟨gb,cap,putCells (Value.int .i64) 0 Dz.toArray cur,rfl,by omega,?_,by rw [hgo]; omega,?_,?_⟩
      · have:=heap_sorted_i (n:=q) (os:=#[]) Dz.toArray hgb
        rw [grow_empty] at this
        exact this
      · intro j hj
        have h1:j < Dz.length:=by rw [hDl]; rw [hgo] at hj; omega
        rw [putCells_at _ _ j (by simpa using h1) (by omega),← hDg j hj]
        simp [h1]
      · have:=grownBy_sorted_i (w:=w2) (g:=gb) (n:=q) (os:=#[]) Dz.toArray
        rw [grow_empty] at this
        exact hb3.grown this hb3.size (fun k e=>by cases e; omega)
  refine key.mono ?_
  rintro e w' (⟨rfl,h0,hb⟩ | ⟨gb,cap,cur,rfl,h1,h2,h3,h4,hb⟩)
  · rw [h0]
    exact ⟨_,g.m,rfl,.slE _ _ _,Zc2 r hb,hb⟩
  · have hlen:((Zcd l).map (Value.int .i64)).length = (Zcd l).length:=by simp
    have hget:∀ j,j < (Zcd l).length → ((Zcd l).map (Value.int .i64)).getD j Go.undef = .int .i64 ((Zcd l).getD j 0):=fun j hj=>by
      simp [List.getD_eq_getElem?_getD,hj]
    obtain ⟨m', hr, hm⟩ := row_result r hb ((Zcd l).map (Value.int .i64)) ((Zcd l).map pI) (by simp) (fun j hj g => by
        rw [hlen] at hj
        rw [hget j hj]
        have:PV.nth ((Zcd l).map pI) j = pI ((Zcd l).getD j 0):=by simp [PV.nth,List.getD_eq_getElem?_getD,hj]
        rw [this]
        exact .int _ _) (fun j hj=>by rw [hlen] at hj; rw [hget j hj]; rfl) h1 h2 (by rw [hlen]; exact h3) (fun j hj=>by rw [hlen] at hj; rw [hget j hj]; exact h4 j hj)
    rw [hlen,List.map_map] at hr
    exact ⟨_,m',rfl,hr,hm,hb⟩
end Go.Proofs.YtjmekckcffckoabGreatDoor.w
