import Derived.Lib.Builder
import Derived.Lib.AppendStr
import Derived.WalkKit
import Derived.Lib.UnsafeStr
import Derived.Test.YtjmekckcffckoaaDoorVmAq
import Derived.Test.YtjmekckcffckoaaDoorChecked
import Derived.Test.YtjmekckcffckoaaDoorA4
import Derived.Test.YtjmekckcffckoaaDoorVmQ
import Derived.Test.YtjmekckcffckoaaDoorVmJ
import Derived.Test.YtjmekckcffckoaaDoorVmG
import Derived.Test.YtjmekckcffckoaaDoorE1
import Derived.Test.YtjmekckcffckoaaDoorW4
import Derived.Test.YtjmekckcffckoaaDoorVmD
import Derived.Test.YtjmekckcffckoaaDoorRows
import Derived.Lib.LaidTab
import Derived.LaidSub
import Derived.Lib.ItoaNum
set_option linter.all false
namespace Go.Proofs.YtjmekckcffckoaaDoor.w
open Go Go.RowKit Go.VM
set_option maxRecDepth 100000
theorem sizeB:∃ j,Tryd.prog.info? 76 = some j ∧ j.size = 2:=by
  have h:(Tryd.prog.info? 76).map (·.size) = some 2:=by kernel_rfl
  obtain ⟨j,h1,h2⟩:=Option.map_eq_some_iff.1 h
  exact ⟨j,h1,h2⟩
theorem liesB:liesAt Tryd.prog Tryd.prog.depth 76 (2 / Tryd.prog.cellsOf 76) 0 76 1 = true:=by kernel_rfl
set_option maxHeartbeats 2000000 in
theorem bld_used (b : Nat) (w : World) (h0 : w.cell? ⟨b, 0, none⟩ = some (.pointer (some ⟨b, 0, none⟩))) :
    Calls Tryd.prog 67 #[.pointer (some ⟨b,0,none⟩)] w fun e w'=>e = .returned (.tuple #[]) ∧ w' = w:=by
  obtain ⟨j,hj,hjs⟩:=sizeB
  go_enter Tryd.func67,Tryd.ntmps67
  go_wp2
  rw [Lib.run_neq_ptr_same w _ Tryd.underlying74 hj]
  go_wp2
  go_end0
  exact ⟨rfl,rfl⟩
set_option maxHeartbeats 2000000 in
theorem bld_fresh (b : Nat) (w : World) (h0 : w.cell? ⟨b, 0, none⟩ = some (.pointer none)) (hsh : w.shape? b = some (76, 2)) (hfz : w.frozen? ⟨b, 0, none⟩ = false) :
    Calls Tryd.prog 67 #[.pointer (some ⟨b,0,none⟩)] w fun e w'=>e = .returned (.tuple #[]) ∧ w' = w.setCell ⟨b,0,none⟩ (.pointer (some ⟨b,0,none⟩)):=by
  obtain ⟨j,hj,hjs⟩:=sizeB
  go_enter Tryd.func67,Tryd.ntmps67
  go_wp2
  rw [Lib.run_to_unsafe w ⟨b,0,none⟩ Tryd.underlying74 Tryd.underlying115 hj (by rw [hjs]; decide) hsh (Nat.zero_lt_succ 1)]
  simp only [Result.andThen]
  rw [Oper.upon_value]
  go_wp2
  rw [run_callFunc_extern Tryd.func81 (by kernel_rfl) (by kernel_rfl) (by kernel_rfl) (e:=Extern.AbiNoEscape.same) (by kernel_rfl)]
  rw [Lib.run_noEscape]
  simp only [Result.andThen]
  rw [Oper.upon_value]
  go_wp2
  rw [Lib.run_from_unsafe w ⟨b,0,none⟩ Tryd.underlying115 Tryd.underlying74 hj hsh liesB]
  simp only [Result.andThen]
  rw [Oper.upon_value]
  go_wp2
  go_end0
  exact ⟨rfl,rfl⟩
theorem cell0_of {w:World} {b:Nat} {p v:Value} {T:TypeId} (h:w.heap[b]? = some (.cells #[p,v] T (0,0))):w.cell? ⟨b,0,none⟩ = some p:=by rw [Lib.cell_of_heap h]; rfl
theorem bld_check2 (b : Nat) (p v : Value) (w : World) (h : w.heap[b]? = some (.cells #[p, v] 76 (0, 0))) (hp : p = .pointer none ∨ p = .pointer (some ⟨b, 0, none⟩)) :
    Calls Tryd.prog 67 #[.pointer (some ⟨b,0,none⟩)] w fun e w'=>e = .returned (.tuple #[]) ∧ (w' = w ∨ w' = w.setCell ⟨b,0,none⟩ (.pointer (some ⟨b,0,none⟩))) ∧ w'.heap[b]? = some (.cells #[.pointer (some ⟨b,0,none⟩),v] 76 (0,0)):=by
  rcases hp with rfl | rfl
  · exact (bld_fresh b w (cell0_of h) (by simp [World.shape?,h]) (by simp [World.frozen?,h])).mono fun e w' ⟨h1,h2⟩=>⟨h1,.inr h2,by rw [h2]; simp [World.setCell,Array.getElem?_modify,h]⟩
  · exact (bld_used b w (cell0_of h)).mono fun e w' ⟨h1,h2⟩=>⟨h1,.inl h2,by rw [h2]; exact h⟩
theorem infoU:(Tryd.prog.info? 5).map (fun i=>(i.zero,i.size,i.bytes)) = some (some (.int .u8 0),1,1):=by kernel_rfl
set_option maxHeartbeats 4000000 in
theorem bld_write2 (w : World) (b : Nat) (p v : Value) (bs : List Value) (x : ByteArray) (hbk : w.heap[b]? = some (.cells #[p, v] 76 (0, 0))) (hp : p = .pointer none ∨ p = .pointer (some ⟨b, 0, none⟩)) (hown : w.ownsRow 0 5 1 v bs.length bs) (hne : v.ownBlock ≠ some b) (hlen : bs.length + x.size ≤ 1000000000) :
    Calls Tryd.prog 48 #[.pointer (some ⟨b,0,none⟩),.string x] w fun e w'=>e = .returned (.tuple #[.int .i64 x.size,.nilIface]) ∧ Wrote 76 5 b p v bs (Lib.strCells x) w w':=by
  obtain ⟨i0,hi,hz0,hz1,hz2⟩:=info_parts infoU
  go_enter Tryd.func48,Tryd.ntmps48
  go_wp2_with (go_at_call 67; refine (bld_check2 b p v _ hbk hp).mono ?_)
  rintro e w1 ⟨rfl,hw1,hb1⟩
  have hown1:w1.ownsRow 0 5 1 v bs.length bs:=by
    rcases hw1 with rfl | rfl
    · exact hown
    · exact hown.kept (row:=some b) ⟨rfl,rfl,rfl,by simp [World.setCell],fun k _ hk=>Below.heap_setCell _ _ _ _ (fun e=>hk (by simp [e]))⟩ (Or.inr hne)
  have k0:w1.cell? ⟨b,0,none⟩ = some (.pointer (some ⟨b,0,none⟩)):=by rw [Lib.cell_of_heap hb1]; rfl
  have k1:w1.cell? ⟨b,1,none⟩ = some v:=by rw [Lib.cell_of_heap hb1]; rfl
  go_wp2_with (at_builtin; refine wpList_append_own_string2 rfl _ _ 45 9 rfl 5 i0 Tryd.underlying45 Tryd.underlying9 hi hz0 hz1 hz2 _ _ _ rfl hown1 x rfl ?c3 ?c4 ?_)
  case c3=>unfold maxLen; omega
  case c4=>omega
  intro v2 w2 own2 grow2 hnil2 hnew2
  have hlt:b < w1.heap.size:=(Array.getElem?_eq_some_iff.1 hb1).1
  have blk2:w2.heap[b]? = some (.cells #[.pointer (some ⟨b,0,none⟩),v] 76 (0,0)):=by
    rw [grow2.block b hlt (fun e=>hne e.symm)]
    exact hb1
  have m0:w2.cell? ⟨b,0,none⟩ = some (.pointer (some ⟨b,0,none⟩)):=by rw [Lib.cell_of_heap blk2]; rfl
  have m1:w2.cell? ⟨b,1,none⟩ = some v:=by rw [Lib.cell_of_heap blk2]; rfl
  have f1:w2.frozen? ⟨b,1,none⟩ = false:=Lib.frozen_of_heap blk2 1
  obtain ⟨ao,n',cap,rfl⟩:∃ ao n' cap,v2 = .slice ao n' cap:=by
    rcases own2.2 with ⟨hv,_⟩ | ⟨g,cap,cur,hv,_⟩ <;> exact ⟨_,_,_,hv⟩
  go_wp2
  go_ret2
  exact ⟨rfl,⟨_,w1,w2,hw1,hb1,grow2,by rw [Lib.strCells_length]; exact own2,by rw [Lib.strCells_length]; simpa using hnil2,hnew2,rfl⟩⟩
theorem cellsU:Tryd.prog.cellsOf 5 = 1:=by kernel_rfl
theorem grown_drew (w:World) (r:Option Nat):w.grownBy w.drew r:=⟨rfl,rfl,rfl,Nat.le_refl _,fun _ _ _=>rfl⟩
theorem grown_freeze (w:World) (g n:Nat):w.grownBy (w.drew.freeze ⟨g,0,none⟩ n) (some g):=by
  unfold World.freeze
  split
  · exact grown_drew _ _
  · refine ⟨rfl,rfl,rfl,Nat.le_of_eq (by simp only [Array.size_modify]; rfl),fun k hk hne=>?_⟩
    simp only [Array.getElem?_modify]
    rw [if_neg (fun e=>hne (by rw [← e]))]
    rfl
set_option maxHeartbeats 4000000 in
theorem bld_string2 (w : World) (b : Nat) (p v : Value) (l : List UInt8) (hbk : w.heap[b]? = some (.cells #[p, v] 76 (0, 0))) (hown : w.ownsRow 0 5 1 v l.length (Za7 l)) (hnil : v = .slice none 0 0 ↔ l = []) :
    Calls Tryd.prog 50 #[.pointer (some ⟨b,0,none⟩)] w fun e w'=>e = .returned (.string ⟨l.toArray⟩) ∧ w.grownBy w' v.ownBlock:=by
  by_cases h0:l = []
  · subst h0
    have hv:=hnil.2 rfl
    subst hv
    have hUS:∀ (W:World) (q:Option Addr),(Builtin.unsafeString_ #[104,3] 9 #[.pointer q,.int .i64 0]).run Tryd.prog W = .ok (.string .empty) W:=fun W q=>Lib.run_unsafeString_none W _ _ _ q
    have c1:w.drew.cell? ⟨b,1,none⟩ = some (.slice none 0 0):=by
      have:w.drew.heap[b]? = some (.cells #[p,.slice none 0 0] 76 (0,0)):=hbk
      rw [Lib.cell_of_heap this]; rfl
    have hSD:(Builtin.unsafeSliceData_ #[45] 104 #[.slice none 0 0]).run Tryd.prog w.drew = .ok (.pointer none) w.drew:=rfl
    go_enter Tryd.func50,Tryd.ntmps50
    go_wp2
    go_region
    all_goals (go_wp2; go_ret; exact ⟨rfl,grown_drew _ _⟩)
  · have hl0:l.length ≠ 0:=by simpa using h0
    obtain ⟨g,cap,cur,rfl,_,hg,hnc,hcm,hcs,htake⟩:∃ g cap cur,v = .slice (some ⟨g,0,none⟩) l.length cap ∧ 0 ≤ g ∧ w.heap[g]? = some (.cells cur 5 (0,0)) ∧ l.length ≤ cap ∧ cap ≤ maxLen ∧ cur.size = cap * 1 ∧ cur.toList.take (l.length * 1) = Za7 l:=by
      rcases hown.2 with ⟨_,hz⟩ | ⟨g,cap,cur,hv,r⟩
      · exact absurd hz hl0
      · exact ⟨g,cap,cur,hv,r⟩
    have c1:w.drew.cell? ⟨b,1,none⟩ = some (.slice (some ⟨g,0,none⟩) l.length cap):=by
      have:w.drew.heap[b]? = some (.cells #[p,.slice (some ⟨g,0,none⟩) l.length cap] 76 (0,0)):=hbk
      rw [Lib.cell_of_heap this]; rfl
    have hSD:(Builtin.unsafeSliceData_ #[45] 104 #[.slice (some ⟨g,0,none⟩) l.length cap]).run Tryd.prog w.drew = .ok (.pointer (some ⟨g,0,none⟩)) w.drew :=
      Lib.run_unsafeSliceData_row _ _ _ _ _ _ (by omega)
    have hUS:(Builtin.unsafeString_ #[104,3] 9 #[.pointer (some ⟨g,0,none⟩),.int .i64 l.length]).run Tryd.prog w.drew = .ok (.string ⟨l.toArray⟩) (w.drew.freeze ⟨g,0,none⟩ l.length):=by
      refine Lib.run_unsafeString_row w.drew 104 3 9 5 Tryd.underlying104 cellsU g cur.size (by have hg':w.drew.heap[g]? = some (.cells cur 5 (0,0)):=hg; simp [World.shape?,hg']) l h0 (by omega) (by unfold maxLen at hcm; omega) ?_
      intro j x hx
      have:=hown.cells (g:=g) rfl j (.int .u8 x.toNat) (by simp [Za7,hx])
      exact this
    go_enter Tryd.func50,Tryd.ntmps50
    go_wp2
    go_region
    all_goals (go_wp2; go_ret; exact ⟨rfl,grown_freeze _ _ _⟩)
theorem AC_write {id top : Nat} {bf : Option Nat} {s0 s : List UInt8} {K : PV → Heap → Prop} (ok : BldOk id bf s0 top) (hlen : s0.length + s.length ≤ 1000000000) (H : ∀ bf' top', top ≤ top' → BldOk id bf' (s0 ++ s) top' → (top' ≤ top + 1 ∧ ∀ i, bf' = some i → top ≤ i) → K (.tup [.int .i64 s.length, .nilif]) (bldH id 76 5 bf' (s0 ++ s) top')) :
    Zbl Tryd.prog 48 [.loc id 0 0,.str s] (bldH id 76 5 bf s0 top) K :=
  ACall_bwrite (by kernel_rfl) (fun w b p v bs x h1 h2 h3 h4 h5=>bld_write2 w b p v bs x h1 h2 h3 h4 h5) ok hlen H
theorem AC_writeL {id top : Nat} {bf : Option Nat} {s0 s : List UInt8} {l2 : List (Nat × AB)} {K : PV → Heap → Prop} (ok : BldOk id bf s0 top) (hlen : s0.length + s.length ≤ 1000000000) (h2 : ∀ q ∈ l2, q.1 < top ∧ q.1 ≠ id ∧ bf ≠ some q.1) (hc : ∀ q ∈ l2, ∀ fz z, q.2 ≠ .arr fz z [])
    (H:∀ bf' top',top ≤ top' → BldOk id bf' (s0 ++ s) top' → (top' ≤ top + 1 ∧ ∀ i,bf' = some i → top ≤ i) → K (.tup [.int .i64 s.length,.nilif]) ⟨(bldH id 76 5 bf' (s0 ++ s) top').l ++ l2,top'⟩) :
    Zbl Tryd.prog 48 [.loc id 0 0,.str s] ⟨(bldH id 76 5 bf s0 top).l ++ l2,top⟩ K :=
  ACall_beside ok h2 hc (AC_write ok hlen fun bf' top' a b c=>⟨rfl,bf',top',a,b,c,rfl⟩) H
theorem AC_string {id top:Nat} {bf:Option Nat} {s:List UInt8} {K:PV → Heap → Prop} (ok:BldOk id bf s top) (H:K (.str s) ⟨[],top⟩):Zbl Tryd.prog 50 [.loc id 0 0] (bldH id 76 5 bf s top) K :=
  ACall_bstring (by kernel_rfl) (fun w b p v l h1 h2 h3=>bld_string2 w b p v l h1 h2 h3) ok H
end Go.Proofs.YtjmekckcffckoaaDoor.w
namespace Go.Proofs.YtjmekckcffckoaaDoor.w
open Go Go.VM
set_option maxRecDepth 20000
set_option maxHeartbeats 0
set_option pp.deepTerms false
def c_digest_piece:VC:=(.seq (.region [ZO 2 (.mv (.c (.str [])))] false) (.seq (.region [ZM 3 0,ZO 4 (.len true (.t 3)),ZO 5 (.call 69 [(.t 4)]),ZO 6 (.bin .add (.t 5) (.c (.str [58]))),ZM 7 0,ZO 8 (.bin .add (.t 6) (.t 7)),ZM 2 8] false) .ret))
def c_digest_numbers:VC:=(.seq (.region [ZO 2 (.mv (.c (.str [])))] false) (.seq (.region [ZO 3 (.mv (.c .nilsl))] false) (.seq (.seq (.region [ZM 6 0,ZO 7 (.len false (.t 6)),ZO 8 (.mv (.c (.int .i64 0)))] false) (.block 0 (.loop (.seq (.region [ZO 9 (.bin .lss (.t 8) (.t 7))] false) (.seq (.cond (.t 9) .skip (.exit 0)) (.seq (.block 1 (.seq (.region [ZO 10 (.iaddr 1 (.t 6) (.t 8)),ZO 11 (.load false 1 (.t 10)),ZM 5 11] false) (.region [ZM 12 3,ZM 13 5,ZO 14 (.call 69 [(.t 13)]),ZO 15 (.bslice 1 1 [(.str [])] [(0,(.t 14))]),ZO 16 (.app 1 16 [(.str [])] false (.t 12) (.t 15)),ZM 3 16] false))) (.region [ZO 17 (.bin .add (.t 8) (.c (.int .i64 1))),ZM 8 17] false))))))) (.seq (.region [ZM 18 3,ZO 19 (.call 72 [(.t 18),(.c (.str [46]))]),ZM 2 19] false) .ret))))
def c_digest_row : VC := (.seq (.region [ZO 4 (.mv (.c (.str [])))] false) (.seq (.region [ZO 5 (.other ({ dst := some 5,op := Op.alloc 76,type := 0,pos := "digest.go:47",after := #[],guard := none } : Oper))] false) (.seq (.region [ZM 8 0,ZO 9 (.len false (.t 8)),ZO 10 (.call 69 [(.t 9)]),ZO 11 (.call 48 [(.t 5),(.t 10)])] false) (.seq (.seq (.region [ZM 12 0,ZO 13 (.len false (.t 12)),ZO 14 (.mv (.c (.int .i64 0)))] false) (.block 0 (.loop (.seq (.region [ZO 15 (.bin .lss (.t 14) (.t 13))] false) (.seq (.cond (.t 15) .skip (.exit 0)) (.seq (.block 1 (.seq (.region [ZO 16 (.iaddr 4 (.t 12) (.t 14)),ZO 17 (.load true 4 (.t 16)),ZO 7 (.alloc [(.str []),(.int .i64 0),(.int .i64 0),(.int .i64 0)]),ZN (.store 4 (.t 7) (.t 17))] false) (.region [ZO 18 (.faddr 0 (.t 7)),ZO 19 (.load false 1 (.t 18)),ZO 20 (.call 70 [(.t 19)]),ZO 21 (.bin .add (.c (.str [32])) (.t 20)),ZM 22 1,ZO 23 (.load true 4 (.t 7)),ZO 24 (.callv (.t 22) [(.t 23)]),ZO 25 (.bin .add (.t 21) (.t 24)),ZO 26 (.call 48 [(.t 5),(.t 25)])] true))) (.region [ZO 27 (.bin .add (.t 14) (.c (.int .i64 1))),ZM 14 27] false))))))) (.seq (.region [ZO 28 (.call 50 [(.t 5)]),ZM 4 28] false) .ret)))))
def c_digest_itself:VC:=(.seq (.region [ZO 2 (.box 8 (.t 0)),ZO 4 (.mv (.c (.str [])))] false) (.seq (.region [ZO 5 (.faddr 3 (.t 2)),ZO 6 (.load false 1 (.t 5)),ZO 7 (.call 69 [(.t 6)]),ZO 8 (.bin .add (.t 7) (.c (.str [32]))),ZO 9 (.faddr 4 (.t 2)),ZO 10 (.load false 1 (.t 9)),ZO 11 (.call 70 [(.t 10)]),ZO 12 (.bin .add (.t 8) (.t 11)),ZO 13 (.bin .add (.t 12) (.c (.str [10]))),ZO 14 (.faddr 5 (.t 2)),ZO 15 (.load false 1 (.t 14)),ZM 16 1,ZO 17 (.call 71 [(.t 15),(.t 16)]),ZO 18 (.bin .add (.t 13) (.t 17)),ZO 19 (.bin .add (.t 18) (.c (.str [10]))),ZO 20 (.faddr 6 (.t 2)),ZO 21 (.load false 1 (.t 20)),ZM 22 1,ZO 23 (.call 71 [(.t 21),(.t 22)]),ZO 24 (.bin .add (.t 19) (.t 23)),ZO 25 (.bin .add (.t 24) (.c (.str [10]))),ZM 4 25] true) .ret))
def c_digest_bare_1:VC:=(.seq (.region [ZO 1 (.box 4 (.t 0)),ZO 2 (.mv (.c (.str [])))] false) (.seq (.region [ZO 2 (.mv (.c (.str [])))] false) .ret))
def c_digest_marked_1:VC:=(.seq (.region [ZO 1 (.box 4 (.t 0)),ZO 2 (.mv (.c (.str [])))] false) (.seq (.region [ZO 3 (.faddr 1 (.t 1)),ZO 4 (.faddr 0 (.t 3)),ZO 5 (.load false 1 (.t 4)),ZO 6 (.faddr 1 (.t 1)),ZO 7 (.faddr 1 (.t 6)),ZO 8 (.load false 1 (.t 7)),ZO 9 (.faddr 1 (.t 1)),ZO 10 (.faddr 2 (.t 9)),ZO 11 (.load false 1 (.t 10)),ZO 12 (.bslice 1 3 [(.int .i64 0)] [(0,(.t 5)),(1,(.t 8)),(2,(.t 11))]),ZO 13 (.call 54 [(.t 12)]),ZO 14 (.bin .add (.c (.str [64])) (.t 13)),ZM 2 14] false) .ret))
def c_digest_bare:VC:=(.seq (.region [ZO 1 (.box 8 (.t 0)),ZO 2 (.mv (.c (.str [])))] false) (.seq (.region [ZO 3 (.load true 8 (.t 1)),ZO 4 (.call 51 [(.t 3),(.c (.fn (.func 52) [] []))]),ZM 2 4] false) .ret))
def c_digest_marked:VC:=(.seq (.region [ZO 1 (.box 8 (.t 0)),ZO 2 (.mv (.c (.str [])))] false) (.seq (.region [ZO 3 (.mv (.c (.fn (.func 53) [] [])))] false) (.seq (.region [ZO 4 (.faddr 0 (.t 1)),ZO 5 (.faddr 0 (.t 4)),ZO 6 (.load false 1 (.t 5)),ZO 7 (.faddr 0 (.t 1)),ZO 8 (.faddr 1 (.t 7)),ZO 9 (.load false 1 (.t 8)),ZO 10 (.faddr 0 (.t 1)),ZO 11 (.faddr 2 (.t 10)),ZO 12 (.load false 1 (.t 11)),ZO 13 (.bslice 1 3 [(.int .i64 0)] [(0,(.t 6)),(1,(.t 9)),(2,(.t 12))]),ZO 14 (.call 54 [(.t 13)]),ZO 15 (.bin .add (.t 14) (.c (.str [32]))),ZO 16 (.load true 8 (.t 1)),ZM 17 3,ZO 18 (.call 51 [(.t 16),(.t 17)]),ZO 19 (.bin .add (.t 15) (.t 18)),ZM 2 19] true) .ret)))
def c_digest_tree : VC := (.seq (.region [ZO 3 (.box 8 (.t 0)),ZO 6 (.mv (.c (.str [])))] false) (.seq (.region [ZO 7 (.other ({ dst := some 7,op := Op.alloc 76,type := 0,pos := "digest.go:71",after := #[],guard := none } : Oper))] false) (.seq (.region [ZM 10 1,ZO 11 (.load true 8 (.t 3)),ZO 12 (.callv (.t 10) [(.t 11)]),ZO 13 (.call 48 [(.t 7),(.t 12)])] false) (.seq (.seq (.region [ZO 14 (.faddr 7 (.t 3)),ZO 15 (.load false 1 (.t 14)),ZO 16 (.len false (.t 15)),ZO 17 (.mv (.c (.int .i64 0)))] false) (.block 0 (.loop (.seq (.region [ZO 18 (.bin .lss (.t 17) (.t 16))] false) (.seq (.cond (.t 18) .skip (.exit 0)) (.seq (.block 1 (.seq (.region [ZO 19 (.iaddr 8 (.t 15) (.t 17)),ZO 20 (.load true 8 (.t 19)),ZO 9 (.alloc [(.int .i64 0),(.int .i64 0),(.int .i64 0),(.int .i64 0),(.str []),.nilsl,.nilsl,.nilsl]),ZN (.store 8 (.t 9) (.t 20))] false) (.region [ZM 21 2,ZO 22 (.load true 8 (.t 9)),ZO 23 (.callv (.t 21) [(.t 22)]),ZO 24 (.call 48 [(.t 7),(.t 23)])] false))) (.region [ZO 25 (.bin .add (.t 17) (.c (.int .i64 1))),ZM 17 25] false))))))) (.seq (.region [ZO 26 (.call 50 [(.t 7)]),ZO 27 (.call 9 [(.t 26)]),ZM 6 27] false) .ret)))))
def c_digest_Content:VC:=(.seq (.region [ZO 1 (.box 8 (.t 0)),ZO 2 (.mv (.c (.str [])))] false) (.seq (.region [ZO 3 (.load true 8 (.t 1)),ZO 4 (.call 28 [(.t 3),(.c (.fn (.func 29) [] [])),(.c (.fn (.func 12) [] []))]),ZM 2 4] false) .ret))
def c_digest_Full:VC:=(.seq (.region [ZO 1 (.box 8 (.t 0)),ZO 2 (.mv (.c (.str [])))] false) (.seq (.region [ZO 3 (.load true 8 (.t 1)),ZO 4 (.call 28 [(.t 3),(.c (.fn (.func 30) [] [])),(.c (.fn (.func 14) [] []))]),ZM 2 4] false) .ret))
def c_digest_Self:VC:=(.seq (.region [ZO 1 (.box 8 (.t 0)),ZO 2 (.mv (.c (.str [])))] false) (.seq (.region [ZO 3 (.load true 8 (.t 1)),ZO 4 (.call 30 [(.t 3)]),ZO 5 (.call 9 [(.t 4)]),ZM 2 5] false) .ret))
theorem bldH_le {id:Nat} {T el:TypeId} {bf:Option Nat} {s:List UInt8} {top:Nat} {x:AB} (ok:BldOk id bf s top):Heap.le (bldH id T el bf s (top + 1)) ⟨(top,x) :: (bldH id T el bf s top).l,top + 1⟩:=by
  have h1:¬ top = id:=by have:=ok.lt; omega
  cases bf with
  | none=>simp [Heap.le,bldH,bufL,HL.le,Heap.get,HL.get,h1]
  | some i =>
    have h2:¬ top = i:=by have:=(ok.buf i rfl).2; omega
    have h3:=(ok.buf i rfl).1
    simp [Heap.le,bldH,bufL,HL.le,Heap.get,HL.get,h1,h2,h3]
theorem bldH_app {id:Nat} {T el:TypeId} {bf:Option Nat} {s:List UInt8} {top:Nat} {x:AB} (ok:BldOk id bf s top):Heap.le ⟨(bldH id T el bf s (top + 1)).l ++ [(top,x)],top + 1⟩ ⟨(top,x) :: (bldH id T el bf s top).l,top + 1⟩:=by
  have h1:¬ top = id:=by have:=ok.lt; omega
  cases bf with
  | none=>simp [Heap.le,bldH,bufL,HL.le,Heap.get,HL.get,h1]
  | some i =>
    have h2:¬ top = i:=by have:=(ok.buf i rfl).2; omega
    have h3:=(ok.buf i rfl).1
    simp [Heap.le,bldH,bufL,HL.le,Heap.get,HL.get,h1,h2,h3]
theorem bldH_del {id:Nat} {T el:TypeId} {bf:Option Nat} {s:List UInt8} {top:Nat} (ok:BldOk id bf s top):HL.del (bldH id T el bf s top).l top = (bldH id T el bf s top).l:=by
  have h1:¬ id = top:=by have:=ok.lt; omega
  cases bf with
  | none=>simp [bldH,bufL,HL.del,h1]
  | some i =>
    have h2:¬ i = top:=by have:=(ok.buf i rfl).2; omega
    simp [bldH,bufL,HL.del,h1,h2]
theorem bldH_getx {id:Nat} {T el:TypeId} {bf:Option Nat} {s:List UInt8} {top n:Nat} {x:AB} (h1:id ≠ n) (h2:bf ≠ some n):HL.get ((bldH id T el bf s top).l ++ [(n,x)]) n = some x:=by
  cases bf with
  | none=>simp [bldH,bufL,HL.get,h1]
  | some i =>
    have h3:¬ i = n:=fun e=>h2 (by rw [e])
    simp [bldH,bufL,HL.get,h1,h3]
theorem bldH_pre {id:Nat} {T el:TypeId} {bf:Option Nat} {s:List UInt8} {top:Nat} {r:List (Nat × AB)} (ok:BldOk id bf s top):Heap.le (bldH id T el bf s top) ⟨(bldH id T el bf s top).l ++ r,top⟩:=by
  cases bf with
  | none=>simp [Heap.le,bldH,bufL,HL.le,Heap.get,HL.get]
  | some i =>
    have h3:=(ok.buf i rfl).1
    simp [Heap.le,bldH,bufL,HL.le,Heap.get,HL.get,h3]
theorem bldH_top (id:Nat) (T el:TypeId) (bf:Option Nat) (s:List UInt8) (top:Nat):(bldH id T el bf s top).top = top:=rfl
theorem sp_digest_piece (s:Str) (hs:s.length ≤ 1000000):Za2 Tryd.prog 70 [.str s] (.str (pieceT s)):=by
  have A:=sp_strconv_Itoa (s.length:Int) (nat_i64 (by omega))
  have hl:=Zbp _ (nat_i64 (n:=s.length) (by omega))
  refine Zah ?_ (cS _) (by simp only [Zau,List.mem_cons,List.not_mem_nil,or_false,forall_eq_or_imp,forall_eq,false_implies,implies_true]; repeat' (first  | exact cS _ | refine And.intro ?_ ?_))
  refine Zal (vc:=c_digest_piece) (ts:=[.t 2]) Go.Proofs.Tryd.func70 (by kernel_rfl) rfl rfl (Nat.le_of_ble_eq_true rfl) (by kernel_rfl) ?_
  unfold c_digest_piece
  try dsimp only [ZM,ZO,ZN,ZG]
  refine Zac (Zaa [0] ?_)
  simp only [Zab,Zad,Zaf,pok,pval,VA.ev,Env.get,Env.put,Env.keep,Zav,Zae,Heap.nil,ite_true,ite_false,true_and,reduceCtorEq]
  refine Zac (Zaa [2] ?_)
  simp only [Zab,Zad,Zaf,pok,pval,VA.ev,Env.get,Env.put,Env.keep,Zae,intV,binV,Zak,strV,lenV,Zb5,Nat.succ_ne_self,List.map,Nat.reduceEqDiff,ite_true,ite_false,true_and,implies_true,reduceCtorEq,imp_self]
  refine Zan A ?_
  unfold pieceT
  generalize Lib.itoa (s.length:Int) = X at hl ⊢
  try simp only [List.length,Nat.reduceLeDiff,Nat.zero_add,List.length_append]
  refine ⟨by omega,by omega,?_⟩
  refine Zaq ?_
  try simp only [Env.get,retQ,resV,Za4,RS.ev,RS.ok,ite_true,true_and,and_true]
  exact View.refl _ _
theorem three_join (a b c:Int):Lib.join ([a,b,c].map Lib.itoa) [46] = Zcf a b c:=by
  unfold Zcf Lib.join
  simp [List.intercalate]
theorem sp_numbers (c:List Int) (hc:c.length ≤ 1000) (hi:∀ x ∈ c,i64 x) (hlen:(Lib.join (c.map Lib.itoa) [46]).length ≤ 1000000):Za2 Tryd.prog 54 [.sl 1 (c.map fun x=>[pI x])] (.str (Lib.join (c.map Lib.itoa) [46])):=by
  refine Zah ?_ (cS _) (by intro x hx; rw [List.mem_singleton] at hx; subst hx; exact closed_sc _)
  refine Zal (vc:=c_digest_numbers) (ts:=[.t 2]) Go.Proofs.Tryd.func54 (by kernel_rfl) rfl rfl (Nat.le_of_ble_eq_true rfl) (by kernel_rfl) ?_
  unfold c_digest_numbers
  try dsimp only [ZM,ZO,ZN,ZG]
  refine Zac (Zaa [0] ?_)
  simp only [Zab,Zad,Zaf,pok,pval,VA.ev,Env.get,Env.put,Env.keep,Zav,Zae,Heap.nil,ite_true,ite_false,true_and,reduceCtorEq]
  refine Zac (Zaa [0,3] ?_)
  simp only [Zab,Zad,Zaf,pok,pval,VA.ev,Env.get,Env.put,Env.keep,Zae,ite_true,ite_false,true_and,reduceCtorEq]
  refine VW_own0 3 1 rfl ?_
  try simp only [Env.put,Heap.push,Nat.zero_add]
  refine Zac ?_
  refine Zac (Zaa [3,6,7,8] ?_)
  simp only [Zab,Zad,Zaf,pok,pval,VA.ev,Env.get,Env.put,Env.keep,Zae,lenV,Zb5,Nat.succ_ne_self,Nat.reduceEqDiff,ite_true,ite_false,true_and,reduceCtorEq,List.length_map]
  refine Zao ?_
  refine Zbs (σ:={ s:Nat × Nat × Nat // s.1 ≤ c.length ∧ s.2.1 < s.2.2 }) (fun s=>([(3,.own s.1.2.1 0 s.1.1),(6,.sl 1 (c.map fun x=>[pI x])),(7,pI c.length),(8,pI s.1.1)],⟨[(s.1.2.1,.arr false 1 ((c.take s.1.1).map fun x=>[PV.str (Lib.itoa x)]))],s.1.2.2⟩)) (fun s=>c.length - s.1.1) ⟨(0,0,1),by simp⟩ ?_ ?_ ?_
  · simp only [Env.get,Nat.succ_ne_self,Env.le,Nat.reduceEqDiff,ite_true,ite_false,true_and,and_true]
    rfl
  · simp only [Heap.get,Heap.le,HL.get,HL.le,Nat.le_refl,List.map,List.take,ite_true,and_true]
    try rfl
  rintro ⟨⟨k,id,n⟩,hk,hid⟩
  simp only [] at hk hid ⊢
  have qi0:(id = n) = False:=by simp; omega
  have qi1:(n = id) = False:=by simp; omega
  have qi2:∀ j,(n + j = id) = False:=fun j=>by simp; try omega
  have qi3:∀ j,(id = n + j) = False:=fun j=>by simp; try omega
  have qi4:∀ j,(n + (j + 1) = n) = False:=fun j=>by simp; try omega
  have qi5:∀ j,(n = n + (j + 1)) = False:=fun j=>by simp; try omega
  have qi6:(n + 1 + 1 = n) = False:=by simp; try omega
  have qi7:(n = n + 1 + 1) = False:=by simp; try omega
  have qi8:(n + 1 + 1 + 1 = n) = False:=by simp; try omega
  have qi9:(n = n + 1 + 1 + 1) = False:=by simp; try omega
  refine Zac (Zaa [3,6,7,8,9] ?_)
  simp only [Zab,Zad,Zaf,pok,pval,VA.ev,Env.get,Env.put,Env.keep,Zae,intV,binV,Zak,Heap.get,Heap.le,HL.le,Nat.succ_ne_self,Env.le,Nat.reduceEqDiff,ite_true,ite_false,true_and,and_true]
  refine Zac ?_
  refine Zaj rfl (fun h1=>?_) (fun h1=>?_)
  · refine Zam ?_
    try simp only [Zae]
    simp only [decide_eq_true_eq] at h1
    have ka:k < c.length:=by omega
    have hst:(c.take (k + 1)).map (fun x=>[PV.str (Lib.itoa x)]) = (c.take k).map (fun x=>[PV.str (Lib.itoa x)]) ++ [[PV.str (Lib.itoa c[k])]]:=by
      rw [List.take_add_one,List.getElem?_eq_getElem ka,List.map_append]; rfl
    have hB:((c.take k).map fun x=>[PV.str (Lib.itoa x)]).length = k:=by simp; omega
    have hrow:(c.map fun x=>[pI x]).getD k [] = [pI c[k]]:=rowm ka
    have hone:=sp_strconv_Itoa c[k] (hi _ (List.getElem_mem ka))
    generalize (c.take k).map (fun x=>[PV.str (Lib.itoa x)]) = B at hst hB ⊢
    generalize c[k] = y at hst hrow hone
    have tk:List.take k B = B:=List.take_of_length_le (by omega)
    refine Zac ?_
    refine Zao ?_
    refine Zac (Zaa [3,5,6,7,8] ?_)
    simp only [Zab,Zad,Zaf,pok,pval,VA.ev,Env.get,Env.put,Env.keep,Zae,aggV,isInt,numOf,lenV,Zag,Zap,Zbx,Zbi,PV.nth,PV.row,Nat.le_refl,Nat.succ_ne_self,List.length,List.getD_cons_zero,List.take,List.take_succ_cons,Nat.reduceEqDiff,Bool.false_eq_true,ite_true,ite_false,true_and,and_true,implies_true,Nat.zero_add,List.length_cons,Int.toNat_natCast,List.length_map,hrow,qi0,qi1,qi2,qi3,qi4,qi5,qi6,qi7,qi8,qi9]
    refine ⟨by omega,?_⟩
    refine Zaa [3,6,7,8] ?_
    simp only [Zab,Zad,Zaf,pok,pval,VA.ev,Env.get,Env.put,Env.keep,Zae,Zat,PV.cells,PV.fits,Heap.get,Heap.del,HL.get,HL.del,Heap.push,Nat.le_refl,Nat.succ_ne_self,Zbh,oldId,Zbk,oldOk,Za3,srcOk,Zbd,Zbg,List.map,List.set,List.replicate,List.length,List.take,List.drop,List.take_succ_cons,Nat.reduceEqDiff,Nat.reduceLT,Nat.reduceLeDiff,ite_true,ite_false,true_and,and_true,BEq.rfl,Nat.zero_add,List.length_cons,qi0,qi1,qi2,qi3,qi4,qi5,qi6,qi7,qi8,qi9]
    refine Zan hone ?_
    try simp only [HL.get,HL.del,Nat.le_refl,ite_true,ite_false,true_and,and_true,tk,hB,qi0,qi1,qi2,qi3,qi4,qi5,qi6,qi7,qi8,qi9]
    refine ⟨by omega,by omega,?_⟩
    refine Zaa [3,6,7,8] ?_
    simp only [Zab,Zad,Zaf,pok,pval,VA.ev,Env.get,Env.put,Env.keep,Zae,intV,binV,Zak,HL.get,Nat.succ_ne_self,Nat.reduceEqDiff,ite_true,ite_false,true_and,qi0,qi1,qi2,qi3,qi4,qi5,qi6,qi7,qi8,qi9,w64 (n:=(k:Int) + 1) (by omega) (by omega)]
    refine ⟨⟨(k + 1,n + 1,n + 2),by simp only []; omega,by simp only []; omega⟩,?_,?_,?_⟩
    · simp
    · rw [hst]; simp
    · simp only []; omega
  · simp only [decide_eq_false_iff_not] at h1
    obtain rfl:k = c.length:=by omega
    rw [List.take_length]
    refine Zbo ?_
    try simp only [Zae,Zat,retQ,ite_true]
    refine Zac (Zaa [2] ?_)
    simp only [Zab,Zad,Zaf,pok,pval,VA.ev,Env.get,Env.put,Env.keep,Zae,Nat.succ_ne_self,List.map,Nat.reduceEqDiff,ite_true,ite_false,true_and,qi0,qi1,qi2,qi3,qi4,qi5,qi6,qi7,qi8,qi9]
    refine ACall_v [It.strs (c.map Lib.itoa),.str [46]] ⟨?_,View.refl _ _,trivial⟩ (sp_strings_Join (c.map Lib.itoa) [46] (by simp; omega) (by omega)) (scalar_str _) ?_
    · have hv:=View.own_all (h:=⟨[(id,.arr false 1 (c.map fun x=>[PV.str (Lib.itoa x)]))],n⟩) (id:=id) (z:=1) (n:=c.length) (fz:=false) (es:=c.map fun x=>[PV.str (Lib.itoa x)]) (by simp [Heap.get,HL.get]) (by simp)
      have e3:It.strs (c.map Lib.itoa) = .sl 1 (c.map fun x=>[PV.str (Lib.itoa x)]):=by simp [It.strs]
      rw [e3]
      exact hv
    skip
    refine Zaq ?_
    try simp only [Env.get,retQ,resV,Za4,RS.ev,RS.ok,ite_true,true_and,and_true]
    exact View.refl _ _
theorem sp_digest_numbers (a b c:Int) (ha:i64 a) (hb:i64 b) (hc:i64 c):Za2 Tryd.prog 54 [.sl 1 [[pI a],[pI b],[pI c]]] (.str (Zcf a b c)):=by
  have l2:=three_len ha hb hc
  have:=sp_numbers [a,b,c] (by simp) (by intro x hx; simp only [List.mem_cons,List.not_mem_nil,or_false] at hx; rcases hx with rfl | rfl | rfl <;> assumption) (by rw [three_join]; omega)
  rw [three_join] at this
  exact this
theorem bldH_le0 {id:Nat} {T el:TypeId} {bf:Option Nat} {s:List UInt8} {top:Nat} (ok:BldOk id bf s top):Heap.le (bldH id T el bf s top) (bldH id T el bf s top):=by
  cases bf with
  | none=>simp [Heap.le,bldH,bufL,HL.le,Heap.get,HL.get]
  | some i =>
    have h3:=(ok.buf i rfl).1
    simp [Heap.le,bldH,bufL,HL.le,Heap.get,HL.get,h3]
theorem sp_digest_row (m : Bool) (f : FuncId) (l : List Wd) (hl : l.length ≤ 1000) (ht : ∀ w ∈ l, w.text.length ≤ 10000 ∧ i64 w.act ∧ i64 w.item ∧ i64 w.at')
    (hf:∀ w ∈ l,Za2 Tryd.prog f [.agg w.enc] (.str (if m then [64] ++ Zcf w.act w.item w.at' else []))):Za2 Tryd.prog 71 [.sl 4 (l.map Wd.enc),.fn (.func f) [] []] (.str (rowT m l)):=by
  have A:=sp_strconv_Itoa (l.length:Int) (nat_i64 (by omega))
  have l1:=Zbp _ (nat_i64 (n:=l.length) (by omega))
  refine Zah ?_ (cS _) (by simp only [Zau,List.mem_cons,List.not_mem_nil,or_false,forall_eq_or_imp,forall_eq,false_implies,implies_true]; repeat' (first  | exact cS _ | exact closed_fn0 _ | exact Zas (Wd.closed _) | exact closed_gzs _ | exact Zax (fun w _=>Wd.closed w) | refine And.intro ?_ ?_))
  refine Zal (vc:=c_digest_row) (ts:=[.t 4]) Go.Proofs.Tryd.func71 (by kernel_rfl) rfl rfl (Nat.le_of_ble_eq_true rfl) (by kernel_rfl) ?_
  unfold c_digest_row
  try dsimp only [ZM,ZO,ZN,ZG]
  refine Zac (Zaa [0,1] ?_)
  simp only [Zab,Zad,Zaf,pok,pval,VA.ev,Env.get,Env.put,Env.keep,Zav,Zae,Heap.nil,Nat.succ_ne_self,Nat.reduceEqDiff,ite_true,ite_false,true_and,reduceCtorEq,Nat.zero_add]
  refine Zac (Zaa [0,1,5] ?_)
  simp only [Zab,Zad,Zaf,Env.get,Env.put,Env.keep,Zae,Nat.succ_ne_self,Nat.reduceEqDiff,ite_true,ite_false,reduceCtorEq]
  refine OpS_newB rfl (by kernel_rfl) ?_
  try simp only [Heap.push,Nat.zero_add]
  rw [show (⟨[(0,AB.bld 76 0 none)],1⟩:Heap) = bldH 0 76 5 none [] 1 from rfl]
  refine Zac (Zaa [0,1,5] ?_)
  simp only [Zab,Zad,Zaf,pok,pval,VA.ev,Env.get,Env.put,Env.keep,Zae,lenV,Zb5,Nat.succ_ne_self,List.map,Nat.reduceEqDiff,ite_true,ite_false,true_and,reduceCtorEq,List.length_map]
  refine Zan A ?_
  unfold rowT
  generalize Lib.itoa (l.length:Int) = X at l1 ⊢
  skip
  refine AC_write (BldOk.new 0 1 (by omega)) (by simp; omega) (fun bf0 top0 ht0 ok0 _=>?_)
  rw [List.nil_append] at ok0 ⊢
  skip
  refine Zac ?_
  refine Zac (Zaa [1,5,12,13,14] ?_)
  simp only [Zab,Zad,Zaf,pok,pval,VA.ev,Env.get,Env.put,Env.keep,Zae,lenV,Zb5,Nat.succ_ne_self,Nat.reduceEqDiff,ite_true,ite_false,true_and,reduceCtorEq,List.length_map]
  refine Zao ?_
  refine Zbs (σ:={ x:Nat × Option Nat × Nat // x.1 ≤ l.length ∧ BldOk 0 x.2.1 (X ++ (l.take x.1).flatMap (wordT m)) x.2.2 }) (fun x=>([(1,.fn (.func f) [] []),(5,.loc 0 0 0),(12,.sl 4 (l.map Wd.enc)),(13,pI l.length),(14,pI x.1.1)],bldH 0 76 5 x.1.2.1 (X ++ (l.take x.1.1).flatMap (wordT m)) x.1.2.2)) (fun x=>l.length - x.1.1) ⟨(0,bf0,top0),Nat.zero_le _,by simpa using ok0⟩ ?_ ?_ ?_
  · simp only [Env.get,Nat.succ_ne_self,Env.le,Nat.reduceEqDiff,ite_true,ite_false,true_and,and_true]
    rfl
  · simp only [List.take_zero,List.flatMap_nil,List.append_nil]
    exact bldH_le0 ok0
  rintro ⟨⟨k,bf,top⟩,hk,ok⟩
  simp only [] at hk ok ⊢
  refine Zac (Zaa [1,5,12,13,14,15] ?_)
  simp only [Zab,Zad,Zaf,pok,pval,VA.ev,Env.get,Env.put,Env.keep,Zae,intV,binV,Zak,Heap.le,Nat.succ_ne_self,Env.le,Nat.reduceEqDiff,ite_true,ite_false,true_and,and_true]
  refine Zac ?_
  have hfl:=flat_len (m:=m) (l:=l.take k) fun w hw=>ht w (List.mem_of_mem_take hw)
  have hm:(l.take k).length * 11000 ≤ 1000 * 11000:=Nat.mul_le_mul (by rw [List.length_take]; omega) (Nat.le_refl _)
  refine Zaj rfl (fun h1=>?_) (fun h1=>?_)
  · simp only [decide_eq_true_eq] at h1
    have ka:k < l.length:=by omega
    have hst:=rowT_step m ka
    have hw:=ht _ (List.getElem_mem ka)
    have hF:=hf _ (List.getElem_mem ka)
    have hrow:(l.map Wd.enc).getD k [] = l[k].enc:=rowm ka
    generalize l[k] = w at hst hw hrow hF
    have P:=sp_digest_piece w.text (by omega)
    have pl:=piece_len w.text (by omega)
    have tl:=three_len hw.2.1 hw.2.2.1 hw.2.2.2
    have hwt:wordT m w = [32] ++ pieceT w.text ++ (if m then [64] ++ Zcf w.act w.item w.at' else []):=rfl
    have hbl:(if m then [64] ++ Zcf w.act w.item w.at' else []).length ≤ 63:=by split <;> simp; omega
    generalize pieceT w.text = PT at P pl hwt
    generalize (if m then [64] ++ Zcf w.act w.item w.at' else []) = BT at hF hwt hbl
    generalize (l.take k).flatMap (wordT m) = F at hfl hst ok ⊢
    refine Zam ?_
    try simp only [Zae]
    refine Zac ?_
    refine Zao ?_
    refine Zac (Zaa [1,5,7,12,13,14] ?_)
    simp only [Zab,Zad,Zaf,pok,pval,VA.ev,Env.get,Env.put,Env.keep,Zae,aggV,isInt,numOf,lenV,Zag,Zap,Zbx,Zbi,PV.cells,PV.fits,overlay,PV.nth,PV.row,Heap.get,Heap.set,HL.get,HL.set,Heap.push,Nat.le_refl,Nat.succ_ne_self,Zbt,Zbr,List.set,List.length,List.getD_cons_zero,List.take,List.drop,List.take_succ_cons,List.drop_succ_cons,List.cons_append,List.nil_append,Nat.reduceEqDiff,Nat.reduceAdd,Nat.reduceLT,Bool.true_eq_false,ite_true,ite_false,true_and,and_true,BEq.rfl,Nat.zero_add,List.length_cons,imp_self,Int.toNat_natCast,List.length_map,hrow,Wd.enc,bldH_top,bldH_del ok]
    refine ⟨by omega,?_⟩
    have htop:0 < top:=ok.lt
    unfold Wd.enc at hF
    refine VW_drawC 8 ⟨[(top,.arr false 4 [[.str w.text,pI w.act,pI w.item,pI w.at']])],top + 20⟩ [1,5,12,13,14] rfl (by simp [Heap.le,HL.le,Heap.get,HL.get]) ?_
    simp only [Zaf,QW,dok,dval,VOp.pure,VOp.simple,VOp.det,pok,pval,VA.ev,Env.get,Env.put,Env.keep,Zae,Zat,gd,aggV,intV,binV,Zak,strV,Za8,Za5,Zag,Zap,PV.nth,PV.row,Heap.get,Heap.le,HL.get,HL.le,Nat.le_refl,Nat.succ_ne_self,List.map,List.length,List.getD_cons_zero,List.take,List.drop,List.take_succ_cons,Nat.reduceEqDiff,Nat.reduceAdd,Nat.reduceLT,Nat.reduceLeDiff,Bool.false_eq_true,Bool.true_eq_false,ite_true,ite_false,true_and,and_true,implies_true,forall_const,Nat.zero_add,Nat.add_zero,List.length_cons,imp_self,DrawC_nil,DrawC_at,DrawC_n,Nat.reduceBEq,bldH_top]
    refine ⟨_,.inl P,?_⟩
    try simp only [List.length,List.cons_append,List.nil_append,Nat.zero_add,DrawC_nil,DrawC_at,DrawC_n,Nat.reduceBEq,bldH_top]
    refine ⟨by omega,_,.inl hF,?_⟩
    try simp only [List.length,List.cons_append,DrawC_nil,DrawC_at,DrawC_n,Nat.reduceBEq,bldH_top]
    refine ⟨by first | omega | (simp; omega),?_⟩
    refine Zbl.weakenL (bldH_app ok) (AC_writeL (ok.mono (Nat.le_succ top)) (by simp; omega) (by simp only [List.mem_singleton,forall_eq]; exact ⟨Nat.lt_succ_self _,by omega,fun e=>by have:=(ok.buf _ e).2; omega⟩) (by simp) (fun bf2 top2 ht2 ok2 hf2=>?_))
    have hne0:0 ≠ top:=by omega
    have hne1:bf2 ≠ some top:=fun e=>by have:=hf2.2 _ e; omega
    refine ⟨⟨by show top2 ≤ top + 20; have:=hf2.1; omega,bldH_getx hne0 hne1⟩,?_⟩
    refine Zaa [1,5,12,13,14] ?_
    have hfin:X ++ (l.take (k + 1)).flatMap (wordT m) = X ++ F ++ 32 :: (PT ++ BT):=by rw [hst,hwt]; simp
    simp only [Zab,Zad,Zaf,pok,pval,VA.ev,Env.get,Env.put,Env.keep,Zae,intV,binV,Zak,Nat.succ_ne_self,Nat.reduceEqDiff,ite_true,ite_false,true_and,ad1 (a:=k) (by omega)]
    refine ⟨⟨(k + 1,bf2,top2),ka,by show BldOk 0 bf2 (X ++ (l.take (k + 1)).flatMap (wordT m)) top2; rw [hfin]; exact ok2⟩,?_⟩
    simp only [hfin]
    refine ⟨by first | trivial | simp,bldH_pre ok2,by omega⟩
  simp only [decide_eq_false_iff_not] at h1
  obtain rfl:k = l.length:=by omega
  rw [List.take_length] at ok ⊢
  refine Zbo ?_
  try simp only [Zae,Zat,retQ,ite_true]
  refine Zac (Zaa [4] ?_)
  simp only [Zab,Zad,Zaf,pok,pval,VA.ev,Env.get,Env.put,Env.keep,Zae,Nat.succ_ne_self,List.map,Nat.reduceEqDiff,ite_true,ite_false,true_and]
  refine AC_string ok ?_
  skip
  refine Zaq ?_
  try simp only [Env.get,retQ,resV,Za4,RS.ev,RS.ok,ite_true,true_and,and_true]
  exact View.refl _ _
theorem sp_digest_bare_1 (w:Wd):Za2 Tryd.prog 52 [.agg w.enc] (.str []):=by
  refine Zah ?_ (cS _) (by simp only [Zau,List.mem_cons,List.not_mem_nil,or_false,forall_eq_or_imp,forall_eq,false_implies,implies_true]; repeat' (first  | exact cS _ | exact Zas (Wd.closed _) | refine And.intro ?_ ?_))
  refine Zal (vc:=c_digest_bare_1) (ts:=[.t 2]) Go.Proofs.Tryd.func52 (by kernel_rfl) rfl rfl (Nat.le_of_ble_eq_true rfl) (by kernel_rfl) ?_
  unfold c_digest_bare_1
  try dsimp only [ZM,ZO,ZN,ZG]
  unfold Wd.enc
  refine Zac (Zaa [] ?_)
  simp only [Zab,Zad,Zaf,pok,pval,VA.ev,Env.get,Env.put,Env.keep,Zav,Zae,PV.cells,PV.fits,Heap.push,Heap.nil,List.length,Nat.reduceAdd,ite_true,true_and,BEq.rfl,Nat.zero_add]
  refine Zac (Zaa [2] ?_)
  simp only [Zab,Zad,Zaf,pok,pval,VA.ev,Env.get,Env.put,Env.keep,Zae,ite_true,true_and]
  refine Zaq ?_
  try simp only [Env.get,retQ,resV,Za4,RS.ev,RS.ok,ite_true,true_and,and_true]
  exact View.refl _ _
theorem sp_digest_marked_1 (w:Wd) (h:i64 w.act ∧ i64 w.item ∧ i64 w.at'):Za2 Tryd.prog 53 [.agg w.enc] (.str ([64] ++ Zcf w.act w.item w.at')):=by
  have T:=sp_digest_numbers w.act w.item w.at' h.1 h.2.1 h.2.2
  have tl:=three_len h.1 h.2.1 h.2.2
  generalize Zcf w.act w.item w.at' = TT at T tl ⊢
  refine Zah ?_ (cS _) (by simp only [Zau,List.mem_cons,List.not_mem_nil,or_false,forall_eq_or_imp,forall_eq,false_implies,implies_true]; repeat' (first  | exact cS _ | exact Zas (Wd.closed _) | refine And.intro ?_ ?_))
  refine Zal (vc:=c_digest_marked_1) (ts:=[.t 2]) Go.Proofs.Tryd.func53 (by kernel_rfl) rfl rfl (Nat.le_of_ble_eq_true rfl) (by kernel_rfl) ?_
  unfold c_digest_marked_1
  try dsimp only [ZM,ZO,ZN,ZG]
  unfold Wd.enc
  refine Zac (Zaa [1] ?_)
  simp only [Zab,Zad,Zaf,pok,pval,VA.ev,Env.get,Env.put,Env.keep,Zav,Zae,PV.cells,PV.fits,Heap.push,Heap.nil,Nat.succ_ne_self,List.length,List.cons_append,List.nil_append,Nat.reduceAdd,ite_true,ite_false,true_and,reduceCtorEq,BEq.rfl,Nat.zero_add]
  refine Zac (Zaa [2] ?_)
  simp only [Zab,Zad,Zaf,pok,pval,VA.ev,Env.get,Env.put,Env.keep,Zae,aggV,intV,binV,Zak,strV,Za8,Za5,Zag,Zap,PV.cells,PV.fits,PV.nth,PV.row,Heap.get,HL.get,Heap.push,Nat.le_refl,Nat.succ_ne_self,Zbd,Zbg,List.map,List.set,List.replicate,List.length,List.getD_cons_zero,List.take,List.drop,List.take_succ_cons,List.drop_succ_cons,Nat.reduceEqDiff,Nat.reduceAdd,Nat.reduceLT,Nat.reduceLeDiff,Bool.false_eq_true,ite_true,ite_false,true_and,and_true,implies_true,BEq.rfl,Nat.zero_add,Nat.add_zero,List.length_cons]
  refine ACall_v [.sl 1 [[pI w.act],[pI w.item],[pI w.at']]] ⟨View.own_all (fz:=false) (by simp [Heap.get,HL.get]) (by simp),trivial⟩ T (scalar_str _) ?_
  try simp only [List.length,List.cons_append,List.nil_append,Nat.zero_add]
  refine ⟨by omega,?_⟩
  refine Zaq ?_
  try simp only [Env.get,retQ,resV,Za4,RS.ev,RS.ok,ite_true,true_and,and_true]
  exact View.refl _ _
theorem sp_row_bare (l:List Wd) (hl:l.length ≤ 1000) (ht:∀ w ∈ l,w.text.length ≤ 10000 ∧ i64 w.act ∧ i64 w.item ∧ i64 w.at'):Za2 Tryd.prog 71 [.sl 4 (l.map Wd.enc),.fn (.func 52) [] []] (.str (rowT false l)) :=
  sp_digest_row false _ l hl ht fun w _=>sp_digest_bare_1 w
theorem sp_row_marked (l:List Wd) (hl:l.length ≤ 1000) (ht:∀ w ∈ l,w.text.length ≤ 10000 ∧ i64 w.act ∧ i64 w.item ∧ i64 w.at'):Za2 Tryd.prog 71 [.sl 4 (l.map Wd.enc),.fn (.func 53) [] []] (.str (rowT true l)) :=
  sp_digest_row true _ l hl ht fun w hw=>sp_digest_marked_1 w (ht w hw).2
def bodyT (m:Bool) (u:Un):Str:=Lib.itoa u.kind ++ [32] ++ pieceT u.label ++ [10] ++ rowT m u.head ++ [10] ++ rowT m u.words ++ [10]
theorem body_len (m:Bool) {u:Un} (h:SmalU u):(bodyT m u).length ≤ 45000000:=by
  have l1:=Zbp _ h.ok.2.2.2
  have l3:=piece_len u.label (by have:=h.label; omega)
  have l4:=row_len m h.head.1 h.head.2
  have l5:=row_len m h.words.1 h.words.2
  have hl:=h.label
  unfold bodyT
  simp; omega
theorem sp_digest_itself (m : Bool) (f : FuncId) (u : Un) (hu : SmalU u) (H : Za2 Tryd.prog 71 [.sl 4 (u.head.map Wd.enc), .fn (.func f) [] []] (.str (rowT m u.head))) (W : Za2 Tryd.prog 71 [.sl 4 (u.words.map Wd.enc), .fn (.func f) [] []] (.str (rowT m u.words))) :
    Za2 Tryd.prog 51 [.agg u.enc,.fn (.func f) [] []] (.str (bodyT m u)):=by
  have D:=sp_strconv_Itoa u.kind hu.ok.2.2.2
  have P:=sp_digest_piece u.label (by have:=hu.label; omega)
  have l1:=Zbp _ hu.ok.2.2.2
  have l3:=piece_len u.label (by have:=hu.label; omega)
  have l4:=row_len m hu.head.1 hu.head.2
  have l5:=row_len m hu.words.1 hu.words.2
  have hl:=hu.label
  have halone:bodyT m u = Lib.itoa u.kind ++ [32] ++ pieceT u.label ++ [10] ++ rowT m u.head ++ [10] ++ rowT m u.words ++ [10]:=rfl
  refine Zah ?_ (cS _) (by simp only [Zau,List.mem_cons,List.not_mem_nil,or_false,forall_eq_or_imp,forall_eq,false_implies,implies_true]; repeat' (first  | exact cS _ | exact closed_fn0 _ | exact Zas (Un.closed _) | exact Zas (Wd.closed _) | exact closed_gzs _ | exact Zax (fun w _=>Wd.closed w) | exact Zax (fun w _=>Un.closed w) | refine And.intro ?_ ?_))
  refine Zal (vc:=c_digest_itself) (ts:=[.t 4]) Go.Proofs.Tryd.func51 (by kernel_rfl) rfl rfl (Nat.le_of_ble_eq_true rfl) (by kernel_rfl) ?_
  unfold c_digest_itself
  try dsimp only [ZM,ZO,ZN,ZG]
  rw [Un.Zay]
  refine Zac (Zaa [1,2] ?_)
  simp only [Zab,Zad,Zaf,pok,pval,VA.ev,Env.get,Env.put,Env.keep,Zav,Zae,PV.cells,PV.fits,Heap.push,Heap.nil,Nat.succ_ne_self,List.length,Nat.reduceEqDiff,Nat.reduceAdd,ite_true,ite_false,true_and,reduceCtorEq,BEq.rfl,Nat.zero_add]
  refine Za9 [(1,.fn (.func f) [] []),(2,.ro [pI u.act,pI u.item,pI u.n,pI u.kind,.str u.label,.sl 4 (u.head.map Wd.enc),.sl 4 (u.words.map Wd.enc),.sl 8 (u.kids.map Un.enc)])] ⟨View.refl _ _,View.loc (z:=8) (fz:=false) (es:=[[pI u.act,pI u.item,pI u.n,pI u.kind,.str u.label,.sl 4 (u.head.map Wd.enc),.sl 4 (u.words.map Wd.enc),.sl 8 (u.kids.map Un.enc)]]) rfl (by simp) rfl (by simp),trivial⟩ ?_
  rw [halone]
  generalize Lib.itoa u.kind = KT at D l1 ⊢
  generalize pieceT u.label = PT at P l3 ⊢
  generalize rowT m u.head = HT at H l4 ⊢
  generalize rowT m u.words = WT at W l5 ⊢
  generalize u.head.map Wd.enc = EH at H ⊢
  generalize u.words.map Wd.enc = EW at W ⊢
  generalize u.kids.map Un.enc = EK
  refine Zac (Zbz [4] (by simp [Heap.le,Heap.get,HL.le,HL.get]) ?_)
  simp only [Zba,Zbe,QW,dok,dval,VOp.pure,VOp.simple,VOp.det,pok,pval,VA.ev,Env.get,Env.put,Env.keep,Zae,gd,aggV,intV,binV,Zak,strV,Za8,Za5,Zag,Zap,PV.nth,Nat.succ_ne_self,List.length,List.getD_cons_zero,List.take,List.drop,List.take_succ_cons,Nat.reduceEqDiff,Nat.reduceAdd,Nat.reduceLeDiff,Bool.false_eq_true,ite_true,ite_false,true_and,and_true,implies_true,forall_const,reduceCtorEq,Nat.zero_add,List.length_cons,imp_self]
  refine ⟨_,.inl D,?_⟩
  try simp only [List.length,Nat.reduceLeDiff,implies_true,reduceCtorEq,Nat.zero_add,imp_self]
  refine ⟨by omega,_,.inl P,?_⟩
  try simp only [List.length,Nat.reduceLeDiff,implies_true,reduceCtorEq,Nat.zero_add,imp_self]
  refine ⟨by simp; omega,by simp; omega,_,.inl H,?_⟩
  try simp only [List.length,Nat.reduceLeDiff,implies_true,reduceCtorEq,Nat.zero_add,imp_self]
  refine ⟨by simp; omega,by simp; omega,_,.inl W,?_⟩
  try simp only [List.length,Nat.reduceLeDiff,Nat.zero_add]
  refine ⟨by simp; omega,by simp; omega,?_⟩
  refine Zaq ?_
  try simp only [Env.get,retQ,resV,Za4,RS.ev,RS.ok,ite_true,true_and,and_true]
  exact View.refl _ _
theorem sp_digest_bare (u:Un) (hu:SmalU u):Za2 Tryd.prog 29 [.agg u.enc] (.str (Zbb false u)):=by
  have I:=sp_digest_itself false 52 u hu (sp_row_bare _ hu.head.1 hu.head.2) (sp_row_bare _ hu.words.1 hu.words.2)
  have e:Zbb false u = bodyT false u:=by unfold Zbb bodyT; simp
  rw [e]
  generalize bodyT false u = X at I ⊢
  refine Zah ?_ (cS _) (by simp only [Zau,List.mem_cons,List.not_mem_nil,or_false,forall_eq_or_imp,forall_eq,false_implies,implies_true]; repeat' (first  | exact cS _ | exact Zas (Un.closed _) | refine And.intro ?_ ?_))
  refine Zal (vc:=c_digest_bare) (ts:=[.t 2]) Go.Proofs.Tryd.func29 (by kernel_rfl) rfl rfl (Nat.le_of_ble_eq_true rfl) (by kernel_rfl) ?_
  unfold c_digest_bare
  try dsimp only [ZM,ZO,ZN,ZG]
  rw [Un.Zay] at I ⊢
  refine Zac (Zaa [1] ?_)
  simp only [Zab,Zad,Zaf,pok,pval,VA.ev,Env.get,Env.put,Env.keep,Zav,Zae,PV.cells,PV.fits,Heap.push,Heap.nil,Nat.succ_ne_self,List.length,Nat.reduceAdd,ite_true,ite_false,true_and,reduceCtorEq,BEq.rfl,Nat.zero_add]
  refine Zac (Zaa [2] ?_)
  simp only [Zab,Zad,Zaf,pok,pval,VA.ev,Env.get,Env.put,Env.keep,Zae,aggV,Zag,Zap,PV.nth,PV.row,Heap.get,HL.get,Nat.le_refl,Nat.succ_ne_self,List.map,List.length,List.getD_cons_zero,List.take,List.drop,List.take_succ_cons,Nat.reduceEqDiff,Nat.reduceAdd,Nat.reduceLT,Bool.true_eq_false,ite_true,ite_false,true_and,and_true,Nat.zero_add,List.length_cons,imp_self]
  refine Zan I ?_
  skip
  refine Zaq ?_
  try simp only [Env.get,retQ,resV,Za4,RS.ev,RS.ok,ite_true,true_and,and_true]
  exact View.refl _ _
theorem sp_digest_marked (u:Un) (hu:SmalU u):Za2 Tryd.prog 30 [.agg u.enc] (.str (Zbb true u)):=by
  have I:=sp_digest_itself true 53 u hu (sp_row_marked _ hu.head.1 hu.head.2) (sp_row_marked _ hu.words.1 hu.words.2)
  have T:=sp_digest_numbers u.act u.item u.n hu.ok.1 hu.ok.2.1 hu.ok.2.2.1
  have tl:=three_len hu.ok.1 hu.ok.2.1 hu.ok.2.2.1
  have bl:=body_len true hu
  have e:Zbb true u = Zcf u.act u.item u.n ++ [32] ++ bodyT true u:=by unfold Zbb bodyT; simp
  rw [e]
  generalize bodyT true u = X at I bl ⊢
  generalize Zcf u.act u.item u.n = TT at T tl ⊢
  refine Zah ?_ (cS _) (by simp only [Zau,List.mem_cons,List.not_mem_nil,or_false,forall_eq_or_imp,forall_eq,false_implies,implies_true]; repeat' (first  | exact cS _ | exact Zas (Un.closed _) | refine And.intro ?_ ?_))
  refine Zal (vc:=c_digest_marked) (ts:=[.t 2]) Go.Proofs.Tryd.func30 (by kernel_rfl) rfl rfl (Nat.le_of_ble_eq_true rfl) (by kernel_rfl) ?_
  unfold c_digest_marked
  try dsimp only [ZM,ZO,ZN,ZG]
  rw [Un.Zay] at I ⊢
  refine Zac (Zaa [1] ?_)
  simp only [Zab,Zad,Zaf,pok,pval,VA.ev,Env.get,Env.put,Env.keep,Zav,Zae,PV.cells,PV.fits,Heap.push,Heap.nil,Nat.succ_ne_self,List.length,Nat.reduceAdd,ite_true,ite_false,true_and,reduceCtorEq,BEq.rfl,Nat.zero_add]
  refine Za9 [(1,.ro [pI u.act,pI u.item,pI u.n,pI u.kind,.str u.label,.sl 4 (u.head.map Wd.enc),.sl 4 (u.words.map Wd.enc),.sl 8 (u.kids.map Un.enc)])] ⟨View.loc (z:=8) (fz:=false) (es:=[[pI u.act,pI u.item,pI u.n,pI u.kind,.str u.label,.sl 4 (u.head.map Wd.enc),.sl 4 (u.words.map Wd.enc),.sl 8 (u.kids.map Un.enc)]]) rfl (by simp) rfl (by simp),trivial⟩ ?_
  refine Zac (Zaa [1,3] ?_)
  simp only [Zab,Zad,Zaf,pok,pval,VA.ev,Env.get,Env.put,Env.keep,Zae,Nat.reduceEqDiff,ite_true,ite_false,true_and]
  refine Zac (Zbz [2] (by simp [Heap.le,Heap.get,HL.le,HL.get]) ?_)
  simp only [Zba,Zbe,QW,dok,dval,VOp.pure,VOp.simple,VOp.det,pok,pval,VA.ev,Env.get,Env.put,Env.keep,Zae,gd,aggV,intV,binV,Zak,strV,Za8,Za5,Zag,Zap,PV.cells,PV.fits,PV.nth,Nat.le_refl,Nat.succ_ne_self,Zbd,Zbg,List.set,List.replicate,List.length,List.getD_cons_zero,List.take,List.drop,List.take_succ_cons,Nat.reduceEqDiff,Nat.reduceAdd,Nat.reduceLT,Nat.reduceLeDiff,Bool.false_eq_true,Bool.true_eq_false,ite_true,ite_false,true_and,and_true,implies_true,forall_const,BEq.rfl,Nat.zero_add,List.length_cons,imp_self]
  refine ⟨_,.inl T,?_⟩
  try simp only [List.length,Nat.reduceLeDiff,Nat.zero_add]
  refine ⟨by omega,_,.inl I,?_⟩
  try simp only []
  refine ⟨by simp; omega,?_⟩
  refine Zaq ?_
  try simp only [Env.get,retQ,resV,Za4,RS.ev,RS.ok,ite_true,true_and,and_true]
  simp
  exact View.refl _ _
theorem sp_digest_Self (u:Un) (hu:SmalU u):Za2 Tryd.prog 16 [.agg u.enc] (.str (sumT (Zbb true u))):=by
  have M:=sp_digest_marked u hu
  have al:=alone_len true hu
  have S:=Zcg (Zbb true u) (by omega)
  generalize sumT (Zbb true u) = R at S ⊢
  generalize Zbb true u = X at M S ⊢
  refine Zah ?_ (cS _) (by simp only [Zau,List.mem_cons,List.not_mem_nil,or_false,forall_eq_or_imp,forall_eq,false_implies,implies_true]; repeat' (first  | exact cS _ | exact Zas (Un.closed _) | refine And.intro ?_ ?_))
  refine Zal (vc:=c_digest_Self) (ts:=[.t 2]) Go.Proofs.Tryd.func16 (by kernel_rfl) rfl rfl (Nat.le_of_ble_eq_true rfl) (by kernel_rfl) ?_
  unfold c_digest_Self
  try dsimp only [ZM,ZO,ZN,ZG]
  rw [Un.Zay] at M ⊢
  refine Zac (Zaa [1] ?_)
  simp only [Zab,Zad,Zaf,pok,pval,VA.ev,Env.get,Env.put,Env.keep,Zav,Zae,PV.cells,PV.fits,Heap.push,Heap.nil,Nat.succ_ne_self,List.length,Nat.reduceAdd,ite_true,ite_false,true_and,reduceCtorEq,BEq.rfl,Nat.zero_add]
  refine Zac (Zaa [2] ?_)
  simp only [Zab,Zad,Zaf,pok,pval,VA.ev,Env.get,Env.put,Env.keep,Zae,aggV,Zag,Zap,PV.nth,PV.row,Heap.get,HL.get,Nat.le_refl,Nat.succ_ne_self,List.map,List.length,List.getD_cons_zero,List.take,List.drop,List.take_succ_cons,Nat.reduceEqDiff,Nat.reduceAdd,Nat.reduceLT,Bool.true_eq_false,ite_true,ite_false,true_and,and_true,Nat.zero_add,List.length_cons,imp_self]
  refine Zan M ?_
  skip
  refine Zan S ?_
  skip
  refine Zaq ?_
  try simp only [Env.get,retQ,resV,Za4,RS.ev,RS.ok,ite_true,true_and,and_true]
  exact View.refl _ _
theorem sp_tree (m : Bool) (f g : FuncId) (u : Un) (h : SmalU u) (hk : u.kids.length ≤ 1000) (A : Za2 Tryd.prog f [.agg u.enc] (.str (Zbb m u))) (ih : ∀ k ∈ u.kids, Za2 Tryd.prog g [.agg k.enc] (.str (saysT m k))) :
    Za2 Tryd.prog 28 [.agg u.enc,.fn (.func f) [] [],.fn (.func g) [] []] (.str (saysT m u)):=by
  have al:=alone_len m h
  have T:=Zcg (Zbb m u ++ saysL m u.kids) (by rw [List.length_append,saysL_len]; omega)
  rw [saysT_eq]
  generalize Zbb m u = X at A al T
  refine Zah ?_ (cS _) (by simp only [Zau,List.mem_cons,List.not_mem_nil,or_false,forall_eq_or_imp,forall_eq,false_implies,implies_true]; repeat' (first  | exact cS _ | exact closed_fn0 _ | exact Zas (Un.closed _) | refine And.intro ?_ ?_))
  refine Zal (vc:=c_digest_tree) (ts:=[.t 6]) Go.Proofs.Tryd.func28 (by kernel_rfl) rfl rfl (Nat.le_of_ble_eq_true rfl) (by kernel_rfl) ?_
  unfold c_digest_tree
  try dsimp only [ZM,ZO,ZN,ZG]
  rw [Un.Zay] at A ⊢
  refine Zac (Zaa [1,2,3] ?_)
  simp only [Zab,Zad,Zaf,pok,pval,VA.ev,Env.get,Env.put,Env.keep,Zav,Zae,PV.cells,PV.fits,Heap.push,Heap.nil,Nat.succ_ne_self,List.length,Nat.reduceEqDiff,Nat.reduceAdd,ite_true,ite_false,true_and,reduceCtorEq,BEq.rfl,Nat.zero_add]
  refine Za9 [(1,.fn (.func f) [] []),(2,.fn (.func g) [] []),(3,.ro [pI u.act,pI u.item,pI u.n,pI u.kind,.str u.label,.sl 4 (u.head.map Wd.enc),.sl 4 (u.words.map Wd.enc),.sl 8 (u.kids.map Un.enc)])] ⟨View.refl _ _,View.refl _ _,View.loc (z:=8) (fz:=false) (es:=[[pI u.act,pI u.item,pI u.n,pI u.kind,.str u.label,.sl 4 (u.head.map Wd.enc),.sl 4 (u.words.map Wd.enc),.sl 8 (u.kids.map Un.enc)]]) rfl (by simp) rfl (by simp),trivial⟩ ?_
  generalize u.head.map Wd.enc = EH at A ⊢
  generalize u.words.map Wd.enc = EW at A ⊢
  generalize u.kids = L at hk ih T A ⊢
  refine Zac (Zaa [1,2,3,7] ?_)
  simp only [Zab,Zad,Zaf,Env.get,Env.put,Env.keep,Zae,Nat.succ_ne_self,Nat.reduceEqDiff,ite_true,ite_false]
  refine OpS_newB rfl (by kernel_rfl) ?_
  try simp only [Heap.push,Nat.reduceAdd]
  rw [show (⟨[(1,AB.bld 76 0 none)],2⟩:Heap) = bldH 1 76 5 none [] 2 from rfl]
  refine Zac (Zaa [2,3,7] ?_)
  simp only [Zab,Zad,Zaf,pok,pval,VA.ev,Env.get,Env.put,Env.keep,Zae,aggV,Zag,Zap,PV.nth,Nat.le_refl,Nat.succ_ne_self,List.map,List.length,List.getD_cons_zero,List.take,List.take_succ_cons,List.cons_append,List.nil_append,Nat.reduceEqDiff,Nat.reduceAdd,Bool.true_eq_false,ite_true,ite_false,true_and,and_true,Nat.zero_add,List.length_cons,imp_self]
  refine Zan A ?_
  skip
  refine AC_write (BldOk.new 1 2 (by omega)) (by simp; omega) (fun bf0 top0 ht0 ok0 _=>?_)
  rw [List.nil_append] at ok0 ⊢
  skip
  refine Zac ?_
  refine Zac (Zaa [2,7,15,16,17] ?_)
  simp only [Zab,Zad,Zaf,pok,pval,VA.ev,Env.get,Env.put,Env.keep,Zae,aggV,lenV,Za8,Za5,Zag,Zap,Zb5,PV.nth,Nat.le_refl,Nat.succ_ne_self,List.length,List.getD_cons_zero,List.take,List.drop,List.take_succ_cons,Nat.reduceEqDiff,Bool.false_eq_true,ite_true,ite_false,true_and,and_true,implies_true,Nat.zero_add,List.length_cons,List.length_map]
  refine Zao ?_
  refine Zbs (σ:={ x:Nat × Option Nat × Nat // x.1 ≤ L.length ∧ BldOk 1 x.2.1 (X ++ saysL m (L.take x.1)) x.2.2 }) (fun x=>([(2,.fn (.func g) [] []),(7,.loc 1 0 0),(15,.sl 8 (L.map Un.enc)),(16,pI L.length),(17,pI x.1.1)],bldH 1 76 5 x.1.2.1 (X ++ saysL m (L.take x.1.1)) x.1.2.2)) (fun x=>L.length - x.1.1) ⟨(0,bf0,top0),Nat.zero_le _,by simpa [saysL] using ok0⟩ ?_ ?_ ?_
  · simp only [Env.get,Nat.succ_ne_self,Env.le,Nat.reduceEqDiff,ite_true,ite_false,true_and,and_true]
    rfl
  · simp only [List.take_zero,saysL,List.append_nil]
    exact bldH_le0 ok0
  rintro ⟨⟨k,bf,top⟩,hkl,ok⟩
  simp only [] at hkl ok ⊢
  refine Zac (Zaa [2,7,15,16,17,18] ?_)
  simp only [Zab,Zad,Zaf,pok,pval,VA.ev,Env.get,Env.put,Env.keep,Zae,intV,binV,Zak,Heap.le,Nat.succ_ne_self,Env.le,Nat.reduceEqDiff,ite_true,ite_false,true_and,and_true]
  refine Zac ?_
  refine Zaj rfl (fun h1=>?_) (fun h1=>?_)
  · simp only [decide_eq_true_eq] at h1
    have ka:k < L.length:=by omega
    have hst:=saysL_step m ka
    have hrow:(L.map Un.enc).getD k [] = L[k].enc:=rowm ka
    have R:=ih _ (List.getElem_mem ka)
    have hfl:=saysL_len m (L.take k)
    have htl:(L.take k).length = k:=by rw [List.length_take]; omega
    have hsl:=saysT_len m L[k]
    generalize L[k] = v at hst hrow R hsl
    rw [Un.Zay] at hrow R
    generalize saysT m v = V at hst R hsl
    generalize saysL m (L.take k) = F at hst hfl ok ⊢
    have htop:1 < top:=ok.lt
    refine Zam ?_
    try simp only [Zae]
    refine Zac ?_
    refine Zao ?_
    refine Zac (Zaa [2,7,9,15,16,17] ?_)
    simp only [Zab,Zad,Zaf,pok,pval,VA.ev,Env.get,Env.put,Env.keep,Zae,aggV,isInt,numOf,lenV,Zag,Zap,Zbx,Zbi,PV.cells,PV.fits,overlay,PV.nth,PV.row,Heap.get,Heap.set,HL.get,HL.set,Heap.push,Nat.le_refl,Nat.succ_ne_self,Zbt,Zbr,List.set,List.length,List.getD_cons_zero,List.take,List.drop,List.take_succ_cons,List.drop_succ_cons,List.cons_append,List.nil_append,Nat.reduceEqDiff,Nat.reduceAdd,Nat.reduceLT,Bool.true_eq_false,ite_true,ite_false,true_and,and_true,BEq.rfl,Nat.zero_add,List.length_cons,imp_self,Int.toNat_natCast,List.length_map,hrow,bldH_top,bldH_del ok]
    refine ⟨by omega,?_⟩
    refine Zaa [2,7,15,16,17] ?_
    simp only [Zab,Zad,Zaf,pok,pval,VA.ev,Env.get,Env.put,Env.keep,Zae,Zat,aggV,Zag,Zap,PV.nth,PV.row,Heap.get,HL.get,Nat.le_refl,Nat.succ_ne_self,List.map,List.length,List.getD_cons_zero,List.take,List.drop,List.take_succ_cons,List.cons_append,List.nil_append,Nat.reduceEqDiff,Nat.reduceAdd,Nat.reduceLT,Bool.true_eq_false,ite_true,ite_false,true_and,and_true,Nat.zero_add,List.length_cons,imp_self,bldH_top]
    refine Zan R ?_
    skip
    refine Zbl.weakenL (bldH_le ok) (AC_write (ok.mono (Nat.le_succ top)) (by simp; omega) (fun bf2 top2 ht2 ok2 hf2=>?_))
    skip
    refine Zaa [2,7,15,16,17] ?_
    have hfin:X ++ saysL m (L.take (k + 1)) = X ++ F ++ V:=by rw [hst]; simp
    simp only [Zab,Zad,Zaf,pok,pval,VA.ev,Env.get,Env.put,Env.keep,Zae,intV,binV,Zak,Nat.succ_ne_self,Nat.reduceEqDiff,ite_true,ite_false,true_and,ad1 (a:=k) (by omega)]
    refine ⟨⟨(k + 1,bf2,top2),ka,by show BldOk 1 bf2 (X ++ saysL m (L.take (k + 1))) top2; rw [hfin]; exact ok2⟩,?_⟩
    simp only [hfin]
    refine ⟨by first | trivial | simp,bldH_le0 ok2,by omega⟩
  simp only [decide_eq_false_iff_not] at h1
  obtain rfl:k = L.length:=by omega
  rw [List.take_length] at ok ⊢
  refine Zbo ?_
  try simp only [Zae,Zat,retQ,ite_true]
  refine Zac (Zaa [6] ?_)
  simp only [Zab,Zad,Zaf,pok,pval,VA.ev,Env.get,Env.put,Env.keep,Zae,Nat.succ_ne_self,List.map,Nat.reduceEqDiff,ite_true,ite_false,true_and]
  refine AC_string ok ?_
  skip
  refine Zan T ?_
  skip
  refine Zaq ?_
  try simp only [Env.get,retQ,resV,Za4,RS.ev,RS.ok,ite_true,true_and,and_true]
  exact View.refl _ _
theorem Zch {u:Un} (hu:SmalT u):Za2 Tryd.prog 12 [.agg u.enc] (.str (saysT false u)):=by
  induction hu with
  | mk u h hk hs ih =>
    have T:=sp_tree false 29 12 u h hk (sp_digest_bare u h) ih
    generalize saysT false u = X at T ⊢
    refine Zah ?_ (cS _) (by simp only [Zau,List.mem_cons,List.not_mem_nil,or_false,forall_eq_or_imp,forall_eq,false_implies,implies_true]; repeat' (first  | exact cS _ | exact Zas (Un.closed _) | refine And.intro ?_ ?_))
    refine Zal (vc:=c_digest_Content) (ts:=[.t 2]) Go.Proofs.Tryd.func12 (by kernel_rfl) rfl rfl (Nat.le_of_ble_eq_true rfl) (by kernel_rfl) ?_
    unfold c_digest_Content
    try dsimp only [ZM,ZO,ZN,ZG]
    rw [Un.Zay] at T ⊢
    refine Zac (Zaa [1] ?_)
    simp only [Zab,Zad,Zaf,pok,pval,VA.ev,Env.get,Env.put,Env.keep,Zav,Zae,PV.cells,PV.fits,Heap.push,Heap.nil,Nat.succ_ne_self,List.length,Nat.reduceAdd,ite_true,ite_false,true_and,reduceCtorEq,BEq.rfl,Nat.zero_add]
    refine Zac (Zaa [2] ?_)
    simp only [Zab,Zad,Zaf,pok,pval,VA.ev,Env.get,Env.put,Env.keep,Zae,aggV,Zag,Zap,PV.nth,PV.row,Heap.get,HL.get,Nat.le_refl,Nat.succ_ne_self,List.map,List.length,List.getD_cons_zero,List.take,List.drop,List.take_succ_cons,Nat.reduceEqDiff,Nat.reduceAdd,Nat.reduceLT,Bool.true_eq_false,ite_true,ite_false,true_and,and_true,Nat.zero_add,List.length_cons,imp_self]
    refine Zan T ?_
    skip
    refine Zaq ?_
    try simp only [Env.get,retQ,resV,Za4,RS.ev,RS.ok,ite_true,true_and,and_true]
    exact View.refl _ _
theorem sp_digest_Full {u:Un} (hu:SmalT u):Za2 Tryd.prog 14 [.agg u.enc] (.str (saysT true u)):=by
  induction hu with
  | mk u h hk hs ih =>
    have T:=sp_tree true 30 14 u h hk (sp_digest_marked u h) ih
    generalize saysT true u = X at T ⊢
    refine Zah ?_ (cS _) (by simp only [Zau,List.mem_cons,List.not_mem_nil,or_false,forall_eq_or_imp,forall_eq,false_implies,implies_true]; repeat' (first  | exact cS _ | exact Zas (Un.closed _) | refine And.intro ?_ ?_))
    refine Zal (vc:=c_digest_Full) (ts:=[.t 2]) Go.Proofs.Tryd.func14 (by kernel_rfl) rfl rfl (Nat.le_of_ble_eq_true rfl) (by kernel_rfl) ?_
    unfold c_digest_Full
    try dsimp only [ZM,ZO,ZN,ZG]
    rw [Un.Zay] at T ⊢
    refine Zac (Zaa [1] ?_)
    simp only [Zab,Zad,Zaf,pok,pval,VA.ev,Env.get,Env.put,Env.keep,Zav,Zae,PV.cells,PV.fits,Heap.push,Heap.nil,Nat.succ_ne_self,List.length,Nat.reduceAdd,ite_true,ite_false,true_and,reduceCtorEq,BEq.rfl,Nat.zero_add]
    refine Zac (Zaa [2] ?_)
    simp only [Zab,Zad,Zaf,pok,pval,VA.ev,Env.get,Env.put,Env.keep,Zae,aggV,Zag,Zap,PV.nth,PV.row,Heap.get,HL.get,Nat.le_refl,Nat.succ_ne_self,List.map,List.length,List.getD_cons_zero,List.take,List.drop,List.take_succ_cons,Nat.reduceEqDiff,Nat.reduceAdd,Nat.reduceLT,Bool.true_eq_false,ite_true,ite_false,true_and,and_true,Nat.zero_add,List.length_cons,imp_self]
    refine Zan T ?_
    skip
    refine Zaq ?_
    try simp only [Env.get,retQ,resV,Za4,RS.ev,RS.ok,ite_true,true_and,and_true]
    exact View.refl _ _
end Go.Proofs.YtjmekckcffckoaaDoor.w
namespace Go.Proofs.YtjmekckcffckoaaDoor.w
open Go Go.VM
set_option maxRecDepth 20000
set_option maxHeartbeats 0
set_option pp.deepTerms false
def difL (X Y:List (Idt × Str)):List Idt:=(X.map (·.1) ++ (Y.map (·.1)).filter fun x=>!(X.map (·.1)).contains x).filter fun x=>decide (valG X x ≠ valG Y x)
theorem difL_mem (X Y:List (Idt × Str)) (x:Idt):x ∈ difL X Y ↔ valG X x ≠ valG Y x:=by
  unfold difL
  rw [List.mem_filter,decide_eq_true_iff]
  constructor
  · exact fun h=>h.2
  · intro h
    refine ⟨?_,h⟩
    by_cases h1:x ∈ X.map (·.1)
    · exact List.mem_append_left _ h1
    · refine List.mem_append_right _ (List.mem_filter.2 ⟨?_,by simpa using h1⟩)
      rcases Classical.em (x ∈ Y.map (·.1)) with h2 | h2
      · exact h2
      · exact absurd (by rw [valG_none.2 h1,valG_none.2 h2]) h
theorem difL_nod {X Y:List (Idt × Str)} (hX:(X.map (·.1)).Nodup) (hY:(Y.map (·.1)).Nodup):(difL X Y).Nodup:=by
  unfold difL
  refine List.Pairwise.filter _ (List.nodup_append.2 ⟨hX,List.Pairwise.filter _ hY,fun a ha b hb=>?_⟩)
  rintro rfl
  have:=(List.mem_filter.1 hb).2
  simp at this
  obtain ⟨e,he,rfl⟩:=List.mem_map.1 ha
  exact this _ he
def difD (a b:Un):List Idt:=sortD (difL (Zcl a) (Zcl b))
theorem difD_uniq {a b:Un} {l:List Idt} (hn:l.Nodup) (hm:∀ x,x ∈ l ↔ valG (Zcl a) x ≠ valG (Zcl b) x):sortD l = difD a b :=
  sortD_perm ((List.perm_ext_iff_of_nodup hn (difL_nod (Zcn a) (Zcn b))).2 fun x=>by rw [hm,difL_mem])
theorem difD_mem (a b:Un) (x:Idt):x ∈ difD a b ↔ valG (Zcl a) x ≠ valG (Zcl b) x:=by
  unfold difD sortD
  rw [(List.mergeSort_perm _ _).mem_iff,difL_mem]
theorem difD_symm (a b:Un):difD a b = difD b a:=by
  unfold difD
  exact sortD_perm ((List.perm_ext_iff_of_nodup (difL_nod (Zcn a) (Zcn b)) (difL_nod (Zcn b) (Zcn a))).2 fun x=>by rw [difL_mem,difL_mem,ne_comm])
theorem difD_self (a:Un):difD a a = []:=by
  cases h:difD a a with
  | nil=>rfl
  | cons x r =>
    have:x ∈ difD a a:=by rw [h]; exact List.mem_cons_self
    rw [difD_mem] at this
    exact absurd rfl this
theorem difD_len (a b:Un):(difD a b).length ≤ (Zcl a).length + (Zcl b).length:=by
  unfold difD sortD
  rw [List.length_mergeSort]
  unfold difL
  have h1:=List.length_filter_le (fun x=>decide (valG (Zcl a) x ≠ valG (Zcl b) x)) ((Zcl a).map (·.1) ++ ((Zcl b).map (·.1)).filter fun x=>!((Zcl a).map (·.1)).contains x)
  have h2:=List.length_filter_le (fun x=>!((Zcl a).map (·.1)).contains x) ((Zcl b).map (·.1))
  rw [List.length_append] at h1
  simp only [List.length_map] at h1 h2
  omega
theorem gthF_len:∀ (l:List Un) (M:List (Idt × Str)),(l.foldl gthU M).length ≤ M.length + l.length
  | [],M=>by simp
  | u :: r,M=>by
    rw [List.foldl_cons]
    have:=gthF_len r (gthU M u)
    have h2:(gthU M u).length ≤ M.length + 1:=by unfold gthU; split <;> simp
    rw [List.length_cons]; omega
theorem gathT_len (u:Un):(Zcl u).length ≤ (unitsT u).length:=by have:=gthF_len (unitsT u) []; simpa [Zcl] using this
theorem sp_digest_Diff {a b:Un} (ha:SmalT a) (hb:SmalT b) (na:(unitsT a).length ≤ 1000) (nb:(unitsT b).length ≤ 1000):Za2 Tryd.prog 20 [.agg a.enc,.agg b.enc] (.sl 3 ((difD a b).map Idt.enc)) :=
  walk_Diff (fun v h=>sp_digest_Full h) sp_keys sp_sortedKeys ha hb (by have:=gathT_len a; have:=gathT_len b; omega) (difD a b) fun M h1 h2=>difD_uniq h1 h2
theorem putF_done (d:Idt):∀ (l:List Idt) (o:List Idt),l.foldl (fun s x=>putB d (putA d s x) x) (true,o) = (true,o ++ l.filter fun x=>decide (x ≠ d))
  | [],o=>by simp
  | x :: r,o=>by
    rw [List.foldl_cons]
    have e:putB d (putA d (true,o) x) x = (true,o ++ [x].filter fun x=>decide (x ≠ d)):=by
      unfold putA putB
      simp only [Bool.true_eq_false,false_and,if_false]
      by_cases h:x = d <;> simp [h]
    rw [e,putF_done d r]
    congr 1
    rw [List.append_assoc,← List.filter_append]; rfl
theorem putF_go (d : Idt) (hd : ltId d d = false) : ∀ (l : List Idt) (o : List Idt), l.foldl (fun s x => putB d (putA d s x) x) (false, o) =
    (decide (l.dropWhile (fun x=>ltId x d) ≠ []),o ++ l.takeWhile (fun x=>ltId x d) ++ (if l.dropWhile (fun x=>ltId x d) = [] then [] else [d]) ++ (l.dropWhile fun x=>ltId x d).filter fun x=>decide (x ≠ d))
  | [],o=>by simp
  | x :: r,o=>by
    rw [List.foldl_cons]
    by_cases h:ltId x d = true
    · have hne:x ≠ d:=fun e=>by rw [e,hd] at h; cases h
      have e:putB d (putA d (false,o) x) x = (false,o ++ [x]):=by
        unfold putA putB
        rw [if_neg (by simp [h])]
        simp [hne]
      rw [e,putF_go d hd r]
      simp [h,List.dropWhile_cons,List.takeWhile_cons]
    · have hf:ltId x d = false:=by simpa using h
      have e:putB d (putA d (false,o) x) x = (true,o ++ [d] ++ [x].filter fun x=>decide (x ≠ d)):=by
        unfold putA putB
        rw [if_pos ⟨rfl,hf⟩]
        by_cases h2:x = d <;> simp [h2]
      rw [e,putF_done]
      simp only [List.dropWhile_cons,List.takeWhile_cons,hf]
      simp only [Bool.false_eq_true,if_false,List.append_nil,reduceCtorEq,ne_eq,not_false_eq_true,decide_true,Prod.mk.injEq,true_and]
      rw [List.append_assoc,← List.filter_append]; simp
theorem ltId_irr (d:Idt):ltId d d = false:=by rw [← Bool.not_eq_true,ltId_iff]; omega
theorem putT_eq (d:Idt) (l:List Idt):putT d l = l.takeWhile (fun x=>ltId x d) ++ d :: (l.dropWhile fun x=>ltId x d).filter fun x=>decide (x ≠ d):=by
  unfold putT putF
  rw [putF_go d (ltId_irr d)]
  by_cases h:l.dropWhile (fun x=>ltId x d) = []
  · simp [h]
  · simp [h]
theorem putT_mem (d:Idt) (l:List Idt) (x:Idt):x ∈ putT d l ↔ x = d ∨ x ∈ l:=by
  rw [putT_eq,List.mem_append,List.mem_cons,List.mem_filter,decide_eq_true_iff]
  have hs:x ∈ l ↔ x ∈ l.takeWhile (fun x=>ltId x d) ∨ x ∈ l.dropWhile (fun x=>ltId x d):=by
    rw [← List.mem_append,List.takeWhile_append_dropWhile]
  rw [hs]
  constructor
  · rintro (h | h | ⟨h,_⟩)
    · exact .inr (.inl h)
    · exact .inl h
    · exact .inr (.inr h)
  · rintro (h | h | h)
    · exact .inr (.inl h)
    · exact .inl h
    · by_cases e:x = d
      · exact .inr (.inl e)
      · exact .inr (.inr ⟨h,e⟩)
theorem putT_len2 (d:Idt) (l:List Idt):(putT d l).length ≤ l.length + 1:=by
  rw [putT_eq,List.length_append,List.length_cons]
  have h1:=List.length_filter_le (fun x=>decide (x ≠ d)) (l.dropWhile fun x=>ltId x d)
  have h2:l.length = (l.takeWhile fun x=>ltId x d).length + (l.dropWhile fun x=>ltId x d).length:=by rw [← List.length_append,List.takeWhile_append_dropWhile]
  omega
theorem putT_sorted (d:Idt) {l:List Idt} (hl:l.Pairwise fun a b=>ltId a b = true):(putT d l).Pairwise fun a b=>ltId a b = true:=by
  rw [putT_eq]
  have hs:=(List.takeWhile_append_dropWhile (p:=fun x=>ltId x d) (l:=l)).symm
  have hl':=hl
  rw [hs,List.pairwise_append] at hl'
  obtain ⟨h1,h2,h3⟩:=hl'
  have hT:∀ a ∈ l.takeWhile (fun x=>ltId x d),ltId a d = true:=fun a ha=>by
    have:=List.all_takeWhile (p:=fun x=>ltId x d) (l:=l)
    rw [List.all_eq_true] at this
    exact this a ha
  have hD:∀ b ∈ (l.dropWhile fun x=>ltId x d).filter (fun x=>decide (x ≠ d)),ltId d b = true:=fun b hb=>by
    obtain ⟨hb1,hb2⟩:=List.mem_filter.1 hb
    rw [decide_eq_true_iff] at hb2
    have hnlt:ltId b d = false:=by
      cases hdw:l.dropWhile (fun x=>ltId x d) with
      | nil=>rw [hdw] at hb1; cases hb1
      | cons y r =>
        have hy:ltId y d = false:=by
          have:=List.head?_dropWhile_not (fun x=>ltId x d) l
          rw [hdw] at this
          simpa using this
        rw [hdw] at hb1 h2
        rcases List.mem_cons.1 hb1 with rfl | hb1
        · exact hy
        · have h4:=(List.pairwise_cons.1 h2).1 b hb1
          rw [← Bool.not_eq_true,ltId_iff] at hy ⊢
          rw [ltId_iff] at h4
          omega
    rw [← Bool.not_eq_true,ltId_iff] at hnlt
    rw [ltId_iff]
    have:¬ (b.act = d.act ∧ b.item = d.item ∧ b.n = d.n):=fun ⟨e1,e2,e3⟩=>hb2 (by cases b; cases d; simp only at e1 e2 e3; subst e1; subst e2; subst e3; rfl)
    omega
  refine List.pairwise_append.2 ⟨h1,List.pairwise_cons.2 ⟨hD,h2.filter _⟩,fun a ha b hb=>?_⟩
  rcases List.mem_cons.1 hb with rfl | hb
  · exact hT a ha
  · have e1:=hT a ha
    have e2:=hD b hb
    rw [ltId_iff] at e1 e2 ⊢
    omega
theorem stepA_len (X Y:List Un) (o:List Idt) (u:Un):(stepA X Y o u).length ≤ o.length + 1:=by
  unfold stepA
  split
  · exact putT_len2 _ _
  · omega
theorem foldA_len (X Y:List Un):∀ (l:List Un) (o:List Idt),(l.foldl (stepA X Y) o).length ≤ o.length + l.length
  | [],o=>by simp
  | u :: r,o=>by
    rw [List.foldl_cons,List.length_cons]
    have:=foldA_len X Y r (stepA X Y o u)
    have:=stepA_len X Y o u
    omega
theorem foldA_sorted (X Y:List Un):∀ (l:List Un) (o:List Idt),(o.Pairwise fun a b=>ltId a b = true) → (l.foldl (stepA X Y) o).Pairwise fun a b=>ltId a b = true
  | [],o,h=>h
  | u :: r,o,h=>by
    rw [List.foldl_cons]
    refine foldA_sorted X Y r _ ?_
    unfold stepA
    split
    · exact putT_sorted _ h
    · exact h
theorem foldA_mem (X Y:List Un) (x:Idt):∀ (l:List Un) (o:List Idt),x ∈ l.foldl (stepA X Y) o ↔ x ∈ o ∨ ((∃ u ∈ l,idU u = x) ∧ difB X Y x = true)
  | [],o=>by simp
  | u :: r,o=>by
    rw [List.foldl_cons,foldA_mem X Y x r]
    unfold stepA
    by_cases hd:difB X Y (idU u) = true
    · rw [if_pos hd,putT_mem]
      constructor
      · rintro ((rfl | h) | ⟨⟨v,hv,e⟩,h⟩)
        · exact .inr ⟨⟨u,List.mem_cons_self,rfl⟩,hd⟩
        · exact .inl h
        · exact .inr ⟨⟨v,List.mem_cons_of_mem _ hv,e⟩,h⟩
      · rintro (h | ⟨⟨v,hv,e⟩,h⟩)
        · exact .inl (.inr h)
        · rcases List.mem_cons.1 hv with rfl | hv
          · exact .inl (.inl e.symm)
          · exact .inr ⟨⟨v,hv,e⟩,h⟩
    · rw [if_neg hd]
      constructor
      · rintro (h | ⟨⟨v,hv,e⟩,h⟩)
        · exact .inl h
        · exact .inr ⟨⟨v,List.mem_cons_of_mem _ hv,e⟩,h⟩
      · rintro (h | ⟨⟨v,hv,e⟩,h⟩)
        · exact .inl h
        · rcases List.mem_cons.1 hv with rfl | hv
          · subst e; exact absurd h hd
          · exact .inr ⟨⟨v,hv,e⟩,h⟩
theorem firstU_some {l:List Un} {x:Idt}:(Zbm l x).isSome = true ↔ ∃ u ∈ l,idU u = x:=by
  unfold Zbm
  rw [List.find?_isSome]
  simp
theorem difB_iff (X Y:List Un) (x:Idt):((∃ u ∈ X ++ Y,idU u = x) ∧ difB X Y x = true) ↔ (Zbm X x).map (saysT true) ≠ (Zbm Y x).map (saysT true):=by
  have hex:(∃ u ∈ X ++ Y,idU u = x) ↔ (Zbm X x).isSome = true ∨ (Zbm Y x).isSome = true:=by
    rw [firstU_some,firstU_some]
    constructor
    · rintro ⟨u,hu,e⟩
      rcases List.mem_append.1 hu with h | h
      · exact .inl ⟨u,h,e⟩
      · exact .inr ⟨u,h,e⟩
    · rintro (⟨u,h,e⟩ | ⟨u,h,e⟩)
      · exact ⟨u,List.mem_append_left _ h,e⟩
      · exact ⟨u,List.mem_append_right _ h,e⟩
  rw [hex]
  unfold difB firstR
  cases Zbm X x <;> cases Zbm Y x <;> simp
theorem apart_eq (a b:Un):apartF (unitsT a) (unitsT b) = difD a b:=by
  have hs:=foldA_sorted (unitsT a) (unitsT b) (unitsT a ++ unitsT b) [] .nil
  have hm:∀ x,x ∈ apartF (unitsT a) (unitsT b) ↔ valG (Zcl a) x ≠ valG (Zcl b) x:=fun x=>by
    unfold apartF
    rw [foldA_mem,gathT_val,gathT_val,← difB_iff]
    simp
  have hn:(apartF (unitsT a) (unitsT b)).Nodup:=hs.imp fun {p q} h=>by rintro rfl; rw [ltId_irr] at h; cases h
  rw [← difD_uniq hn hm]
  refine List.Perm.eq_of_pairwise (le:=fun x y=>(!ltId y x) = true) (fun x y _ _ h1 h2=>?_) (hs.imp fun {p q} h=>?_) (sortD_sorted _) (List.mergeSort_perm _ _).symm
  · exact sepId x y (by rw [ltOf_id]; simpa using h2) (by rw [ltOf_id]; simpa using h1)
  · rw [Bool.not_eq_true',← Bool.not_eq_true,ltId_iff]
    rw [ltId_iff] at h
    omega
theorem smal_units {u:Un} (h:SmalT u):∀ x ∈ unitsT u,SmalT x:=by
  induction h with
  | mk u h hk hs ih =>
    intro x hx
    rw [Zb1] at hx
    rcases List.mem_cons.1 hx with rfl | hx
    · exact .mk _ h hk hs
    · rw [Zb6] at hx
      obtain ⟨k,h1,h2⟩:=List.mem_flatMap.1 hx
      exact ih k h1 x h2
theorem sp_Apart {a b:Un} (ha:SmalT a) (hb:SmalT b) (na:(unitsT a).length ≤ 1000) (nb:(unitsT b).length ≤ 1000):Za2 Tryd.prog 21 [.agg a.enc,.agg b.enc] (.sl 3 ((difD a b).map Idt.enc)):=by
  have:=sp_r_Apart ha hb (by omega) (by omega) (smal_units ha) (smal_units hb) (fun k=>by
    have:=foldA_len (unitsT a) (unitsT b) ((unitsT a ++ unitsT b).take k) []
    rw [List.length_take,List.length_append] at this
    simp only [List.length_nil] at this
    omega)
  rw [apart_eq] at this
  exact this
end Go.Proofs.YtjmekckcffckoaaDoor.w
namespace Go.Proofs.YtjmekckcffckoaaDoor.w
open Go Go.VM
set_option maxRecDepth 20000
set_option maxHeartbeats 0
set_option pp.deepTerms false
def c_pandectlaw12_awake:VC:=(.seq (.region [ZO 0 (.mv (.c (.bool false)))] false) (.seq (.region [ZO 2 (.build [(.int .i64 0),(.int .i64 0),(.int .i64 0)] [(0,(1,(.c (.int .i64 1)))),(2,(1,(.c (.int .i64 1))))]),ZO 3 (.build [(.int .i64 0),(.int .i64 0),(.int .i64 0),(.int .i64 0),(.str []),.nilsl,.nilsl,.nilsl] [(0,(3,(.t 2))),(3,(1,(.c (.int .i64 1)))),(4,(1,(.c (.str [49]))))]),ZO 4 (.bslice 8 1 [(.int .i64 0),(.int .i64 0),(.int .i64 0),(.int .i64 0),(.str []),.nilsl,.nilsl,.nilsl] [(0,(.t 3))]),ZO 5 (.build [(.int .i64 0),(.int .i64 0),(.int .i64 0),(.int .i64 0),(.str []),.nilsl,.nilsl,.nilsl] [(3,(1,(.c (.int .i64 0)))),(7,(1,(.t 4)))]),ZO 1 (.alloc [(.int .i64 0),(.int .i64 0),(.int .i64 0),(.int .i64 0),(.str []),.nilsl,.nilsl,.nilsl]),ZN (.store 8 (.t 1) (.t 5))] false) (.seq (.region [ZO 6 (.build [(.int .i64 0),(.int .i64 0),(.int .i64 0),(.int .i64 0),(.str []),.nilsl,.nilsl,.nilsl] []),ZO 7 (.call 16 [(.t 6)]),ZO 8 (.call 9 [(.c (.str [48,46,48,46,48,32,48,32,48,58,10,48,10,48,10]))]),ZO 9 (.bin .eql (.t 7) (.t 8)),ZM 10 9,ZG 11 (.build [(.int .i64 0),(.int .i64 0),(.int .i64 0),(.int .i64 0),(.str []),.nilsl,.nilsl,.nilsl] []) 10 true,ZG 12 (.call 12 [(.t 11)]) 10 true,ZG 13 (.call 9 [(.c (.str [48,32,48,58,10,48,10,48,10]))]) 10 true,ZG 14 (.bin .eql (.t 12) (.t 13)) 10 true,ZO 15 (.pick (.t 10) (.t 14) (.c (.bool false))),ZM 16 15,ZG 17 (.load true 8 (.t 1)) 16 true,ZG 18 (.load true 8 (.t 1)) 16 true,ZG 19 (.call 20 [(.t 17),(.t 18)]) 16 true,ZG 20 (.len false (.t 19)) 16 true,ZG 21 (.bin .eql (.t 20) (.c (.int .i64 0))) 16 true,ZO 22 (.pick (.t 16) (.t 21) (.c (.bool false))),ZM 23 22,ZG 24 (.call 9 [(.c (.str []))]) 23 true,ZG 25 (.len true (.t 24)) 23 true,ZG 26 (.bin .eql (.t 25) (.c (.int .i64 16))) 23 true,ZO 27 (.pick (.t 23) (.t 26) (.c (.bool false))),ZM 28 27,ZG 29 (.load true 8 (.t 1)) 28 true,ZG 30 (.build [(.int .i64 0),(.int .i64 0),(.int .i64 0),(.int .i64 0),(.str []),.nilsl,.nilsl,.nilsl] []) 28 true,ZG 31 (.call 20 [(.t 29),(.t 30)]) 28 true,ZG 32 (.len false (.t 31)) 28 true,ZG 33 (.bin .eql (.t 32) (.c (.int .i64 2))) 28 true,ZO 34 (.pick (.t 28) (.t 33) (.c (.bool false))),ZM 0 34] false) .ret)))
def CellsV (h:Heap):List PV → List PV → Prop
  | [],[]=>True
  | a :: r,b :: q=>View h a b ∧ CellsV h r q
  | _,_=>False
theorem CellsV.at {h:Heap}:∀ {l q:List PV},CellsV h l q → ∀ j,View h (PV.nth l j) (PV.nth q j)
  | [],[],_,j=>View.refl _ _
  | a :: r,b :: q,hv,0=>hv.1
  | a :: r,b :: q,hv,j + 1=>by
    have:=CellsV.at hv.2 j
    simpa [PV.nth] using this
theorem rows_view {h:Heap} {id n z:Nat} {fz:Bool} {es q:List (List PV)} (hg:h.get id = some (.arr fz z es)) (hn:n = es.length) (hq:q.length = n) (hz:∀ i,i < n → (PV.row q i).length = z) (hv:∀ i,i < n → CellsV h (PV.row es i) (PV.row q i)):View h (.own id 0 n) (.sl z q) :=
  View.ownV hg (by omega) hq hz (fun i j hi _=>by rw [Nat.zero_add]; exact CellsV.at (hv i hi) j)
def kidA:Un:=.mk 1 0 1 1 [49] [] [] []
def unA:Un:=.mk 0 0 0 0 [] [] [] [kidA]
theorem itoa0:Lib.itoa 0 = [48]:=by rw [itoa_pos_small (by omega) (by omega)]; rfl
theorem itoa1:Lib.itoa 1 = [49]:=by rw [itoa_pos_small (by omega) (by omega)]; rfl
theorem txtZ (m:Bool):Zbb m Zco = (if m then [48,46,48,46,48,32] else []) ++ [48,32,48,58,10,48,10,48,10]:=by
  unfold Zbb Zco Zcf pieceT rowT
  simp only [Un.act,Un.item,Un.n,Un.kind,Un.label,Un.head,Un.words,List.length_nil,Int.natCast_zero,itoa0,List.flatMap_nil]
  cases m <;> rfl
theorem txtA:Zbb true unA = Zbb true Zco:=rfl
theorem txtK:Zbb true kidA = [49,46,48,46,49,32,49,32,49,58,49,10,48,10,48,10]:=by
  unfold Zbb kidA Zcf pieceT rowT
  simp only [Un.act,Un.item,Un.n,Un.kind,Un.label,Un.head,Un.words,List.length_nil,List.length_cons,Nat.zero_add,Int.natCast_zero,Int.natCast_one,itoa0,itoa1,List.flatMap_nil]
  rfl
theorem saysZ (m:Bool):saysT m Zco = sumT (Zbb m Zco):=by rw [saysT_eq]; simp [Zco,Un.kids,saysL]
theorem saysK:saysT true kidA = sumT (Zbb true kidA):=by rw [saysT_eq]; simp [kidA,Un.kids,saysL]
theorem saysA:saysT true unA = sumT (Zbb true Zco ++ sumT (Zbb true kidA)):=by rw [saysT_eq,txtA]; simp [unA,Un.kids,saysL,saysK]
theorem hash_ne:(sumT ([48,46,48,46,48,32,48,32,48,58,10,48,10,48,10] ++ sumT [49,46,48,46,49,32,49,32,49,58,49,10,48,10,48,10]) == sumT [48,46,48,46,48,32,48,32,48,58,10,48,10,48,10]) = false:=by kernel_rfl
theorem says_ne:saysT true unA ≠ saysT true Zco:=by
  rw [saysA,saysZ,txtZ,txtK]
  exact fun h=>by
    have:=hash_ne
    rw [beq_eq_false_iff_ne] at this
    exact this h
theorem unitsK:unitsT kidA = [kidA]:=by rw [Zb1]; simp [kidA,Un.kids,unitsL]
theorem unitsA:unitsT unA = [unA,kidA]:=by rw [Zb1]; simp [unA,Un.kids,unitsL,unitsK]
theorem unitsZ:unitsT Zco = [Zco]:=by rw [Zb1]; simp [Zco,Un.kids,unitsL]
theorem diff_two:(difD unA Zco).length = 2:=by
  unfold difD sortD
  rw [List.length_mergeSort]
  have h1:(difL (Zcl unA) (Zcl Zco)).Perm [⟨0,0,0⟩,⟨1,0,1⟩]:=by
    refine (List.perm_ext_iff_of_nodup (difL_nod (Zcn _) (Zcn _)) (by decide)).2 fun x=>?_
    rw [difL_mem,gathT_val,gathT_val,unitsA,unitsZ]
    unfold Zbm
    simp only [List.find?_cons,List.find?_nil]
    have e1:idU unA = ⟨0,0,0⟩:=rfl
    have e2:idU kidA = ⟨1,0,1⟩:=rfl
    have e3:idU Zco = ⟨0,0,0⟩:=rfl
    rw [e1,e2,e3]
    by_cases h:x = ⟨0,0,0⟩
    · subst h
      simp [says_ne]
    · have h0:((⟨0,0,0⟩:Idt) == x) = false:=by rw [beq_eq_false_iff_ne]; exact fun e=>h e.symm
      rw [h0]
      by_cases h2:x = ⟨1,0,1⟩
      · subst h2; simp
      · have h3:((⟨1,0,1⟩:Idt) == x) = false:=by rw [beq_eq_false_iff_ne]; exact fun e=>h2 e.symm
        rw [h3]
        simp [h,h2]
  rw [h1.length_eq]; rfl
theorem i64_0:i64 0:=i64_iff.2 (by omega)
theorem i64_1:i64 1:=i64_iff.2 (by omega)
theorem smalZ:SmalT Zco:=.mk _ ⟨⟨i64_0,i64_0,i64_0,i64_0⟩,by simp [Zco,Un.label],⟨by simp [Zco,Un.head],by simp [Zco,Un.head]⟩,⟨by simp [Zco,Un.words],by simp [Zco,Un.words]⟩⟩ (by simp [Zco,Un.kids]) (by simp [Zco,Un.kids])
theorem smalK:SmalT kidA:=.mk _ ⟨⟨i64_1,i64_0,i64_1,i64_1⟩,by simp [kidA,Un.label],⟨by simp [kidA,Un.head],by simp [kidA,Un.head]⟩,⟨by simp [kidA,Un.words],by simp [kidA,Un.words]⟩⟩ (by simp [kidA,Un.kids]) (by simp [kidA,Un.kids])
theorem smalA:SmalT unA:=.mk _ ⟨⟨i64_0,i64_0,i64_0,i64_0⟩,by simp [unA,Un.label],⟨by simp [unA,Un.head],by simp [unA,Un.head]⟩,⟨by simp [unA,Un.words],by simp [unA,Un.words]⟩⟩ (by simp [unA,Un.kids]) (by simp only [unA,Un.kids,List.mem_singleton,forall_eq]; exact smalK)
theorem view_zero (h:Heap):View h (.agg [pI 0,pI 0,pI 0,pI 0,.str [],.nilsl,.nilsl,.nilsl]) (.agg Zco.enc):=by
  rw [Un.Zay]
  refine View.agg rfl fun j _=>CellsV.at (l:=[pI 0,pI 0,pI 0,pI 0,.str [],.nilsl,.nilsl,.nilsl]) (q:=[pI 0,pI 0,pI 0,pI 0,.str [],.sl 4 [],.sl 4 [],.sl 8 []]) ⟨View.refl _ _,View.refl _ _,View.refl _ _,View.refl _ _,View.refl _ _,View.nil _ _,View.nil _ _,View.nil _ _,trivial⟩ j
theorem sp_awake:Za2 Tryd.prog 8 [] (.bool true):=by
  have S0:=sp_digest_Self Zco (by cases smalZ; assumption)
  have M0:=Zcg [48,46,48,46,48,32,48,32,48,58,10,48,10,48,10] (by simp)
  have C0:=Zch smalZ
  have M1:=Zcg [48,32,48,58,10,48,10,48,10] (by simp)
  have D0:=sp_digest_Diff smalA smalA (by rw [unitsA]; simp) (by rw [unitsA]; simp)
  have M2:=Zcg [] (by simp)
  have D1:=sp_digest_Diff smalA smalZ (by rw [unitsA]; simp) (by rw [unitsZ]; simp)
  have e0:sumT (Zbb true Zco) = sumT [48,46,48,46,48,32,48,32,48,58,10,48,10,48,10]:=by rw [txtZ]; rfl
  have e1:saysT false Zco = sumT [48,32,48,58,10,48,10,48,10]:=by rw [saysZ,txtZ]; rfl
  have e2:(sumT []).length = 16:=hexK_len _ _
  have e3:((difD unA Zco).map Idt.enc).length = 2:=by rw [List.length_map,diff_two]
  rw [difD_self,List.map_nil] at D0
  have z0:(((0:Nat):Int) == 0) = true:=rfl
  have z2:(((2:Nat):Int) == 2) = true:=rfl
  have z16:(((16:Nat):Int) == 16) = true:=rfl
  rw [e0] at S0
  rw [e1] at C0
  generalize sumT [48,46,48,46,48,32,48,32,48,58,10,48,10,48,10] = H0 at S0 M0
  generalize sumT [48,32,48,58,10,48,10,48,10] = H1 at C0 M1
  generalize sumT [] = H2 at M2 e2
  generalize (difD unA Zco).map Idt.enc = DD at D1 e3
  have hA:unA.enc = [pI 0,pI 0,pI 0,pI 0,.str [],.sl 4 [],.sl 4 [],.sl 8 [kidA.enc]]:=by rw [Un.Zay]; rfl
  have hK:kidA.enc = [pI 1,pI 0,pI 1,pI 1,.str [49],.sl 4 [],.sl 4 [],.sl 8 []]:=by rw [Un.Zay]; rfl
  rw [hA] at D0 D1
  refine Zah ?_ (cB _) (by simp only [Zau,List.mem_cons,List.not_mem_nil,or_false,forall_eq_or_imp,forall_eq,false_implies,implies_true]; repeat' (first  | exact cB _ | refine And.intro ?_ ?_))
  refine Zal (vc:=c_pandectlaw12_awake) (ts:=[.t 0]) Go.Proofs.Tryd.func8 (by kernel_rfl) rfl rfl (Nat.le_of_ble_eq_true rfl) (by kernel_rfl) ?_
  unfold c_pandectlaw12_awake
  try dsimp only [ZM,ZO,ZN,ZG]
  refine Zac (Zaa [] ?_)
  simp only [Zab,Zad,Zaf,pok,pval,VA.ev,Env.put,Env.keep,Zav,Zae,Heap.nil,true_and]
  refine Zac (Zaa [1] ?_)
  simp only [Zab,Zad,Zaf,pok,pval,VA.ev,Env.get,Env.put,Env.keep,Zae,fillV,fillOk,PV.cells,PV.fits,overlay,PV.row,Heap.get,Heap.set,HL.get,HL.set,HL.del,Heap.push,Nat.le_refl,Nat.succ_ne_self,Zbd,Zbg,Zbt,Zbr,List.set,List.replicate,List.length,List.getD_cons_zero,List.take,List.drop,List.take_succ_cons,List.drop_succ_cons,List.cons_append,List.nil_append,Nat.reduceEqDiff,Nat.reduceAdd,Nat.reduceLT,Nat.reduceLeDiff,ite_true,ite_false,true_and,and_true,reduceCtorEq,BEq.rfl,Nat.zero_add,List.length_cons]
  refine Za9 [(1,.ro [pI 0,pI 0,pI 0,pI 0,.str [],.sl 4 [],.sl 4 [],.sl 8 [kidA.enc]])] ⟨?_,trivial⟩ ?_
  · refine View.locV (es:=[[pI 0,pI 0,pI 0,pI 0,.str [],.nilsl,.nilsl,.own 0 0 1]]) (z:=8) (fz:=false) (by simp [Heap.get,HL.get,pI]) (by decide) (by decide) (fun j hj=>?_)
    rw [Nat.zero_add]
    refine CellsV.at (l:=[pI 0,pI 0,pI 0,pI 0,.str [],.nilsl,.nilsl,.own 0 0 1]) (q:=[pI 0,pI 0,pI 0,pI 0,.str [],.sl 4 [],.sl 4 [],.sl 8 [kidA.enc]]) ⟨View.refl _ _,View.refl _ _,View.refl _ _,View.refl _ _,View.refl _ _,View.nil _ _,View.nil _ _,?_,trivial⟩ j
    refine rows_view (es:=[[pI 1,pI 0,pI 1,pI 1,.str [49],.nilsl,.nilsl,.nilsl]]) (fz:=false) (by simp [Heap.get,HL.get,pI]) rfl rfl (fun i hi=>?_) (fun i hi=>?_)
    · match i,hi with
      | 0,_=>rw [hK]; rfl
    · match i,hi with
      | 0,_ =>
        rw [hK]
        exact ⟨View.refl _ _,View.refl _ _,View.refl _ _,View.refl _ _,View.refl _ _,View.nil _ _,View.nil _ _,View.nil _ _,trivial⟩
  generalize kidA.enc = KE at *
  refine Zac (Zaa [0] ?_)
  simp only [Zad,Zaf,pok,pval,VA.ev,Env.get,Env.put,Env.keep,Zae,intV,binV,Zak,strV,fillV,fillOk,Nat.succ_ne_self,List.map,Nat.reduceEqDiff,ite_true,ite_false,true_and]
  refine ACall_v [.agg Zco.enc] ⟨view_zero _,trivial⟩ S0 (scalar_str _) ?_
  skip
  refine Zan M0 ?_
  try simp only [Zad,OpsW_y,Zaf,pok,pval,VA.ev,Env.get,Env.put,pickV,isBool,intV,binV,Zak,strV,fillV,fillOk,Nat.succ_ne_self,List.map,Nat.reduceEqDiff,ite_true,ite_false,true_and,BEq.rfl]
  refine ACall_v [.agg Zco.enc] ⟨view_zero _,trivial⟩ C0 (scalar_str _) ?_
  skip
  refine Zan M1 ?_
  try simp only [Zad,OpsW_y,Zaf,pok,pval,VA.ev,Env.get,Env.put,pickV,isBool,aggV,intV,binV,Zak,lenV,Zag,Zap,Zb5,PV.nth,Nat.le_refl,Nat.succ_ne_self,List.map,List.length,List.getD_cons_zero,List.take,List.take_succ_cons,Nat.reduceEqDiff,Nat.reduceAdd,Bool.false_eq_true,Bool.true_eq_false,ite_true,ite_false,true_and,and_true,BEq.rfl,Nat.zero_add,List.length_cons,imp_self]
  refine Zan D0 ?_
  try simp only [Zad,OpsW_y,Zaf,pok,pval,VA.ev,Env.get,Env.put,pickV,isBool,intV,binV,Zak,lenV,Zb5,Nat.succ_ne_self,List.map,List.length,Nat.reduceEqDiff,Bool.true_eq_false,ite_true,ite_false,true_and,z0]
  refine Zan M2 ?_
  try simp only [Zab,Zad,OpsW_y,Zaf,pok,pval,VA.ev,Env.get,Env.put,pickV,isBool,aggV,intV,binV,Zak,lenV,Zag,Zap,Zb5,fillV,fillOk,PV.nth,Nat.le_refl,Nat.succ_ne_self,List.map,List.length,List.getD_cons_zero,List.take,List.take_succ_cons,Nat.reduceEqDiff,Nat.reduceAdd,Bool.false_eq_true,Bool.true_eq_false,ite_true,ite_false,true_and,and_true,reduceCtorEq,Nat.zero_add,List.length_cons,imp_self,e2,z16]
  refine ACall_f [.agg [pI 0,pI 0,pI 0,pI 0,.str [],.sl 4 [],.sl 4 [],.sl 8 [KE]],.agg Zco.enc] ⟨View.refl _ _,view_zero _,trivial⟩ (Zan D1 ?_)
  try simp only [true_and,e3,z2]
  refine Zaq ?_
  try simp only [Env.get,retQ,resV,Za4,RS.ev,RS.ok,ite_true,true_and,and_true]
  exact View.refl _ _
end Go.Proofs.YtjmekckcffckoaaDoor.w
namespace Go.Proofs.YtjmekckcffckoaaDoor.w
open Go Go.VM
set_option maxRecDepth 20000
set_option maxHeartbeats 0
set_option pp.deepTerms false
def Zcp:VC:=(.seq (.region [ZO 2 (.mv (.c (.bool false)))] false) (.seq (.seq (.region [ZM 3 0,ZO 4 (.len true (.t 3)),ZO 5 (.bin .gtr (.t 4) (.c (.int .i64 3000)))] false) (.cond (.t 5) (.seq (.region [ZO 6 (.call 8 []),ZM 2 6] false) .ret) .skip)) (.seq (.region [ZM 7 0,ZO 8 (.call 9 [(.t 7)]),ZM 9 0,ZO 10 (.call 10 [(.t 9)]),ZO 11 (.bin .eql (.t 8) (.t 10)),ZM 12 11,ZG 13 (.call 8 []) 12 true,ZO 14 (.pick (.t 12) (.t 13) (.c (.bool false))),ZM 2 14] false) .ret)))
def Zcj:VC:=(.seq (.region [ZO 1 (.box 8 (.t 0)),ZO 2 (.mv (.c (.bool false)))] false) (.seq (.seq (.region [ZO 3 (.load true 8 (.t 1)),ZO 4 (.call 11 [(.t 3)])] false) (.cond (.t 4) (.seq (.region [ZO 5 (.call 8 []),ZM 2 5] false) .ret) .skip)) (.seq (.region [ZO 6 (.load true 8 (.t 1)),ZO 7 (.call 12 [(.t 6)]),ZO 8 (.load true 8 (.t 1)),ZO 9 (.call 13 [(.t 8)]),ZO 10 (.bin .eql (.t 7) (.t 9)),ZM 11 10,ZG 12 (.load true 8 (.t 1)) 11 true,ZG 13 (.call 14 [(.t 12)]) 11 true,ZG 14 (.load true 8 (.t 1)) 11 true,ZG 15 (.call 15 [(.t 14)]) 11 true,ZG 16 (.bin .eql (.t 13) (.t 15)) 11 true,ZO 17 (.pick (.t 11) (.t 16) (.c (.bool false))),ZM 18 17,ZG 19 (.load true 8 (.t 1)) 18 true,ZG 20 (.call 16 [(.t 19)]) 18 true,ZG 21 (.load true 8 (.t 1)) 18 true,ZG 22 (.call 17 [(.t 21),(.c (.bool true))]) 18 true,ZG 23 (.call 10 [(.t 22)]) 18 true,ZG 24 (.bin .eql (.t 20) (.t 23)) 18 true,ZO 25 (.pick (.t 18) (.t 24) (.c (.bool false))),ZM 26 25,ZG 27 (.call 8 []) 26 true,ZO 28 (.pick (.t 26) (.t 27) (.c (.bool false))),ZM 2 28] true) .ret)))
def Zck:VC:=(.seq (.region [ZO 2 (.box 8 (.t 0)),ZO 3 (.box 8 (.t 1)),ZO 4 (.mv (.c (.bool false)))] false) (.seq (.seq (.region [ZO 5 (.load true 8 (.t 2)),ZO 6 (.call 11 [(.t 5)]),ZM 7 6,ZG 8 (.load true 8 (.t 3)) 7 false,ZG 9 (.call 11 [(.t 8)]) 7 false,ZO 10 (.pick (.t 7) (.c (.bool true)) (.t 9))] false) (.cond (.t 10) (.seq (.region [ZO 11 (.call 8 []),ZM 4 11] false) .ret) .skip)) (.seq (.region [ZO 12 (.load true 8 (.t 2)),ZO 13 (.load true 8 (.t 3)),ZO 14 (.call 20 [(.t 12),(.t 13)]),ZO 15 (.load true 8 (.t 2)),ZO 16 (.load true 8 (.t 3)),ZO 17 (.call 21 [(.t 15),(.t 16)]),ZO 18 (.call 19 [(.t 14),(.t 17)]),ZM 19 18,ZG 20 (.load true 8 (.t 2)) 19 true,ZG 21 (.load true 8 (.t 3)) 19 true,ZG 22 (.call 20 [(.t 20),(.t 21)]) 19 true,ZG 23 (.load true 8 (.t 3)) 19 true,ZG 24 (.load true 8 (.t 2)) 19 true,ZG 25 (.call 20 [(.t 23),(.t 24)]) 19 true,ZG 26 (.call 19 [(.t 22),(.t 25)]) 19 true,ZO 27 (.pick (.t 19) (.t 26) (.c (.bool false))),ZM 28 27,ZG 29 (.call 8 []) 28 true,ZO 30 (.pick (.t 28) (.t 29) (.c (.bool false))),ZM 4 30] true) .ret)))
theorem law_DigestSums (a:Str) (ha:a.length ≤ 1048576):Za2 Tryd.prog 3 [.str a] (.bool true):=by
  have A:=sp_awake
  have S:=Zcg a (by omega)
  have T:=sp_Text a (by omega)
  generalize sumT a = X at S T
  refine Zah ?_ (cB _) (by simp only [Zau,List.mem_cons,List.not_mem_nil,or_false,forall_eq_or_imp,forall_eq,false_implies,implies_true]; repeat' (first  | exact cS _ | exact cB _ | refine And.intro ?_ ?_))
  refine Zal (vc:=Zcp) (ts:=[.t 2]) Go.Proofs.Tryd.func3 (by kernel_rfl) rfl rfl (Nat.le_of_ble_eq_true rfl) (by kernel_rfl) ?_
  unfold Zcp
  try dsimp only [ZM,ZO,ZN,ZG]
  refine Zac (Zaa [0] ?_)
  simp only [Zab,Zad,Zaf,pok,pval,VA.ev,Env.get,Env.put,Env.keep,Zav,Zae,Heap.nil,ite_true,ite_false,true_and,reduceCtorEq]
  refine Zac ?_
  refine Zac (Zaa [0,5] ?_)
  simp only [Zab,Zad,Zaf,pok,pval,VA.ev,Env.get,Env.put,Env.keep,Zae,intV,binV,Zak,lenV,Zb5,Nat.reduceEqDiff,ite_true,ite_false,true_and,reduceCtorEq]
  refine Zaj rfl (fun h1=>?_) (fun h1=>?_)
  · refine Zac (Zaa [2] ?_)
    simp only [Zab,Zad,Zaf,pok,pval,VA.ev,Env.get,Env.put,Env.keep,Zae,List.map,Nat.reduceEqDiff,ite_true,ite_false,true_and,reduceCtorEq]
    refine Zan A ?_
    skip
    refine Zaq ?_
    try simp only [Env.get,Zae,retQ,resV,Za4,RS.ev,RS.ok,ite_true,true_and,and_true]
    exact View.refl _ _
  refine Zam ?_
  try simp only [Zae]
  refine Zac (Zaa [2] ?_)
  simp only [Zad,Zaf,pok,pval,VA.ev,Env.get,Env.put,Env.keep,Zae,intV,binV,Zak,strV,Nat.succ_ne_self,List.map,Nat.reduceEqDiff,ite_true,ite_false,true_and,reduceCtorEq]
  refine Zan S ?_
  skip
  refine Zan T ?_
  try simp only [Zab,Zad,OpsW_y,Zaf,pok,pval,VA.ev,Env.get,Env.put,pickV,isBool,Nat.succ_ne_self,List.map,Nat.reduceEqDiff,ite_true,ite_false,true_and,reduceCtorEq,BEq.rfl]
  refine Zan A ?_
  skip
  refine Zaq ?_
  try simp only [Env.get,retQ,resV,Za4,RS.ev,RS.ok,ite_true,true_and,and_true]
  exact View.refl _ _
theorem law_DigestTrees (u:Un) (hu:UnB u):Za2 Tryd.prog 4 [.agg u.enc] (.bool true):=by
  have A:=sp_awake
  have H:=sp_heavy hu
  have L:=light hu
  generalize heavyT u = hv at H L
  refine Zah ?_ (cB _) (by simp only [Zau,List.mem_cons,List.not_mem_nil,or_false,forall_eq_or_imp,forall_eq,false_implies,implies_true]; repeat' (first  | exact cB _ | exact Zas (Un.closed _) | refine And.intro ?_ ?_))
  refine Zal (vc:=Zcj) (ts:=[.t 2]) Go.Proofs.Tryd.func4 (by kernel_rfl) rfl rfl (Nat.le_of_ble_eq_true rfl) (by kernel_rfl) ?_
  unfold Zcj
  try dsimp only [ZM,ZO,ZN,ZG]
  have hE:=Un.Zay u
  rw [hE] at H ⊢
  refine Zac (Zaa [1] ?_)
  simp only [Zab,Zad,Zaf,pok,pval,VA.ev,Env.get,Env.put,Env.keep,Zav,Zae,PV.cells,PV.fits,Heap.push,Heap.nil,Nat.succ_ne_self,List.length,Nat.reduceAdd,ite_true,ite_false,true_and,reduceCtorEq,BEq.rfl,Nat.zero_add]
  refine Za9 [(1,.ro [pI u.act,pI u.item,pI u.n,pI u.kind,.str u.label,.sl 4 (u.head.map Wd.enc),.sl 4 (u.words.map Wd.enc),.sl 8 (u.kids.map Un.enc)])] ⟨View.loc (z:=8) (fz:=false) (es:=[[pI u.act,pI u.item,pI u.n,pI u.kind,.str u.label,.sl 4 (u.head.map Wd.enc),.sl 4 (u.words.map Wd.enc),.sl 8 (u.kids.map Un.enc)]]) rfl (by simp) rfl (by simp),trivial⟩ ?_
  refine Zac ?_
  refine Zac (Zaa [1,4] ?_)
  simp only [Zab,Zad,Zaf,pok,pval,VA.ev,Env.get,Env.put,Env.keep,Zae,aggV,Zag,Zap,PV.nth,Nat.le_refl,List.map,List.length,List.getD_cons_zero,List.take,List.take_succ_cons,Nat.reduceEqDiff,Nat.reduceAdd,Bool.true_eq_false,ite_true,ite_false,true_and,and_true,Nat.zero_add,List.length_cons,imp_self]
  refine Zan H ?_
  skip
  cases hv with
  | true =>
    refine Zaj rfl (fun _=>?_) (fun h=>by cases h)
    refine Zac (Zaa [2] ?_)
    simp only [Zab,Zad,Zaf,pok,pval,VA.ev,Env.get,Env.put,Env.keep,Zae,List.map,Nat.reduceEqDiff,ite_true,ite_false,true_and]
    refine Zan A ?_
    skip
    refine Zaq ?_
    try simp only [Env.get,Zae,retQ,resV,Za4,RS.ev,RS.ok,ite_true,true_and,and_true]
    exact View.refl _ _
  | false =>
    obtain ⟨hS,hn⟩:=L rfl
    have hU:SmalU u:=by cases hS; assumption
    have al:=alone_len true hU
    have C1:=Zch hS
    have C2:=sp_Says hS
    have F1:=sp_digest_Full hS
    have F2:=sp_Whole hS
    have S1:=sp_digest_Self u hU
    have S2:=sp_r_Alone true u hU
    have S3:=sp_Text (Zbb true u) (by omega)
    rw [hE] at C1 C2 F1 F2 S1 S2
    generalize saysT false u = X1 at C1 C2
    generalize saysT true u = X2 at F1 F2
    generalize sumT (Zbb true u) = X3 at S1 S3
    generalize Zbb true u = X4 at S2 S3
    generalize u.head.map Wd.enc = EH at *
    generalize u.words.map Wd.enc = EW at *
    generalize u.kids.map Un.enc = EK at *
    refine Zaj rfl (fun h=>by cases h) (fun _=>?_)
    refine Zam ?_
    try simp only [Zae]
    refine Zac (Zbz [2] (by simp [Heap.le,Heap.get,HL.le,HL.get]) ?_)
    simp only [Zbe,QW,dok,dval,VOp.pure,VOp.simple,VOp.det,pok,pval,VA.ev,Env.get,Env.put,Env.keep,Zae,gd,aggV,intV,binV,Zak,strV,Zag,Zap,PV.nth,Nat.le_refl,Nat.succ_ne_self,List.length,List.getD_cons_zero,List.take,List.take_succ_cons,Nat.reduceEqDiff,Nat.reduceAdd,Bool.true_eq_false,ite_true,ite_false,true_and,and_true,implies_true,forall_const,Nat.zero_add,List.length_cons,imp_self]
    refine ⟨_,.inl C1,_,.inl C2,?_⟩
    try simp only [Zbe,DrawW_y,QW,dok,dval,VOp.pure,VOp.simple,VOp.det,pok,pval,VA.ev,Env.get,Env.put,gd,pickV,isBool,aggV,intV,binV,Zak,strV,Zag,Zap,PV.nth,Nat.le_refl,Nat.succ_ne_self,List.length,List.getD_cons_zero,List.take,List.take_succ_cons,Nat.reduceEqDiff,Nat.reduceAdd,Bool.true_eq_false,ite_true,ite_false,true_and,and_true,implies_true,forall_const,BEq.rfl,Nat.zero_add,List.length_cons,imp_self]
    refine ⟨_,.inl F1,_,.inl F2,?_⟩
    try simp only [Zbe,DrawW_y,QW,dok,dval,VOp.pure,VOp.simple,VOp.det,pok,pval,VA.ev,Env.get,Env.put,gd,pickV,isBool,aggV,intV,binV,Zak,strV,Zag,Zap,PV.nth,Nat.le_refl,Nat.succ_ne_self,List.length,List.getD_cons_zero,List.take,List.take_succ_cons,Nat.reduceEqDiff,Nat.reduceAdd,Bool.true_eq_false,ite_true,ite_false,true_and,and_true,implies_true,forall_const,BEq.rfl,Nat.zero_add,List.length_cons,imp_self]
    refine ⟨_,.inl S1,_,.inl S2,?_⟩
    skip
    refine ⟨_,.inl S3,?_⟩
    try simp only [Zba,Zbe,DrawW_y,QW,dok,dval,VOp.pure,VOp.simple,VOp.det,pok,pval,VA.ev,Env.get,Env.put,gd,pickV,isBool,Nat.succ_ne_self,Nat.reduceEqDiff,ite_true,ite_false,true_and,implies_true,forall_const,BEq.rfl]
    refine ⟨_,.inl A,?_⟩
    skip
    refine Zaq ?_
    try simp only [Env.get,retQ,resV,Za4,RS.ev,RS.ok,ite_true,true_and,and_true]
    exact View.refl _ _
theorem law_DigestDiffs (a b:Un) (ha:UnB a) (hb:UnB b):Za2 Tryd.prog 6 [.agg a.enc,.agg b.enc] (.bool true):=by
  have A:=sp_awake
  have H1:=sp_heavy ha
  have H2:=sp_heavy hb
  have L1:=light ha
  have L2:=light hb
  generalize heavyT a = ha1 at H1 L1
  generalize heavyT b = hb1 at H2 L2
  refine Zah ?_ (cB _) (by simp only [Zau,List.mem_cons,List.not_mem_nil,or_false,forall_eq_or_imp,forall_eq,false_implies,implies_true]; repeat' (first  | exact cB _ | exact Zas (Un.closed _) | refine And.intro ?_ ?_))
  refine Zal (vc:=Zck) (ts:=[.t 4]) Go.Proofs.Tryd.func6 (by kernel_rfl) rfl rfl (Nat.le_of_ble_eq_true rfl) (by kernel_rfl) ?_
  unfold Zck
  try dsimp only [ZM,ZO,ZN,ZG]
  have hE1:=Un.Zay a
  have hE2:=Un.Zay b
  rw [hE1] at H1 ⊢
  rw [hE2] at H2 ⊢
  refine Zac (Zaa [2,3] ?_)
  simp only [Zab,Zad,Zaf,pok,pval,VA.ev,Env.get,Env.put,Env.keep,Zav,Zae,PV.cells,PV.fits,Heap.push,Heap.nil,Nat.succ_ne_self,List.length,Nat.reduceEqDiff,Nat.reduceAdd,ite_true,ite_false,true_and,reduceCtorEq,BEq.rfl,Nat.zero_add]
  refine Za9 [(2,.ro [pI a.act,pI a.item,pI a.n,pI a.kind,.str a.label,.sl 4 (a.head.map Wd.enc),.sl 4 (a.words.map Wd.enc),.sl 8 (a.kids.map Un.enc)]),(3,.ro [pI b.act,pI b.item,pI b.n,pI b.kind,.str b.label,.sl 4 (b.head.map Wd.enc),.sl 4 (b.words.map Wd.enc),.sl 8 (b.kids.map Un.enc)])] ⟨View.loc (z:=8) (fz:=false) (es:=[[pI a.act,pI a.item,pI a.n,pI a.kind,.str a.label,.sl 4 (a.head.map Wd.enc),.sl 4 (a.words.map Wd.enc),.sl 8 (a.kids.map Un.enc)]]) (by simp [Heap.get,HL.get]) (by simp) rfl (by simp),View.loc (z:=8) (fz:=false) (es:=[[pI b.act,pI b.item,pI b.n,pI b.kind,.str b.label,.sl 4 (b.head.map Wd.enc),.sl 4 (b.words.map Wd.enc),.sl 8 (b.kids.map Un.enc)]]) (by simp [Heap.get,HL.get]) (by simp) rfl (by simp),trivial⟩ ?_
  refine Zac ?_
  refine Zac (VW_mid (σ:={ x:Bool // x = (ha1 || hb1) }) (fun x=>([(2,.ro [pI a.act,pI a.item,pI a.n,pI a.kind,.str a.label,.sl 4 (a.head.map Wd.enc),.sl 4 (a.words.map Wd.enc),.sl 8 (a.kids.map Un.enc)]),(3,.ro [pI b.act,pI b.item,pI b.n,pI b.kind,.str b.label,.sl 4 (b.head.map Wd.enc),.sl 4 (b.words.map Wd.enc),.sl 8 (b.kids.map Un.enc)]),(10,.bool x.1)],⟨[],2⟩)) (Zaa [2,3,10] ?_) (fun x=>?_))
  · cases ha1 with
    | true =>
      simp only [midQ,Zad,Zaf,pok,pval,VA.ev,Env.get,Env.put,Env.keep,aggV,Zag,Zap,PV.nth,Heap.le,HL.le,Nat.le_refl,Nat.succ_ne_self,Env.le,List.map,List.length,List.getD_cons_zero,List.take,List.take_succ_cons,Nat.reduceEqDiff,Nat.reduceAdd,Bool.true_eq_false,ite_true,ite_false,true_and,and_true,Nat.zero_add,List.length_cons,imp_self]
      refine Zan H1 ?_
      try simp only [Zab,Zad,OpsW_xf,Zaf,pok,pval,VA.ev,Env.get,Env.put,pickV,isBool,Nat.le_refl,Nat.succ_ne_self,Nat.reduceEqDiff,ite_true,ite_false,true_and,and_true]
      exact ⟨⟨true,rfl⟩,by first | trivial | rfl | simp⟩
    | false =>
      simp only [midQ,Zad,Zaf,pok,pval,VA.ev,Env.get,Env.put,Env.keep,aggV,Zag,Zap,PV.nth,Heap.le,HL.le,Nat.le_refl,Nat.succ_ne_self,Env.le,List.map,List.length,List.getD_cons_zero,List.take,List.take_succ_cons,Nat.reduceEqDiff,Nat.reduceAdd,Bool.true_eq_false,ite_true,ite_false,true_and,and_true,Nat.zero_add,List.length_cons,imp_self]
      refine Zan H1 ?_
      try simp only [Zab,Zad,OpsW_y,Zaf,pok,pval,VA.ev,Env.get,Env.put,pickV,isBool,aggV,Zag,Zap,PV.nth,Nat.le_refl,Nat.succ_ne_self,List.map,List.length,List.getD_cons_zero,List.take,List.take_succ_cons,Nat.reduceEqDiff,Nat.reduceAdd,Bool.false_eq_true,Bool.true_eq_false,ite_true,ite_false,true_and,and_true,Nat.zero_add,List.length_cons,imp_self]
      refine Zan H2 ?_
      try simp only [Nat.le_refl,and_true]
      exact ⟨⟨hb1,by simp⟩,by first | trivial | rfl | simp⟩
  obtain ⟨x,hx⟩:=x
  simp only []
  cases x with
  | true =>
    refine Zaj rfl (fun _=>?_) (fun h=>by cases h)
    refine Zac (Zaa [4] ?_)
    simp only [Zab,Zad,Zaf,pok,pval,VA.ev,Env.get,Env.put,Env.keep,Zae,List.map,Nat.reduceEqDiff,ite_true,ite_false,true_and]
    refine Zan A ?_
    skip
    refine Zaq ?_
    try simp only [Env.get,Zae,retQ,resV,Za4,RS.ev,RS.ok,ite_true,true_and,and_true]
    exact View.refl _ _
  | false =>
    have hab:ha1 = false ∧ hb1 = false:=by cases ha1 <;> cases hb1 <;> simp at hx ⊢
    obtain ⟨hS1,hn1⟩:=L1 hab.1
    obtain ⟨hS2,hn2⟩:=L2 hab.2
    have D1:=sp_digest_Diff hS1 hS2 (by omega) (by omega)
    have D2:=sp_digest_Diff hS2 hS1 (by omega) (by omega)
    have P1:=sp_Apart hS1 hS2 (by omega) (by omega)
    rw [difD_symm b a] at D2
    have hlen:=difD_len a b
    have g1:=gathT_len a
    have g2:=gathT_len b
    have I:=sp_r_Ids (difD a b) (difD a b) (by omega) (by omega)
    rw [show decide (difD a b = difD a b) = true by simp] at I
    rw [hE1,hE2] at D1 D2 P1
    generalize (difD a b).map Idt.enc = DD at *
    generalize a.head.map Wd.enc = EH at *
    generalize a.words.map Wd.enc = EW at *
    generalize a.kids.map Un.enc = EK at *
    generalize b.head.map Wd.enc = FH at *
    generalize b.words.map Wd.enc = FW at *
    generalize b.kids.map Un.enc = FK at *
    refine Zaj rfl (fun h=>by cases h) (fun _=>?_)
    refine Zam ?_
    try simp only [Zae]
    refine Zac (Zbz [4] (by simp [Heap.le,Heap.get,HL.le,HL.get]) ?_)
    simp only [Zbe,QW,dok,dval,VOp.pure,VOp.simple,VOp.det,pok,pval,VA.ev,Env.get,Env.put,Env.keep,Zae,gd,aggV,Zag,Zap,PV.nth,Nat.le_refl,Nat.succ_ne_self,List.length,List.getD_cons_zero,List.take,List.take_succ_cons,Nat.reduceEqDiff,Nat.reduceAdd,Bool.true_eq_false,ite_true,ite_false,true_and,and_true,implies_true,forall_const,Nat.zero_add,List.length_cons,imp_self]
    refine ⟨_,.inl D1,_,.inl P1,?_⟩
    skip
    refine ⟨_,.inl I,?_⟩
    try simp only [Zbe,DrawW_y,QW,dok,dval,VOp.pure,VOp.simple,VOp.det,pok,pval,VA.ev,Env.get,Env.put,gd,pickV,isBool,aggV,Zag,Zap,PV.nth,Nat.le_refl,Nat.succ_ne_self,List.length,List.getD_cons_zero,List.take,List.take_succ_cons,Nat.reduceEqDiff,Nat.reduceAdd,Bool.true_eq_false,ite_true,ite_false,true_and,and_true,implies_true,forall_const,Nat.zero_add,List.length_cons,imp_self]
    refine ⟨_,.inl D1,_,.inl D2,?_⟩
    skip
    refine ⟨_,.inl I,?_⟩
    try simp only [Zba,Zbe,DrawW_y,QW,dok,dval,VOp.pure,VOp.simple,VOp.det,pok,pval,VA.ev,Env.get,Env.put,gd,pickV,isBool,Nat.succ_ne_self,Nat.reduceEqDiff,ite_true,ite_false,true_and,implies_true,forall_const]
    refine ⟨_,.inl A,?_⟩
    skip
    refine Zaq ?_
    try simp only [Env.get,retQ,resV,Za4,RS.ev,RS.ok,ite_true,true_and,and_true]
    exact View.refl _ _
end Go.Proofs.YtjmekckcffckoaaDoor.w
namespace Go.Proofs.YtjmekckcffckoaaDoor.rd
open Go Go.VM
variable {W : World}
theorem k3:Tryd.prog.cellsOf 3 = 1:=by kernel_rfl
theorem k9:Tryd.prog.cellsOf 9 = 1:=by kernel_rfl
theorem k51:Tryd.prog.cellsOf 51 = 3:=by kernel_rfl
theorem k53:Tryd.prog.cellsOf 53 = 4:=by kernel_rfl
theorem k26:Tryd.prog.cellsOf 26 = 3:=by kernel_rfl
theorem k27:Tryd.prog.cellsOf 27 = 1:=by kernel_rfl
theorem k28:Tryd.prog.cellsOf 28 = 1:=by kernel_rfl
theorem k30:Tryd.prog.cellsOf 30 = 8:=by kernel_rfl
theorem rI (n:Nat):Reads Tryd.prog W n 3 i64 (fun a=>[pI a]):=reads_int Tryd.underlying3
def enc3 (x:Int × Int × Int × Unit):List PV:=[pI x.1,pI x.2.1,pI x.2.2.1]
def ok3 (x:Int × Int × Int × Unit):Prop:=i64 x.1 ∧ i64 x.2.1 ∧ i64 x.2.2.1 ∧ True
theorem r51 (n:Nat):Reads Tryd.prog W n 51 ok3 enc3:=by
  cases n with
  | zero=>exact reads_zero
  | succ n=>exact Reads.map (fun x:Int × Int × Int × Unit=>x) (reads_struct Tryd.underlying51 rfl k51 (freads_cons (by exact (rI n)) (by exact k3) (by exact (fun _=>rfl)) (by rfl) (freads_cons (by exact (rI n)) (by exact k3) (by exact (fun _=>rfl)) (by rfl) (freads_cons (by exact (rI n)) (by exact k3) (by exact (fun _=>rfl)) (by rfl) freads_nil))) (by exact fun _=>rfl)) (fun _ h=>h) (fun _=>rfl)
theorem r26 (n:Nat):Reads Tryd.prog W n 26 ok3 enc3:=by
  cases n with
  | zero=>exact reads_zero
  | succ n=>exact Reads.map (fun x:Int × Int × Int × Unit=>x) (reads_struct Tryd.underlying26 rfl k26 (freads_cons (by exact (rI n)) (by exact k3) (by exact (fun _=>rfl)) (by rfl) (freads_cons (by exact (rI n)) (by exact k3) (by exact (fun _=>rfl)) (by rfl) (freads_cons (by exact (rI n)) (by exact k3) (by exact (fun _=>rfl)) (by rfl) freads_nil))) (by exact fun _=>rfl)) (fun _ h=>h) (fun _=>rfl)
theorem un_len (u:Un):u.enc.length = 8:=by rw [Un.Zay]; rfl
end Go.Proofs.YtjmekckcffckoaaDoor.rd
namespace Go.Proofs.YtjmekckcffckoaaDoor.w
open Go Go.VM
def debTab:List Int:=[0,1,56,2,57,49,28,3,61,58,42,50,38,29,17,4,62,47,59,36,45,43,51,22,53,39,33,30,24,18,12,5,63,55,48,27,60,41,37,16,46,35,44,21,52,32,23,11,54,26,40,15,34,20,31,10,25,14,19,9,13,8,7,6]
theorem known_tab (b:Nat) (l:List Value) (h:known.lookup b = some l):(b = 0 ∧ l = Lib.pow10Tab.map fun z=>Value.int .u64 z) ∨ (b = 3 ∧ l = debTab.map fun z=>Value.int .u8 z):=by
  have e:known = [(0,Lib.pow10Tab.map fun z=>Value.int .u64 z),(3,debTab.map fun z=>Value.int .u8 z)]:=by kernel_rfl
  rw [e] at h
  simp only [List.lookup] at h
  split at h
  · rename_i hb
    simp only [Option.some.injEq] at h
    exact .inl ⟨by simpa using hb,h.symm⟩
  · split at h
    · rename_i hb
      simp only [Option.some.injEq] at h
      exact .inr ⟨by simpa using hb,h.symm⟩
    · cases h
theorem tab_at {W:World} {name:String} {k:IntKind} {zs:List Int} {b:Nat} (tab:Lib.TabIs Tryd.prog W name k zs) (hg:Tryd.prog.globalNamed name = some b):(∃ t fr,W.heap[b]? = some (.cells (zs.map fun z=>Value.int k z).toArray t fr)) ∧ ∀ v ∈ zs.map (fun z=>Value.int k z),v.oneCell' = true:=by
  refine ⟨?_,fun v hv=>?_⟩
  · unfold Lib.TabIs World.var? at tab
    rw [hg] at tab
    simp only [Option.bind_some] at tab
    split at tab
    · rename_i c t fr hh
      simp only [Option.some.injEq] at tab
      exact ⟨t,fr,by rw [hh,tab]⟩
    · cases tab
  · obtain ⟨z,_,rfl⟩:=List.mem_map.1 hv
    rfl
theorem knownW_of {W : World} {rest : List (String × DataW Unit)} (h : laidMetH Tryd.prog rest W) (hf : (rest.filter (fun x => x.1 == "internal/strconv.uint64pow10"), rest.filter (fun x => x.1 == "math/bits.deBruijn64tab")) = ([("internal/strconv.uint64pow10", Lib.tabData .u64 Lib.pow10Tab)], [("math/bits.deBruijn64tab", Lib.tabData .u8 debTab)])) (hn : (rest.filter fun x => x.2.handleName?.isNone) = rest) : Zcd W := by
  obtain ⟨f1,f2⟩:=Prod.mk.inj hf
  have h1:=(laidMetH_iff.1 h).1
  rw [hn] at h1
  have h2 := h1.filter (fun x => x.1 == "internal/strconv.uint64pow10")
  rw [f1] at h2
  have h3 := h1.filter (fun x => x.1 == "math/bits.deBruijn64tab")
  rw [f2] at h3
  have g1 : Tryd.prog.globalNamed "internal/strconv.uint64pow10" = some 0 := by kernel_rfl
  have g2 : Tryd.prog.globalNamed "math/bits.deBruijn64tab" = some 3 := by kernel_rfl
  have tab1:=Lib.tabIs_of_head (P:=Tryd.prog) (t:=113) (e:=44) (n:=20) g1 (by kernel_rfl) Tryd.underlying113 Tryd.underlying44 (by kernel_rfl) (by kernel_rfl) h2
  have tab2:=Lib.tabIs_of_head (P:=Tryd.prog) (t:=135) (e:=5) (n:=64) g2 (by kernel_rfl) Tryd.underlying135 Tryd.underlying5 (by kernel_rfl) (by kernel_rfl) h3
  intro b l hl
  rcases known_tab b l hl with ⟨rfl,rfl⟩ | ⟨rfl,rfl⟩
  · exact tab_at tab1 g1
  · exact tab_at tab2 g2
end Go.Proofs.YtjmekckcffckoaaDoor.w
