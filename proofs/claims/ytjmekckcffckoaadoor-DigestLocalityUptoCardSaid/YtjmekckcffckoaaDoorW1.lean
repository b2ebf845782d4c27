import Derived.Lib.Builder
import Derived.Lib.AppendStr
import Derived.WalkKit
import Derived.Lib.UnsafeStr
import Derived.Test.YtjmekckcffckoaaDoorVmAq
import Derived.Test.YtjmekckcffckoaaDoorChecked
import Derived.Test.YtjmekckcffckoaaDoorA4
import Derived.Test.YtjmekckcffckoaaDoorVmQ
import Derived.Test.YtjmekckcffckoaaDoorVmJ
import Derived.Test.YtjmekckcffckoaaDoorVmG
import Derived.Test.YtjmekckcffckoaaDoorE1
import Derived.Test.YtjmekckcffckoaaDoorW4
set_option linter.all false
namespace Go.Proofs.YtjmekckcffckoaaDoor.w
open Go Go.RowKit Go.VM
set_option maxRecDepth 100000
theorem sizeB:∃ j,Tryd.prog.info? 76 = some j ∧ j.size = 2:=by
  have h:(Tryd.prog.info? 76).map (·.size) = some 2:=by kernel_rfl
  obtain ⟨j,h1,h2⟩:=Option.map_eq_some_iff.1 h
  exact ⟨j,h1,h2⟩
theorem liesB:liesAt Tryd.prog Tryd.prog.depth 76 (2 / Tryd.prog.cellsOf 76) 0 76 1 = true:=by kernel_rfl
set_option maxHeartbeats 2000000 in
theorem bld_used (b : Nat) (w : World) (h0 : w.cell? ⟨b, 0, none⟩ = some (.pointer (some ⟨b, 0, none⟩))) :
    Calls Tryd.prog 67 #[.pointer (some ⟨b,0,none⟩)] w fun e w'=>e = .returned (.tuple #[]) ∧ w' = w:=by
  obtain ⟨j,hj,hjs⟩:=sizeB
  go_enter Tryd.func67,Tryd.ntmps67
  go_wp2
  rw [Lib.run_neq_ptr_same w _ Tryd.underlying74 hj]
  go_wp2
  go_end0
  exact ⟨rfl,rfl⟩
set_option maxHeartbeats 2000000 in
theorem bld_fresh (b : Nat) (w : World) (h0 : w.cell? ⟨b, 0, none⟩ = some (.pointer none)) (hsh : w.shape? b = some (76, 2)) (hfz : w.frozen? ⟨b, 0, none⟩ = false) :
    Calls Tryd.prog 67 #[.pointer (some ⟨b,0,none⟩)] w fun e w'=>e = .returned (.tuple #[]) ∧ w' = w.setCell ⟨b,0,none⟩ (.pointer (some ⟨b,0,none⟩)):=by
  obtain ⟨j,hj,hjs⟩:=sizeB
  go_enter Tryd.func67,Tryd.ntmps67
  go_wp2
  rw [Lib.run_to_unsafe w ⟨b,0,none⟩ Tryd.underlying74 Tryd.underlying115 hj (by rw [hjs]; decide) hsh (Nat.zero_lt_succ 1)]
  simp only [Result.andThen]
  rw [Oper.upon_value]
  go_wp2
  rw [run_callFunc_extern Tryd.func81 (by kernel_rfl) (by kernel_rfl) (by kernel_rfl) (e:=Extern.AbiNoEscape.same) (by kernel_rfl)]
  rw [Lib.run_noEscape]
  simp only [Result.andThen]
  rw [Oper.upon_value]
  go_wp2
  rw [Lib.run_from_unsafe w ⟨b,0,none⟩ Tryd.underlying115 Tryd.underlying74 hj hsh liesB]
  simp only [Result.andThen]
  rw [Oper.upon_value]
  go_wp2
  go_end0
  exact ⟨rfl,rfl⟩
theorem cell0_of {w:World} {b:Nat} {p v:Value} {T:TypeId} (h:w.heap[b]? = some (.cells #[p,v] T (0,0))):w.cell? ⟨b,0,none⟩ = some p:=by rw [Lib.cell_of_heap h]; rfl
theorem bld_check2 (b : Nat) (p v : Value) (w : World) (h : w.heap[b]? = some (.cells #[p, v] 76 (0, 0))) (hp : p = .pointer none ∨ p = .pointer (some ⟨b, 0, none⟩)) :
    Calls Tryd.prog 67 #[.pointer (some ⟨b,0,none⟩)] w fun e w'=>e = .returned (.tuple #[]) ∧ (w' = w ∨ w' = w.setCell ⟨b,0,none⟩ (.pointer (some ⟨b,0,none⟩))) ∧ w'.heap[b]? = some (.cells #[.pointer (some ⟨b,0,none⟩),v] 76 (0,0)):=by
  rcases hp with rfl | rfl
  · exact (bld_fresh b w (cell0_of h) (by simp [World.shape?,h]) (by simp [World.frozen?,h])).mono fun e w' ⟨h1,h2⟩=>⟨h1,.inr h2,by rw [h2]; simp [World.setCell,Array.getElem?_modify,h]⟩
  · exact (bld_used b w (cell0_of h)).mono fun e w' ⟨h1,h2⟩=>⟨h1,.inl h2,by rw [h2]; exact h⟩
theorem infoU:(Tryd.prog.info? 5).map (fun i=>(i.zero,i.size,i.bytes)) = some (some (.int .u8 0),1,1):=by kernel_rfl
set_option maxHeartbeats 4000000 in
theorem bld_write2 (w : World) (b : Nat) (p v : Value) (bs : List Value) (x : ByteArray) (hbk : w.heap[b]? = some (.cells #[p, v] 76 (0, 0))) (hp : p = .pointer none ∨ p = .pointer (some ⟨b, 0, none⟩)) (hown : w.ownsRow 0 5 1 v bs.length bs) (hne : v.ownBlock ≠ some b) (hlen : bs.length + x.size ≤ 1000000000) :
    Calls Tryd.prog 48 #[.pointer (some ⟨b,0,none⟩),.string x] w fun e w'=>e = .returned (.tuple #[.int .i64 x.size,.nilIface]) ∧ Wrote 76 5 b p v bs (Lib.strCells x) w w':=by
  obtain ⟨i0,hi,hz0,hz1,hz2⟩:=info_parts infoU
  go_enter Tryd.func48,Tryd.ntmps48
  go_wp2_with (go_at_call 67; refine (bld_check2 b p v _ hbk hp).mono ?_)
  rintro e w1 ⟨rfl,hw1,hb1⟩
  have hown1:w1.ownsRow 0 5 1 v bs.length bs:=by
    rcases hw1 with rfl | rfl
    · exact hown
    · exact hown.kept (row:=some b) ⟨rfl,rfl,rfl,by simp [World.setCell],fun k _ hk=>Below.heap_setCell _ _ _ _ (fun e=>hk (by simp [e]))⟩ (Or.inr hne)
  have k0:w1.cell? ⟨b,0,none⟩ = some (.pointer (some ⟨b,0,none⟩)):=by rw [Lib.cell_of_heap hb1]; rfl
  have k1:w1.cell? ⟨b,1,none⟩ = some v:=by rw [Lib.cell_of_heap hb1]; rfl
  go_wp2_with (at_builtin; refine wpList_append_own_string2 rfl _ _ 45 9 rfl 5 i0 Tryd.underlying45 Tryd.underlying9 hi hz0 hz1 hz2 _ _ _ rfl hown1 x rfl ?c3 ?c4 ?_)
  case c3=>unfold maxLen; omega
  case c4=>omega
  intro v2 w2 own2 grow2 hnil2 hnew2
  have hlt:b < w1.heap.size:=(Array.getElem?_eq_some_iff.1 hb1).1
  have blk2:w2.heap[b]? = some (.cells #[.pointer (some ⟨b,0,none⟩),v] 76 (0,0)):=by
    rw [grow2.block b hlt (fun e=>hne e.symm)]
    exact hb1
  have m0:w2.cell? ⟨b,0,none⟩ = some (.pointer (some ⟨b,0,none⟩)):=by rw [Lib.cell_of_heap blk2]; rfl
  have m1:w2.cell? ⟨b,1,none⟩ = some v:=by rw [Lib.cell_of_heap blk2]; rfl
  have f1:w2.frozen? ⟨b,1,none⟩ = false:=Lib.frozen_of_heap blk2 1
  obtain ⟨ao,n',cap,rfl⟩:∃ ao n' cap,v2 = .slice ao n' cap:=by
    rcases own2.2 with ⟨hv,_⟩ | ⟨g,cap,cur,hv,_⟩ <;> exact ⟨_,_,_,hv⟩
  go_wp2
  go_ret2
  exact ⟨rfl,⟨_,w1,w2,hw1,hb1,grow2,by rw [Lib.strCells_length]; exact own2,by rw [Lib.strCells_length]; simpa using hnil2,hnew2,rfl⟩⟩
theorem cellsU:Tryd.prog.cellsOf 5 = 1:=by kernel_rfl
theorem grown_drew (w:World) (r:Option Nat):w.grownBy w.drew r:=⟨rfl,rfl,rfl,Nat.le_refl _,fun _ _ _=>rfl⟩
theorem grown_freeze (w:World) (g n:Nat):w.grownBy (w.drew.freeze ⟨g,0,none⟩ n) (some g):=by
  unfold World.freeze
  split
  · exact grown_drew _ _
  · refine ⟨rfl,rfl,rfl,Nat.le_of_eq (by simp only [Array.size_modify]; rfl),fun k hk hne=>?_⟩
    simp only [Array.getElem?_modify]
    rw [if_neg (fun e=>hne (by rw [← e]))]
    rfl
set_option maxHeartbeats 4000000 in
theorem bld_string2 (w : World) (b : Nat) (p v : Value) (l : List UInt8) (hbk : w.heap[b]? = some (.cells #[p, v] 76 (0, 0))) (hown : w.ownsRow 0 5 1 v l.length (Zay l)) (hnil : v = .slice none 0 0 ↔ l = []) :
    Calls Tryd.prog 50 #[.pointer (some ⟨b,0,none⟩)] w fun e w'=>e = .returned (.string ⟨l.toArray⟩) ∧ w.grownBy w' v.ownBlock:=by
  by_cases h0:l = []
  · subst h0
    have hv:=hnil.2 rfl
    subst hv
    have hUS:∀ (W:World) (q:Option Addr),(Builtin.unsafeString_ #[104,3] 9 #[.pointer q,.int .i64 0]).run Tryd.prog W = .ok (.string .empty) W:=fun W q=>Lib.run_unsafeString_none W _ _ _ q
    have c1:w.drew.cell? ⟨b,1,none⟩ = some (.slice none 0 0):=by
      have:w.drew.heap[b]? = some (.cells #[p,.slice none 0 0] 76 (0,0)):=hbk
      rw [Lib.cell_of_heap this]; rfl
    have hSD:(Builtin.unsafeSliceData_ #[45] 104 #[.slice none 0 0]).run Tryd.prog w.drew = .ok (.pointer none) w.drew:=rfl
    go_enter Tryd.func50,Tryd.ntmps50
    go_wp2
    go_region
    all_goals (go_wp2; go_ret; exact ⟨rfl,grown_drew _ _⟩)
  · have hl0:l.length ≠ 0:=by simpa using h0
    obtain ⟨g,cap,cur,rfl,_,hg,hnc,hcm,hcs,htake⟩:∃ g cap cur,v = .slice (some ⟨g,0,none⟩) l.length cap ∧ 0 ≤ g ∧ w.heap[g]? = some (.cells cur 5 (0,0)) ∧ l.length ≤ cap ∧ cap ≤ maxLen ∧ cur.size = cap * 1 ∧ cur.toList.take (l.length * 1) = Zay l:=by
      rcases hown.2 with ⟨_,hz⟩ | ⟨g,cap,cur,hv,r⟩
      · exact absurd hz hl0
      · exact ⟨g,cap,cur,hv,r⟩
    have c1:w.drew.cell? ⟨b,1,none⟩ = some (.slice (some ⟨g,0,none⟩) l.length cap):=by
      have:w.drew.heap[b]? = some (.cells #[p,.slice (some ⟨g,0,none⟩) l.length cap] 76 (0,0)):=hbk
      rw [Lib.cell_of_heap this]; rfl
    have hSD:(Builtin.unsafeSliceData_ #[45] 104 #[.slice (some ⟨g,0,none⟩) l.length cap]).run Tryd.prog w.drew = .ok (.pointer (some ⟨g,0,none⟩)) w.drew :=
      Lib.run_unsafeSliceData_row _ _ _ _ _ _ (by omega)
    have hUS:(Builtin.unsafeString_ #[104,3] 9 #[.pointer (some ⟨g,0,none⟩),.int .i64 l.length]).run Tryd.prog w.drew = .ok (.string ⟨l.toArray⟩) (w.drew.freeze ⟨g,0,none⟩ l.length):=by
      refine Lib.run_unsafeString_row w.drew 104 3 9 5 Tryd.underlying104 cellsU g cur.size (by have hg':w.drew.heap[g]? = some (.cells cur 5 (0,0)):=hg; simp [World.shape?,hg']) l h0 (by omega) (by unfold maxLen at hcm; omega) ?_
      intro j x hx
      have:=hown.cells (g:=g) rfl j (.int .u8 x.toNat) (by simp [Zay,hx])
      exact this
    go_enter Tryd.func50,Tryd.ntmps50
    go_wp2
    go_region
    all_goals (go_wp2; go_ret; exact ⟨rfl,grown_freeze _ _ _⟩)
theorem AC_write {id top : Nat} {bf : Option Nat} {s0 s : List UInt8} {K : PV → Heap → Prop} (ok : BldOk id bf s0 top) (hlen : s0.length + s.length ≤ 1000000000) (H : ∀ bf' top', top ≤ top' → BldOk id bf' (s0 ++ s) top' → (top' ≤ top + 1 ∧ ∀ i, bf' = some i → top ≤ i) → K (.tup [.int .i64 s.length, .nilif]) (bldH id 76 5 bf' (s0 ++ s) top')) :
    Zbb Tryd.prog 48 [.loc id 0 0,.str s] (bldH id 76 5 bf s0 top) K :=
  ACall_bwrite (by kernel_rfl) (fun w b p v bs x h1 h2 h3 h4 h5=>bld_write2 w b p v bs x h1 h2 h3 h4 h5) ok hlen H
theorem AC_writeL {id top : Nat} {bf : Option Nat} {s0 s : List UInt8} {l2 : List (Nat × AB)} {K : PV → Heap → Prop} (ok : BldOk id bf s0 top) (hlen : s0.length + s.length ≤ 1000000000) (h2 : ∀ q ∈ l2, q.1 < top ∧ q.1 ≠ id ∧ bf ≠ some q.1) (hc : ∀ q ∈ l2, ∀ fz z, q.2 ≠ .arr fz z [])
    (H:∀ bf' top',top ≤ top' → BldOk id bf' (s0 ++ s) top' → (top' ≤ top + 1 ∧ ∀ i,bf' = some i → top ≤ i) → K (.tup [.int .i64 s.length,.nilif]) ⟨(bldH id 76 5 bf' (s0 ++ s) top').l ++ l2,top'⟩) :
    Zbb Tryd.prog 48 [.loc id 0 0,.str s] ⟨(bldH id 76 5 bf s0 top).l ++ l2,top⟩ K :=
  ACall_beside ok h2 hc (AC_write ok hlen fun bf' top' a b c=>⟨rfl,bf',top',a,b,c,rfl⟩) H
theorem AC_string {id top:Nat} {bf:Option Nat} {s:List UInt8} {K:PV → Heap → Prop} (ok:BldOk id bf s top) (H:K (.str s) ⟨[],top⟩):Zbb Tryd.prog 50 [.loc id 0 0] (bldH id 76 5 bf s top) K :=
  ACall_bstring (by kernel_rfl) (fun w b p v l h1 h2 h3=>bld_string2 w b p v l h1 h2 h3) ok H
end Go.Proofs.YtjmekckcffckoaaDoor.w
namespace Go.Proofs.YtjmekckcffckoaaDoor.w
open Go Go.VM
set_option maxRecDepth 20000
set_option maxHeartbeats 0
set_option pp.deepTerms false
def c_digest_piece:VC:=(.seq (.region [ZO 2 (.mv (.c (.str [])))] false) (.seq (.region [ZM 3 0,ZO 4 (.len true (.t 3)),ZO 5 (.call 69 [(.t 4)]),ZO 6 (.bin .add (.t 5) (.c (.str [58]))),ZM 7 0,ZO 8 (.bin .add (.t 6) (.t 7)),ZM 2 8] false) .ret))
def c_digest_numbers:VC:=(.seq (.region [ZO 2 (.mv (.c (.str [])))] false) (.seq (.region [ZO 3 (.mv (.c .nilsl))] false) (.seq (.seq (.region [ZM 6 0,ZO 7 (.len false (.t 6)),ZO 8 (.mv (.c (.int .i64 0)))] false) (.block 0 (.loop (.seq (.region [ZO 9 (.bin .lss (.t 8) (.t 7))] false) (.seq (.cond (.t 9) .skip (.exit 0)) (.seq (.block 1 (.seq (.region [ZO 10 (.iaddr 1 (.t 6) (.t 8)),ZO 11 (.load false 1 (.t 10)),ZM 5 11] false) (.region [ZM 12 3,ZM 13 5,ZO 14 (.call 69 [(.t 13)]),ZO 15 (.bslice 1 1 [(.str [])] [(0,(.t 14))]),ZO 16 (.app 1 16 [(.str [])] false (.t 12) (.t 15)),ZM 3 16] false))) (.region [ZO 17 (.bin .add (.t 8) (.c (.int .i64 1))),ZM 8 17] false))))))) (.seq (.region [ZM 18 3,ZO 19 (.call 72 [(.t 18),(.c (.str [46]))]),ZM 2 19] false) .ret))))
def c_digest_row : VC := (.seq (.region [ZO 4 (.mv (.c (.str [])))] false) (.seq (.region [ZO 5 (.other ({ dst := some 5,op := Op.alloc 76,type := 0,pos := "digest.go:47",after := #[],guard := none } : Oper))] false) (.seq (.region [ZM 8 0,ZO 9 (.len false (.t 8)),ZO 10 (.call 69 [(.t 9)]),ZO 11 (.call 48 [(.t 5),(.t 10)])] false) (.seq (.seq (.region [ZM 12 0,ZO 13 (.len false (.t 12)),ZO 14 (.mv (.c (.int .i64 0)))] false) (.block 0 (.loop (.seq (.region [ZO 15 (.bin .lss (.t 14) (.t 13))] false) (.seq (.cond (.t 15) .skip (.exit 0)) (.seq (.block 1 (.seq (.region [ZO 16 (.iaddr 4 (.t 12) (.t 14)),ZO 17 (.load true 4 (.t 16)),ZO 7 (.alloc [(.str []),(.int .i64 0),(.int .i64 0),(.int .i64 0)]),ZN (.store 4 (.t 7) (.t 17))] false) (.region [ZO 18 (.faddr 0 (.t 7)),ZO 19 (.load false 1 (.t 18)),ZO 20 (.call 70 [(.t 19)]),ZO 21 (.bin .add (.c (.str [32])) (.t 20)),ZM 22 1,ZO 23 (.load true 4 (.t 7)),ZO 24 (.callv (.t 22) [(.t 23)]),ZO 25 (.bin .add (.t 21) (.t 24)),ZO 26 (.call 48 [(.t 5),(.t 25)])] true))) (.region [ZO 27 (.bin .add (.t 14) (.c (.int .i64 1))),ZM 14 27] false))))))) (.seq (.region [ZO 28 (.call 50 [(.t 5)]),ZM 4 28] false) .ret)))))
def c_digest_itself:VC:=(.seq (.region [ZO 2 (.box 8 (.t 0)),ZO 4 (.mv (.c (.str [])))] false) (.seq (.region [ZO 5 (.faddr 3 (.t 2)),ZO 6 (.load false 1 (.t 5)),ZO 7 (.call 69 [(.t 6)]),ZO 8 (.bin .add (.t 7) (.c (.str [32]))),ZO 9 (.faddr 4 (.t 2)),ZO 10 (.load false 1 (.t 9)),ZO 11 (.call 70 [(.t 10)]),ZO 12 (.bin .add (.t 8) (.t 11)),ZO 13 (.bin .add (.t 12) (.c (.str [10]))),ZO 14 (.faddr 5 (.t 2)),ZO 15 (.load false 1 (.t 14)),ZM 16 1,ZO 17 (.call 71 [(.t 15),(.t 16)]),ZO 18 (.bin .add (.t 13) (.t 17)),ZO 19 (.bin .add (.t 18) (.c (.str [10]))),ZO 20 (.faddr 6 (.t 2)),ZO 21 (.load false 1 (.t 20)),ZM 22 1,ZO 23 (.call 71 [(.t 21),(.t 22)]),ZO 24 (.bin .add (.t 19) (.t 23)),ZO 25 (.bin .add (.t 24) (.c (.str [10]))),ZM 4 25] true) .ret))
def c_digest_bare_1:VC:=(.seq (.region [ZO 1 (.box 4 (.t 0)),ZO 2 (.mv (.c (.str [])))] false) (.seq (.region [ZO 2 (.mv (.c (.str [])))] false) .ret))
def c_digest_marked_1:VC:=(.seq (.region [ZO 1 (.box 4 (.t 0)),ZO 2 (.mv (.c (.str [])))] false) (.seq (.region [ZO 3 (.faddr 1 (.t 1)),ZO 4 (.faddr 0 (.t 3)),ZO 5 (.load false 1 (.t 4)),ZO 6 (.faddr 1 (.t 1)),ZO 7 (.faddr 1 (.t 6)),ZO 8 (.load false 1 (.t 7)),ZO 9 (.faddr 1 (.t 1)),ZO 10 (.faddr 2 (.t 9)),ZO 11 (.load false 1 (.t 10)),ZO 12 (.bslice 1 3 [(.int .i64 0)] [(0,(.t 5)),(1,(.t 8)),(2,(.t 11))]),ZO 13 (.call 54 [(.t 12)]),ZO 14 (.bin .add (.c (.str [64])) (.t 13)),ZM 2 14] false) .ret))
def c_digest_bare:VC:=(.seq (.region [ZO 1 (.box 8 (.t 0)),ZO 2 (.mv (.c (.str [])))] false) (.seq (.region [ZO 3 (.load true 8 (.t 1)),ZO 4 (.call 51 [(.t 3),(.c (.fn (.func 52) [] []))]),ZM 2 4] false) .ret))
def c_digest_marked:VC:=(.seq (.region [ZO 1 (.box 8 (.t 0)),ZO 2 (.mv (.c (.str [])))] false) (.seq (.region [ZO 3 (.mv (.c (.fn (.func 53) [] [])))] false) (.seq (.region [ZO 4 (.faddr 0 (.t 1)),ZO 5 (.faddr 0 (.t 4)),ZO 6 (.load false 1 (.t 5)),ZO 7 (.faddr 0 (.t 1)),ZO 8 (.faddr 1 (.t 7)),ZO 9 (.load false 1 (.t 8)),ZO 10 (.faddr 0 (.t 1)),ZO 11 (.faddr 2 (.t 10)),ZO 12 (.load false 1 (.t 11)),ZO 13 (.bslice 1 3 [(.int .i64 0)] [(0,(.t 6)),(1,(.t 9)),(2,(.t 12))]),ZO 14 (.call 54 [(.t 13)]),ZO 15 (.bin .add (.t 14) (.c (.str [32]))),ZO 16 (.load true 8 (.t 1)),ZM 17 3,ZO 18 (.call 51 [(.t 16),(.t 17)]),ZO 19 (.bin .add (.t 15) (.t 18)),ZM 2 19] true) .ret)))
def c_digest_tree : VC := (.seq (.region [ZO 3 (.box 8 (.t 0)),ZO 6 (.mv (.c (.str [])))] false) (.seq (.region [ZO 7 (.other ({ dst := some 7,op := Op.alloc 76,type := 0,pos := "digest.go:71",after := #[],guard := none } : Oper))] false) (.seq (.region [ZM 10 1,ZO 11 (.load true 8 (.t 3)),ZO 12 (.callv (.t 10) [(.t 11)]),ZO 13 (.call 48 [(.t 7),(.t 12)])] false) (.seq (.seq (.region [ZO 14 (.faddr 7 (.t 3)),ZO 15 (.load false 1 (.t 14)),ZO 16 (.len false (.t 15)),ZO 17 (.mv (.c (.int .i64 0)))] false) (.block 0 (.loop (.seq (.region [ZO 18 (.bin .lss (.t 17) (.t 16))] false) (.seq (.cond (.t 18) .skip (.exit 0)) (.seq (.block 1 (.seq (.region [ZO 19 (.iaddr 8 (.t 15) (.t 17)),ZO 20 (.load true 8 (.t 19)),ZO 9 (.alloc [(.int .i64 0),(.int .i64 0),(.int .i64 0),(.int .i64 0),(.str []),.nilsl,.nilsl,.nilsl]),ZN (.store 8 (.t 9) (.t 20))] false) (.region [ZM 21 2,ZO 22 (.load true 8 (.t 9)),ZO 23 (.callv (.t 21) [(.t 22)]),ZO 24 (.call 48 [(.t 7),(.t 23)])] false))) (.region [ZO 25 (.bin .add (.t 17) (.c (.int .i64 1))),ZM 17 25] false))))))) (.seq (.region [ZO 26 (.call 50 [(.t 7)]),ZO 27 (.call 9 [(.t 26)]),ZM 6 27] false) .ret)))))
def c_digest_Content:VC:=(.seq (.region [ZO 1 (.box 8 (.t 0)),ZO 2 (.mv (.c (.str [])))] false) (.seq (.region [ZO 3 (.load true 8 (.t 1)),ZO 4 (.call 28 [(.t 3),(.c (.fn (.func 29) [] [])),(.c (.fn (.func 12) [] []))]),ZM 2 4] false) .ret))
def c_digest_Full:VC:=(.seq (.region [ZO 1 (.box 8 (.t 0)),ZO 2 (.mv (.c (.str [])))] false) (.seq (.region [ZO 3 (.load true 8 (.t 1)),ZO 4 (.call 28 [(.t 3),(.c (.fn (.func 30) [] [])),(.c (.fn (.func 14) [] []))]),ZM 2 4] false) .ret))
def c_digest_Self:VC:=(.seq (.region [ZO 1 (.box 8 (.t 0)),ZO 2 (.mv (.c (.str [])))] false) (.seq (.region [ZO 3 (.load true 8 (.t 1)),ZO 4 (.call 30 [(.t 3)]),ZO 5 (.call 9 [(.t 4)]),ZM 2 5] false) .ret))
theorem bldH_le {id:Nat} {T el:TypeId} {bf:Option Nat} {s:List UInt8} {top:Nat} {x:AB} (ok:BldOk id bf s top):Heap.le (bldH id T el bf s (top + 1)) ⟨(top,x) :: (bldH id T el bf s top).l,top + 1⟩:=by
  have h1:¬ top = id:=by have:=ok.lt; omega
  cases bf with
  | none=>simp [Heap.le,bldH,bufL,HL.le,Heap.get,HL.get,h1]
  | some i =>
    have h2:¬ top = i:=by have:=(ok.buf i rfl).2; omega
    have h3:=(ok.buf i rfl).1
    simp [Heap.le,bldH,bufL,HL.le,Heap.get,HL.get,h1,h2,h3]
theorem bldH_app {id:Nat} {T el:TypeId} {bf:Option Nat} {s:List UInt8} {top:Nat} {x:AB} (ok:BldOk id bf s top):Heap.le ⟨(bldH id T el bf s (top + 1)).l ++ [(top,x)],top + 1⟩ ⟨(top,x) :: (bldH id T el bf s top).l,top + 1⟩:=by
  have h1:¬ top = id:=by have:=ok.lt; omega
  cases bf with
  | none=>simp [Heap.le,bldH,bufL,HL.le,Heap.get,HL.get,h1]
  | some i =>
    have h2:¬ top = i:=by have:=(ok.buf i rfl).2; omega
    have h3:=(ok.buf i rfl).1
    simp [Heap.le,bldH,bufL,HL.le,Heap.get,HL.get,h1,h2,h3]
theorem bldH_del {id:Nat} {T el:TypeId} {bf:Option Nat} {s:List UInt8} {top:Nat} (ok:BldOk id bf s top):HL.del (bldH id T el bf s top).l top = (bldH id T el bf s top).l:=by
  have h1:¬ id = top:=by have:=ok.lt; omega
  cases bf with
  | none=>simp [bldH,bufL,HL.del,h1]
  | some i =>
    have h2:¬ i = top:=by have:=(ok.buf i rfl).2; omega
    simp [bldH,bufL,HL.del,h1,h2]
theorem bldH_getx {id:Nat} {T el:TypeId} {bf:Option Nat} {s:List UInt8} {top n:Nat} {x:AB} (h1:id ≠ n) (h2:bf ≠ some n):HL.get ((bldH id T el bf s top).l ++ [(n,x)]) n = some x:=by
  cases bf with
  | none=>simp [bldH,bufL,HL.get,h1]
  | some i =>
    have h3:¬ i = n:=fun e=>h2 (by rw [e])
    simp [bldH,bufL,HL.get,h1,h3]
theorem bldH_pre {id:Nat} {T el:TypeId} {bf:Option Nat} {s:List UInt8} {top:Nat} {r:List (Nat × AB)} (ok:BldOk id bf s top):Heap.le (bldH id T el bf s top) ⟨(bldH id T el bf s top).l ++ r,top⟩:=by
  cases bf with
  | none=>simp [Heap.le,bldH,bufL,HL.le,Heap.get,HL.get]
  | some i =>
    have h3:=(ok.buf i rfl).1
    simp [Heap.le,bldH,bufL,HL.le,Heap.get,HL.get,h3]
theorem bldH_top (id:Nat) (T el:TypeId) (bf:Option Nat) (s:List UInt8) (top:Nat):(bldH id T el bf s top).top = top:=rfl
theorem sp_digest_piece (s:Str) (hs:s.length ≤ 1000000):Za8 Tryd.prog 70 [.str s] (.str (pieceT s)):=by
  have A:=sp_strconv_Itoa (s.length:Int) (nat_i64 (by omega))
  have hl:=itoa_len _ (nat_i64 (n:=s.length) (by omega))
  refine Zai ?_ (cS _) (by simp only [Zax,List.mem_cons,List.not_mem_nil,or_false,forall_eq_or_imp,forall_eq,false_implies,implies_true]; repeat' (first  | exact cS _ | refine And.intro ?_ ?_))
  refine Zan (vc:=c_digest_piece) (ts:=[.t 2]) Go.Proofs.Tryd.func70 (by kernel_rfl) rfl rfl (Nat.le_of_ble_eq_true rfl) (by kernel_rfl) ?_
  unfold c_digest_piece
  try dsimp only [ZM,ZO,ZN,ZG]
  refine Zac (Zaa [0] ?_)
  simp only [Zab,Zad,Zaf,pok,pval,VA.ev,Env.get,Env.put,Env.keep,Za3,Zae,Heap.nil,ite_true,ite_false,true_and,reduceCtorEq]
  refine Zac (Zaa [2] ?_)
  simp only [Zab,Zad,Zaf,pok,pval,VA.ev,Env.get,Env.put,Env.keep,Zae,intV,binV,Zal,strV,lenV,Zcd,Nat.succ_ne_self,List.map,Nat.reduceEqDiff,ite_true,ite_false,true_and,implies_true,reduceCtorEq,imp_self]
  refine Zaq A ?_
  unfold pieceT
  generalize Lib.itoa (s.length:Int) = X at hl ⊢
  try simp only [List.length,Nat.reduceLeDiff,Nat.zero_add,List.length_append]
  refine ⟨by omega,by omega,?_⟩
  refine Zaz ?_
  try simp only [Env.get,retQ,resV,Zbc,RS.ev,RS.ok,ite_true,true_and,and_true]
  exact View.refl _ _
theorem three_join (a b c:Int):Lib.join ([a,b,c].map Lib.itoa) [46] = threeT a b c:=by
  unfold threeT Lib.join
  simp [List.intercalate]
theorem sp_numbers (c:List Int) (hc:c.length ≤ 1000) (hi:∀ x ∈ c,i64 x) (hlen:(Lib.join (c.map Lib.itoa) [46]).length ≤ 1000000):Za8 Tryd.prog 54 [.sl 1 (c.map fun x=>[pI x])] (.str (Lib.join (c.map Lib.itoa) [46])):=by
  refine Zai ?_ (cS _) (by intro x hx; rw [List.mem_singleton] at hx; subst hx; exact closed_sc _)
  refine Zan (vc:=c_digest_numbers) (ts:=[.t 2]) Go.Proofs.Tryd.func54 (by kernel_rfl) rfl rfl (Nat.le_of_ble_eq_true rfl) (by kernel_rfl) ?_
  unfold c_digest_numbers
  try dsimp only [ZM,ZO,ZN,ZG]
  refine Zac (Zaa [0] ?_)
  simp only [Zab,Zad,Zaf,pok,pval,VA.ev,Env.get,Env.put,Env.keep,Za3,Zae,Heap.nil,ite_true,ite_false,true_and,reduceCtorEq]
  refine Zac (Zaa [0,3] ?_)
  simp only [Zab,Zad,Zaf,pok,pval,VA.ev,Env.get,Env.put,Env.keep,Zae,ite_true,ite_false,true_and,reduceCtorEq]
  refine VW_own0 3 1 rfl ?_
  try simp only [Env.put,Heap.push,Nat.zero_add]
  refine Zac ?_
  refine Zac (Zaa [3,6,7,8] ?_)
  simp only [Zab,Zad,Zaf,pok,pval,VA.ev,Env.get,Env.put,Env.keep,Zae,lenV,Zcd,Nat.succ_ne_self,Nat.reduceEqDiff,ite_true,ite_false,true_and,reduceCtorEq,List.length_map]
  refine Zam ?_
  refine Zb6 (σ:={ s:Nat × Nat × Nat // s.1 ≤ c.length ∧ s.2.1 < s.2.2 }) (fun s=>([(3,.own s.1.2.1 0 s.1.1),(6,.sl 1 (c.map fun x=>[pI x])),(7,pI c.length),(8,pI s.1.1)],⟨[(s.1.2.1,.arr false 1 ((c.take s.1.1).map fun x=>[PV.str (Lib.itoa x)]))],s.1.2.2⟩)) (fun s=>c.length - s.1.1) ⟨(0,0,1),by simp⟩ ?_ ?_ ?_
  · simp only [Env.get,Nat.succ_ne_self,Env.le,Nat.reduceEqDiff,ite_true,ite_false,true_and,and_true]
    rfl
  · simp only [Heap.get,Heap.le,HL.get,HL.le,Nat.le_refl,List.map,List.take,ite_true,and_true]
    try rfl
  rintro ⟨⟨k,id,n⟩,hk,hid⟩
  simp only [] at hk hid ⊢
  have qi0:(id = n) = False:=by simp; omega
  have qi1:(n = id) = False:=by simp; omega
  have qi2:∀ j,(n + j = id) = False:=fun j=>by simp; try omega
  have qi3:∀ j,(id = n + j) = False:=fun j=>by simp; try omega
  have qi4:∀ j,(n + (j + 1) = n) = False:=fun j=>by simp; try omega
  have qi5:∀ j,(n = n + (j + 1)) = False:=fun j=>by simp; try omega
  have qi6:(n + 1 + 1 = n) = False:=by simp; try omega
  have qi7:(n = n + 1 + 1) = False:=by simp; try omega
  have qi8:(n + 1 + 1 + 1 = n) = False:=by simp; try omega
  have qi9:(n = n + 1 + 1 + 1) = False:=by simp; try omega
  refine Zac (Zaa [3,6,7,8,9] ?_)
  simp only [Zab,Zad,Zaf,pok,pval,VA.ev,Env.get,Env.put,Env.keep,Zae,intV,binV,Zal,Heap.get,Heap.le,HL.le,Nat.succ_ne_self,Env.le,Nat.reduceEqDiff,ite_true,ite_false,true_and,and_true]
  refine Zac ?_
  refine Zaj rfl (fun h1=>?_) (fun h1=>?_)
  · refine Zap ?_
    try simp only [Zae]
    simp only [decide_eq_true_eq] at h1
    have ka:k < c.length:=by omega
    have hst:(c.take (k + 1)).map (fun x=>[PV.str (Lib.itoa x)]) = (c.take k).map (fun x=>[PV.str (Lib.itoa x)]) ++ [[PV.str (Lib.itoa c[k])]]:=by
      rw [List.take_add_one,List.getElem?_eq_getElem ka,List.map_append]; rfl
    have hB:((c.take k).map fun x=>[PV.str (Lib.itoa x)]).length = k:=by simp; omega
    have hrow:(c.map fun x=>[pI x]).getD k [] = [pI c[k]]:=rowm ka
    have hone:=sp_strconv_Itoa c[k] (hi _ (List.getElem_mem ka))
    generalize (c.take k).map (fun x=>[PV.str (Lib.itoa x)]) = B at hst hB ⊢
    generalize c[k] = y at hst hrow hone
    have tk:List.take k B = B:=List.take_of_length_le (by omega)
    refine Zac ?_
    refine Zam ?_
    refine Zac (Zaa [3,5,6,7,8] ?_)
    simp only [Zab,Zad,Zaf,pok,pval,VA.ev,Env.get,Env.put,Env.keep,Zae,aggV,isInt,numOf,lenV,Zag,Zas,iaddrV,Zb5,PV.nth,PV.row,Nat.le_refl,Nat.succ_ne_self,List.length,List.getD_cons_zero,List.take,List.take_succ_cons,Nat.reduceEqDiff,Bool.false_eq_true,ite_true,ite_false,true_and,and_true,implies_true,Nat.zero_add,List.length_cons,Int.toNat_natCast,List.length_map,hrow,qi0,qi1,qi2,qi3,qi4,qi5,qi6,qi7,qi8,qi9]
    refine ⟨by omega,?_⟩
    refine Zaa [3,6,7,8] ?_
    simp only [Zab,Zad,Zaf,pok,pval,VA.ev,Env.get,Env.put,Env.keep,Zae,Zaw,PV.cells,PV.fits,Heap.get,Heap.del,HL.get,HL.del,Heap.push,Nat.le_refl,Nat.succ_ne_self,Zbe,oldId,Zbn,oldOk,Za0,srcOk,Zbg,Zbr,List.map,List.set,List.replicate,List.length,List.take,List.drop,List.take_succ_cons,Nat.reduceEqDiff,Nat.reduceLT,Nat.reduceLeDiff,ite_true,ite_false,true_and,and_true,BEq.rfl,Nat.zero_add,List.length_cons,qi0,qi1,qi2,qi3,qi4,qi5,qi6,qi7,qi8,qi9]
    refine Zaq hone ?_
    try simp only [HL.get,HL.del,Nat.le_refl,ite_true,ite_false,true_and,and_true,tk,hB,qi0,qi1,qi2,qi3,qi4,qi5,qi6,qi7,qi8,qi9]
    refine ⟨by omega,by omega,?_⟩
    refine Zaa [3,6,7,8] ?_
    simp only [Zab,Zad,Zaf,pok,pval,VA.ev,Env.get,Env.put,Env.keep,Zae,intV,binV,Zal,HL.get,Nat.succ_ne_self,Nat.reduceEqDiff,ite_true,ite_false,true_and,qi0,qi1,qi2,qi3,qi4,qi5,qi6,qi7,qi8,qi9,w64 (n:=(k:Int) + 1) (by omega) (by omega)]
    refine ⟨⟨(k + 1,n + 1,n + 2),by simp only []; omega,by simp only []; omega⟩,?_,?_,?_⟩
    · simp
    · rw [hst]; simp
    · simp only []; omega
  · simp only [decide_eq_false_iff_not] at h1
    obtain rfl:k = c.length:=by omega
    rw [List.take_length]
    refine Zbs ?_
    try simp only [Zae,Zaw,retQ,ite_true]
    refine Zac (Zaa [2] ?_)
    simp only [Zab,Zad,Zaf,pok,pval,VA.ev,Env.get,Env.put,Env.keep,Zae,Nat.succ_ne_self,List.map,Nat.reduceEqDiff,ite_true,ite_false,true_and,qi0,qi1,qi2,qi3,qi4,qi5,qi6,qi7,qi8,qi9]
    refine ACall_v [It.strs (c.map Lib.itoa),.str [46]] ⟨?_,View.refl _ _,trivial⟩ (sp_strings_Join (c.map Lib.itoa) [46] (by simp; omega) (by omega)) (scalar_str _) ?_
    · have hv:=View.own_all (h:=⟨[(id,.arr false 1 (c.map fun x=>[PV.str (Lib.itoa x)]))],n⟩) (id:=id) (z:=1) (n:=c.length) (fz:=false) (es:=c.map fun x=>[PV.str (Lib.itoa x)]) (by simp [Heap.get,HL.get]) (by simp)
      have e3:It.strs (c.map Lib.itoa) = .sl 1 (c.map fun x=>[PV.str (Lib.itoa x)]):=by simp [It.strs]
      rw [e3]
      exact hv
    skip
    refine Zaz ?_
    try simp only [Env.get,retQ,resV,Zbc,RS.ev,RS.ok,ite_true,true_and,and_true]
    exact View.refl _ _
theorem sp_digest_numbers (a b c:Int) (ha:i64 a) (hb:i64 b) (hc:i64 c):Za8 Tryd.prog 54 [.sl 1 [[pI a],[pI b],[pI c]]] (.str (threeT a b c)):=by
  have l2:=three_len ha hb hc
  have:=sp_numbers [a,b,c] (by simp) (by intro x hx; simp only [List.mem_cons,List.not_mem_nil,or_false] at hx; rcases hx with rfl | rfl | rfl <;> assumption) (by rw [three_join]; omega)
  rw [three_join] at this
  exact this
theorem bldH_le0 {id:Nat} {T el:TypeId} {bf:Option Nat} {s:List UInt8} {top:Nat} (ok:BldOk id bf s top):Heap.le (bldH id T el bf s top) (bldH id T el bf s top):=by
  cases bf with
  | none=>simp [Heap.le,bldH,bufL,HL.le,Heap.get,HL.get]
  | some i =>
    have h3:=(ok.buf i rfl).1
    simp [Heap.le,bldH,bufL,HL.le,Heap.get,HL.get,h3]
theorem sp_digest_row (m : Bool) (f : FuncId) (l : List Wd) (hl : l.length ≤ 1000) (ht : ∀ w ∈ l, w.text.length ≤ 10000 ∧ i64 w.act ∧ i64 w.item ∧ i64 w.at')
    (hf:∀ w ∈ l,Za8 Tryd.prog f [.agg w.enc] (.str (if m then [64] ++ threeT w.act w.item w.at' else []))):Za8 Tryd.prog 71 [.sl 4 (l.map Wd.enc),.fn (.func f) [] []] (.str (rowT m l)):=by
  have A:=sp_strconv_Itoa (l.length:Int) (nat_i64 (by omega))
  have l1:=itoa_len _ (nat_i64 (n:=l.length) (by omega))
  refine Zai ?_ (cS _) (by simp only [Zax,List.mem_cons,List.not_mem_nil,or_false,forall_eq_or_imp,forall_eq,false_implies,implies_true]; repeat' (first  | exact cS _ | exact closed_fn0 _ | exact Zao (Wd.closed _) | exact closed_gzs _ | exact Zau (fun w _=>Wd.closed w) | refine And.intro ?_ ?_))
  refine Zan (vc:=c_digest_row) (ts:=[.t 4]) Go.Proofs.Tryd.func71 (by kernel_rfl) rfl rfl (Nat.le_of_ble_eq_true rfl) (by kernel_rfl) ?_
  unfold c_digest_row
  try dsimp only [ZM,ZO,ZN,ZG]
  refine Zac (Zaa [0,1] ?_)
  simp only [Zab,Zad,Zaf,pok,pval,VA.ev,Env.get,Env.put,Env.keep,Za3,Zae,Heap.nil,Nat.succ_ne_self,Nat.reduceEqDiff,ite_true,ite_false,true_and,reduceCtorEq,Nat.zero_add]
  refine Zac (Zaa [0,1,5] ?_)
  simp only [Zab,Zad,Zaf,Env.get,Env.put,Env.keep,Zae,Nat.succ_ne_self,Nat.reduceEqDiff,ite_true,ite_false,reduceCtorEq]
  refine OpS_newB rfl (by kernel_rfl) ?_
  try simp only [Heap.push,Nat.zero_add]
  rw [show (⟨[(0,AB.bld 76 0 none)],1⟩:Heap) = bldH 0 76 5 none [] 1 from rfl]
  refine Zac (Zaa [0,1,5] ?_)
  simp only [Zab,Zad,Zaf,pok,pval,VA.ev,Env.get,Env.put,Env.keep,Zae,lenV,Zcd,Nat.succ_ne_self,List.map,Nat.reduceEqDiff,ite_true,ite_false,true_and,reduceCtorEq,List.length_map]
  refine Zaq A ?_
  unfold rowT
  generalize Lib.itoa (l.length:Int) = X at l1 ⊢
  skip
  refine AC_write (BldOk.new 0 1 (by omega)) (by simp; omega) (fun bf0 top0 ht0 ok0 _=>?_)
  rw [List.nil_append] at ok0 ⊢
  skip
  refine Zac ?_
  refine Zac (Zaa [1,5,12,13,14] ?_)
  simp only [Zab,Zad,Zaf,pok,pval,VA.ev,Env.get,Env.put,Env.keep,Zae,lenV,Zcd,Nat.succ_ne_self,Nat.reduceEqDiff,ite_true,ite_false,true_and,reduceCtorEq,List.length_map]
  refine Zam ?_
  refine Zb6 (σ:={ x:Nat × Option Nat × Nat // x.1 ≤ l.length ∧ BldOk 0 x.2.1 (X ++ (l.take x.1).flatMap (wordT m)) x.2.2 }) (fun x=>([(1,.fn (.func f) [] []),(5,.loc 0 0 0),(12,.sl 4 (l.map Wd.enc)),(13,pI l.length),(14,pI x.1.1)],bldH 0 76 5 x.1.2.1 (X ++ (l.take x.1.1).flatMap (wordT m)) x.1.2.2)) (fun x=>l.length - x.1.1) ⟨(0,bf0,top0),Nat.zero_le _,by simpa using ok0⟩ ?_ ?_ ?_
  · simp only [Env.get,Nat.succ_ne_self,Env.le,Nat.reduceEqDiff,ite_true,ite_false,true_and,and_true]
    rfl
  · simp only [List.take_zero,List.flatMap_nil,List.append_nil]
    exact bldH_le0 ok0
  rintro ⟨⟨k,bf,top⟩,hk,ok⟩
  simp only [] at hk ok ⊢
  refine Zac (Zaa [1,5,12,13,14,15] ?_)
  simp only [Zab,Zad,Zaf,pok,pval,VA.ev,Env.get,Env.put,Env.keep,Zae,intV,binV,Zal,Heap.le,Nat.succ_ne_self,Env.le,Nat.reduceEqDiff,ite_true,ite_false,true_and,and_true]
  refine Zac ?_
  have hfl:=flat_len (m:=m) (l:=l.take k) fun w hw=>ht w (List.mem_of_mem_take hw)
  have hm:(l.take k).length * 11000 ≤ 1000 * 11000:=Nat.mul_le_mul (by rw [List.length_take]; omega) (Nat.le_refl _)
  refine Zaj rfl (fun h1=>?_) (fun h1=>?_)
  · simp only [decide_eq_true_eq] at h1
    have ka:k < l.length:=by omega
    have hst:=rowT_step m ka
    have hw:=ht _ (List.getElem_mem ka)
    have hF:=hf _ (List.getElem_mem ka)
    have hrow:(l.map Wd.enc).getD k [] = l[k].enc:=rowm ka
    generalize l[k] = w at hst hw hrow hF
    have P:=sp_digest_piece w.text (by omega)
    have pl:=piece_len w.text (by omega)
    have tl:=three_len hw.2.1 hw.2.2.1 hw.2.2.2
    have hwt:wordT m w = [32] ++ pieceT w.text ++ (if m then [64] ++ threeT w.act w.item w.at' else []):=rfl
    have hbl:(if m then [64] ++ threeT w.act w.item w.at' else []).length ≤ 63:=by split <;> simp; omega
    generalize pieceT w.text = PT at P pl hwt
    generalize (if m then [64] ++ threeT w.act w.item w.at' else []) = BT at hF hwt hbl
    generalize (l.take k).flatMap (wordT m) = F at hfl hst ok ⊢
    refine Zap ?_
    try simp only [Zae]
    refine Zac ?_
    refine Zam ?_
    refine Zac (Zaa [1,5,7,12,13,14] ?_)
    simp only [Zab,Zad,Zaf,pok,pval,VA.ev,Env.get,Env.put,Env.keep,Zae,aggV,isInt,numOf,lenV,Zag,Zas,iaddrV,Zb5,PV.cells,PV.fits,overlay,PV.nth,PV.row,Heap.get,Heap.set,HL.get,HL.set,Heap.push,Nat.le_refl,Nat.succ_ne_self,Zbj,Zbh,List.set,List.length,List.getD_cons_zero,List.take,List.drop,List.take_succ_cons,List.drop_succ_cons,List.cons_append,List.nil_append,Nat.reduceEqDiff,Nat.reduceAdd,Nat.reduceLT,Bool.true_eq_false,ite_true,ite_false,true_and,and_true,BEq.rfl,Nat.zero_add,List.length_cons,imp_self,Int.toNat_natCast,List.length_map,hrow,Wd.enc,bldH_top,bldH_del ok]
    refine ⟨by omega,?_⟩
    have htop:0 < top:=ok.lt
    unfold Wd.enc at hF
    refine VW_drawC 8 ⟨[(top,.arr false 4 [[.str w.text,pI w.act,pI w.item,pI w.at']])],top + 20⟩ [1,5,12,13,14] rfl (by simp [Heap.le,HL.le,Heap.get,HL.get]) ?_
    simp only [Zaf,QW,dok,dval,VOp.pure,VOp.simple,VOp.det,pok,pval,VA.ev,Env.get,Env.put,Env.keep,Zae,Zaw,gd,aggV,intV,binV,Zal,strV,Zbi,Zbf,Zag,Zas,PV.nth,PV.row,Heap.get,Heap.le,HL.get,HL.le,Nat.le_refl,Nat.succ_ne_self,List.map,List.length,List.getD_cons_zero,List.take,List.drop,List.take_succ_cons,Nat.reduceEqDiff,Nat.reduceAdd,Nat.reduceLT,Nat.reduceLeDiff,Bool.false_eq_true,Bool.true_eq_false,ite_true,ite_false,true_and,and_true,implies_true,forall_const,Nat.zero_add,Nat.add_zero,List.length_cons,imp_self,DrawC_nil,DrawC_at,DrawC_n,Nat.reduceBEq,bldH_top]
    refine ⟨_,.inl P,?_⟩
    try simp only [List.length,List.cons_append,List.nil_append,Nat.zero_add,DrawC_nil,DrawC_at,DrawC_n,Nat.reduceBEq,bldH_top]
    refine ⟨by omega,_,.inl hF,?_⟩
    try simp only [List.length,List.cons_append,DrawC_nil,DrawC_at,DrawC_n,Nat.reduceBEq,bldH_top]
    refine ⟨by first | omega | (simp; omega),?_⟩
    refine Zbb.weakenL (bldH_app ok) (AC_writeL (ok.mono (Nat.le_succ top)) (by simp; omega) (by simp only [List.mem_singleton,forall_eq]; exact ⟨Nat.lt_succ_self _,by omega,fun e=>by have:=(ok.buf _ e).2; omega⟩) (by simp) (fun bf2 top2 ht2 ok2 hf2=>?_))
    have hne0:0 ≠ top:=by omega
    have hne1:bf2 ≠ some top:=fun e=>by have:=hf2.2 _ e; omega
    refine ⟨⟨by show top2 ≤ top + 20; have:=hf2.1; omega,bldH_getx hne0 hne1⟩,?_⟩
    refine Zaa [1,5,12,13,14] ?_
    have hfin:X ++ (l.take (k + 1)).flatMap (wordT m) = X ++ F ++ 32 :: (PT ++ BT):=by rw [hst,hwt]; simp
    simp only [Zab,Zad,Zaf,pok,pval,VA.ev,Env.get,Env.put,Env.keep,Zae,intV,binV,Zal,Nat.succ_ne_self,Nat.reduceEqDiff,ite_true,ite_false,true_and,ad1 (a:=k) (by omega)]
    refine ⟨⟨(k + 1,bf2,top2),ka,by show BldOk 0 bf2 (X ++ (l.take (k + 1)).flatMap (wordT m)) top2; rw [hfin]; exact ok2⟩,?_⟩
    simp only [hfin]
    refine ⟨by first | trivial | simp,bldH_pre ok2,by omega⟩
  simp only [decide_eq_false_iff_not] at h1
  obtain rfl:k = l.length:=by omega
  rw [List.take_length] at ok ⊢
  refine Zbs ?_
  try simp only [Zae,Zaw,retQ,ite_true]
  refine Zac (Zaa [4] ?_)
  simp only [Zab,Zad,Zaf,pok,pval,VA.ev,Env.get,Env.put,Env.keep,Zae,Nat.succ_ne_self,List.map,Nat.reduceEqDiff,ite_true,ite_false,true_and]
  refine AC_string ok ?_
  skip
  refine Zaz ?_
  try simp only [Env.get,retQ,resV,Zbc,RS.ev,RS.ok,ite_true,true_and,and_true]
  exact View.refl _ _
theorem sp_digest_bare_1 (w:Wd):Za8 Tryd.prog 52 [.agg w.enc] (.str []):=by
  refine Zai ?_ (cS _) (by simp only [Zax,List.mem_cons,List.not_mem_nil,or_false,forall_eq_or_imp,forall_eq,false_implies,implies_true]; repeat' (first  | exact cS _ | exact Zao (Wd.closed _) | refine And.intro ?_ ?_))
  refine Zan (vc:=c_digest_bare_1) (ts:=[.t 2]) Go.Proofs.Tryd.func52 (by kernel_rfl) rfl rfl (Nat.le_of_ble_eq_true rfl) (by kernel_rfl) ?_
  unfold c_digest_bare_1
  try dsimp only [ZM,ZO,ZN,ZG]
  unfold Wd.enc
  refine Zac (Zaa [] ?_)
  simp only [Zab,Zad,Zaf,pok,pval,VA.ev,Env.get,Env.put,Env.keep,Za3,Zae,PV.cells,PV.fits,Heap.push,Heap.nil,List.length,Nat.reduceAdd,ite_true,true_and,BEq.rfl,Nat.zero_add]
  refine Zac (Zaa [2] ?_)
  simp only [Zab,Zad,Zaf,pok,pval,VA.ev,Env.get,Env.put,Env.keep,Zae,ite_true,true_and]
  refine Zaz ?_
  try simp only [Env.get,retQ,resV,Zbc,RS.ev,RS.ok,ite_true,true_and,and_true]
  exact View.refl _ _
theorem sp_digest_marked_1 (w:Wd) (h:i64 w.act ∧ i64 w.item ∧ i64 w.at'):Za8 Tryd.prog 53 [.agg w.enc] (.str ([64] ++ threeT w.act w.item w.at')):=by
  have T:=sp_digest_numbers w.act w.item w.at' h.1 h.2.1 h.2.2
  have tl:=three_len h.1 h.2.1 h.2.2
  generalize threeT w.act w.item w.at' = TT at T tl ⊢
  refine Zai ?_ (cS _) (by simp only [Zax,List.mem_cons,List.not_mem_nil,or_false,forall_eq_or_imp,forall_eq,false_implies,implies_true]; repeat' (first  | exact cS _ | exact Zao (Wd.closed _) | refine And.intro ?_ ?_))
  refine Zan (vc:=c_digest_marked_1) (ts:=[.t 2]) Go.Proofs.Tryd.func53 (by kernel_rfl) rfl rfl (Nat.le_of_ble_eq_true rfl) (by kernel_rfl) ?_
  unfold c_digest_marked_1
  try dsimp only [ZM,ZO,ZN,ZG]
  unfold Wd.enc
  refine Zac (Zaa [1] ?_)
  simp only [Zab,Zad,Zaf,pok,pval,VA.ev,Env.get,Env.put,Env.keep,Za3,Zae,PV.cells,PV.fits,Heap.push,Heap.nil,Nat.succ_ne_self,List.length,List.cons_append,List.nil_append,Nat.reduceAdd,ite_true,ite_false,true_and,reduceCtorEq,BEq.rfl,Nat.zero_add]
  refine Zac (Zaa [2] ?_)
  simp only [Zab,Zad,Zaf,pok,pval,VA.ev,Env.get,Env.put,Env.keep,Zae,aggV,intV,binV,Zal,strV,Zbi,Zbf,Zag,Zas,PV.cells,PV.fits,PV.nth,PV.row,Heap.get,HL.get,Heap.push,Nat.le_refl,Nat.succ_ne_self,Zbg,Zbr,List.map,List.set,List.replicate,List.length,List.getD_cons_zero,List.take,List.drop,List.take_succ_cons,List.drop_succ_cons,Nat.reduceEqDiff,Nat.reduceAdd,Nat.reduceLT,Nat.reduceLeDiff,Bool.false_eq_true,ite_true,ite_false,true_and,and_true,implies_true,BEq.rfl,Nat.zero_add,Nat.add_zero,List.length_cons]
  refine ACall_v [.sl 1 [[pI w.act],[pI w.item],[pI w.at']]] ⟨View.own_all (fz:=false) (by simp [Heap.get,HL.get]) (by simp),trivial⟩ T (scalar_str _) ?_
  try simp only [List.length,List.cons_append,List.nil_append,Nat.zero_add]
  refine ⟨by omega,?_⟩
  refine Zaz ?_
  try simp only [Env.get,retQ,resV,Zbc,RS.ev,RS.ok,ite_true,true_and,and_true]
  exact View.refl _ _
theorem sp_row_bare (l:List Wd) (hl:l.length ≤ 1000) (ht:∀ w ∈ l,w.text.length ≤ 10000 ∧ i64 w.act ∧ i64 w.item ∧ i64 w.at'):Za8 Tryd.prog 71 [.sl 4 (l.map Wd.enc),.fn (.func 52) [] []] (.str (rowT false l)) :=
  sp_digest_row false _ l hl ht fun w _=>sp_digest_bare_1 w
theorem sp_row_marked (l:List Wd) (hl:l.length ≤ 1000) (ht:∀ w ∈ l,w.text.length ≤ 10000 ∧ i64 w.act ∧ i64 w.item ∧ i64 w.at'):Za8 Tryd.prog 71 [.sl 4 (l.map Wd.enc),.fn (.func 53) [] []] (.str (rowT true l)) :=
  sp_digest_row true _ l hl ht fun w hw=>sp_digest_marked_1 w (ht w hw).2
def bodyT (m:Bool) (u:Un):Str:=Lib.itoa u.kind ++ [32] ++ pieceT u.label ++ [10] ++ rowT m u.head ++ [10] ++ rowT m u.words ++ [10]
theorem body_len (m:Bool) {u:Un} (h:SmalU u):(bodyT m u).length ≤ 45000000:=by
  have l1:=itoa_len _ h.ok.2.2.2
  have l3:=piece_len u.label (by have:=h.label; omega)
  have l4:=row_len m h.head.1 h.head.2
  have l5:=row_len m h.words.1 h.words.2
  have hl:=h.label
  unfold bodyT
  simp; omega
theorem sp_digest_itself (m : Bool) (f : FuncId) (u : Un) (hu : SmalU u) (H : Za8 Tryd.prog 71 [.sl 4 (u.head.map Wd.enc), .fn (.func f) [] []] (.str (rowT m u.head))) (W : Za8 Tryd.prog 71 [.sl 4 (u.words.map Wd.enc), .fn (.func f) [] []] (.str (rowT m u.words))) :
    Za8 Tryd.prog 51 [.agg u.enc,.fn (.func f) [] []] (.str (bodyT m u)):=by
  have D:=sp_strconv_Itoa u.kind hu.ok.2.2.2
  have P:=sp_digest_piece u.label (by have:=hu.label; omega)
  have l1:=itoa_len _ hu.ok.2.2.2
  have l3:=piece_len u.label (by have:=hu.label; omega)
  have l4:=row_len m hu.head.1 hu.head.2
  have l5:=row_len m hu.words.1 hu.words.2
  have hl:=hu.label
  have halone:bodyT m u = Lib.itoa u.kind ++ [32] ++ pieceT u.label ++ [10] ++ rowT m u.head ++ [10] ++ rowT m u.words ++ [10]:=rfl
  refine Zai ?_ (cS _) (by simp only [Zax,List.mem_cons,List.not_mem_nil,or_false,forall_eq_or_imp,forall_eq,false_implies,implies_true]; repeat' (first  | exact cS _ | exact closed_fn0 _ | exact Zao (Un.closed _) | exact Zao (Wd.closed _) | exact closed_gzs _ | exact Zau (fun w _=>Wd.closed w) | exact Zau (fun w _=>Un.closed w) | refine And.intro ?_ ?_))
  refine Zan (vc:=c_digest_itself) (ts:=[.t 4]) Go.Proofs.Tryd.func51 (by kernel_rfl) rfl rfl (Nat.le_of_ble_eq_true rfl) (by kernel_rfl) ?_
  unfold c_digest_itself
  try dsimp only [ZM,ZO,ZN,ZG]
  rw [Un.Za1]
  refine Zac (Zaa [1,2] ?_)
  simp only [Zab,Zad,Zaf,pok,pval,VA.ev,Env.get,Env.put,Env.keep,Za3,Zae,PV.cells,PV.fits,Heap.push,Heap.nil,Nat.succ_ne_self,List.length,Nat.reduceEqDiff,Nat.reduceAdd,ite_true,ite_false,true_and,reduceCtorEq,BEq.rfl,Nat.zero_add]
  refine Zbu [(1,.fn (.func f) [] []),(2,.ro [pI u.act,pI u.item,pI u.n,pI u.kind,.str u.label,.sl 4 (u.head.map Wd.enc),.sl 4 (u.words.map Wd.enc),.sl 8 (u.kids.map Un.enc)])] ⟨View.refl _ _,View.loc (z:=8) (fz:=false) (es:=[[pI u.act,pI u.item,pI u.n,pI u.kind,.str u.label,.sl 4 (u.head.map Wd.enc),.sl 4 (u.words.map Wd.enc),.sl 8 (u.kids.map Un.enc)]]) rfl (by simp) rfl (by simp),trivial⟩ ?_
  rw [halone]
  generalize Lib.itoa u.kind = KT at D l1 ⊢
  generalize pieceT u.label = PT at P l3 ⊢
  generalize rowT m u.head = HT at H l4 ⊢
  generalize rowT m u.words = WT at W l5 ⊢
  generalize u.head.map Wd.enc = EH at H ⊢
  generalize u.words.map Wd.enc = EW at W ⊢
  generalize u.kids.map Un.enc = EK
  refine Zac (VW_drawS [4] (by simp [Heap.le,Heap.get,HL.le,HL.get]) ?_)
  simp only [DrawW_nil,DrawW_n,QW,dok,dval,VOp.pure,VOp.simple,VOp.det,pok,pval,VA.ev,Env.get,Env.put,Env.keep,Zae,gd,aggV,intV,binV,Zal,strV,Zbi,Zbf,Zag,Zas,PV.nth,Nat.succ_ne_self,List.length,List.getD_cons_zero,List.take,List.drop,List.take_succ_cons,Nat.reduceEqDiff,Nat.reduceAdd,Nat.reduceLeDiff,Bool.false_eq_true,ite_true,ite_false,true_and,and_true,implies_true,forall_const,reduceCtorEq,Nat.zero_add,List.length_cons,imp_self]
  refine ⟨_,.inl D,?_⟩
  try simp only [List.length,Nat.reduceLeDiff,implies_true,reduceCtorEq,Nat.zero_add,imp_self]
  refine ⟨by omega,_,.inl P,?_⟩
  try simp only [List.length,Nat.reduceLeDiff,implies_true,reduceCtorEq,Nat.zero_add,imp_self]
  refine ⟨by simp; omega,by simp; omega,_,.inl H,?_⟩
  try simp only [List.length,Nat.reduceLeDiff,implies_true,reduceCtorEq,Nat.zero_add,imp_self]
  refine ⟨by simp; omega,by simp; omega,_,.inl W,?_⟩
  try simp only [List.length,Nat.reduceLeDiff,Nat.zero_add]
  refine ⟨by simp; omega,by simp; omega,?_⟩
  refine Zaz ?_
  try simp only [Env.get,retQ,resV,Zbc,RS.ev,RS.ok,ite_true,true_and,and_true]
  exact View.refl _ _
theorem sp_digest_bare (u:Un) (hu:SmalU u):Za8 Tryd.prog 29 [.agg u.enc] (.str (Zbo false u)):=by
  have I:=sp_digest_itself false 52 u hu (sp_row_bare _ hu.head.1 hu.head.2) (sp_row_bare _ hu.words.1 hu.words.2)
  have e:Zbo false u = bodyT false u:=by unfold Zbo bodyT; simp
  rw [e]
  generalize bodyT false u = X at I ⊢
  refine Zai ?_ (cS _) (by simp only [Zax,List.mem_cons,List.not_mem_nil,or_false,forall_eq_or_imp,forall_eq,false_implies,implies_true]; repeat' (first  | exact cS _ | exact Zao (Un.closed _) | refine And.intro ?_ ?_))
  refine Zan (vc:=c_digest_bare) (ts:=[.t 2]) Go.Proofs.Tryd.func29 (by kernel_rfl) rfl rfl (Nat.le_of_ble_eq_true rfl) (by kernel_rfl) ?_
  unfold c_digest_bare
  try dsimp only [ZM,ZO,ZN,ZG]
  rw [Un.Za1] at I ⊢
  refine Zac (Zaa [1] ?_)
  simp only [Zab,Zad,Zaf,pok,pval,VA.ev,Env.get,Env.put,Env.keep,Za3,Zae,PV.cells,PV.fits,Heap.push,Heap.nil,Nat.succ_ne_self,List.length,Nat.reduceAdd,ite_true,ite_false,true_and,reduceCtorEq,BEq.rfl,Nat.zero_add]
  refine Zac (Zaa [2] ?_)
  simp only [Zab,Zad,Zaf,pok,pval,VA.ev,Env.get,Env.put,Env.keep,Zae,aggV,Zag,Zas,PV.nth,PV.row,Heap.get,HL.get,Nat.le_refl,Nat.succ_ne_self,List.map,List.length,List.getD_cons_zero,List.take,List.drop,List.take_succ_cons,Nat.reduceEqDiff,Nat.reduceAdd,Nat.reduceLT,Bool.true_eq_false,ite_true,ite_false,true_and,and_true,Nat.zero_add,List.length_cons,imp_self]
  refine Zaq I ?_
  skip
  refine Zaz ?_
  try simp only [Env.get,retQ,resV,Zbc,RS.ev,RS.ok,ite_true,true_and,and_true]
  exact View.refl _ _
theorem sp_digest_marked (u:Un) (hu:SmalU u):Za8 Tryd.prog 30 [.agg u.enc] (.str (Zbo true u)):=by
  have I:=sp_digest_itself true 53 u hu (sp_row_marked _ hu.head.1 hu.head.2) (sp_row_marked _ hu.words.1 hu.words.2)
  have T:=sp_digest_numbers u.act u.item u.n hu.ok.1 hu.ok.2.1 hu.ok.2.2.1
  have tl:=three_len hu.ok.1 hu.ok.2.1 hu.ok.2.2.1
  have bl:=body_len true hu
  have e:Zbo true u = threeT u.act u.item u.n ++ [32] ++ bodyT true u:=by unfold Zbo bodyT; simp
  rw [e]
  generalize bodyT true u = X at I bl ⊢
  generalize threeT u.act u.item u.n = TT at T tl ⊢
  refine Zai ?_ (cS _) (by simp only [Zax,List.mem_cons,List.not_mem_nil,or_false,forall_eq_or_imp,forall_eq,false_implies,implies_true]; repeat' (first  | exact cS _ | exact Zao (Un.closed _) | refine And.intro ?_ ?_))
  refine Zan (vc:=c_digest_marked) (ts:=[.t 2]) Go.Proofs.Tryd.func30 (by kernel_rfl) rfl rfl (Nat.le_of_ble_eq_true rfl) (by kernel_rfl) ?_
  unfold c_digest_marked
  try dsimp only [ZM,ZO,ZN,ZG]
  rw [Un.Za1] at I ⊢
  refine Zac (Zaa [1] ?_)
  simp only [Zab,Zad,Zaf,pok,pval,VA.ev,Env.get,Env.put,Env.keep,Za3,Zae,PV.cells,PV.fits,Heap.push,Heap.nil,Nat.succ_ne_self,List.length,Nat.reduceAdd,ite_true,ite_false,true_and,reduceCtorEq,BEq.rfl,Nat.zero_add]
  refine Zbu [(1,.ro [pI u.act,pI u.item,pI u.n,pI u.kind,.str u.label,.sl 4 (u.head.map Wd.enc),.sl 4 (u.words.map Wd.enc),.sl 8 (u.kids.map Un.enc)])] ⟨View.loc (z:=8) (fz:=false) (es:=[[pI u.act,pI u.item,pI u.n,pI u.kind,.str u.label,.sl 4 (u.head.map Wd.enc),.sl 4 (u.words.map Wd.enc),.sl 8 (u.kids.map Un.enc)]]) rfl (by simp) rfl (by simp),trivial⟩ ?_
  refine Zac (Zaa [1,3] ?_)
  simp only [Zab,Zad,Zaf,pok,pval,VA.ev,Env.get,Env.put,Env.keep,Zae,Nat.reduceEqDiff,ite_true,ite_false,true_and]
  refine Zac (VW_drawS [2] (by simp [Heap.le,Heap.get,HL.le,HL.get]) ?_)
  simp only [DrawW_nil,DrawW_n,QW,dok,dval,VOp.pure,VOp.simple,VOp.det,pok,pval,VA.ev,Env.get,Env.put,Env.keep,Zae,gd,aggV,intV,binV,Zal,strV,Zbi,Zbf,Zag,Zas,PV.cells,PV.fits,PV.nth,Nat.le_refl,Nat.succ_ne_self,Zbg,Zbr,List.set,List.replicate,List.length,List.getD_cons_zero,List.take,List.drop,List.take_succ_cons,Nat.reduceEqDiff,Nat.reduceAdd,Nat.reduceLT,Nat.reduceLeDiff,Bool.false_eq_true,Bool.true_eq_false,ite_true,ite_false,true_and,and_true,implies_true,forall_const,BEq.rfl,Nat.zero_add,List.length_cons,imp_self]
  refine ⟨_,.inl T,?_⟩
  try simp only [List.length,Nat.reduceLeDiff,Nat.zero_add]
  refine ⟨by omega,_,.inl I,?_⟩
  try simp only []
  refine ⟨by simp; omega,?_⟩
  refine Zaz ?_
  try simp only [Env.get,retQ,resV,Zbc,RS.ev,RS.ok,ite_true,true_and,and_true]
  simp
  exact View.refl _ _
theorem sp_digest_Self (u:Un) (hu:SmalU u):Za8 Tryd.prog 16 [.agg u.enc] (.str (sumT (Zbo true u))):=by
  have M:=sp_digest_marked u hu
  have al:=alone_len true hu
  have S:=sp_digest_Sum (Zbo true u) (by omega)
  generalize sumT (Zbo true u) = R at S ⊢
  generalize Zbo true u = X at M S ⊢
  refine Zai ?_ (cS _) (by simp only [Zax,List.mem_cons,List.not_mem_nil,or_false,forall_eq_or_imp,forall_eq,false_implies,implies_true]; repeat' (first  | exact cS _ | exact Zao (Un.closed _) | refine And.intro ?_ ?_))
  refine Zan (vc:=c_digest_Self) (ts:=[.t 2]) Go.Proofs.Tryd.func16 (by kernel_rfl) rfl rfl (Nat.le_of_ble_eq_true rfl) (by kernel_rfl) ?_
  unfold c_digest_Self
  try dsimp only [ZM,ZO,ZN,ZG]
  rw [Un.Za1] at M ⊢
  refine Zac (Zaa [1] ?_)
  simp only [Zab,Zad,Zaf,pok,pval,VA.ev,Env.get,Env.put,Env.keep,Za3,Zae,PV.cells,PV.fits,Heap.push,Heap.nil,Nat.succ_ne_self,List.length,Nat.reduceAdd,ite_true,ite_false,true_and,reduceCtorEq,BEq.rfl,Nat.zero_add]
  refine Zac (Zaa [2] ?_)
  simp only [Zab,Zad,Zaf,pok,pval,VA.ev,Env.get,Env.put,Env.keep,Zae,aggV,Zag,Zas,PV.nth,PV.row,Heap.get,HL.get,Nat.le_refl,Nat.succ_ne_self,List.map,List.length,List.getD_cons_zero,List.take,List.drop,List.take_succ_cons,Nat.reduceEqDiff,Nat.reduceAdd,Nat.reduceLT,Bool.true_eq_false,ite_true,ite_false,true_and,and_true,Nat.zero_add,List.length_cons,imp_self]
  refine Zaq M ?_
  skip
  refine Zaq S ?_
  skip
  refine Zaz ?_
  try simp only [Env.get,retQ,resV,Zbc,RS.ev,RS.ok,ite_true,true_and,and_true]
  exact View.refl _ _
theorem sp_tree (m : Bool) (f g : FuncId) (u : Un) (h : SmalU u) (hk : u.kids.length ≤ 1000) (A : Za8 Tryd.prog f [.agg u.enc] (.str (Zbo m u))) (ih : ∀ k ∈ u.kids, Za8 Tryd.prog g [.agg k.enc] (.str (saysT m k))) :
    Za8 Tryd.prog 28 [.agg u.enc,.fn (.func f) [] [],.fn (.func g) [] []] (.str (saysT m u)):=by
  have al:=alone_len m h
  have T:=sp_digest_Sum (Zbo m u ++ saysL m u.kids) (by rw [List.length_append,saysL_len]; omega)
  rw [saysT_eq]
  generalize Zbo m u = X at A al T
  refine Zai ?_ (cS _) (by simp only [Zax,List.mem_cons,List.not_mem_nil,or_false,forall_eq_or_imp,forall_eq,false_implies,implies_true]; repeat' (first  | exact cS _ | exact closed_fn0 _ | exact Zao (Un.closed _) | refine And.intro ?_ ?_))
  refine Zan (vc:=c_digest_tree) (ts:=[.t 6]) Go.Proofs.Tryd.func28 (by kernel_rfl) rfl rfl (Nat.le_of_ble_eq_true rfl) (by kernel_rfl) ?_
  unfold c_digest_tree
  try dsimp only [ZM,ZO,ZN,ZG]
  rw [Un.Za1] at A ⊢
  refine Zac (Zaa [1,2,3] ?_)
  simp only [Zab,Zad,Zaf,pok,pval,VA.ev,Env.get,Env.put,Env.keep,Za3,Zae,PV.cells,PV.fits,Heap.push,Heap.nil,Nat.succ_ne_self,List.length,Nat.reduceEqDiff,Nat.reduceAdd,ite_true,ite_false,true_and,reduceCtorEq,BEq.rfl,Nat.zero_add]
  refine Zbu [(1,.fn (.func f) [] []),(2,.fn (.func g) [] []),(3,.ro [pI u.act,pI u.item,pI u.n,pI u.kind,.str u.label,.sl 4 (u.head.map Wd.enc),.sl 4 (u.words.map Wd.enc),.sl 8 (u.kids.map Un.enc)])] ⟨View.refl _ _,View.refl _ _,View.loc (z:=8) (fz:=false) (es:=[[pI u.act,pI u.item,pI u.n,pI u.kind,.str u.label,.sl 4 (u.head.map Wd.enc),.sl 4 (u.words.map Wd.enc),.sl 8 (u.kids.map Un.enc)]]) rfl (by simp) rfl (by simp),trivial⟩ ?_
  generalize u.head.map Wd.enc = EH at A ⊢
  generalize u.words.map Wd.enc = EW at A ⊢
  generalize u.kids = L at hk ih T A ⊢
  refine Zac (Zaa [1,2,3,7] ?_)
  simp only [Zab,Zad,Zaf,Env.get,Env.put,Env.keep,Zae,Nat.succ_ne_self,Nat.reduceEqDiff,ite_true,ite_false]
  refine OpS_newB rfl (by kernel_rfl) ?_
  try simp only [Heap.push,Nat.reduceAdd]
  rw [show (⟨[(1,AB.bld 76 0 none)],2⟩:Heap) = bldH 1 76 5 none [] 2 from rfl]
  refine Zac (Zaa [2,3,7] ?_)
  simp only [Zab,Zad,Zaf,pok,pval,VA.ev,Env.get,Env.put,Env.keep,Zae,aggV,Zag,Zas,PV.nth,Nat.le_refl,Nat.succ_ne_self,List.map,List.length,List.getD_cons_zero,List.take,List.take_succ_cons,List.cons_append,List.nil_append,Nat.reduceEqDiff,Nat.reduceAdd,Bool.true_eq_false,ite_true,ite_false,true_and,and_true,Nat.zero_add,List.length_cons,imp_self]
  refine Zaq A ?_
  skip
  refine AC_write (BldOk.new 1 2 (by omega)) (by simp; omega) (fun bf0 top0 ht0 ok0 _=>?_)
  rw [List.nil_append] at ok0 ⊢
  skip
  refine Zac ?_
  refine Zac (Zaa [2,7,15,16,17] ?_)
  simp only [Zab,Zad,Zaf,pok,pval,VA.ev,Env.get,Env.put,Env.keep,Zae,aggV,lenV,Zbi,Zbf,Zag,Zas,Zcd,PV.nth,Nat.le_refl,Nat.succ_ne_self,List.length,List.getD_cons_zero,List.take,List.drop,List.take_succ_cons,Nat.reduceEqDiff,Bool.false_eq_true,ite_true,ite_false,true_and,and_true,implies_true,Nat.zero_add,List.length_cons,List.length_map]
  refine Zam ?_
  refine Zb6 (σ:={ x:Nat × Option Nat × Nat // x.1 ≤ L.length ∧ BldOk 1 x.2.1 (X ++ saysL m (L.take x.1)) x.2.2 }) (fun x=>([(2,.fn (.func g) [] []),(7,.loc 1 0 0),(15,.sl 8 (L.map Un.enc)),(16,pI L.length),(17,pI x.1.1)],bldH 1 76 5 x.1.2.1 (X ++ saysL m (L.take x.1.1)) x.1.2.2)) (fun x=>L.length - x.1.1) ⟨(0,bf0,top0),Nat.zero_le _,by simpa [saysL] using ok0⟩ ?_ ?_ ?_
  · simp only [Env.get,Nat.succ_ne_self,Env.le,Nat.reduceEqDiff,ite_true,ite_false,true_and,and_true]
    rfl
  · simp only [List.take_zero,saysL,List.append_nil]
    exact bldH_le0 ok0
  rintro ⟨⟨k,bf,top⟩,hkl,ok⟩
  simp only [] at hkl ok ⊢
  refine Zac (Zaa [2,7,15,16,17,18] ?_)
  simp only [Zab,Zad,Zaf,pok,pval,VA.ev,Env.get,Env.put,Env.keep,Zae,intV,binV,Zal,Heap.le,Nat.succ_ne_self,Env.le,Nat.reduceEqDiff,ite_true,ite_false,true_and,and_true]
  refine Zac ?_
  refine Zaj rfl (fun h1=>?_) (fun h1=>?_)
  · simp only [decide_eq_true_eq] at h1
    have ka:k < L.length:=by omega
    have hst:=saysL_step m ka
    have hrow:(L.map Un.enc).getD k [] = L[k].enc:=rowm ka
    have R:=ih _ (List.getElem_mem ka)
    have hfl:=saysL_len m (L.take k)
    have htl:(L.take k).length = k:=by rw [List.length_take]; omega
    have hsl:=saysT_len m L[k]
    generalize L[k] = v at hst hrow R hsl
    rw [Un.Za1] at hrow R
    generalize saysT m v = V at hst R hsl
    generalize saysL m (L.take k) = F at hst hfl ok ⊢
    have htop:1 < top:=ok.lt
    refine Zap ?_
    try simp only [Zae]
    refine Zac ?_
    refine Zam ?_
    refine Zac (Zaa [2,7,9,15,16,17] ?_)
    simp only [Zab,Zad,Zaf,pok,pval,VA.ev,Env.get,Env.put,Env.keep,Zae,aggV,isInt,numOf,lenV,Zag,Zas,iaddrV,Zb5,PV.cells,PV.fits,overlay,PV.nth,PV.row,Heap.get,Heap.set,HL.get,HL.set,Heap.push,Nat.le_refl,Nat.succ_ne_self,Zbj,Zbh,List.set,List.length,List.getD_cons_zero,List.take,List.drop,List.take_succ_cons,List.drop_succ_cons,List.cons_append,List.nil_append,Nat.reduceEqDiff,Nat.reduceAdd,Nat.reduceLT,Bool.true_eq_false,ite_true,ite_false,true_and,and_true,BEq.rfl,Nat.zero_add,List.length_cons,imp_self,Int.toNat_natCast,List.length_map,hrow,bldH_top,bldH_del ok]
    refine ⟨by omega,?_⟩
    refine Zaa [2,7,15,16,17] ?_
    simp only [Zab,Zad,Zaf,pok,pval,VA.ev,Env.get,Env.put,Env.keep,Zae,Zaw,aggV,Zag,Zas,PV.nth,PV.row,Heap.get,HL.get,Nat.le_refl,Nat.succ_ne_self,List.map,List.length,List.getD_cons_zero,List.take,List.drop,List.take_succ_cons,List.cons_append,List.nil_append,Nat.reduceEqDiff,Nat.reduceAdd,Nat.reduceLT,Bool.true_eq_false,ite_true,ite_false,true_and,and_true,Nat.zero_add,List.length_cons,imp_self,bldH_top]
    refine Zaq R ?_
    skip
    refine Zbb.weakenL (bldH_le ok) (AC_write (ok.mono (Nat.le_succ top)) (by simp; omega) (fun bf2 top2 ht2 ok2 hf2=>?_))
    skip
    refine Zaa [2,7,15,16,17] ?_
    have hfin:X ++ saysL m (L.take (k + 1)) = X ++ F ++ V:=by rw [hst]; simp
    simp only [Zab,Zad,Zaf,pok,pval,VA.ev,Env.get,Env.put,Env.keep,Zae,intV,binV,Zal,Nat.succ_ne_self,Nat.reduceEqDiff,ite_true,ite_false,true_and,ad1 (a:=k) (by omega)]
    refine ⟨⟨(k + 1,bf2,top2),ka,by show BldOk 1 bf2 (X ++ saysL m (L.take (k + 1))) top2; rw [hfin]; exact ok2⟩,?_⟩
    simp only [hfin]
    refine ⟨by first | trivial | simp,bldH_le0 ok2,by omega⟩
  simp only [decide_eq_false_iff_not] at h1
  obtain rfl:k = L.length:=by omega
  rw [List.take_length] at ok ⊢
  refine Zbs ?_
  try simp only [Zae,Zaw,retQ,ite_true]
  refine Zac (Zaa [6] ?_)
  simp only [Zab,Zad,Zaf,pok,pval,VA.ev,Env.get,Env.put,Env.keep,Zae,Nat.succ_ne_self,List.map,Nat.reduceEqDiff,ite_true,ite_false,true_and]
  refine AC_string ok ?_
  skip
  refine Zaq T ?_
  skip
  refine Zaz ?_
  try simp only [Env.get,retQ,resV,Zbc,RS.ev,RS.ok,ite_true,true_and,and_true]
  exact View.refl _ _
theorem sp_digest_Content {u:Un} (hu:SmalT u):Za8 Tryd.prog 12 [.agg u.enc] (.str (saysT false u)):=by
  induction hu with
  | mk u h hk hs ih =>
    have T:=sp_tree false 29 12 u h hk (sp_digest_bare u h) ih
    generalize saysT false u = X at T ⊢
    refine Zai ?_ (cS _) (by simp only [Zax,List.mem_cons,List.not_mem_nil,or_false,forall_eq_or_imp,forall_eq,false_implies,implies_true]; repeat' (first  | exact cS _ | exact Zao (Un.closed _) | refine And.intro ?_ ?_))
    refine Zan (vc:=c_digest_Content) (ts:=[.t 2]) Go.Proofs.Tryd.func12 (by kernel_rfl) rfl rfl (Nat.le_of_ble_eq_true rfl) (by kernel_rfl) ?_
    unfold c_digest_Content
    try dsimp only [ZM,ZO,ZN,ZG]
    rw [Un.Za1] at T ⊢
    refine Zac (Zaa [1] ?_)
    simp only [Zab,Zad,Zaf,pok,pval,VA.ev,Env.get,Env.put,Env.keep,Za3,Zae,PV.cells,PV.fits,Heap.push,Heap.nil,Nat.succ_ne_self,List.length,Nat.reduceAdd,ite_true,ite_false,true_and,reduceCtorEq,BEq.rfl,Nat.zero_add]
    refine Zac (Zaa [2] ?_)
    simp only [Zab,Zad,Zaf,pok,pval,VA.ev,Env.get,Env.put,Env.keep,Zae,aggV,Zag,Zas,PV.nth,PV.row,Heap.get,HL.get,Nat.le_refl,Nat.succ_ne_self,List.map,List.length,List.getD_cons_zero,List.take,List.drop,List.take_succ_cons,Nat.reduceEqDiff,Nat.reduceAdd,Nat.reduceLT,Bool.true_eq_false,ite_true,ite_false,true_and,and_true,Nat.zero_add,List.length_cons,imp_self]
    refine Zaq T ?_
    skip
    refine Zaz ?_
    try simp only [Env.get,retQ,resV,Zbc,RS.ev,RS.ok,ite_true,true_and,and_true]
    exact View.refl _ _
theorem sp_digest_Full {u:Un} (hu:SmalT u):Za8 Tryd.prog 14 [.agg u.enc] (.str (saysT true u)):=by
  induction hu with
  | mk u h hk hs ih =>
    have T:=sp_tree true 30 14 u h hk (sp_digest_marked u h) ih
    generalize saysT true u = X at T ⊢
    refine Zai ?_ (cS _) (by simp only [Zax,List.mem_cons,List.not_mem_nil,or_false,forall_eq_or_imp,forall_eq,false_implies,implies_true]; repeat' (first  | exact cS _ | exact Zao (Un.closed _) | refine And.intro ?_ ?_))
    refine Zan (vc:=c_digest_Full) (ts:=[.t 2]) Go.Proofs.Tryd.func14 (by kernel_rfl) rfl rfl (Nat.le_of_ble_eq_true rfl) (by kernel_rfl) ?_
    unfold c_digest_Full
    try dsimp only [ZM,ZO,ZN,ZG]
    rw [Un.Za1] at T ⊢
    refine Zac (Zaa [1] ?_)
    simp only [Zab,Zad,Zaf,pok,pval,VA.ev,Env.get,Env.put,Env.keep,Za3,Zae,PV.cells,PV.fits,Heap.push,Heap.nil,Nat.succ_ne_self,List.length,Nat.reduceAdd,ite_true,ite_false,true_and,reduceCtorEq,BEq.rfl,Nat.zero_add]
    refine Zac (Zaa [2] ?_)
    simp only [Zab,Zad,Zaf,pok,pval,VA.ev,Env.get,Env.put,Env.keep,Zae,aggV,Zag,Zas,PV.nth,PV.row,Heap.get,HL.get,Nat.le_refl,Nat.succ_ne_self,List.map,List.length,List.getD_cons_zero,List.take,List.drop,List.take_succ_cons,Nat.reduceEqDiff,Nat.reduceAdd,Nat.reduceLT,Bool.true_eq_false,ite_true,ite_false,true_and,and_true,Nat.zero_add,List.length_cons,imp_self]
    refine Zaq T ?_
    skip
    refine Zaz ?_
    try simp only [Env.get,retQ,resV,Zbc,RS.ev,RS.ok,ite_true,true_and,and_true]
    exact View.refl _ _
end Go.Proofs.YtjmekckcffckoaaDoor.w
namespace Go.Proofs.YtjmekckcffckoaaDoor.w
open Go Go.VM
set_option maxRecDepth 20000
set_option maxHeartbeats 0
set_option pp.deepTerms false
def difL (X Y:List (Idt × Str)):List Idt:=(X.map (·.1) ++ (Y.map (·.1)).filter fun x=>!(X.map (·.1)).contains x).filter fun x=>decide (valG X x ≠ valG Y x)
theorem difL_mem (X Y:List (Idt × Str)) (x:Idt):x ∈ difL X Y ↔ valG X x ≠ valG Y x:=by
  unfold difL
  rw [List.mem_filter,decide_eq_true_iff]
  constructor
  · exact fun h=>h.2
  · intro h
    refine ⟨?_,h⟩
    by_cases h1:x ∈ X.map (·.1)
    · exact List.mem_append_left _ h1
    · refine List.mem_append_right _ (List.mem_filter.2 ⟨?_,by simpa using h1⟩)
      rcases Classical.em (x ∈ Y.map (·.1)) with h2 | h2
      · exact h2
      · exact absurd (by rw [valG_none.2 h1,valG_none.2 h2]) h
theorem difL_nod {X Y:List (Idt × Str)} (hX:(X.map (·.1)).Nodup) (hY:(Y.map (·.1)).Nodup):(difL X Y).Nodup:=by
  unfold difL
  refine List.Pairwise.filter _ (List.nodup_append.2 ⟨hX,List.Pairwise.filter _ hY,fun a ha b hb=>?_⟩)
  rintro rfl
  have:=(List.mem_filter.1 hb).2
  simp at this
  obtain ⟨e,he,rfl⟩:=List.mem_map.1 ha
  exact this _ he
def difD (a b:Un):List Idt:=sortD (difL (Zci a) (Zci b))
theorem difD_uniq {a b:Un} {l:List Idt} (hn:l.Nodup) (hm:∀ x,x ∈ l ↔ valG (Zci a) x ≠ valG (Zci b) x):sortD l = difD a b :=
  sortD_perm ((List.perm_ext_iff_of_nodup hn (difL_nod (gathT_nod a) (gathT_nod b))).2 fun x=>by rw [hm,difL_mem])
theorem difD_mem (a b:Un) (x:Idt):x ∈ difD a b ↔ valG (Zci a) x ≠ valG (Zci b) x:=by
  unfold difD sortD
  rw [(List.mergeSort_perm _ _).mem_iff,difL_mem]
theorem difD_self (a:Un):difD a a = []:=by
  cases h:difD a a with
  | nil=>rfl
  | cons x r =>
    have:x ∈ difD a a:=by rw [h]; exact List.mem_cons_self
    rw [difD_mem] at this
    exact absurd rfl this
theorem difD_len (a b:Un):(difD a b).length ≤ (Zci a).length + (Zci b).length:=by
  unfold difD sortD
  rw [List.length_mergeSort]
  unfold difL
  have h1:=List.length_filter_le (fun x=>decide (valG (Zci a) x ≠ valG (Zci b) x)) ((Zci a).map (·.1) ++ ((Zci b).map (·.1)).filter fun x=>!((Zci a).map (·.1)).contains x)
  have h2:=List.length_filter_le (fun x=>!((Zci a).map (·.1)).contains x) ((Zci b).map (·.1))
  rw [List.length_append] at h1
  simp only [List.length_map] at h1 h2
  omega
theorem gthF_len:∀ (l:List Un) (M:List (Idt × Str)),(l.foldl gthU M).length ≤ M.length + l.length
  | [],M=>by simp
  | u :: r,M=>by
    rw [List.foldl_cons]
    have:=gthF_len r (gthU M u)
    have h2:(gthU M u).length ≤ M.length + 1:=by unfold gthU; split <;> simp
    rw [List.length_cons]; omega
theorem gathT_len (u:Un):(Zci u).length ≤ (unitsT u).length:=by have:=gthF_len (unitsT u) []; simpa [Zci] using this
theorem sp_digest_Diff {a b:Un} (ha:SmalT a) (hb:SmalT b) (na:(unitsT a).length ≤ 1000) (nb:(unitsT b).length ≤ 1000):Za8 Tryd.prog 20 [.agg a.enc,.agg b.enc] (.sl 3 ((difD a b).map Idt.enc)) :=
  walk_Diff (fun v h=>sp_digest_Full h) sp_keys sp_sortedKeys ha hb (by have:=gathT_len a; have:=gathT_len b; omega) (difD a b) fun M h1 h2=>difD_uniq h1 h2
end Go.Proofs.YtjmekckcffckoaaDoor.w
namespace Go.Proofs.YtjmekckcffckoaaDoor.w
open Go Go.VM
set_option maxRecDepth 20000
set_option maxHeartbeats 0
set_option pp.deepTerms false
def c_pandectlaw12_awake:VC:=(.seq (.region [ZO 0 (.mv (.c (.bool false)))] false) (.seq (.region [ZO 2 (.build [(.int .i64 0),(.int .i64 0),(.int .i64 0)] [(0,(1,(.c (.int .i64 1)))),(2,(1,(.c (.int .i64 1))))]),ZO 3 (.build [(.int .i64 0),(.int .i64 0),(.int .i64 0),(.int .i64 0),(.str []),.nilsl,.nilsl,.nilsl] [(0,(3,(.t 2))),(3,(1,(.c (.int .i64 1)))),(4,(1,(.c (.str [49]))))]),ZO 4 (.bslice 8 1 [(.int .i64 0),(.int .i64 0),(.int .i64 0),(.int .i64 0),(.str []),.nilsl,.nilsl,.nilsl] [(0,(.t 3))]),ZO 5 (.build [(.int .i64 0),(.int .i64 0),(.int .i64 0),(.int .i64 0),(.str []),.nilsl,.nilsl,.nilsl] [(3,(1,(.c (.int .i64 0)))),(7,(1,(.t 4)))]),ZO 1 (.alloc [(.int .i64 0),(.int .i64 0),(.int .i64 0),(.int .i64 0),(.str []),.nilsl,.nilsl,.nilsl]),ZN (.store 8 (.t 1) (.t 5))] false) (.seq (.region [ZO 6 (.build [(.int .i64 0),(.int .i64 0),(.int .i64 0),(.int .i64 0),(.str []),.nilsl,.nilsl,.nilsl] []),ZO 7 (.call 16 [(.t 6)]),ZO 8 (.call 9 [(.c (.str [48,46,48,46,48,32,48,32,48,58,10,48,10,48,10]))]),ZO 9 (.bin .eql (.t 7) (.t 8)),ZM 10 9,ZG 11 (.build [(.int .i64 0),(.int .i64 0),(.int .i64 0),(.int .i64 0),(.str []),.nilsl,.nilsl,.nilsl] []) 10 true,ZG 12 (.call 12 [(.t 11)]) 10 true,ZG 13 (.call 9 [(.c (.str [48,32,48,58,10,48,10,48,10]))]) 10 true,ZG 14 (.bin .eql (.t 12) (.t 13)) 10 true,ZO 15 (.pick (.t 10) (.t 14) (.c (.bool false))),ZM 16 15,ZG 17 (.load true 8 (.t 1)) 16 true,ZG 18 (.load true 8 (.t 1)) 16 true,ZG 19 (.call 20 [(.t 17),(.t 18)]) 16 true,ZG 20 (.len false (.t 19)) 16 true,ZG 21 (.bin .eql (.t 20) (.c (.int .i64 0))) 16 true,ZO 22 (.pick (.t 16) (.t 21) (.c (.bool false))),ZM 23 22,ZG 24 (.call 9 [(.c (.str []))]) 23 true,ZG 25 (.len true (.t 24)) 23 true,ZG 26 (.bin .eql (.t 25) (.c (.int .i64 16))) 23 true,ZO 27 (.pick (.t 23) (.t 26) (.c (.bool false))),ZM 28 27,ZG 29 (.load true 8 (.t 1)) 28 true,ZG 30 (.build [(.int .i64 0),(.int .i64 0),(.int .i64 0),(.int .i64 0),(.str []),.nilsl,.nilsl,.nilsl] []) 28 true,ZG 31 (.call 20 [(.t 29),(.t 30)]) 28 true,ZG 32 (.len false (.t 31)) 28 true,ZG 33 (.bin .eql (.t 32) (.c (.int .i64 2))) 28 true,ZO 34 (.pick (.t 28) (.t 33) (.c (.bool false))),ZM 0 34] false) .ret)))
def CellsV (h:Heap):List PV → List PV → Prop
  | [],[]=>True
  | a :: r,b :: q=>View h a b ∧ CellsV h r q
  | _,_=>False
theorem CellsV.at {h:Heap}:∀ {l q:List PV},CellsV h l q → ∀ j,View h (PV.nth l j) (PV.nth q j)
  | [],[],_,j=>View.refl _ _
  | a :: r,b :: q,hv,0=>hv.1
  | a :: r,b :: q,hv,j + 1=>by
    have:=CellsV.at hv.2 j
    simpa [PV.nth] using this
theorem rows_view {h:Heap} {id n z:Nat} {fz:Bool} {es q:List (List PV)} (hg:h.get id = some (.arr fz z es)) (hn:n = es.length) (hq:q.length = n) (hz:∀ i,i < n → (PV.row q i).length = z) (hv:∀ i,i < n → CellsV h (PV.row es i) (PV.row q i)):View h (.own id 0 n) (.sl z q) :=
  View.ownV hg (by omega) hq hz (fun i j hi _=>by rw [Nat.zero_add]; exact CellsV.at (hv i hi) j)
def kidA:Un:=.mk 1 0 1 1 [49] [] [] []
def unA:Un:=.mk 0 0 0 0 [] [] [] [kidA]
theorem itoa0:Lib.itoa 0 = [48]:=by rw [itoa_pos_small (by omega) (by omega)]; rfl
theorem itoa1:Lib.itoa 1 = [49]:=by rw [itoa_pos_small (by omega) (by omega)]; rfl
theorem txtZ (m:Bool):Zbo m Zcj = (if m then [48,46,48,46,48,32] else []) ++ [48,32,48,58,10,48,10,48,10]:=by
  unfold Zbo Zcj threeT pieceT rowT
  simp only [Un.act,Un.item,Un.n,Un.kind,Un.label,Un.head,Un.words,List.length_nil,Int.natCast_zero,itoa0,List.flatMap_nil]
  cases m <;> rfl
theorem txtA:Zbo true unA = Zbo true Zcj:=rfl
theorem txtK:Zbo true kidA = [49,46,48,46,49,32,49,32,49,58,49,10,48,10,48,10]:=by
  unfold Zbo kidA threeT pieceT rowT
  simp only [Un.act,Un.item,Un.n,Un.kind,Un.label,Un.head,Un.words,List.length_nil,List.length_cons,Nat.zero_add,Int.natCast_zero,Int.natCast_one,itoa0,itoa1,List.flatMap_nil]
  rfl
theorem saysZ (m:Bool):saysT m Zcj = sumT (Zbo m Zcj):=by rw [saysT_eq]; simp [Zcj,Un.kids,saysL]
theorem saysK:saysT true kidA = sumT (Zbo true kidA):=by rw [saysT_eq]; simp [kidA,Un.kids,saysL]
theorem saysA:saysT true unA = sumT (Zbo true Zcj ++ sumT (Zbo true kidA)):=by rw [saysT_eq,txtA]; simp [unA,Un.kids,saysL,saysK]
theorem hash_ne:(sumT ([48,46,48,46,48,32,48,32,48,58,10,48,10,48,10] ++ sumT [49,46,48,46,49,32,49,32,49,58,49,10,48,10,48,10]) == sumT [48,46,48,46,48,32,48,32,48,58,10,48,10,48,10]) = false:=by kernel_rfl
theorem says_ne:saysT true unA ≠ saysT true Zcj:=by
  rw [saysA,saysZ,txtZ,txtK]
  exact fun h=>by
    have:=hash_ne
    rw [beq_eq_false_iff_ne] at this
    exact this h
theorem unitsK:unitsT kidA = [kidA]:=by rw [Za5]; simp [kidA,Un.kids,unitsL]
theorem unitsA:unitsT unA = [unA,kidA]:=by rw [Za5]; simp [unA,Un.kids,unitsL,unitsK]
theorem unitsZ:unitsT Zcj = [Zcj]:=by rw [Za5]; simp [Zcj,Un.kids,unitsL]
theorem diff_two:(difD unA Zcj).length = 2:=by
  unfold difD sortD
  rw [List.length_mergeSort]
  have h1:(difL (Zci unA) (Zci Zcj)).Perm [⟨0,0,0⟩,⟨1,0,1⟩]:=by
    refine (List.perm_ext_iff_of_nodup (difL_nod (gathT_nod _) (gathT_nod _)) (by decide)).2 fun x=>?_
    rw [difL_mem,gathT_val,gathT_val,unitsA,unitsZ]
    unfold firstU
    simp only [List.find?_cons,List.find?_nil]
    have e1:idU unA = ⟨0,0,0⟩:=rfl
    have e2:idU kidA = ⟨1,0,1⟩:=rfl
    have e3:idU Zcj = ⟨0,0,0⟩:=rfl
    rw [e1,e2,e3]
    by_cases h:x = ⟨0,0,0⟩
    · subst h
      simp [says_ne]
    · have h0:((⟨0,0,0⟩:Idt) == x) = false:=by rw [beq_eq_false_iff_ne]; exact fun e=>h e.symm
      rw [h0]
      by_cases h2:x = ⟨1,0,1⟩
      · subst h2; simp
      · have h3:((⟨1,0,1⟩:Idt) == x) = false:=by rw [beq_eq_false_iff_ne]; exact fun e=>h2 e.symm
        rw [h3]
        simp [h,h2]
  rw [h1.length_eq]; rfl
theorem i64_0:i64 0:=i64_iff.2 (by omega)
theorem i64_1:i64 1:=i64_iff.2 (by omega)
theorem smalZ:SmalT Zcj:=.mk _ ⟨⟨i64_0,i64_0,i64_0,i64_0⟩,by simp [Zcj,Un.label],⟨by simp [Zcj,Un.head],by simp [Zcj,Un.head]⟩,⟨by simp [Zcj,Un.words],by simp [Zcj,Un.words]⟩⟩ (by simp [Zcj,Un.kids]) (by simp [Zcj,Un.kids])
theorem smalK:SmalT kidA:=.mk _ ⟨⟨i64_1,i64_0,i64_1,i64_1⟩,by simp [kidA,Un.label],⟨by simp [kidA,Un.head],by simp [kidA,Un.head]⟩,⟨by simp [kidA,Un.words],by simp [kidA,Un.words]⟩⟩ (by simp [kidA,Un.kids]) (by simp [kidA,Un.kids])
theorem smalA:SmalT unA:=.mk _ ⟨⟨i64_0,i64_0,i64_0,i64_0⟩,by simp [unA,Un.label],⟨by simp [unA,Un.head],by simp [unA,Un.head]⟩,⟨by simp [unA,Un.words],by simp [unA,Un.words]⟩⟩ (by simp [unA,Un.kids]) (by simp only [unA,Un.kids,List.mem_singleton,forall_eq]; exact smalK)
theorem view_zero (h:Heap):View h (.agg [pI 0,pI 0,pI 0,pI 0,.str [],.nilsl,.nilsl,.nilsl]) (.agg Zcj.enc):=by
  rw [Un.Za1]
  refine View.agg rfl fun j _=>CellsV.at (l:=[pI 0,pI 0,pI 0,pI 0,.str [],.nilsl,.nilsl,.nilsl]) (q:=[pI 0,pI 0,pI 0,pI 0,.str [],.sl 4 [],.sl 4 [],.sl 8 []]) ⟨View.refl _ _,View.refl _ _,View.refl _ _,View.refl _ _,View.refl _ _,View.nil _ _,View.nil _ _,View.nil _ _,trivial⟩ j
theorem sp_awake:Za8 Tryd.prog 8 [] (.bool true):=by
  have S0:=sp_digest_Self Zcj (by cases smalZ; assumption)
  have M0:=sp_digest_Sum [48,46,48,46,48,32,48,32,48,58,10,48,10,48,10] (by simp)
  have C0:=sp_digest_Content smalZ
  have M1:=sp_digest_Sum [48,32,48,58,10,48,10,48,10] (by simp)
  have D0:=sp_digest_Diff smalA smalA (by rw [unitsA]; simp) (by rw [unitsA]; simp)
  have M2:=sp_digest_Sum [] (by simp)
  have D1:=sp_digest_Diff smalA smalZ (by rw [unitsA]; simp) (by rw [unitsZ]; simp)
  have e0:sumT (Zbo true Zcj) = sumT [48,46,48,46,48,32,48,32,48,58,10,48,10,48,10]:=by rw [txtZ]; rfl
  have e1:saysT false Zcj = sumT [48,32,48,58,10,48,10,48,10]:=by rw [saysZ,txtZ]; rfl
  have e2:(sumT []).length = 16:=hexK_len _ _
  have e3:((difD unA Zcj).map Idt.enc).length = 2:=by rw [List.length_map,diff_two]
  rw [difD_self,List.map_nil] at D0
  have z0:(((0:Nat):Int) == 0) = true:=rfl
  have z2:(((2:Nat):Int) == 2) = true:=rfl
  have z16:(((16:Nat):Int) == 16) = true:=rfl
  rw [e0] at S0
  rw [e1] at C0
  generalize sumT [48,46,48,46,48,32,48,32,48,58,10,48,10,48,10] = H0 at S0 M0
  generalize sumT [48,32,48,58,10,48,10,48,10] = H1 at C0 M1
  generalize sumT [] = H2 at M2 e2
  generalize (difD unA Zcj).map Idt.enc = DD at D1 e3
  have hA:unA.enc = [pI 0,pI 0,pI 0,pI 0,.str [],.sl 4 [],.sl 4 [],.sl 8 [kidA.enc]]:=by rw [Un.Za1]; rfl
  have hK:kidA.enc = [pI 1,pI 0,pI 1,pI 1,.str [49],.sl 4 [],.sl 4 [],.sl 8 []]:=by rw [Un.Za1]; rfl
  rw [hA] at D0 D1
  refine Zai ?_ (cB _) (by simp only [Zax,List.mem_cons,List.not_mem_nil,or_false,forall_eq_or_imp,forall_eq,false_implies,implies_true]; repeat' (first  | exact cB _ | refine And.intro ?_ ?_))
  refine Zan (vc:=c_pandectlaw12_awake) (ts:=[.t 0]) Go.Proofs.Tryd.func8 (by kernel_rfl) rfl rfl (Nat.le_of_ble_eq_true rfl) (by kernel_rfl) ?_
  unfold c_pandectlaw12_awake
  try dsimp only [ZM,ZO,ZN,ZG]
  refine Zac (Zaa [] ?_)
  simp only [Zab,Zad,Zaf,pok,pval,VA.ev,Env.put,Env.keep,Za3,Zae,Heap.nil,true_and]
  refine Zac (Zaa [1] ?_)
  simp only [Zab,Zad,Zaf,pok,pval,VA.ev,Env.get,Env.put,Env.keep,Zae,fillV,fillOk,PV.cells,PV.fits,overlay,PV.row,Heap.get,Heap.set,HL.get,HL.set,HL.del,Heap.push,Nat.le_refl,Nat.succ_ne_self,Zbg,Zbr,Zbj,Zbh,List.set,List.replicate,List.length,List.getD_cons_zero,List.take,List.drop,List.take_succ_cons,List.drop_succ_cons,List.cons_append,List.nil_append,Nat.reduceEqDiff,Nat.reduceAdd,Nat.reduceLT,Nat.reduceLeDiff,ite_true,ite_false,true_and,and_true,reduceCtorEq,BEq.rfl,Nat.zero_add,List.length_cons]
  refine Zbu [(1,.ro [pI 0,pI 0,pI 0,pI 0,.str [],.sl 4 [],.sl 4 [],.sl 8 [kidA.enc]])] ⟨?_,trivial⟩ ?_
  · refine View.locV (es:=[[pI 0,pI 0,pI 0,pI 0,.str [],.nilsl,.nilsl,.own 0 0 1]]) (z:=8) (fz:=false) (by simp [Heap.get,HL.get,pI]) (by decide) (by decide) (fun j hj=>?_)
    rw [Nat.zero_add]
    refine CellsV.at (l:=[pI 0,pI 0,pI 0,pI 0,.str [],.nilsl,.nilsl,.own 0 0 1]) (q:=[pI 0,pI 0,pI 0,pI 0,.str [],.sl 4 [],.sl 4 [],.sl 8 [kidA.enc]]) ⟨View.refl _ _,View.refl _ _,View.refl _ _,View.refl _ _,View.refl _ _,View.nil _ _,View.nil _ _,?_,trivial⟩ j
    refine rows_view (es:=[[pI 1,pI 0,pI 1,pI 1,.str [49],.nilsl,.nilsl,.nilsl]]) (fz:=false) (by simp [Heap.get,HL.get,pI]) rfl rfl (fun i hi=>?_) (fun i hi=>?_)
    · match i,hi with
      | 0,_=>rw [hK]; rfl
    · match i,hi with
      | 0,_ =>
        rw [hK]
        exact ⟨View.refl _ _,View.refl _ _,View.refl _ _,View.refl _ _,View.refl _ _,View.nil _ _,View.nil _ _,View.nil _ _,trivial⟩
  generalize kidA.enc = KE at *
  refine Zac (Zaa [0] ?_)
  simp only [Zad,Zaf,pok,pval,VA.ev,Env.get,Env.put,Env.keep,Zae,intV,binV,Zal,strV,fillV,fillOk,Nat.succ_ne_self,List.map,Nat.reduceEqDiff,ite_true,ite_false,true_and]
  refine ACall_v [.agg Zcj.enc] ⟨view_zero _,trivial⟩ S0 (scalar_str _) ?_
  skip
  refine Zaq M0 ?_
  try simp only [Zad,OpsW_y,Zaf,pok,pval,VA.ev,Env.get,Env.put,pickV,isBool,intV,binV,Zal,strV,fillV,fillOk,Nat.succ_ne_self,List.map,Nat.reduceEqDiff,ite_true,ite_false,true_and,BEq.rfl]
  refine ACall_v [.agg Zcj.enc] ⟨view_zero _,trivial⟩ C0 (scalar_str _) ?_
  skip
  refine Zaq M1 ?_
  try simp only [Zad,OpsW_y,Zaf,pok,pval,VA.ev,Env.get,Env.put,pickV,isBool,aggV,intV,binV,Zal,lenV,Zag,Zas,Zcd,PV.nth,Nat.le_refl,Nat.succ_ne_self,List.map,List.length,List.getD_cons_zero,List.take,List.take_succ_cons,Nat.reduceEqDiff,Nat.reduceAdd,Bool.false_eq_true,Bool.true_eq_false,ite_true,ite_false,true_and,and_true,BEq.rfl,Nat.zero_add,List.length_cons,imp_self]
  refine Zaq D0 ?_
  try simp only [Zad,OpsW_y,Zaf,pok,pval,VA.ev,Env.get,Env.put,pickV,isBool,intV,binV,Zal,lenV,Zcd,Nat.succ_ne_self,List.map,List.length,Nat.reduceEqDiff,Bool.true_eq_false,ite_true,ite_false,true_and,z0]
  refine Zaq M2 ?_
  try simp only [Zab,Zad,OpsW_y,Zaf,pok,pval,VA.ev,Env.get,Env.put,pickV,isBool,aggV,intV,binV,Zal,lenV,Zag,Zas,Zcd,fillV,fillOk,PV.nth,Nat.le_refl,Nat.succ_ne_self,List.map,List.length,List.getD_cons_zero,List.take,List.take_succ_cons,Nat.reduceEqDiff,Nat.reduceAdd,Bool.false_eq_true,Bool.true_eq_false,ite_true,ite_false,true_and,and_true,reduceCtorEq,Nat.zero_add,List.length_cons,imp_self,e2,z16]
  refine ACall_f [.agg [pI 0,pI 0,pI 0,pI 0,.str [],.sl 4 [],.sl 4 [],.sl 8 [KE]],.agg Zcj.enc] ⟨View.refl _ _,view_zero _,trivial⟩ (Zaq D1 ?_)
  try simp only [true_and,e3,z2]
  refine Zaz ?_
  try simp only [Env.get,retQ,resV,Zbc,RS.ev,RS.ok,ite_true,true_and,and_true]
  exact View.refl _ _
end Go.Proofs.YtjmekckcffckoaaDoor.w
namespace Go.Proofs.YtjmekckcffckoaaDoor.w
open Go Go.VM
set_option maxRecDepth 20000
set_option maxHeartbeats 0
set_option pp.deepTerms false
def bareW (w:Wd):Wd:=⟨w.text,0,0,0⟩
mutual
def bareU : Un → Un
  | .mk _ _ _ k l h w ks => .mk 0 0 0 k l (h.map bareW) (w.map bareW) (bareL ks)
def bareL : List Un → List Un
  | [] => []
  | k :: r => bareU k :: bareL r
end
end Go.Proofs.YtjmekckcffckoaaDoor.w
