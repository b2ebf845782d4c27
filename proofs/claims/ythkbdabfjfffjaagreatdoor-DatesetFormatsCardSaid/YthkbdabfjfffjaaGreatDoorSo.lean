import Derived.Test.YthkbdabfjfffjaaGreatDoorVmE
import Derived.Test.YthkbdabfjfffjaaGreatDoorSp
import Derived.Shelf.SlSortCmp.NoneTotal
import Derived.Test.YthkbdabfjfffjaaGreatDoorSh
import Derived.Lib.SlicesCompact
set_option linter.all false
namespace Go.Proofs.YthkbdabfjfffjaaGreatDoor.w
open Go Go.VM Go.Shelf Go.RowKit Go.Lib Go.Sort
set_option maxRecDepth 20000
set_option maxHeartbeats 0
def encSp (x:Sp):List Value:=[.int .i64 x.frm,.int .i64 x.to]
theorem plain_sp:Plain Sp 2 encSp Sp.enc:=⟨fun _=>rfl,fun _=>rfl,fun x v hv=>by simp [encSp] at hv; rcases hv with rfl | rfl <;> rfl,
  fun g x j hj=>by
    match j,hj with
    | 0,_=>exact .int _ _
    | 1,_=>exact .int _ _,
  fun g v x j hj h=>by
    match j,hj,h with
    | 0,_,h=>cases h; rfl
    | 1,_,h=>cases h; rfl⟩
theorem closureN (x y:Sp) (W:World):Calls Tryz.prog 25 #[.agg #[.int .i64 x.frm,.int .i64 x.to],.agg #[.int .i64 y.frm,.int .i64 y.to]] W fun e w'=>e = .returned (.int .i64 (Lib.compareInt x.frm y.frm)) ∧ ∃ q os',w' = grow (W.drewN q) os':=by
  have hcon:=fun W'=>AnyG.cmp_Compare_int Tryz.cmpInt x.frm y.frm W'
  change ∀ W',Calls Tryz.prog 26 _ _ _ at hcon
  generalize Lib.compareInt x.frm y.frm = r at hcon ⊢
  go_enter Tryz.func25,Tryz.ntmps25
  go_wp2_with (go_at_call 26; refine (hcon _).mono ?_; rintro e w' ⟨rfl,rfl⟩)
  go_ret
  exact ⟨rfl,0,_,by rw [alloc_eq_grow,alloc_eq_grow,grow_grow]; rfl⟩
theorem ltN (x y:Sp):ltOf (fun x y:Sp=>Lib.compareInt x.frm y.frm) x y = decide (x.frm < y.frm):=by
  unfold ltOf Lib.compareInt
  by_cases h1:x.frm < y.frm
  · simp [h1]
  · by_cases h2:y.frm < x.frm <;> simp [h1,h2]
theorem swoN:SWO (ltOf fun x y:Sp=>Lib.compareInt x.frm y.frm) where
  irrefl x:=by rw [ltN]; simp
  trans x y z h1 h2:=by rw [ltN] at *; simp at *; omega
  ntrans x y z h1 h2:=by rw [ltN] at *; simp at *; omega
theorem args2 {g:Gh} {vals:Array Value} {p:PV} {f:Nat} (h:Args g vals [p,.fn (.func f) [] []]):∃ v,vals = #[v,.func (.func f) #[] #[]] ∧ Rep g v p:=by
  obtain ⟨h1,h2⟩:=h
  have a0:=h2 0 (by simp)
  have a1:=h2 1 (by simp)
  obtain ⟨l⟩:=vals
  match l,h1,a0,a1 with
  | [v,u],_,a0,a1 =>
    refine ⟨v,?_,a0⟩
    generalize hu:(⟨[v,u]⟩:Array Value).getD 1 Go.undef = y at a1
    have hy:u = y:=hu
    subst hy
    cases a1 with
    | fn f fs cs pf pc h1 h2 hf hc =>
      have e1:fs = #[]:=Array.eq_empty_of_size_eq_zero h1
      have e2:cs = #[]:=Array.eq_empty_of_size_eq_zero h2
      rw [e1,e2]
theorem sortsSp:SortsSp 24 25:=by
  intro id n rows hid hlen
  cases hrows:rows with
  | nil =>
    refine ⟨by kernel_rfl,fun g w vals r ha=>?_⟩
    obtain ⟨v,rfl,hv⟩:=args2 ha
    have hg:(⟨[(id,.arr false 2 (([]:List Sp).map Sp.enc))],n⟩:Heap).get id = some (.arr false 2 (([]:List Sp).map Sp.enc)):=by simp [Heap.get,HL.get]
    have h0:∃ ao cap,v = .slice ao 0 cap:=by
      rcases holds_own plain_sp (by decide) r hv hg (by simp) (#[]:Array Sp) (by simp) with ⟨_,h⟩ | ⟨cap,b,o,nn,c,tt,h,_⟩
      · exact h
      · exact ⟨_,_,h⟩
    obtain ⟨ao,cap,rfl⟩:=h0
    have hcon:=AnyF.slices_SortFunc_none Tryz.sortSp ao cap (.func (.func 25) #[] #[]) w
    change Calls Tryz.prog 24 _ _ _ at hcon
    refine hcon.mono ?_
    rintro e w' ⟨rfl,rfl⟩
    exact ⟨.tuple #[],.tup [],g,_,rfl,⟨[],.nil,.nil,n,Nat.le_refl _,rfl⟩,.tup _ _ rfl (fun j hj=>by cases hj),r,Evo.refl _ _ _⟩
  | cons x0 r0 =>
    rw [← hrows]
    have hne:rows.length ≠ 0:=by rw [hrows]; simp
    refine ⟨by kernel_rfl,fun g w vals r ha=>?_⟩
    obtain ⟨v,rfl,hv⟩:=args2 ha
    have hg:(⟨[(id,.arr false 2 (rows.map Sp.enc))],n⟩:Heap).get id = some (.arr false 2 (rows.map Sp.enc)):=by simp [Heap.get,HL.get]
    rcases holds_own plain_sp (by decide) r hv hg (by simp) rows.toArray (by simp [List.take_of_length_le]) with ⟨h0,_⟩ | ⟨cap,b,o,nn,c,tt,rfl,hsz,hβ,hlt,hc,hfit,hH⟩
    · exact absurd h0 hne
    have eg:∀ args w,(callFunc 25 args).run Tryz.prog w = .ok (.enter 25 args) w:=enters_of Tryz.func25 (by kernel_rfl) rfl
    have hcon:=AnyQ.slices_SortFunc Tryz.sortSp 2 Tryz.isAgg35 Tryz.sizeOf35 encSp (fun _=>rfl) plain_sp.one (fun x y=>Lib.compareInt x.frm y.frm) swoN 25 #[] b (o + 0 * 2) cap rows.toArray w eg (fun _ _ _ _ x y=>closureN x y _) hH hlt (by simp; omega)
    change Calls Tryz.prog 24 _ _ _ at hcon
    rw [hsz] at hcon
    refine hcon.mono ?_
    rintro e w' ⟨rfl,d',m,os,hp,hs,rfl⟩
    obtain ⟨p1,p2,p3⟩:=hp
    have hsd:d'.size = rows.length:=by rw [p1]; simp
    have sb:=sorted_back plain_sp r hg (by simp) hβ hc hfit d' hsd m os
    have he:(⟨[(id,.arr false 2 (rows.map Sp.enc))],n⟩:Heap).set id (.arr false 2 ((rows.map Sp.enc).take 0 ++ d'.toList.map Sp.enc ++ (rows.map Sp.enc).drop (0 + rows.length))) = ⟨[(id,.arr false 2 (d'.toList.map Sp.enc))],n⟩:=by
      simp [Heap.set,HL.set,HL.del]
    rw [he] at sb
    refine ⟨.tuple #[],.tup [],g,_,rfl,⟨d'.toList,?_,?_,n,Nat.le_refl _,rfl⟩,.tup _ _ rfl (fun j hj=>by cases hj),sb.1,sb.2⟩
    · have e1:d'.extract 0 rows.length = d':=by rw [← hsd]; simp
      have e2:rows.toArray.extract 0 rows.length = rows.toArray:=by
        have e3:rows.length = rows.toArray.size:=by simp
        rw [e3]; simp
      rw [e1,e2] at p3
      exact p3
    · rw [List.pairwise_iff_getElem]
      intro i j hi hj hij
      have:=hs i j (Nat.zero_le _) hij (by simpa [hsd] using hj)
      rw [ltN] at this
      simp only [Array.length_toList] at hi hj
      rw [getElem!_pos d' i hi,getElem!_pos d' j hj] at this
      simp only [decide_eq_false_iff_not] at this
      simp only [Array.getElem_toList,leF]
      omega
theorem norm_ok (l:List Sp) (hl:l.length ≤ 100000):Zcn Tryz.prog 12 [.sl 2 (l.map Sp.enc)] (.sl 2 ((Zci l).map Sp.enc)):=sp_dateset_Normalize sortsSp l hl
end Go.Proofs.YthkbdabfjfffjaaGreatDoor.w
namespace Go.Proofs.YthkbdabfjfffjaaGreatDoor.w
open Go Go.VM Go.Shelf Go.RowKit Go.Lib Go.Sort
set_option maxRecDepth 20000
set_option maxHeartbeats 0
abbrev encOne (x:Int):List Value:=[.int .i64 x]
abbrev Zcr (x:Int):List PV:=[pI x]
theorem plain_int:Plain Int 1 encOne Zcr:=⟨fun _=>rfl,fun _=>rfl,fun x v hv=>by simp [encOne] at hv; rcases hv with rfl; rfl,
  fun g x j hj=>by
    match j,hj with
    | 0,_=>exact .int _ _,
  fun g v x j hj h=>by
    match j,hj,h with
    | 0,_,h=>cases h; rfl⟩
theorem flat_one (d:Array Int):Sort.flatK encOne 1 d = d.map (Value.int .i64):=by
  apply Array.ext
  · simp
  · intro i h1 h2
    have hi:i < d.size:=by simpa using h2
    simp [Sort.flatK,encOne,Nat.mod_one,hi]
theorem putCells_map (off:Nat) (d:Array Int) (c:Array Value):putCells (Value.int .i64) off d c = putCells (fun v:Value=>v) off (d.map (Value.int .i64)) c:=by
  unfold putCells
  congr 1
  funext k x
  simp only [Array.size_map]
  split
  · rename_i h
    have:k - off < d.size:=by omega
    rw [getElem!_pos d _ this,getElem!_pos (d.map (Value.int .i64)) _ (by simpa using this)]
    simp
  · rfl
theorem putRow_one (w:World) (b o:Nat) (d:Array Int):putRow (Value.int .i64) w b o d = putRowK encOne 1 w b o d:=by
  unfold putRowK putRow
  rw [flat_one]
  congr 1
  funext c
  exact putCells_map o d c
theorem holds_one {w:World} {b o:Nat} {d:Array Int} (h:HoldsK encOne 1 w b o d):Holds (Value.int .i64) w b o d:=by
  unfold HoldsK at h
  rw [flat_one] at h
  intro j hj
  have:=h j (by simpa using hj)
  rw [getElem!_pos (d.map (Value.int .i64)) j (by simpa using hj)] at this
  rw [getElem!_pos d j hj]
  simpa using this
theorem args1 {g:Gh} {vals:Array Value} {p:PV} (h:Args g vals [p]):∃ v,vals = #[v] ∧ Rep g v p:=by
  obtain ⟨h1,h2⟩:=h
  have a0:=h2 0 (by simp)
  obtain ⟨l⟩:=vals
  match l,h1,a0 with
  | [v],_,a0=>exact ⟨v,rfl,a0⟩
theorem own_short {g:Gh} {a:Option Addr} {len cap id off m:Nat} (h:Rep g (.slice a len cap) (.own id off len)) (h0:len ≠ 0) (hm:m ≤ len):Rep g (.slice a m cap) (.own id off m):=by
  cases h with
  | ownE=>exact absurd rfl h0
  | own _ _ _ _ b o n z a hb ha hc hn=>exact .own id off m cap b o n z a hb ha (Nat.le_trans hm hc) hn
theorem own_cap {g:Gh} {a:Option Addr} {len cap id off:Nat} (h:Rep g (.slice a len cap) (.own id off len)):len ≤ cap:=by
  cases h with
  | ownE=>exact Nat.le_refl _
  | own _ _ _ _ b o n z a hb ha hc hn=>exact hc
def sortI (zs:List Int):List Int:=zs.mergeSort fun x y=>decide (x ≤ y)
theorem sortsInt (id n : Nat) (zs : List Int) (hlen : zs.length ≤ 1000000) : Zc2 Tryz.prog 70 [.own id 0 zs.length] ⟨[(id, .arr false 1 (zs.map Zcr))], n⟩
    (fun _ h'=>h' = ⟨[(id,.arr false 1 ((sortI zs).map Zcr))],n⟩):=by
  refine ⟨by kernel_rfl,fun g w vals r ha=>?_⟩
  obtain ⟨v,rfl,hv⟩:=args1 ha
  have hg:(⟨[(id,.arr false 1 (zs.map Zcr))],n⟩:Heap).get id = some (.arr false 1 (zs.map Zcr)):=by simp [Heap.get,HL.get]
  rcases holds_own plain_int (by decide) r hv hg (by simp) zs.toArray (by simp [List.take_of_length_le]) with ⟨h0,ao,cap,rfl⟩ | ⟨cap,b,o,nn,c,tt,rfl,hsz,hβ,hlt,hc,hfit,hH⟩
  · have hcon:=Any.slices_Sort_int_none Tryz.sortInts ao cap w
    change Calls Tryz.prog 70 _ _ _ at hcon
    have hz:zs = []:=List.eq_nil_of_length_eq_zero h0
    subst hz
    refine hcon.mono ?_
    rintro e w' ⟨rfl,rfl⟩
    exact ⟨.tuple #[],.tup [],g,_,rfl,by simp [sortI],.tup _ _ rfl (fun j hj=>by cases hj),r,Evo.refl _ _ _⟩
  · have hcon:=Any.slices_Sort_int Tryz.sortInts b (o + 0 * 1) cap zs w (holds_one hH) hlt (by omega)
    change Calls Tryz.prog 70 _ _ _ at hcon
    refine hcon.mono ?_
    rintro e w' ⟨rfl,m,os,rfl⟩
    rw [putRow_one]
    have sb:=sorted_back plain_int r hg (by simp) hβ hc hfit (sortI zs).toArray (by simp [sortI]) m os
    have he:(⟨[(id,.arr false 1 (zs.map Zcr))],n⟩:Heap).set id (.arr false 1 ((zs.map Zcr).take 0 ++ (sortI zs).toArray.toList.map Zcr ++ (zs.map Zcr).drop (0 + zs.length))) = ⟨[(id,.arr false 1 ((sortI zs).map Zcr))],n⟩:=by
      simp [Heap.set,HL.set,HL.del]
    rw [he] at sb
    exact ⟨.tuple #[],.tup [],g,_,rfl,rfl,.tup _ _ rfl (fun j hj=>by cases hj),sb.1,sb.2⟩
theorem compactsInt (id n : Nat) (zs : List Int) (hlen : zs.length ≤ 1000000) : Zc2 Tryz.prog 71 [.own id 0 zs.length] ⟨[(id, .arr false 1 (zs.map Zcr))], n⟩
    (fun p h'=>p = .own id 0 (Lib.compact zs).length ∧ ∃ rest,h' = ⟨[(id,.arr false 1 ((Lib.compact zs ++ rest).map Zcr))],n⟩):=by
  have hcl:=Lib.compact_length_le zs
  refine ⟨by kernel_rfl,fun g w vals r ha=>?_⟩
  obtain ⟨v,rfl,hv⟩:=args1 ha
  have hg:(⟨[(id,.arr false 1 (zs.map Zcr))],n⟩:Heap).get id = some (.arr false 1 (zs.map Zcr)):=by simp [Heap.get,HL.get]
  rcases holds_own plain_int (by decide) r hv hg (by simp) zs.toArray (by simp [List.take_of_length_le]) with ⟨h0,ao,cap,rfl⟩ | ⟨cap,b,o,nn,c,tt,rfl,hsz,hβ,hlt,hc,hfit,hH⟩
  · have hcon:=Any.slices_Compact_int_empty Tryz.compactInts ao cap w
    change Calls Tryz.prog 71 _ _ _ at hcon
    have hz:zs = []:=List.eq_nil_of_length_eq_zero h0
    subst hz
    refine hcon.mono ?_
    rintro e w' ⟨rfl,rfl⟩
    exact ⟨_,.own id 0 0,g,_,rfl,⟨rfl,[],rfl⟩,hv,r,Evo.refl _ _ _⟩
  · have h0:zs.length ≠ 0 ∨ zs.length = 0:=by omega
    have hcon:=Any.slices_Compact_int Tryz.compactInts b (o + 0 * 1) cap zs w (holds_one hH) (by omega) (own_cap hv)
    change Calls Tryz.prog 71 _ _ _ at hcon
    refine hcon.mono ?_
    rintro e w' ⟨rfl,m,rfl⟩
    rw [putRow_one]
    have sb:=sorted_back plain_int r hg (by simp) hβ hc hfit (Lib.compact zs ++ List.replicate (zs.length - (Lib.compact zs).length) 0).toArray (by simp; omega) m #[]
    have he:(⟨[(id,.arr false 1 (zs.map Zcr))],n⟩:Heap).set id (.arr false 1 ((zs.map Zcr).take 0 ++ (Lib.compact zs ++ List.replicate (zs.length - (Lib.compact zs).length) 0).toArray.toList.map Zcr ++ (zs.map Zcr).drop (0 + zs.length))) = ⟨[(id,.arr false 1 ((Lib.compact zs ++ List.replicate (zs.length - (Lib.compact zs).length) 0).map Zcr))],n⟩:=by
      simp [Heap.set,HL.set,HL.del]
    rw [he,grow_empty] at sb
    refine ⟨_,.own id 0 (Lib.compact zs).length,g,_,rfl,⟨rfl,_,rfl⟩,?_,sb.1,sb.2⟩
    by_cases hz:zs.length = 0
    · have e1:(Lib.compact zs).length = zs.length:=by omega
      rw [e1]; exact hv
    · exact own_short hv hz hcl
end Go.Proofs.YthkbdabfjfffjaaGreatDoor.w
namespace Go.Proofs.YthkbdabfjfffjaaGreatDoor.w
open Go Go.VM
set_option maxRecDepth 20000
set_option maxHeartbeats 0
set_option pp.deepTerms false
def c_cmp_isNaN_int:VC:=(.seq (.region [ZO 2 (.mv (.c (.bool false)))] false) (.seq (.region [ZM 3 0,ZM 4 0,ZO 5 (.bin .neq (.t 3) (.t 4)),ZM 2 5] false) .ret))
def c_cmp_Compare_int:VC:=(.seq (.region [ZO 4 (.mv (.c (.int .i64 0)))] false) (.seq (.region [ZM 7 0,ZO 8 (.call 42 [(.t 7)]),ZM 5 8] false) (.seq (.region [ZM 9 1,ZO 10 (.call 42 [(.t 9)]),ZM 6 10] false) (.seq (.seq (.region [ZM 11 5] false) (.cond (.t 11) (.seq (.seq (.region [ZM 12 6] false) (.cond (.t 12) (.seq (.region [ZO 4 (.mv (.c (.int .i64 0)))] false) .ret) .skip)) (.seq (.region [ZO 4 (.mv (.c (.int .i64 (-1))))] false) .ret)) .skip)) (.seq (.seq (.region [ZM 13 6] false) (.cond (.t 13) (.seq (.region [ZO 4 (.mv (.c (.int .i64 1)))] false) .ret) .skip)) (.seq (.seq (.region [ZM 14 0,ZM 15 1,ZO 16 (.bin .lss (.t 14) (.t 15))] false) (.cond (.t 16) (.seq (.region [ZO 4 (.mv (.c (.int .i64 (-1))))] false) .ret) .skip)) (.seq (.seq (.region [ZM 17 0,ZM 18 1,ZO 19 (.bin .gtr (.t 17) (.t 18))] false) (.cond (.t 19) (.seq (.region [ZO 4 (.mv (.c (.int .i64 1)))] false) .ret) .skip)) (.seq (.region [ZO 4 (.mv (.c (.int .i64 0)))] false) .ret))))))))
def c_dateset_has_1:VC:=(.seq (.region [ZO 2 (.box 2 (.t 0)),ZO 4 (.mv (.c (.int .i64 0)))] false) (.seq (.region [ZO 5 (.faddr 0 (.t 2)),ZO 6 (.load false 1 (.t 5)),ZM 7 1,ZO 8 (.call 26 [(.t 6),(.t 7)]),ZM 4 8] false) .ret))
def Zcv:VC:=(.seq (.region [ZO 6 (.mv (.c (.int .i64 0))),ZO 7 (.mv (.c (.bool false)))] false) (.seq (.region [ZM 12 0,ZO 13 (.len false (.t 12)),ZM 8 13] false) (.seq (.region [ZM 14 8,ZO 9 (.mv (.c (.int .i64 0))),ZM 10 14] false) (.seq (.block 0 (.loop (.seq (.seq (.region [ZM 15 9,ZM 16 10,ZO 17 (.bin .lss (.t 15) (.t 16))] false) (.cond (.t 17) .skip (.exit 0))) (.block 1 (.seq (.region [ZM 18 9,ZM 19 10,ZO 20 (.bin .add (.t 18) (.t 19)),ZO 21 (.conv .u64 (.t 20)),ZO 22 (.bin .shr (.t 21) (.c (.int .u64 1))),ZO 23 (.conv .i64 (.t 22)),ZM 11 23] false) (.seq (.region [ZM 24 2,ZM 25 0,ZM 26 11,ZO 27 (.iaddr 2 (.t 25) (.t 26)),ZO 28 (.load true 2 (.t 27)),ZM 29 1,ZO 30 (.callv (.t 24) [(.t 28),(.t 29)]),ZO 31 (.bin .lss (.t 30) (.c (.int .i64 0)))] false) (.cond (.t 31) (.region [ZM 32 11,ZO 33 (.bin .add (.t 32) (.c (.int .i64 1))),ZM 9 33] false) (.region [ZM 34 11,ZM 10 34] false)))))))) (.seq (.region [ZM 35 9,ZM 36 9,ZM 37 8,ZO 38 (.bin .lss (.t 36) (.t 37)),ZM 39 38,ZG 40 (.mv (.t 2)) 39 true,ZG 41 (.mv (.t 0)) 39 true,ZG 42 (.mv (.t 9)) 39 true,ZG 43 (.iaddr 2 (.t 41) (.t 42)) 39 true,ZG 44 (.load true 2 (.t 43)) 39 true,ZG 45 (.mv (.t 1)) 39 true,ZG 46 (.callv (.t 40) [(.t 44),(.t 45)]) 39 true,ZG 47 (.bin .eql (.t 46) (.c (.int .i64 0))) 39 true,ZO 48 (.pick (.t 39) (.t 47) (.c (.bool false))),ZM 6 35,ZM 7 48] false) .ret)))))
def c_dateset_has:VC:=(.seq (.region [ZO 4 (.mv (.c (.bool false)))] false) (.seq (.region [ZM 8 0,ZM 9 1,ZO 10 (.call 91 [(.t 8),(.t 9),(.c (.fn (.func 92) [] []))]),ZM 7 10,ZO 11 (.ext (.t 7) 0),ZO 12 (.ext (.t 7) 1),ZM 5 11,ZM 6 12] false) (.seq (.region [ZM 13 6,ZM 14 13,ZG 15 (.mv (.t 5)) 14 false,ZG 16 (.bin .gtr (.t 15) (.c (.int .i64 0))) 14 false,ZG 17 (.mv (.t 16)) 14 false,ZG 18 (.mv (.t 1)) 17 true,ZG 19 (.mv (.t 0)) 17 true,ZG 20 (.mv (.t 5)) 17 true,ZG 21 (.bin .sub (.t 20) (.c (.int .i64 1))) 17 true,ZG 22 (.iaddr 2 (.t 19) (.t 21)) 17 true,ZG 23 (.faddr 1 (.t 22)) 17 true,ZG 24 (.load false 1 (.t 23)) 17 true,ZG 25 (.bin .lss (.t 18) (.t 24)) 17 true,ZG 26 (.pick (.t 17) (.t 25) (.c (.bool false))) 14 false,ZO 27 (.pick (.t 14) (.c (.bool true)) (.t 26)),ZM 4 27] false) .ret)))
def cmpI (x y:Int):Int:=if x < y then -1 else if x > y then 1 else 0
theorem sp_cmp_isNaN_int (x:Int):Zcn Tryz.prog 42 [pI x] (.bool false):=by
  refine Zb6 ?_ (cB _) (by simp only [Zce,List.mem_cons,List.not_mem_nil,or_false,forall_eq_or_imp,forall_eq,false_implies,implies_true]; repeat' (first  | exact cI _ | exact cB _ | exact Zcs (by simp only [List.mem_cons,List.not_mem_nil,or_false,forall_eq]; first | exact cI _ | exact cS _ | exact Zcq _) | refine And.intro ?_ ?_))
  refine Zcc (vc:=c_cmp_isNaN_int) (ts:=[.t 2]) Go.Proofs.Tryz.func42 (by kernel_rfl) rfl rfl (Nat.le_of_ble_eq_true rfl) (by kernel_rfl) ?_
  unfold c_cmp_isNaN_int
  try dsimp only [ZM,ZO,ZN,ZG]
  refine Za9 (Zae [0] ?_)
  simp only [Zaa,Zah,Za5,pok,pval,VA.ev,Env.get,Env.put,Env.keep,Za0,Za6,Heap.nil,ite_true,ite_false,true_and,reduceCtorEq]
  refine Za9 (Zae [2] ?_)
  simp only [Zaa,Zah,Za5,pok,pval,VA.ev,Env.get,Env.put,Env.keep,Za6,intV,binV,Zbk,Nat.succ_ne_self,Nat.reduceEqDiff,ite_true,ite_false,true_and,reduceCtorEq]
  refine Zca ?_
  try simp only [Env.get,retQ,resV,Zbl,RS.ev,RS.ok,ite_true,true_and,and_true]
  simp only [bne_self_eq_false]
  exact View.refl _ _
theorem sp_cmp_Compare_int (x y:Int):Zcn Tryz.prog 26 [pI x,pI y] (pI (cmpI x y)):=by
  refine Zb6 ?_ (cI _) (by simp only [Zce,List.mem_cons,List.not_mem_nil,or_false,forall_eq_or_imp,forall_eq,false_implies,implies_true]; repeat' (first  | exact cI _ | exact Zcs (by simp only [List.mem_cons,List.not_mem_nil,or_false,forall_eq]; first | exact cI _ | exact cS _ | exact Zcq _) | refine And.intro ?_ ?_))
  refine Zcc (vc:=c_cmp_Compare_int) (ts:=[.t 4]) Go.Proofs.Tryz.func26 (by kernel_rfl) rfl rfl (Nat.le_of_ble_eq_true rfl) (by kernel_rfl) ?_
  unfold c_cmp_Compare_int
  try dsimp only [ZM,ZO,ZN,ZG]
  refine Za9 (Zae [0,1] ?_)
  simp only [Zaa,Zah,Za5,pok,pval,VA.ev,Env.get,Env.put,Env.keep,Za0,Za6,Heap.nil,Nat.succ_ne_self,Nat.reduceEqDiff,ite_true,ite_false,true_and,reduceCtorEq,Nat.zero_add]
  refine Za9 (Zae [0,1,5] ?_)
  simp only [Zaa,Zah,Za5,pok,pval,VA.ev,Env.get,Env.put,Env.keep,Za6,Nat.succ_ne_self,List.map,Nat.reduceEqDiff,ite_true,ite_false,true_and,reduceCtorEq]
  refine Zb7 (sp_cmp_isNaN_int ..) ?_
  skip
  refine Za9 (Zae [0,1,5,6] ?_)
  simp only [Zaa,Zah,Za5,pok,pval,VA.ev,Env.get,Env.put,Env.keep,Za6,Nat.succ_ne_self,List.map,Nat.reduceEqDiff,ite_true,ite_false,true_and,reduceCtorEq]
  refine Zb7 (sp_cmp_isNaN_int ..) ?_
  skip
  refine Za9 ?_
  refine Za9 (Zae [0,1,6,11] ?_)
  simp only [Zaa,Zah,Za5,pok,pval,VA.ev,Env.get,Env.put,Env.keep,Za6,Nat.succ_ne_self,Nat.reduceEqDiff,ite_true,ite_false,true_and,reduceCtorEq]
  refine Zb4 rfl (fun h1=>by cases h1) (fun h1=>?_)
  refine Zb8 ?_
  try simp only [Za6]
  refine Za9 ?_
  refine Za9 (Zae [0,1,13] ?_)
  simp only [Zaa,Zah,Za5,pok,pval,VA.ev,Env.get,Env.put,Env.keep,Za6,Nat.succ_ne_self,Nat.reduceEqDiff,ite_true,ite_false,true_and,reduceCtorEq]
  refine Zb4 rfl (fun h1=>by cases h1) (fun h1=>?_)
  refine Zb8 ?_
  try simp only [Za6]
  refine Za9 ?_
  refine Za9 (Zae [0,1,16] ?_)
  simp only [Zaa,Zah,Za5,pok,pval,VA.ev,Env.get,Env.put,Env.keep,Za6,intV,binV,Zbk,Nat.succ_ne_self,Nat.reduceEqDiff,ite_true,ite_false,true_and,reduceCtorEq]
  refine Zb4 rfl (fun h4=>?_) (fun h4=>?_)
  · refine Za9 (Zae [4] ?_)
    simp only [Zaa,Zah,Za5,pok,pval,VA.ev,Env.get,Env.put,Env.keep,Za6,Nat.reduceEqDiff,ite_true,ite_false,true_and,reduceCtorEq]
    refine Zca ?_
    try simp only [Env.get,Za6,retQ,resV,Zbl,RS.ev,RS.ok,ite_true,true_and,and_true]
    have e:cmpI x y = -1:=by unfold cmpI; rw [if_pos (by simpa using h4)]
    rw [e]; exact View.refl _ _
  refine Zb8 ?_
  try simp only [Za6]
  refine Za9 ?_
  refine Za9 (Zae [19] ?_)
  simp only [Zaa,Zah,Za5,pok,pval,VA.ev,Env.get,Env.put,Env.keep,Za6,intV,binV,Zbk,Nat.succ_ne_self,Nat.reduceEqDiff,ite_true,ite_false,true_and,reduceCtorEq]
  refine Zb4 rfl (fun h5=>?_) (fun h5=>?_)
  · refine Za9 (Zae [4] ?_)
    simp only [Zaa,Zah,Za5,pok,pval,VA.ev,Env.get,Env.put,Env.keep,Za6,Nat.reduceEqDiff,ite_true,ite_false,true_and]
    refine Zca ?_
    try simp only [Env.get,Za6,retQ,resV,Zbl,RS.ev,RS.ok,ite_true,true_and,and_true]
    have e:cmpI x y = 1:=by unfold cmpI; rw [if_neg (by simpa using h4),if_pos (by simpa using h5)]
    rw [e]; exact View.refl _ _
  refine Zb8 ?_
  try simp only [Za6]
  refine Za9 (Zae [4] ?_)
  simp only [Zaa,Zah,Za5,pok,pval,VA.ev,Env.get,Env.put,Env.keep,Za6,Nat.reduceEqDiff,ite_true,ite_false,true_and]
  refine Zca ?_
  try simp only [Env.get,retQ,resV,Zbl,RS.ev,RS.ok,ite_true,true_and,and_true]
  have e:cmpI x y = 0:=by unfold cmpI; rw [if_neg (by simpa using h4),if_neg (by simpa using h5)]
  rw [e]; exact View.refl _ _
theorem sp_dateset_has_1 (s:Sp) (d:Int):Zcn Tryz.prog 92 [.agg s.enc,pI d] (pI (cmpI s.frm d)):=by
  refine Zb6 ?_ (cI _) (by simp only [Zce,List.mem_cons,List.not_mem_nil,or_false,forall_eq_or_imp,forall_eq,false_implies,implies_true]; repeat' (first  | exact cI _ | exact closed_agg (Sp.closed _) | exact Zcs (by simp only [List.mem_cons,List.not_mem_nil,or_false,forall_eq]; first | exact cI _ | exact cS _ | exact Zcq _) | refine And.intro ?_ ?_))
  refine Zcc (vc:=c_dateset_has_1) (ts:=[.t 4]) Go.Proofs.Tryz.func92 (by kernel_rfl) rfl rfl (Nat.le_of_ble_eq_true rfl) (by kernel_rfl) ?_
  unfold c_dateset_has_1
  try dsimp only [ZM,ZO,ZN,ZG]
  refine Za9 (Zae [1,2] ?_)
  simp only [Zaa,Zah,Za5,pok,pval,VA.ev,Env.get,Env.put,Env.keep,Za0,Za6,PV.cells,PV.fits,Heap.push,Heap.nil,Nat.succ_ne_self,List.length,Nat.reduceEqDiff,Nat.reduceAdd,ite_true,ite_false,true_and,reduceCtorEq,BEq.rfl,Nat.zero_add,Sp.enc]
  refine Za9 (Zae [4] ?_)
  simp only [Zaa,Zah,Za5,pok,pval,VA.ev,Env.get,Env.put,Env.keep,Za6,aggV,Za4,Za3,Zad,Zbm,PV.nth,PV.row,Heap.get,HL.get,Nat.succ_ne_self,List.map,List.length,List.getD_cons_zero,List.take,List.drop,List.take_succ_cons,Nat.reduceEqDiff,Nat.reduceAdd,Nat.reduceLT,Nat.reduceLeDiff,Bool.false_eq_true,ite_true,ite_false,true_and,and_true,implies_true,Nat.zero_add,Nat.add_zero,List.length_cons]
  refine Zb7 (sp_cmp_Compare_int ..) ?_
  skip
  refine Zca ?_
  try simp only [Env.get,retQ,resV,Zbl,RS.ev,RS.ok,ite_true,true_and,and_true]
  exact View.refl _ _
def posS (l:List Sp) (d:Int):Nat:=(l.takeWhile fun s=>decide (s.frm < d)).length
theorem posS_eq {l:List Sp} {d:Int} {n:Nat} (hn:n ≤ l.length) (h1:∀ (k:Nat) (hk:k < n),(l[k]'(by omega)).frm < d) (h2:∀ (hl:n < l.length),¬ l[n].frm < d):posS l d = n:=by
  induction l generalizing n with
  | nil=>simp at hn; subst hn; rfl
  | cons s r ih =>
    cases n with
    | zero =>
      have:=h2 (by simp)
      simp only [List.getElem_cons_zero] at this
      simp [posS,List.takeWhile,this]
    | succ n =>
      have h0:=h1 0 (by omega)
      simp only [List.getElem_cons_zero] at h0
      have:=ih (n:=n) (by simpa using hn) (fun k hk=>by have:=h1 (k + 1) (by omega); simpa using this) (fun hl=>by have:=h2 (by simpa using hl); simpa using this)
      unfold posS at this ⊢
      simp [List.takeWhile,h0,this]
def hitS (l:List Sp) (d:Int):Bool:=match l[posS l d]? with
  | some s=>s.frm == d
  | none=>false
theorem Zc9 (l : List Sp) (d : Int) (hl : l.length ≤ 1000000) (hs : l.Pairwise leF) :
    Zcn Tryz.prog 91 [.sl 2 (l.map Sp.enc),pI d,.fn (.func 92) [] []] (.tup [pI (posS l d),.bool (hitS l d)]):=by
  have hsl:∀ (i j:Nat) (hi:i ≤ j) (hj:j < l.length),(l[i]'(by omega)).frm ≤ l[j].frm:=fun i j hi hj=>by
    rcases Nat.lt_or_eq_of_le hi with h | h
    · exact List.pairwise_iff_getElem.1 hs i j (by omega) hj h
    · subst h; exact Int.le_refl _
  refine Zb6 ?_ (closed_tup (by simp only [List.mem_cons,List.not_mem_nil,or_false,forall_eq_or_imp,forall_eq]; exact ⟨cI _,cB _⟩)) (by simp only [Zce,List.mem_cons,List.not_mem_nil,or_false,forall_eq_or_imp,forall_eq,false_implies,implies_true]; repeat' (first  | exact cI _ | exact cB _ | exact closed_fn0 _ | exact Zb9 _ | exact Zcs (by simp only [List.mem_cons,List.not_mem_nil,or_false,forall_eq]; first | exact cI _ | exact cS _ | exact Zcq _) | refine And.intro ?_ ?_))
  refine Zcc (vc:=Zcv) (ts:=[.t 6,.t 7]) Go.Proofs.Tryz.func91 (by kernel_rfl) rfl rfl (Nat.le_of_ble_eq_true rfl) (by kernel_rfl) ?_
  unfold Zcv
  try dsimp only [ZM,ZO,ZN,ZG]
  refine Za9 (Zae [0,1,2] ?_)
  simp only [Zaa,Zah,Za5,pok,pval,VA.ev,Env.get,Env.put,Env.keep,Za0,Za6,Heap.nil,Nat.succ_ne_self,Nat.reduceEqDiff,Nat.reduceAdd,ite_true,ite_false,true_and,reduceCtorEq,Nat.zero_add]
  refine Za9 (Zae [0,1,2,8] ?_)
  simp only [Zaa,Zah,Za5,pok,pval,VA.ev,Env.get,Env.put,Env.keep,Za6,lenV,Zbq,Nat.succ_ne_self,Nat.reduceEqDiff,ite_true,ite_false,true_and,reduceCtorEq,List.length_map]
  refine Za9 (Zae [0,1,2,8,9,10] ?_)
  simp only [Zaa,Zah,Za5,pok,pval,VA.ev,Env.get,Env.put,Env.keep,Za6,Nat.succ_ne_self,Nat.reduceEqDiff,ite_true,ite_false,true_and,reduceCtorEq]
  refine Za9 ?_
  refine Zcb ?_
  refine Zcz (σ:={ s:Nat × Nat // s.1 ≤ s.2 ∧ s.2 ≤ l.length ∧ (∀ (k:Nat) (hk:k < s.1) (h2:k < l.length),l[k].frm < d) ∧ (∀ (k:Nat) (hk:s.2 ≤ k) (h2:k < l.length),¬ l[k].frm < d) })
    (fun s=>([(0,.sl 2 (l.map Sp.enc)),(1,pI d),(2,.fn (.func 92) [] []),(8,pI l.length),(9,pI s.1.1),(10,pI s.1.2)],⟨[],0⟩)) (fun s=>s.1.2 - s.1.1) ⟨(0,l.length),⟨Nat.zero_le _,Nat.le_refl _,(fun k hk=>by cases hk),fun k hk h2=>by simp only [] at hk; omega⟩⟩ ?_ ?_ ?_
  · simp only [Env.get,Nat.succ_ne_self,Env.le,Nat.reduceEqDiff,ite_true,ite_false,true_and,and_true,reduceCtorEq]
    rfl
  · simp only [Heap.le,HL.le,Nat.le_refl,and_true]
  rintro ⟨⟨i,j⟩,hij,hjl,h1,h2⟩
  simp only [] at hij hjl h1 h2 ⊢
  refine Za9 ?_
  refine Za9 (Zae [0,1,2,8,9,10,17] ?_)
  simp only [Zaa,Zah,Za5,pok,pval,VA.ev,Env.get,Env.put,Env.keep,Za6,intV,binV,Zbk,Heap.le,HL.le,Nat.succ_ne_self,Env.le,Nat.reduceEqDiff,ite_true,ite_false,true_and,and_true,reduceCtorEq]
  refine Zb4 rfl (fun h3=>?_) (fun h3=>?_)
  · refine Zb8 ?_
    try simp only [Za6]
    simp only [decide_eq_true_eq] at h3
    have hmid:IntKind.i64.wrap ((IntKind.u64.wrap ((i:Int) + j)).fdiv (2 ^ min 1 IntKind.u64.bits)) = (((i + j) / 2:Nat):Int):=by
      have e1:IntKind.u64.wrap ((i:Int) + j) = ((i + j:Nat):Int):=by simp [IntKind.wrap,IntKind.bits,IntKind.signed]; omega
      have e2:(2:Int) ^ min 1 IntKind.u64.bits = 2:=rfl
      rw [e1,e2,Int.fdiv_eq_ediv_of_nonneg _ (by omega),w64 (by omega) (by omega)]
      omega
    have hm1:i ≤ (i + j) / 2:=by omega
    have hm2:(i + j) / 2 < j:=by omega
    generalize (i + j) / 2 = m at hmid hm1 hm2
    have hml:m < l.length:=by omega
    refine Zcb ?_
    refine Za9 (Zae [0,1,2,8,9,10,11] ?_)
    simp only [Zaa,Zah,Za5,pok,pval,VA.ev,Env.get,Env.put,Env.keep,Za6,intV,binV,Zbk,Zb0,isInt,Nat.succ_ne_self,Nat.reduceEqDiff,ite_true,ite_false,true_and,reduceCtorEq,Int.reduceToNat,w64 (n:=(i:Int) + j) (by omega) (by omega),hmid]
    repeat (with_reducible refine And.intro ?_ ?_; first | omega | (with_reducible constructor <;> omega) | exact False.elim | exact True.intro)
    refine Za9 (Zae [0,1,2,8,9,10,11,31] ?_)
    simp only [Zaa,Zah,Za5,pok,pval,VA.ev,Env.get,Env.put,Env.keep,Za6,aggV,intV,binV,Zbk,strV,isInt,numOf,lenV,Zad,Zbm,Za1,Zak,PV.nth,PV.row,Nat.le_refl,Nat.succ_ne_self,List.map,List.length,List.getD_cons_zero,List.take,List.take_succ_cons,List.cons_append,List.nil_append,Nat.reduceEqDiff,Nat.reduceAdd,Bool.true_eq_false,ite_true,ite_false,true_and,and_true,reduceCtorEq,Nat.zero_add,List.length_cons,imp_self,Int.toNat_natCast,List.length_map,rowm hml,Sp.enc]
    repeat (with_reducible refine And.intro ?_ ?_; first | omega | (with_reducible constructor <;> omega) | exact False.elim | exact True.intro)
    refine Zb7 (sp_dateset_has_1 l[m] d) ?_
    try simp only [true_and]
    refine Zb4 rfl (fun h4=>?_) (fun h4=>?_)
    · have h5 : l[m].frm < d := by
        simp only [decide_eq_true_eq] at h4
        unfold cmpI at h4
        split at h4
        · assumption
        · split at h4 <;> omega
      refine Zae [0,1,2,8,9,10] ?_
      simp only [Zaa,Zah,Za5,pok,pval,VA.ev,Env.get,Env.put,Env.keep,Za6,Zay,intV,binV,Zbk,Nat.le_refl,Nat.succ_ne_self,Nat.reduceEqDiff,ite_true,ite_false,true_and,reduceCtorEq,w64 (n:=(m:Int) + 1) (by omega) (by omega)]
      refine ⟨⟨(m + 1,j),by simp only []; omega,hjl,fun k hk h2=>Int.lt_of_le_of_lt (hsl k m (by simp only [] at hk; omega) hml) h5,h2⟩,?_,?_⟩
      · simp
      · simp only []; omega
    · have h5 : ¬ l[m].frm < d := by
        simp only [decide_eq_false_iff_not] at h4
        unfold cmpI at h4
        split at h4
        · omega
        · assumption
      refine Zae [0,1,2,8,9,10] ?_
      simp only [Zaa,Zah,Za5,pok,pval,VA.ev,Env.get,Env.put,Env.keep,Za6,Zay,Nat.le_refl,Nat.succ_ne_self,Nat.reduceEqDiff,ite_true,ite_false,true_and,reduceCtorEq]
      refine ⟨⟨(i,m),hm1,by simp only []; omega,h1,fun k hk h2=>fun hlt=>h5 (Int.lt_of_le_of_lt (hsl m k hk h2) hlt)⟩,?_,?_⟩
      · simp
      · simp only []; omega
  · simp only [decide_eq_false_iff_not] at h3
    have e1:i = j:=by omega
    subst e1
    have hp:posS l d = i:=posS_eq hjl (fun k hk=>h1 k hk (by omega)) (fun hl=>h2 i (Nat.le_refl _) hl)
    refine Zcw ?_
    try simp only [Za6,Zay,retQ,ite_true]
    refine Za9 (Zae [6,7] ?_)
    by_cases hil:i < l.length
    · have e2:decide ((i:Int) < (l.length:Int)) = true:=by simp; omega
      simp only [Zaa,Zah,Za8,Za5,pok,pval,VA.ev,Env.get,Env.put,Env.keep,Za6,Zbn,isBool,aggV,intV,binV,Zbk,strV,isInt,numOf,lenV,Zad,Zbm,Za1,Zak,PV.nth,PV.row,Nat.le_refl,Nat.succ_ne_self,List.map,List.length,List.getD_cons_zero,List.take,List.take_succ_cons,List.cons_append,List.nil_append,Nat.reduceEqDiff,Nat.reduceAdd,Bool.true_eq_false,ite_true,ite_false,true_and,and_true,reduceCtorEq,Nat.zero_add,List.length_cons,imp_self,Int.toNat_natCast,e2,List.length_map,rowm hil,Sp.enc]
      repeat (with_reducible refine And.intro ?_ ?_; first | omega | (with_reducible constructor <;> omega) | exact False.elim | exact True.intro)
      refine Zb7 (sp_dateset_has_1 l[i] d) ?_
      try simp only [true_and]
      refine Zca ?_
      try simp only [Env.get,retQ,resV,Zbl,RS.ev,RS.ok,Nat.succ_ne_self,List.map,Nat.reduceEqDiff,ite_true,ite_false,true_and,and_true]
      have e3:hitS l d = (cmpI l[i].frm d == 0):=by
        unfold hitS
        rw [hp,List.getElem?_eq_getElem hil]
        simp only []
        unfold cmpI
        by_cases a:l[i].frm < d
        · have:l[i].frm ≠ d:=by omega
          simp [a,this]
        · by_cases b:l[i].frm > d
          · have:l[i].frm ≠ d:=by omega
            simp [a,b,this]
          · have:l[i].frm = d:=by omega
            simp [this]
      rw [hp,e3]
      exact View.refl _ _
    · have e2:decide ((i:Int) < (l.length:Int)) = false:=by simp; omega
      simp only [Zaa,Zah,Zao,Za5,pok,pval,VA.ev,Env.get,Env.put,Env.keep,Za6,Zbn,isBool,intV,binV,Zbk,Nat.succ_ne_self,Nat.reduceEqDiff,Bool.false_eq_true,ite_true,ite_false,true_and,reduceCtorEq,e2]
      refine Zca ?_
      try simp only [Env.get,retQ,resV,Zbl,RS.ev,RS.ok,Nat.succ_ne_self,List.map,Nat.reduceEqDiff,ite_true,ite_false,true_and,and_true]
      have e3:hitS l d = false:=by
        unfold hitS
        rw [hp,List.getElem?_eq_none (by omega)]
      rw [hp,e3]
      exact View.refl _ _
def memB (l:List Sp) (d:Int):Bool:=l.any fun s=>decide (s.frm ≤ d) && decide (d < s.to)
theorem Zcu (l:List Sp) (d:Int):memB l d = true ↔ memS l d:=by
  simp [memB,memS]
theorem canonF_mono:∀ {l:List Sp} {b:Int},Zct b l → l.Pairwise (fun a c=>a.to < c.frm) ∧ (∀ s ∈ l,b < s.frm ∧ s.frm < s.to)
  | [],_,_=>⟨.nil,fun s h=>by cases h⟩
  | s :: r,b,h=>by
    obtain ⟨h1,h2,h3,h4⟩:=h
    obtain ⟨i1,i2⟩:=canonF_mono h4
    refine ⟨List.pairwise_cons.2 ⟨fun t ht=>(i2 t ht).1,i1⟩,fun t ht=>?_⟩
    rcases List.mem_cons.1 ht with rfl | ht
    · exact ⟨h1,h2⟩
    · have:=i2 t ht; omega
theorem canon_sorted {l:List Sp} (h:Canon l):l.Pairwise leF:=by
  obtain ⟨h1,h2⟩:=canonF_mono h
  rw [List.pairwise_iff_getElem] at h1 ⊢
  intro i j hi hj hij
  have:=h1 i j hi hj hij
  have:=(h2 l[i] (List.getElem_mem hi)).2
  simp only [leF]; omega
theorem posS_spec (l:List Sp) (d:Int):posS l d ≤ l.length ∧ (∀ (k:Nat) (hk:k < posS l d) (h:k < l.length),l[k].frm < d) ∧ ∀ (hl:posS l d < l.length),¬ l[posS l d].frm < d:=by
  induction l with
  | nil=>exact ⟨by simp [posS],(fun k hk h=>by simp at h),fun h=>by simp at h⟩
  | cons s r ih =>
    by_cases hs:s.frm < d
    · have e:posS (s :: r) d = posS r d + 1:=by simp [posS,List.takeWhile,hs]
      obtain ⟨i1,i2,i3⟩:=ih
      rw [e]
      refine ⟨by simpa using i1,fun k hk h=>?_,fun hl=>?_⟩
      · cases k with
        | zero=>simpa using hs
        | succ k=>simpa using i2 k (by omega) (by simpa using h)
      · simpa using i3 (by simpa using hl)
    · have e:posS (s :: r) d = 0:=by simp [posS,List.takeWhile,hs]
      rw [e]
      exact ⟨Nat.zero_le _,(fun k hk=>by cases hk),fun _=>by simpa using hs⟩
theorem hit_law {l:List Sp} (h:Canon l) (d:Int):memB l d = (hitS l d || match posS l d with | 0=>false | n + 1=>match l[n]? with | some s=>decide (d < s.to) | none=>false):=by
  obtain ⟨c1,c2⟩:=canonF_mono h
  have hs:=canon_sorted h
  obtain ⟨p1,p2,p3⟩:=posS_spec l d
  rw [List.pairwise_iff_getElem] at c1 hs
  rw [Bool.eq_iff_iff,Zcu,Bool.or_eq_true]
  constructor
  · rintro ⟨s,hm,h1,h2⟩
    obtain ⟨k,hk,rfl⟩:=List.mem_iff_getElem.1 hm
    by_cases e:l[k].frm = d
    · left
      have hp:posS l d = k:=by
        refine posS_eq (by omega) (fun j hj=>?_) (fun _=>by omega)
        have:=c1 j k (by omega) hk hj
        have:=(c2 l[j] (List.getElem_mem (by omega))).2
        omega
      simp [hitS,hp,List.getElem?_eq_getElem hk,e]
    · right
      have hp:posS l d = k + 1:=by
        refine posS_eq (by omega) (fun j hj=>?_) (fun hl=>?_)
        · rcases Nat.lt_or_eq_of_le (Nat.le_of_lt_succ hj) with hj | rfl
          · have:=hs j k (by omega) hk hj
            simp only [leF] at this; omega
          · omega
        · have:=c1 k (k + 1) hk hl (by omega)
          omega
      simp [hp,List.getElem?_eq_getElem hk,h2]
  · rintro (hh | hh)
    · unfold hitS at hh
      split at hh
      · rename_i s hg
        have hm:=List.mem_of_getElem? hg
        have:=(c2 s hm).2
        simp only [beq_iff_eq] at hh
        exact ⟨s,hm,by omega,by omega⟩
      · cases hh
    · split at hh
      · cases hh
      · rename_i n hn
        split at hh
        · rename_i s hg
          have hm:=List.mem_of_getElem? hg
          obtain ⟨hk,hge⟩:=List.getElem?_eq_some_iff.1 hg
          have:=p2 n (by omega) hk
          rw [hge] at this
          simp only [decide_eq_true_eq] at hh
          exact ⟨s,hm,by omega,hh⟩
        · cases hh
theorem sp_dateset_has (l:List Sp) (d:Int) (hc:Canon l) (hl:l.length ≤ 1000000):Zcn Tryz.prog 72 [.sl 2 (l.map Sp.enc),pI d] (.bool (memB l d)):=by
  obtain ⟨p1,p2,p3⟩:=posS_spec l d
  have hlaw:=hit_law hc d
  refine Zb6 ?_ (cB _) (by simp only [Zce,List.mem_cons,List.not_mem_nil,or_false,forall_eq_or_imp,forall_eq,false_implies,implies_true]; repeat' (first  | exact cI _ | exact cB _ | exact Zb9 _ | exact Zcs (by simp only [List.mem_cons,List.not_mem_nil,or_false,forall_eq]; first | exact cI _ | exact cS _ | exact Zcq _) | refine And.intro ?_ ?_))
  refine Zcc (vc:=c_dateset_has) (ts:=[.t 4]) Go.Proofs.Tryz.func72 (by kernel_rfl) rfl rfl (Nat.le_of_ble_eq_true rfl) (by kernel_rfl) ?_
  unfold c_dateset_has
  try dsimp only [ZM,ZO,ZN,ZG]
  refine Za9 (Zae [0,1] ?_)
  simp only [Zaa,Zah,Za5,pok,pval,VA.ev,Env.get,Env.put,Env.keep,Za0,Za6,Heap.nil,Nat.succ_ne_self,Nat.reduceEqDiff,ite_true,ite_false,true_and,reduceCtorEq,Nat.zero_add]
  refine Za9 (Zae [0,1,5,6] ?_)
  simp only [Zaa,Zah,Za5,pok,pval,VA.ev,Env.get,Env.put,Env.keep,Za6,extV,Zbz,PV.nth,Nat.succ_ne_self,List.map,Nat.reduceEqDiff,ite_true,ite_false,true_and,reduceCtorEq]
  refine Zb7 (Zc9 l d hl (canon_sorted hc)) ?_
  try simp only [List.length,List.getD_cons_zero,List.getD_cons_succ,Nat.reduceAdd,Nat.reduceLT,true_and,Nat.zero_add]
  refine Za9 (Zae [4] ?_)
  cases hh:hitS l d with
  | true =>
    simp only [Zaa,Zah,Zav,Zbj,Za5,pok,pval,VA.ev,Env.get,Env.put,Env.keep,Za6,Zbn,isBool,Nat.succ_ne_self,Nat.reduceEqDiff,ite_true,ite_false,true_and,reduceCtorEq]
    refine Zca ?_
    try simp only [Env.get,retQ,resV,Zbl,RS.ev,RS.ok,ite_true,true_and,and_true]
    rw [hlaw,hh]
    exact View.refl _ _
  | false =>
    cases hn:posS l d with
    | zero =>
      simp only [Zaa,Zah,Za8,Zao,Za5,pok,pval,VA.ev,Env.get,Env.put,Env.keep,Za6,Zbn,isBool,intV,binV,Zbk,Nat.succ_ne_self,Nat.reduceEqDiff,Bool.false_eq_true,ite_true,ite_false,true_and,reduceCtorEq,Int.ofNat_zero,gt_iff_lt,Int.lt_irrefl,decide_false]
      refine Zca ?_
      try simp only [Env.get,retQ,resV,Zbl,RS.ev,RS.ok,ite_true,true_and,and_true]
      rw [hlaw,hh,hn]
      exact View.refl _ _
    | succ n =>
      have e0:decide (((n + 1:Nat):Int) > 0) = true:=by simp
      have e1:(((n + 1:Nat):Int) - 1) = (n:Int):=by omega
      have hnl:n < l.length:=by omega
      simp only [Zaa,Zah,Za8,Za5,pok,pval,VA.ev,Env.get,Env.put,Env.keep,Za6,Zbn,isBool,aggV,intV,binV,Zbk,isInt,numOf,lenV,Za4,Za3,Zad,Zbm,Za1,Zak,PV.nth,PV.row,Nat.le_refl,Nat.succ_ne_self,List.length,List.getD_cons_zero,List.take,List.drop,List.take_succ_cons,Nat.reduceEqDiff,Bool.false_eq_true,ite_true,ite_false,true_and,and_true,implies_true,reduceCtorEq,Nat.zero_add,List.length_cons,Int.toNat_natCast,e0,e1,w64 (n:=(n:Int)) (by omega) (by omega),List.length_map,rowm hnl,Sp.enc]
      repeat (with_reducible refine And.intro ?_ ?_; first | omega | (with_reducible constructor <;> omega) | exact False.elim | exact True.intro)
      refine Zca ?_
      try simp only [Env.get,retQ,resV,Zbl,RS.ev,RS.ok,ite_true,true_and,and_true]
      rw [hlaw,hh,hn]
      simp only [List.getElem?_eq_getElem hnl,Bool.false_or]
      exact View.refl _ _
end Go.Proofs.YthkbdabfjfffjaaGreatDoor.w
namespace Go.VM
open Go
theorem get_bang {d:Array Int} {i:Nat} (h:i < d.size):d[i]! = d[i]:=getElem!_pos d i h
theorem compact_up {d:Array Int} (hs:∀ i j,i ≤ j → j < d.size → d[i]! ≤ d[j]!):∀ m,m ≤ d.size → (Lib.compactUpTo d m).Pairwise (· < ·) ∧ ∀ x,x ∈ Lib.compactUpTo d m ↔ ∃ j,j < m ∧ d[j]! = x
  | 0,_=>⟨.nil,fun x=>⟨fun h=>(by cases h),fun ⟨j,hj,_⟩=>by cases hj⟩⟩
  | m + 1,hm=>by
    obtain ⟨i1,i2⟩:=compact_up hs m (by omega)
    rw [Lib.compactUpTo_succ]
    have hmem:∀ x,(∃ j,j < m + 1 ∧ d[j]! = x) ↔ (∃ j,j < m ∧ d[j]! = x) ∨ d[m]! = x:=fun x=>by
      constructor
      · rintro ⟨j,hj,h⟩
        rcases Nat.lt_or_eq_of_le (Nat.le_of_lt_succ hj) with h1 | rfl
        · exact .inl ⟨j,h1,h⟩
        · exact .inr h
      · rintro (⟨j,hj,h⟩ | h)
        · exact ⟨j,by omega,h⟩
        · exact ⟨m,by omega,h⟩
    cases hk:Lib.keeps d m with
    | true =>
      simp only [Lib.keeps,decide_eq_true_eq] at hk
      refine ⟨?_,fun x=>?_⟩
      · rw [if_pos rfl,List.pairwise_append]
        refine ⟨i1,List.pairwise_singleton _ _,fun a ha b hb=>?_⟩
        rw [List.mem_singleton] at hb
        subst hb
        obtain ⟨j,hj,rfl⟩:=(i2 a).1 ha
        rcases hk with rfl | hk
        · cases hj
        · have h1:=hs j (m - 1) (by omega) (by omega)
          have h2:=hs (m - 1) m (by omega) (by omega)
          omega
      · rw [if_pos rfl,List.mem_append,i2,List.mem_singleton,hmem,eq_comm (a:=x)]
    | false =>
      simp only [Lib.keeps,decide_eq_false_iff_not,not_or,Decidable.not_not] at hk
      refine ⟨by simpa using i1,fun x=>?_⟩
      rw [hmem]
      simp only [Bool.false_eq_true,if_false,List.append_nil,i2]
      constructor
      · exact .inl
      · rintro (h | h)
        · exact h
        · exact ⟨m - 1,by omega,by rw [← hk.2]; exact h⟩
theorem compact_sorted {zs:List Int} (hs:zs.Pairwise (· ≤ ·)):(Lib.compact zs).Pairwise (· < ·) ∧ ∀ x,x ∈ Lib.compact zs ↔ x ∈ zs:=by
  have hs':∀ i j,i ≤ j → j < zs.toArray.size → zs.toArray[i]! ≤ zs.toArray[j]!:=fun i j hij hj=>by
    rw [get_bang (d:=zs.toArray) hj,get_bang (d:=zs.toArray) (Nat.lt_of_le_of_lt hij hj)]
    simp only [List.getElem_toArray]
    rcases Nat.lt_or_eq_of_le hij with h | rfl
    · exact List.pairwise_iff_getElem.1 hs i j _ _ h
    · exact Int.le_refl _
  obtain ⟨h1,h2⟩:=compact_up hs' zs.length (by simp)
  refine ⟨h1,fun x=>(h2 x).trans ?_⟩
  constructor
  · rintro ⟨j,hj,rfl⟩
    rw [get_bang (d:=zs.toArray) (by simpa using hj)]
    simp
  · intro h
    obtain ⟨j,hj,rfl⟩:=List.mem_iff_getElem.1 h
    exact ⟨j,hj,by rw [get_bang (d:=zs.toArray) (by simpa using hj)]; simp⟩
def segs (p:Int → Bool):List Int → List Sp
  | a :: b :: r=>(if p a then [⟨a,b⟩] else []) ++ segs p (b :: r)
  | _=>[]
theorem segs_snoc (p:Int → Bool):∀ (l:List Int) (a b:Int),segs p (l ++ [a,b]) = segs p (l ++ [a]) ++ if p a then [⟨a,b⟩] else []
  | [],a,b=>by simp [segs]
  | [x],a,b=>by simp [segs]
  | x :: y :: r,a,b=>by
    have:=segs_snoc p (y :: r) a b
    simp only [List.cons_append,segs] at this ⊢
    rw [this,List.append_assoc]
theorem segs_take (p:Int → Bool) (C:List Int) (i:Nat) (h:i + 1 < C.length):segs p (C.take (i + 2)) = segs p (C.take (i + 1)) ++ if p C[i] then [⟨C[i],C[i + 1]⟩] else []:=by
  have e1:C.take (i + 2) = C.take i ++ [C[i],C[i + 1]]:=by
    rw [List.take_add_one,List.take_add_one,List.getElem?_eq_getElem h,List.getElem?_eq_getElem (show i < C.length by omega),List.append_assoc]
    rfl
  have e2:C.take (i + 1) = C.take i ++ [C[i]]:=by
    rw [List.take_add_one,List.getElem?_eq_getElem (show i < C.length by omega)]; rfl
  rw [e1,segs_snoc,e2]
theorem segs_len (p:Int → Bool):∀ C:List Int,(segs p C).length ≤ C.length
  | []=>Nat.le_refl _
  | [_]=>by simp [segs]
  | a :: b :: r=>by
    have:=segs_len p (b :: r)
    simp only [segs,List.length_append,List.length_cons] at this ⊢
    split <;> simp <;> omega
def InSeg (p:Int → Bool) (C:List Int) (d:Int):Prop:=∃ l a b r,C = l ++ a :: b :: r ∧ p a = true ∧ a ≤ d ∧ d < b
theorem segs_mem (p:Int → Bool) (d:Int):∀ C:List Int,memS (segs p C) d ↔ InSeg p C d
  | []=>⟨fun h=>(Zc0 d h).elim,fun ⟨l,a,b,r,h,_⟩=>by cases l <;> cases h⟩
  | [x] => ⟨fun h => (Zc0 d h).elim, fun ⟨l, a, b, r, h, _⟩ => by
      have:=congrArg List.length h
      simp at this; omega⟩
  | x :: y :: t=>by
    rw [segs,memS_append,segs_mem p d (y :: t)]
    constructor
    · rintro (h | ⟨l,a,b,r,h,k⟩)
      · by_cases hx:p x = true
        · rw [if_pos hx] at h
          obtain ⟨s,hs,h1,h2⟩:=h
          rw [List.mem_singleton] at hs
          subst hs
          exact ⟨[],x,y,t,rfl,hx,h1,h2⟩
        · rw [if_neg hx] at h; exact (Zc0 d h).elim
      · exact ⟨x :: l,a,b,r,by rw [h]; rfl,k⟩
    · rintro ⟨l,a,b,r,h,k1,k2,k3⟩
      cases l with
      | nil =>
        simp only [List.nil_append,List.cons.injEq] at h
        obtain ⟨rfl,rfl,rfl⟩:=h
        left
        rw [if_pos k1]
        exact ⟨_,List.mem_singleton.2 rfl,k2,k3⟩
      | cons z l =>
        simp only [List.cons_append,List.cons.injEq] at h
        exact .inr ⟨l,a,b,r,h.2,k1,k2,k3⟩
theorem gap_of {C:List Int} (hs:C.Pairwise (· < ·)) {x y d:Int} (hx:x ∈ C) (hy:y ∈ C) (h1:x ≤ d) (h2:d < y):∃ l a b r,C = l ++ a :: b :: r ∧ a ≤ d ∧ d < b:=by
  induction C generalizing x with
  | nil=>cases hx
  | cons c t ih =>
    obtain ⟨p1,p2⟩:=List.pairwise_cons.1 hs
    have hc:c ≤ d:=by
      rcases List.mem_cons.1 hx with rfl | h
      · exact h1
      · have:=p1 x h; omega
    have hyt:y ∈ t:=by
      rcases List.mem_cons.1 hy with rfl | h
      · omega
      · exact h
    cases t with
    | nil=>cases hyt
    | cons b t =>
      by_cases hb:d < b
      · exact ⟨[],c,b,t,rfl,hc,hb⟩
      · obtain ⟨l,a,b',r,e,k⟩:=ih p2 (List.mem_cons_self ..) hyt (by omega)
        exact ⟨c :: l,a,b',r,by rw [e]; rfl,k⟩
theorem gap_free {C:List Int} (hs:C.Pairwise (· < ·)) {l r:List Int} {a b x:Int} (e:C = l ++ a :: b :: r) (hx:x ∈ C):x ≤ a ∨ b ≤ x:=by
  subst e
  rw [List.pairwise_append] at hs
  obtain ⟨h1,h2,h3⟩:=hs
  obtain ⟨h4,h5⟩:=List.pairwise_cons.1 h2
  obtain ⟨h6,h7⟩:=List.pairwise_cons.1 h5
  rcases List.mem_append.1 hx with h | h
  · have:=h3 x h a (List.mem_cons_self ..); omega
  · rcases List.mem_cons.1 h with rfl | h
    · exact .inl (Int.le_refl _)
    · rcases List.mem_cons.1 h with rfl | h
      · exact .inr (Int.le_refl _)
      · have:=h6 x h; omega
theorem mem_const {C:List Int} (hs:C.Pairwise (· < ·)) {l r:List Int} {a b d:Int} (e:C = l ++ a :: b :: r) (h1:a ≤ d) (h2:d < b) {m:List Sp} (hm:∀ s ∈ m,s.frm ∈ C ∧ s.to ∈ C):memS m a ↔ memS m d:=by
  have hab:a < b:=by omega
  constructor
  · rintro ⟨s,hs',k1,k2⟩
    obtain ⟨m1,m2⟩:=hm s hs'
    have:=gap_free hs e m2
    exact ⟨s,hs',by omega,by omega⟩
  · rintro ⟨s,hs',k1,k2⟩
    obtain ⟨m1,m2⟩:=hm s hs'
    have:=gap_free hs e m1
    exact ⟨s,hs',by omega,by omega⟩
theorem segs_law {C : List Int} (hs : C.Pairwise (· < ·)) {A B : List Sp} (hA : ∀ s ∈ A, s.frm ∈ C ∧ s.to ∈ C) (hB : ∀ s ∈ B, s.frm ∈ C ∧ s.to ∈ C) (mA mB : Int → Bool) (eA : ∀ d, mA d = true ↔ memS A d) (eB : ∀ d, mB d = true ↔ memS B d)
    (ct:Bool → Bool → Bool) (h0:ct false false = false) (d:Int):memS (segs (fun x=>ct (mA x) (mB x)) C) d ↔ ct (mA d) (mB d) = true:=by
  rw [segs_mem]
  constructor
  · rintro ⟨l,a,b,r,e,k1,k2,k3⟩
    have a1:mA a = mA d:=by rw [Bool.eq_iff_iff,eA,eA]; exact mem_const hs e k2 k3 hA
    have a2:mB a = mB d:=by rw [Bool.eq_iff_iff,eB,eB]; exact mem_const hs e k2 k3 hB
    simp only [a1,a2] at k1
    exact k1
  · intro h
    have:∃ x y,x ∈ C ∧ y ∈ C ∧ x ≤ d ∧ d < y:=by
      cases h1:mA d with
      | true=>obtain ⟨s,m,k1,k2⟩:=(eA d).1 h1; exact ⟨_,_,(hA s m).1,(hA s m).2,k1,k2⟩
      | false =>
        cases h2:mB d with
        | true=>obtain ⟨s,m,k1,k2⟩:=(eB d).1 h2; exact ⟨_,_,(hB s m).1,(hB s m).2,k1,k2⟩
        | false=>rw [h1,h2,h0] at h; cases h
    obtain ⟨x,y,c1,c2,c3,c4⟩:=this
    obtain ⟨l,a,b,r,e,k2,k3⟩:=gap_of hs c1 c2 c3 c4
    have a1:mA a = mA d:=by rw [Bool.eq_iff_iff,eA,eA]; exact mem_const hs e k2 k3 hA
    have a2:mB a = mB d:=by rw [Bool.eq_iff_iff,eB,eB]; exact mem_const hs e k2 k3 hB
    exact ⟨l,a,b,r,e,by simp only [a1,a2]; exact h,k2,k3⟩
end Go.VM
namespace Go.Proofs.YthkbdabfjfffjaaGreatDoor.w
open Go Go.VM
set_option maxRecDepth 20000
set_option maxHeartbeats 0
set_option pp.deepTerms false
def c_slices_Clone_Span:VC:=(.seq (.region [ZO 2 (.mv (.c .nilsl))] false) (.seq (.seq (.region [ZM 3 0,ZO 4 (.nd false (.t 3))] false) (.cond (.t 4) (.seq (.region [ZO 2 (.mv (.c .nilsl))] false) .ret) .skip)) (.seq (.region [ZO 5 (.fx (.mk0 2) []),ZM 6 0,ZO 7 (.app 2 16 [(.int .i64 0),(.int .i64 0)] false (.t 5) (.t 6)),ZM 2 7] false) .ret)))
def c_dateset_both:VC:=(.seq (.region [ZO 6 (.mv (.c .nilsl))] false) (.seq (.region [ZM 13 0,ZO 14 (.call 12 [(.t 13)]),ZM 15 1,ZO 16 (.call 12 [(.t 15)]),ZM 0 14,ZM 1 16] false) (.seq (.region [ZO 7 (.mv (.c .nilsl))] false) (.seq (.seq (.region [ZM 17 0,ZO 18 (.call 69 [(.t 17)]),ZM 19 1,ZO 20 (.app 2 16 [(.int .i64 0),(.int .i64 0)] false (.t 18) (.t 19)),ZO 21 (.len false (.t 20)),ZO 22 (.mv (.c (.int .i64 0)))] false) (.block 0 (.loop (.seq (.region [ZO 23 (.bin .lss (.t 22) (.t 21))] false) (.seq (.cond (.t 23) .skip (.exit 0)) (.seq (.block 1 (.seq (.region [ZO 24 (.iaddr 2 (.t 20) (.t 22)),ZO 25 (.load true 2 (.t 24)),ZO 9 (.alloc [(.int .i64 0),(.int .i64 0)]),ZN (.store 2 (.t 9) (.t 25))] false) (.region [ZM 26 7,ZO 27 (.faddr 0 (.t 9)),ZO 28 (.load false 1 (.t 27)),ZO 29 (.faddr 1 (.t 9)),ZO 30 (.load false 1 (.t 29)),ZO 31 (.bslice 1 2 [(.int .i64 0)] [(0,(.t 28)),(1,(.t 30))]),ZO 32 (.app 1 8 [(.int .i64 0)] false (.t 26) (.t 31)),ZM 7 32] false))) (.region [ZO 33 (.bin .add (.t 22) (.c (.int .i64 1))),ZM 22 33] false))))))) (.seq (.region [ZM 34 7,ZO 35 (.call 70 [(.t 34)])] false) (.seq (.region [ZM 36 7,ZO 37 (.call 71 [(.t 36)]),ZM 7 37] false) (.seq (.region [ZO 10 (.mv (.c .nilsl))] false) (.seq (.seq (.region [ZO 11 (.mv (.c (.int .i64 1)))] false) (.block 2 (.loop (.seq (.seq (.region [ZM 38 11,ZM 39 7,ZO 40 (.len false (.t 39)),ZO 41 (.bin .lss (.t 38) (.t 40))] false) (.cond (.t 41) .skip (.exit 2))) (.seq (.block 3 (.seq (.region [ZM 44 7,ZM 45 11,ZO 46 (.bin .sub (.t 45) (.c (.int .i64 1))),ZO 47 (.iaddr 1 (.t 44) (.t 46)),ZO 48 (.load false 1 (.t 47)),ZM 12 48] false) (.seq (.region [ZM 49 2,ZM 50 0,ZM 51 12,ZO 52 (.call 72 [(.t 50),(.t 51)]),ZM 53 1,ZM 54 12,ZO 55 (.call 72 [(.t 53),(.t 54)]),ZO 56 (.callv (.t 49) [(.t 52),(.t 55)])] false) (.cond (.t 56) (.region [ZM 57 10,ZM 58 12,ZM 59 7,ZM 60 11,ZO 61 (.iaddr 1 (.t 59) (.t 60)),ZO 62 (.load false 1 (.t 61)),ZO 63 (.build [(.int .i64 0),(.int .i64 0)] [(0,(1,(.t 58))),(1,(1,(.t 62)))]),ZO 64 (.bslice 2 1 [(.int .i64 0),(.int .i64 0)] [(0,(.t 63))]),ZO 65 (.app 2 16 [(.int .i64 0),(.int .i64 0)] false (.t 57) (.t 64)),ZM 10 65] false) .skip)))) (.region [ZM 42 11,ZO 43 (.bin .add (.t 42) (.c (.int .i64 1))),ZM 11 43] false)))))) (.seq (.region [ZM 66 10,ZO 67 (.call 12 [(.t 66)]),ZM 6 67] false) .ret)))))))))
theorem ac_clone (l : List Sp) (hl : l.length ≤ 1000000) : Zc2 Tryz.prog 69 [.sl 2 (l.map Sp.enc)] ⟨[], 0⟩
    (fun p h'=>(p = .nilsl ∧ l = [] ∧ h' = ⟨[],0⟩) ∨ ∃ id n,id < n ∧ p = .own id 0 l.length ∧ h' = ⟨[(id,.arr false 2 (l.map Sp.enc))],n⟩):=by
  refine Zc2.drop ?_
  refine Zcc (vc:=c_slices_Clone_Span) (ts:=[.t 2]) Go.Proofs.Tryz.func69 (by kernel_rfl) rfl rfl (Nat.le_of_ble_eq_true rfl) (by kernel_rfl) ?_
  unfold c_slices_Clone_Span
  try dsimp only [ZM,ZO,ZN,ZG]
  refine Za9 (Zae [0] ?_)
  simp only [Zaa,Zah,Za5,pok,pval,VA.ev,Env.get,Env.put,Env.keep,Za0,Za6,Heap.le,ite_true,ite_false,true_and,reduceCtorEq]
  refine Za9 ?_
  refine Za9 (Zae [0,4] ?_)
  simp only [Zaa,Zah,Za5,pok,pval,VA.ev,Env.get,Env.put,Env.keep,Za6,Zbi,isNil,notNil,Nat.reduceEqDiff,Bool.false_eq_true,ite_true,ite_false,true_and,reduceCtorEq]
  intro b hb1 hb2
  cases b with
  | true =>
    skip
    refine Zb4 rfl (fun h1=>?_) (fun h1=>by cases h1)
    refine Za9 (Zae [2] ?_)
    try simp only [Zaa,Zah,Za5,pok,pval,VA.ev,Env.get,Env.put,Env.keep,Za6,Nat.reduceEqDiff,ite_true,ite_false,true_and,reduceCtorEq]
    refine Zca ?_
    try simp only [Env.get,Za6,retQ,resV,Zbl,RS.ev,RS.ok,ite_true,true_and,and_true,reduceCtorEq]
    cases l with
    | nil=>exact ⟨⟨[],0⟩,by simp [Heap.le,HL.le],.inl (by simp)⟩
    | cons a r=>simp [notNil] at hb2
  | false =>
    skip
    refine Zb4 rfl (fun h1=>by cases h1) (fun h1=>?_)
    refine Zb8 ?_
    try simp only [Za6]
    refine Za9 (Zae [2] ?_)
    simp only [Zaa,Zah,Za5,pok,pval,VA.ev,Env.get,Env.put,Env.keep,Za6,Heap.get,Heap.del,HL.get,HL.del,Heap.push,Nat.le_refl,Nat.succ_ne_self,Za2,Zbu,Zam,Zbv,Zaj,Zbt,fxV,fxOk,List.map,List.length,List.take,List.nil_append,Nat.reduceEqDiff,Nat.reduceAdd,ite_true,ite_false,true_and,and_true,reduceCtorEq,Nat.zero_add,Nat.add_zero,List.length_nil,List.length_map]
    repeat (with_reducible refine And.intro ?_ ?_; first | omega | (with_reducible constructor <;> omega) | exact False.elim | exact True.intro)
    refine Zca ?_
    try simp only [Env.get,retQ,resV,Zbl,RS.ev,RS.ok,ite_true,true_and,and_true,reduceCtorEq]
    exact ⟨⟨[(1,.arr false 2 (l.map Sp.enc))],2⟩,by simp [HL.le,HL.get,Heap.get],.inr ⟨1,2,by decide,rfl,rfl⟩⟩
def endsS (l:List Sp):List Int:=l.flatMap fun s=>[s.frm,s.to]
theorem ends_len (l:List Sp):(endsS l).length = 2 * l.length:=by
  induction l with
  | nil=>rfl
  | cons a r ih=>simp only [endsS,List.flatMap_cons,List.length_append,List.length_cons,List.length_nil] at ih ⊢; omega
theorem ends_snoc {l:List Sp} {k:Nat} (h:k < l.length):endsS (l.take (k + 1)) = endsS (l.take k) ++ [l[k].frm,l[k].to]:=by
  unfold endsS
  rw [List.take_add_one,List.getElem?_eq_getElem h,List.flatMap_append]
  simp
def cutsS (a b:List Sp):List Int:=Lib.compact (sortI (endsS (a ++ b)))
noncomputable def bothS (ct:Bool → Bool → Bool) (a b:List Sp):List Sp:=Zci (segs (fun x=>ct (memB (Zci a) x) (memB (Zci b) x)) (cutsS (Zci a) (Zci b)))
theorem sp_dateset_both (ct : Bool → Bool → Bool) (cf : Nat) (hcf : ∀ x y, Zcn Tryz.prog cf [.bool x, .bool y] (.bool (ct x y))) (l m : List Sp) (hl : l.length ≤ 10000) (hm : m.length ≤ 10000) (hl2 : (Zci l).length ≤ 10000) (hm2 : (Zci m).length ≤ 10000) :
    Zcn Tryz.prog 43 [.sl 2 (l.map Sp.enc),.sl 2 (m.map Sp.enc),.fn (.func cf) [] []] (.sl 2 ((bothS ct l m).map Sp.enc)):=by
  refine Zb6 ?_ (Zb9 _) (by simp only [Zce,List.mem_cons,List.not_mem_nil,or_false,forall_eq_or_imp,forall_eq,false_implies,implies_true]; repeat' (first  | exact cB _ | exact closed_fn0 _ | exact Zb9 _ | refine And.intro ?_ ?_))
  refine Zcc (vc:=c_dateset_both) (ts:=[.t 6]) Go.Proofs.Tryz.func43 (by kernel_rfl) rfl rfl (Nat.le_of_ble_eq_true rfl) (by kernel_rfl) ?_
  unfold c_dateset_both
  try dsimp only [ZM,ZO,ZN,ZG]
  refine Za9 (Zae [0,1,2] ?_)
  simp only [Zaa,Zah,Za5,pok,pval,VA.ev,Env.get,Env.put,Env.keep,Za0,Za6,Heap.nil,Nat.succ_ne_self,Nat.reduceEqDiff,Nat.reduceAdd,ite_true,ite_false,true_and,reduceCtorEq,Nat.zero_add]
  refine Za9 (Zae [0,1,2] ?_)
  simp only [Zaa,Zah,Za5,pok,pval,VA.ev,Env.get,Env.put,Env.keep,Za6,Nat.succ_ne_self,List.map,Nat.reduceEqDiff,ite_true,ite_false,true_and,reduceCtorEq]
  refine Zb7 (norm_ok l (by omega)) ?_
  skip
  refine Zb7 (norm_ok m (by omega)) ?_
  skip
  generalize hA:Zci l = A at hl2
  generalize hB:Zci m = B at hm2
  refine Za9 (Zae [0,1,2,7] ?_)
  simp only [Zaa,Zah,Za5,pok,pval,VA.ev,Env.get,Env.put,Env.keep,Za6,Nat.succ_ne_self,Nat.reduceEqDiff,ite_true,ite_false,true_and,reduceCtorEq]
  refine Za9 ?_
  refine VW_seqJ [0,1,2,7,20,21,22] (σ:={ s:Nat × Nat // s.1 < s.2 }) (fun s=>([(0,.sl 2 (A.map Sp.enc)),(1,.sl 2 (B.map Sp.enc)),(2,.fn (.func cf) [] []),(7,.nilsl),(20,.own s.1.1 0 (A ++ B).length),(21,pI (A ++ B).length),(22,pI 0)],⟨[(s.1.1,.arr false 2 ((A ++ B).map Sp.enc))],s.1.2⟩)) ?_ ?_
  · simp only [Zaa,Zah,Za5,pok,pval,VA.ev,Env.get,Env.put,Env.keep,lenV,Zbq,Heap.get,Heap.del,Heap.le,HL.get,HL.le,Heap.push,Nat.succ_ne_self,Env.le,Za2,Zbu,Zam,Zbv,Zaj,Zbt,List.map,Nat.reduceEqDiff,ite_true,ite_false,true_and,and_true,reduceCtorEq]
    refine Zc2.mono (ac_clone A (by omega)) ?_
    rintro p h' (⟨rfl,hn,rfl⟩ | ⟨id,n,hid,rfl,rfl⟩)
    · subst hn
      try simp only [HL.get,List.length,List.nil_append,true_and,and_true,Nat.zero_add,List.length_map]
      repeat (with_reducible refine And.intro ?_ ?_; first | omega | (with_reducible constructor <;> omega) | exact False.elim | exact True.intro)
      refine ⟨⟨(0,1),by decide⟩,?_,?_⟩
      · rfl
      · exact ⟨Nat.le_refl _,rfl⟩
    · have qi0:(id = n) = False:=by simp; omega
      have qi1:(n = id) = False:=by simp; omega
      have qi2:∀ j,(n + j = id) = False:=fun j=>by simp; try omega
      have qi3:∀ j,(id = n + j) = False:=fun j=>by simp; try omega
      have qi4:∀ j,(n + (j + 1) = n) = False:=fun j=>by simp; try omega
      have qi5:∀ j,(n = n + (j + 1)) = False:=fun j=>by simp; try omega
      have qi6:(n + 1 + 1 = n) = False:=by simp; try omega
      have qi7:(n = n + 1 + 1) = False:=by simp; try omega
      have qi8:(n + 1 + 1 + 1 = n) = False:=by simp; try omega
      have qi9:(n = n + 1 + 1 + 1) = False:=by simp; try omega
      have hlen:(List.take A.length (A.map Sp.enc)).length = A.length:=by simp
      have htk:List.take A.length (A.map Sp.enc) = A.map Sp.enc:=List.take_of_length_le (by simp)
      try simp only [HL.get,HL.del,Nat.le_refl,List.drop,ite_true,true_and,and_true,Nat.zero_add,List.length_map,qi0,qi1,qi2,qi3,qi4,qi5,qi6,qi7,qi8,qi9]
      repeat (with_reducible refine And.intro ?_ ?_; first | omega | (with_reducible constructor <;> omega) | exact False.elim | exact True.intro)
      refine ⟨⟨(n,n + 1),by simp⟩,?_,?_⟩
      · simp
      · refine ⟨Nat.le_refl _,?_⟩
        rw [htk]; simp
  · rintro ⟨⟨idc,n⟩,hn⟩
    simp only [] at hn ⊢
    have hABl:(A ++ B).length ≤ 20000:=by simp; omega
    have hcuts:cutsS A B = Lib.compact (sortI (endsS (A ++ B))):=rfl
    generalize A ++ B = C at hABl hcuts ⊢
    refine VW_own0 7 1 rfl ?_
    try simp only [Env.put,Heap.push]
    refine Zcb ?_
    refine Zcz (σ:={ s:Nat × Nat × Nat // s.1 ≤ C.length ∧ idc < s.2.1 ∧ s.2.1 < s.2.2 })
      (fun s=>([(0,.sl 2 (A.map Sp.enc)),(1,.sl 2 (B.map Sp.enc)),(2,.fn (.func cf) [] []),(7,.own s.1.2.1 0 (2 * s.1.1)),(20,.own idc 0 C.length),(21,pI C.length),(22,pI s.1.1)],⟨[(s.1.2.1,.arr false 1 ((endsS (C.take s.1.1)).map Zcr)),(idc,.arr false 2 (C.map Sp.enc))],s.1.2.2⟩)) (fun s=>C.length - s.1.1) ⟨(0,n,n + 1),by simp; omega⟩ ?_ ?_ ?_
    · simp only [Env.get,Nat.succ_ne_self,Env.le,Nat.reduceEqDiff,Nat.reduceMul,ite_true,ite_false,true_and,and_true,reduceCtorEq]
      rfl
    · simp only [Heap.get,Heap.le,HL.get,HL.le,Nat.le_refl,List.take,ite_true,true_and,and_true,Option.some.injEq,List.map_nil]
      have:¬ n = idc:=by omega
      rw [if_neg this]
      exact ⟨rfl,rfl⟩
    rintro ⟨⟨k,id,n'⟩,hk,hi,hn'⟩
    simp only [] at hk hi hn' ⊢
    have qi0:(id = n') = False:=by simp; omega
    have qi1:(n' = id) = False:=by simp; omega
    have qi2:(id = idc) = False:=by simp; omega
    have qi3:(idc = id) = False:=by simp; omega
    have qi4:(n' = idc) = False:=by simp; omega
    have qi5:(idc = n') = False:=by simp; omega
    have qi6:∀ j,(n' + j = id) = False:=fun j=>by simp; try omega
    have qi7:∀ j,(id = n' + j) = False:=fun j=>by simp; try omega
    have qi8:∀ j,(n' + (j + 1) = n') = False:=fun j=>by simp; try omega
    have qi9:∀ j,(n' = n' + (j + 1)) = False:=fun j=>by simp; try omega
    have qi10:∀ j,(n' + j = idc) = False:=fun j=>by simp; try omega
    have qi11:∀ j,(idc = n' + j) = False:=fun j=>by simp; try omega
    have qi12:(n' + 1 + 1 = n') = False:=by simp; try omega
    have qi13:(n' = n' + 1 + 1) = False:=by simp; try omega
    have qi14:(n' + 1 + 1 + 1 = n') = False:=by simp; try omega
    have qi15:(n' = n' + 1 + 1 + 1) = False:=by simp; try omega
    refine Za9 (Zae [0,1,2,7,20,21,22,23] ?_)
    simp only [Zaa,Zah,Za5,pok,pval,VA.ev,Env.get,Env.put,Env.keep,Za6,intV,binV,Zbk,Heap.get,Heap.le,HL.le,Nat.succ_ne_self,Env.le,Nat.reduceEqDiff,ite_true,ite_false,true_and,and_true,reduceCtorEq]
    refine Za9 ?_
    refine Zb4 rfl (fun h1=>?_) (fun h1=>?_)
    · refine Zb8 ?_
      try simp only [Za6]
      simp only [decide_eq_true_eq] at h1
      have ka:k < C.length:=by omega
      refine Za9 ?_
      refine Zcb ?_
      refine Za9 (Zae [0,1,2,7,9,20,21,22] ?_)
      simp only [Zaa,Zah,Za5,pok,pval,VA.ev,Env.get,Env.put,Env.keep,Za6,aggV,isInt,numOf,lenV,Zad,Zbm,Za1,Zak,PV.cells,PV.fits,overlay,PV.nth,PV.row,Heap.get,Heap.set,HL.get,HL.set,HL.del,Heap.push,Nat.le_refl,Nat.succ_ne_self,Zba,Zaq,List.set,List.length,List.getD_cons_zero,List.take,List.drop,List.take_succ_cons,List.drop_succ_cons,List.cons_append,List.nil_append,Nat.reduceEqDiff,Nat.reduceAdd,Nat.reduceLT,Bool.true_eq_false,ite_true,ite_false,true_and,and_true,reduceCtorEq,BEq.rfl,Nat.zero_add,List.length_cons,imp_self,Int.toNat_natCast,List.length_map,rowm ka,Sp.enc,qi0,qi1,qi2,qi3,qi4,qi5,qi6,qi7,qi8,qi9,qi10,qi11,qi12,qi13,qi14,qi15]
      repeat (with_reducible refine And.intro ?_ ?_; first | omega | (with_reducible constructor <;> omega) | exact False.elim | exact True.intro)
      refine Zae [0,1,2,7,20,21,22] ?_
      have hlen:(((endsS (C.take k)).map Zcr)).length = 2 * k:=by simp [ends_len]; omega
      have htk:(((endsS (C.take k)).map Zcr)).take (2 * k) = (endsS (C.take k)).map Zcr:=List.take_of_length_le (by rw [hlen]; exact Nat.le_refl _)
      simp only [Zaa,Zah,Za5,pok,pval,VA.ev,Env.get,Env.put,Env.keep,Za6,Zay,aggV,Za4,Za3,Zad,Zbm,PV.cells,PV.fits,PV.nth,PV.row,Heap.get,Heap.del,HL.get,HL.del,Heap.push,Nat.le_refl,Nat.succ_ne_self,Za2,Zbu,Zam,Zbv,Zaj,Zbt,Zaz,Zal,List.set,List.replicate,List.length,List.getD_cons_zero,List.take,List.drop,List.take_succ_cons,List.drop_succ_cons,Nat.reduceEqDiff,Nat.reduceAdd,Nat.reduceLT,Nat.reduceLeDiff,Bool.false_eq_true,ite_true,ite_false,true_and,and_true,implies_true,reduceCtorEq,BEq.rfl,Nat.zero_add,Nat.add_zero,List.length_cons,qi0,qi1,qi2,qi3,qi4,qi5,qi6,qi7,qi8,qi9,qi10,qi11,qi12,qi13,qi14,qi15,hlen,htk]
      repeat (with_reducible refine And.intro ?_ ?_; first | omega | (with_reducible constructor <;> omega) | exact False.elim | exact True.intro)
      refine Zae [0,1,2,7,20,21,22] ?_
      simp only [Zaa,Zah,Za5,pok,pval,VA.ev,Env.get,Env.put,Env.keep,Za6,intV,binV,Zbk,HL.get,Nat.succ_ne_self,Nat.reduceEqDiff,ite_true,ite_false,true_and,reduceCtorEq,qi0,qi1,qi2,qi3,qi4,qi5,qi6,qi7,qi8,qi9,qi10,qi11,qi12,qi13,qi14,qi15,w64 (n:=(k:Int) + 1) (by omega) (by omega)]
      refine ⟨⟨(k + 1,n' + 1 + 1,n' + 1 + 1 + 1),?_,?_,?_⟩,?_,?_,?_⟩
      · simp only []; omega
      · simp only []; omega
      · simp only []; omega
      · exact ⟨rfl,rfl⟩
      · rw [ends_snoc ka]
        simp only [Nat.le_refl,Nat.left_eq_add,Nat.succ_ne_self,ite_true,ite_false,true_and,Option.some.injEq,qi0,qi1,qi2,qi3,qi4,qi5,qi6,qi7,qi8,qi9,qi10,qi11,qi12,qi13,qi14,qi15]
        simp
        omega
      · simp only []; omega
    · simp only [decide_eq_false_iff_not] at h1
      have hkl:k = C.length:=by omega
      subst hkl
      have hel:(endsS C).length = 2 * C.length:=ends_len C
      simp only [List.take_length]
      rw [← hel]
      refine Zcw ?_
      try simp only [Za6,Zay,retQ,ite_true]
      refine Za9 (Zae [0,1,2,7] ?_)
      simp only [Zaa,Zah,Za5,pok,pval,VA.ev,Env.get,Env.put,Env.keep,Za6,Nat.succ_ne_self,List.map,Nat.reduceEqDiff,ite_true,ite_false,true_and,reduceCtorEq]
      refine Zc2.weakenL (h0:=⟨[(id,.arr false 1 ((endsS C).map Zcr))],n'⟩) ?_ (Zc2.mono (sortsInt id n' (endsS C) (by omega)) ?_)
      · simp [Heap.le,Heap.get,HL.get,HL.le]
      rintro p h' rfl
      have hsl:(endsS C).length = (sortI (endsS C)).length:=by simp [sortI]
      rw [hsl]
      have hsl2:(sortI (endsS C)).length ≤ 40000:=by omega
      skip
      refine Za9 (Zae [0,1,2,7] ?_)
      simp only [Zaa,Zah,Za5,pok,pval,VA.ev,Env.get,Env.put,Env.keep,Za6,Nat.succ_ne_self,List.map,Nat.reduceEqDiff,ite_true,ite_false,true_and,reduceCtorEq]
      refine Zc2.mono (compactsInt id n' (sortI (endsS C)) (by omega)) ?_
      rintro p h' ⟨rfl,rest,rfl⟩
      rw [← hcuts]
      have hcl:(cutsS A B).length ≤ 40000:=by rw [hcuts]; exact Nat.le_trans (Lib.compact_length_le _) hsl2
      skip
      refine Za9 (Zae [0,1,2,7,10] ?_)
      simp only [Zaa,Zah,Za5,pok,pval,VA.ev,Env.get,Env.put,Env.keep,Za6,Nat.succ_ne_self,Nat.reduceEqDiff,ite_true,ite_false,true_and,reduceCtorEq]
      refine VW_own0 10 2 rfl ?_
      try simp only [Env.put,Heap.push]
      refine Za9 ?_
      refine Za9 (Zae [0,1,2,7,10,11] ?_)
      simp only [Zaa,Zah,Za5,pok,pval,VA.ev,Env.get,Env.put,Env.keep,Za6,Nat.succ_ne_self,Nat.reduceEqDiff,ite_true,ite_false,true_and,reduceCtorEq]
      refine Zcb ?_
      generalize hD:cutsS A B = D at hcl
      have cA:Canon A:=by rw [← hA]; exact (Zcj l).1
      have cB':Canon B:=by rw [← hB]; exact (Zcj m).1
      have seg1:segs (fun x=>ct (memB A x) (memB B x)) (D.take 1) = []:=by
        cases D with
        | nil=>rfl
        | cons a r=>simp [segs]
      refine Zcz (σ:={ s:Nat × Nat × Nat // 1 ≤ s.1 ∧ (s.1 ≤ D.length ∨ s.1 = 1) ∧ id < s.2.1 ∧ s.2.1 < s.2.2 })
        (fun s=>([(0,.sl 2 (A.map Sp.enc)),(1,.sl 2 (B.map Sp.enc)),(2,.fn (.func cf) [] []),(7,.own id 0 D.length),(10,.own s.1.2.1 0 (segs (fun x=>ct (memB A x) (memB B x)) (D.take s.1.1)).length),(11,pI s.1.1)],⟨[(s.1.2.1,.arr false 2 ((segs (fun x=>ct (memB A x) (memB B x)) (D.take s.1.1)).map Sp.enc)),(id,.arr false 1 ((D ++ rest).map Zcr))],s.1.2.2⟩)) (fun s=>D.length - s.1.1) ⟨(1,n',n' + 1),by simp; omega⟩ ?_ ?_ ?_
      · simp only [Env.get,Nat.succ_ne_self,Env.le,Nat.reduceEqDiff,ite_true,ite_false,true_and,and_true,reduceCtorEq]
        rw [seg1]
        exact ⟨rfl,rfl⟩
      · simp only [Heap.get,Heap.le,HL.get,HL.le,Nat.le_refl,ite_true,true_and,and_true,Option.some.injEq]
        rw [seg1,if_neg (show ¬ n' = id by omega)]
        exact ⟨rfl,rfl⟩
      rintro ⟨⟨i,ido,n2⟩,hi1,hi2,hido,hn2⟩
      simp only [] at hi1 hi2 hido hn2 ⊢
      have qi0:(ido = n2) = False:=by simp; omega
      have qi1:(n2 = ido) = False:=by simp; omega
      have qi2:(ido = id) = False:=by simp; omega
      have qi3:(id = ido) = False:=by simp; omega
      have qi4:(n2 = id) = False:=by simp; omega
      have qi5:(id = n2) = False:=by simp; omega
      have qi6:∀ j,(n2 + j = ido) = False:=fun j=>by simp; try omega
      have qi7:∀ j,(ido = n2 + j) = False:=fun j=>by simp; try omega
      have qi8:∀ j,(n2 + (j + 1) = n2) = False:=fun j=>by simp; try omega
      have qi9:∀ j,(n2 = n2 + (j + 1)) = False:=fun j=>by simp; try omega
      have qi10:∀ j,(n2 + j = id) = False:=fun j=>by simp; try omega
      have qi11:∀ j,(id = n2 + j) = False:=fun j=>by simp; try omega
      have qi12:(n2 + 1 + 1 = n2) = False:=by simp; try omega
      have qi13:(n2 = n2 + 1 + 1) = False:=by simp; try omega
      have qi14:(n2 + 1 + 1 + 1 = n2) = False:=by simp; try omega
      have qi15:(n2 = n2 + 1 + 1 + 1) = False:=by simp; try omega
      refine Za9 ?_
      refine Za9 (Zae [0,1,2,7,10,11,41] ?_)
      simp only [Zaa,Zah,Za5,pok,pval,VA.ev,Env.get,Env.put,Env.keep,Za6,intV,binV,Zbk,lenV,Zbq,Heap.get,Heap.le,HL.le,Nat.succ_ne_self,Env.le,Nat.reduceEqDiff,ite_true,ite_false,true_and,and_true,reduceCtorEq]
      refine Zb4 rfl (fun h2=>?_) (fun h2=>?_)
      · refine Zb8 ?_
        try simp only [Za6]
        simp only [decide_eq_true_eq] at h2
        obtain ⟨i,rfl⟩:∃ j,i = j + 1:=⟨i - 1,by omega⟩
        have ib:i + 1 < D.length:=by omega
        have ia:i < D.length:=by omega
        have ib':i + 1 < (D ++ rest).length:=by simp; omega
        have ia':i < (D ++ rest).length:=by simp; omega
        have ga:(D ++ rest)[i] = D[i]:=List.getElem_append_left ia
        have gb:(D ++ rest)[i + 1] = D[i + 1]:=List.getElem_append_left ib
        have ei:(((i + 1:Nat):Int) - 1) = (i:Int):=by omega
        refine Za9 ?_
        refine Zcb ?_
        refine Za9 (Zae [0,1,2,7,10,11,12] ?_)
        simp only [Zaa,Zah,Za5,pok,pval,VA.ev,Env.get,Env.put,Env.keep,Za6,aggV,intV,binV,Zbk,isInt,numOf,lenV,Zad,Zbm,Za1,Zak,PV.nth,PV.row,Heap.get,HL.get,Nat.le_refl,Nat.succ_ne_self,List.length,List.getD_cons_zero,List.take,List.drop,List.take_succ_cons,Nat.reduceEqDiff,Bool.false_eq_true,ite_true,ite_false,true_and,and_true,implies_true,reduceCtorEq,Nat.zero_add,List.length_cons,Int.toNat_natCast,ei,w64 (n:=(i:Int)) (by omega) (by omega),List.length_map,rowm ia',ga,qi0,qi1,qi2,qi3,qi4,qi5,qi6,qi7,qi8,qi9,qi10,qi11,qi12,qi13,qi14,qi15]
        repeat (with_reducible refine And.intro ?_ ?_; first | omega | (with_reducible constructor <;> omega) | exact False.elim | exact True.intro)
        refine Za9 (Zae [0,1,2,7,10,11,12,56] ?_)
        simp only [Zaa,Zah,Za5,pok,pval,VA.ev,Env.get,Env.put,Env.keep,Za6,Nat.succ_ne_self,List.map,List.cons_append,List.nil_append,Nat.reduceEqDiff,ite_true,ite_false,true_and,reduceCtorEq]
        refine Zb7 (sp_dateset_has A D[i] cA (by omega)) ?_
        skip
        refine Zb7 (sp_dateset_has B D[i] cB' (by omega)) ?_
        skip
        refine Zb7 (hcf _ _) ?_
        skip
        have hst:=segs_take (fun x=>ct (memB A x) (memB B x)) D i ib
        refine Zb4 rfl (fun h3=>?_) (fun h3=>?_)
        · refine Zae [0,1,2,7,10,11] ?_
          rw [if_pos h3] at hst
          have hzl:=segs_len (fun x=>ct (memB A x) (memB B x)) (D.take (i + 1))
          have hdl:(D.take (i + 1)).length ≤ 40000:=by simp; omega
          generalize segs (fun x=>ct (memB A x) (memB B x)) (D.take (i + 1)) = Z at hst hzl ⊢
          have htk:List.take Z.length (Z.map Sp.enc) = Z.map Sp.enc:=List.take_of_length_le (by simp)
          simp only [Zaa,Zah,Za5,pok,pval,VA.ev,Env.get,Env.put,Env.keep,Za6,Zay,aggV,isInt,numOf,lenV,Zad,Zbm,Za1,Zak,Zbr,Zbb,PV.cells,PV.fits,overlay,PV.nth,PV.row,Heap.get,Heap.del,HL.get,HL.del,Heap.push,Nat.le_refl,Nat.succ_ne_self,Za2,Zbu,Zam,Zbv,Zaj,Zbt,Zaz,Zal,List.set,List.replicate,List.length,List.getD_cons_zero,List.take,List.drop,List.take_succ_cons,List.drop_succ_cons,List.cons_append,List.nil_append,Nat.reduceEqDiff,Nat.reduceAdd,Nat.reduceLT,Nat.reduceLeDiff,Bool.false_eq_true,ite_true,ite_false,true_and,and_true,implies_true,reduceCtorEq,BEq.rfl,Nat.zero_add,List.length_cons,Int.toNat_natCast,List.length_map,rowm ib',gb,qi0,qi1,qi2,qi3,qi4,qi5,qi6,qi7,qi8,qi9,qi10,qi11,qi12,qi13,qi14,qi15,htk]
          repeat (with_reducible refine And.intro ?_ ?_; first | omega | (with_reducible constructor <;> omega) | exact False.elim | exact True.intro)
          refine Zae [0,1,2,7,10,11] ?_
          simp only [Zaa,Zah,Za5,pok,pval,VA.ev,Env.get,Env.put,Env.keep,Za6,intV,binV,Zbk,HL.get,Nat.succ_ne_self,Nat.reduceEqDiff,ite_true,ite_false,true_and,and_true,reduceCtorEq,w64 (n:=((i + 1:Nat):Int) + 1) (by omega) (by omega),qi0,qi1,qi2,qi3,qi4,qi5,qi6,qi7,qi8,qi9,qi10,qi11,qi12,qi13,qi14,qi15]
          refine ⟨⟨(i + 1 + 1,n2 + 1,n2 + 1 + 1),?_,?_,?_,?_⟩,?_,?_,?_⟩
          · simp only []; omega
          · simp only []; omega
          · simp only []; omega
          · simp only []; omega
          · rw [hst]; simp
          · rw [hst]
            simp only [Nat.le_refl,ite_true,ite_false,true_and,Option.some.injEq,qi0,qi1,qi2,qi3,qi4,qi5,qi6,qi7,qi8,qi9,qi10,qi11,qi12,qi13,qi14,qi15]
            simp [Sp.enc]
          · simp only []; omega
        · refine Zb8 ?_
          try simp only [Za6,Zay]
          refine Zae [0,1,2,7,10,11] ?_
          simp only [Zaa,Zah,Za5,pok,pval,VA.ev,Env.get,Env.put,Env.keep,Za6,intV,binV,Zbk,HL.get,Nat.succ_ne_self,Nat.reduceEqDiff,ite_true,ite_false,true_and,reduceCtorEq,w64 (n:=((i + 1:Nat):Int) + 1) (by omega) (by omega)]
          rw [if_neg (by rw [h3]; exact Bool.false_ne_true),List.append_nil] at hst
          refine ⟨⟨(i + 1 + 1,ido,n2),?_,?_,hido,hn2⟩,?_,?_,?_⟩
          · simp only []; omega
          · simp only []; omega
          · rw [hst]; exact ⟨rfl,rfl⟩
          · rw [hst]
            simp only [Nat.le_refl,ite_true,ite_false,and_true,qi0,qi1,qi2,qi3,qi4,qi5,qi6,qi7,qi8,qi9,qi10,qi11,qi12,qi13,qi14,qi15]
          · simp only []; omega
      · simp only [decide_eq_false_iff_not] at h2
        have hseg:segs (fun x=>ct (memB A x) (memB B x)) (D.take i) = segs (fun x=>ct (memB A x) (memB B x)) D:=by
          rw [List.take_of_length_le (by omega)]
        rw [hseg]
        have hzl:=segs_len (fun x=>ct (memB A x) (memB B x)) D
        have hboth:bothS ct l m = Zci (segs (fun x=>ct (memB A x) (memB B x)) D):=by unfold bothS; rw [hA,hB,hD]
        generalize segs (fun x=>ct (memB A x) (memB B x)) D = Z at hzl hboth ⊢
        refine Zcw ?_
        try simp only [Za6,Zay,retQ,ite_true]
        refine Za9 (Zae [6] ?_)
        simp only [Zaa,Zah,Za5,pok,pval,VA.ev,Env.get,Env.put,Env.keep,Za6,Nat.succ_ne_self,List.map,Nat.reduceEqDiff,ite_true,ite_false,true_and,reduceCtorEq]
        refine ACall_f [.sl 2 (Z.map Sp.enc)] ⟨?_,trivial⟩ (Zb7 (norm_ok Z (by omega)) ?_)
        · have hv:=View.own (h:=⟨[(ido,.arr false 2 (Z.map Sp.enc)),(id,.arr false 1 ((D ++ rest).map Zcr))],n2⟩) (id:=ido) (off:=0) (len:=Z.length) (z:=2) (fz:=false) (es:=Z.map Sp.enc) (by simp [Heap.get,HL.get]) (by simp)
          have e1:List.take Z.length (List.drop 0 (Z.map Sp.enc)) = Z.map Sp.enc:=List.take_of_length_le (by simp)
          rw [e1] at hv
          exact hv
        try simp only []
        refine Zca ?_
        try simp only [Env.get,retQ,resV,Zbl,RS.ev,RS.ok,ite_true,true_and,and_true]
        rw [hboth]
        exact View.refl _ _
end Go.Proofs.YthkbdabfjfffjaaGreatDoor.w
namespace Go.Proofs.YthkbdabfjfffjaaGreatDoor.w
open Go Go.VM
set_option maxRecDepth 20000
set_option maxHeartbeats 0
set_option pp.deepTerms false
theorem mergeS_len (acc:List Sp) (x:Sp):(Zc5 acc x).length ≤ acc.length + 1:=by
  cases acc with
  | nil=>simp [Zc5]
  | cons s r=>simp only [Zc5]; split <;> simp
theorem foldl_len:∀ (ss acc:List Sp),(ss.foldl Zc5 acc).length ≤ acc.length + ss.length
  | [],acc=>by simp
  | x :: ss,acc=>by
    have:=foldl_len ss (Zc5 acc x)
    have:=mergeS_len acc x
    simp only [List.foldl_cons,List.length_cons]; omega
theorem norm_len (l:List Sp):(Zci l).length ≤ l.length:=by
  obtain ⟨ss,hp,hs⟩:=sorted_exists l
  rw [← norm_of_sorted hp hs]
  have h1:=foldl_len ss []
  have h2:=hp.length_eq
  have h3:=kept_le l
  simp only [mergeAll,List.length_reverse,List.length_nil,Nat.zero_add] at h1 ⊢
  omega
theorem ends_mem (l:List Sp) (x:Int):x ∈ endsS l ↔ ∃ s ∈ l,x = s.frm ∨ x = s.to:=by
  simp [endsS]
theorem sortI_sorted (zs:List Int):(sortI zs).Pairwise (· ≤ ·):=by
  have:=List.pairwise_mergeSort (le:=fun a b:Int=>decide (a ≤ b)) (fun a b c h1 h2=>by simp at *; omega) (fun a b=>by simp; omega) zs
  exact this.imp (by simp)
theorem cuts_ok (A B:List Sp):(cutsS A B).Pairwise (· < ·) ∧ (∀ s ∈ A,s.frm ∈ cutsS A B ∧ s.to ∈ cutsS A B) ∧ (∀ s ∈ B,s.frm ∈ cutsS A B ∧ s.to ∈ cutsS A B):=by
  obtain ⟨h1,h2⟩:=compact_sorted (sortI_sorted (endsS (A ++ B)))
  have h3:∀ x,x ∈ cutsS A B ↔ x ∈ endsS (A ++ B):=fun x=>(h2 x).trans (List.mergeSort_perm ..).mem_iff
  refine ⟨h1,fun s hs=>?_,fun s hs=>?_⟩
  · rw [h3,h3,ends_mem,ends_mem]
    exact ⟨⟨s,List.mem_append_left _ hs,.inl rfl⟩,⟨s,List.mem_append_left _ hs,.inr rfl⟩⟩
  · rw [h3,h3,ends_mem,ends_mem]
    exact ⟨⟨s,List.mem_append_right _ hs,.inl rfl⟩,⟨s,List.mem_append_right _ hs,.inr rfl⟩⟩
theorem both_spec (ct:Bool → Bool → Bool) (h0:ct false false = false) (a b:List Sp):Canon (bothS ct a b) ∧ ∀ d,memS (bothS ct a b) d ↔ ct (memB (Zci a) d) (memB (Zci b) d) = true:=by
  obtain ⟨c1,c2,c3⟩:=cuts_ok (Zci a) (Zci b)
  have hs:=fun d=>segs_law c1 c2 c3 (memB (Zci a)) (memB (Zci b)) (Zcu _) (Zcu _) ct h0 d
  obtain ⟨n1,n2⟩:=Zcj (segs (fun x=>ct (memB (Zci a) x) (memB (Zci b) x)) (cutsS (Zci a) (Zci b)))
  refine ⟨n1,fun d=>?_⟩
  rw [bothS,n2,hs]
  constructor
  · exact fun h=>h.2
  · intro h
    refine ⟨?_,h⟩
    cases e1:memB (Zci a) d with
    | true=>exact (Zcj a).1.valid ((Zcu _ _).1 e1)
    | false =>
      cases e2:memB (Zci b) d with
      | true=>exact (Zcj b).1.valid ((Zcu _ _).1 e2)
      | false=>rw [e1,e2,h0] at h; cases h
def c_dateset_Union_1:VC:=(.seq (.region [ZO 4 (.mv (.c (.bool false)))] false) (.seq (.region [ZM 5 0,ZM 6 5,ZG 7 (.mv (.t 1)) 6 false,ZO 8 (.pick (.t 6) (.c (.bool true)) (.t 7)),ZM 4 8] false) .ret))
def c_dateset_Union:VC:=(.seq (.region [ZO 4 (.mv (.c .nilsl))] false) (.seq (.region [ZM 5 0,ZM 6 1,ZO 7 (.call 43 [(.t 5),(.t 6),(.c (.fn (.func 44) [] []))]),ZM 4 7] false) .ret))
def c_dateset_Intersect_1:VC:=(.seq (.region [ZO 4 (.mv (.c (.bool false)))] false) (.seq (.region [ZM 5 0,ZM 6 5,ZG 7 (.mv (.t 1)) 6 true,ZO 8 (.pick (.t 6) (.t 7) (.c (.bool false))),ZM 4 8] false) .ret))
def c_dateset_Intersect:VC:=(.seq (.region [ZO 4 (.mv (.c .nilsl))] false) (.seq (.region [ZM 5 0,ZM 6 1,ZO 7 (.call 43 [(.t 5),(.t 6),(.c (.fn (.func 45) [] []))]),ZM 4 7] false) .ret))
def c_dateset_Truncate:VC:=(.seq (.region [ZO 4 (.mv (.c .nilsl))] false) (.seq (.region [ZM 5 0,ZM 6 1,ZO 7 (.build [(.int .i64 0),(.int .i64 0)] [(0,(1,(.c (.int .i64 0)))),(1,(1,(.t 6)))]),ZO 8 (.bslice 2 1 [(.int .i64 0),(.int .i64 0)] [(0,(.t 7))]),ZO 9 (.call 28 [(.t 5),(.t 8)]),ZM 4 9] false) .ret))
def c_dateset_ExtendFrom:VC:=(.seq (.region [ZO 4 (.mv (.c .nilsl))] false) (.seq (.region [ZM 5 0,ZM 6 1,ZO 7 (.call 14 [(.t 5),(.t 6)]),ZM 8 1,ZO 9 (.build [(.int .i64 0),(.int .i64 0)] [(0,(1,(.t 8))),(1,(1,(.c (.int .i64 1048577))))]),ZO 10 (.bslice 2 1 [(.int .i64 0),(.int .i64 0)] [(0,(.t 9))]),ZO 11 (.call 27 [(.t 7),(.t 10)]),ZM 4 11] false) .ret))
def ctOr (x y:Bool):Bool:=x || y
def ctAnd (x y:Bool):Bool:=x && y
theorem sp_dateset_Union_1 (x y:Bool):Zcn Tryz.prog 44 [.bool x,.bool y] (.bool (ctOr x y)):=by
  cases x <;>
  · refine Zb6 ?_ (cB _) (by simp only [Zce,List.mem_cons,List.not_mem_nil,or_false,forall_eq_or_imp,forall_eq,false_implies,implies_true]; repeat' (first  | exact cB _ | refine And.intro ?_ ?_))
    refine Zcc (vc:=c_dateset_Union_1) (ts:=[.t 4]) Go.Proofs.Tryz.func44 (by kernel_rfl) rfl rfl (Nat.le_of_ble_eq_true rfl) (by kernel_rfl) ?_
    unfold c_dateset_Union_1
    try dsimp only [ZM,ZO,ZN,ZG]
    refine Za9 (Zae [0,1] ?_)
    simp only [Zaa,Zah,Za5,pok,pval,VA.ev,Env.get,Env.put,Env.keep,Za0,Za6,Heap.nil,Nat.succ_ne_self,Nat.reduceEqDiff,ite_true,ite_false,true_and,reduceCtorEq,Nat.zero_add]
    refine Za9 (Zae [4] ?_)
    simp only [Zaa,Zah,Za8,Zav,Za5,pok,pval,VA.ev,Env.get,Env.put,Env.keep,Za6,Zbn,isBool,Nat.succ_ne_self,Nat.reduceEqDiff,Bool.false_eq_true,ite_true,ite_false,true_and,reduceCtorEq]
    refine Zca ?_
    try simp only [Env.get,retQ,resV,Zbl,RS.ev,RS.ok,ite_true,true_and,and_true]
    exact View.refl _ _
theorem sp_dateset_Intersect_1 (x y:Bool):Zcn Tryz.prog 45 [.bool x,.bool y] (.bool (ctAnd x y)):=by
  cases x <;>
  · refine Zb6 ?_ (cB _) (by simp only [Zce,List.mem_cons,List.not_mem_nil,or_false,forall_eq_or_imp,forall_eq,false_implies,implies_true]; repeat' (first  | exact cB _ | refine And.intro ?_ ?_))
    refine Zcc (vc:=c_dateset_Intersect_1) (ts:=[.t 4]) Go.Proofs.Tryz.func45 (by kernel_rfl) rfl rfl (Nat.le_of_ble_eq_true rfl) (by kernel_rfl) ?_
    unfold c_dateset_Intersect_1
    try dsimp only [ZM,ZO,ZN,ZG]
    refine Za9 (Zae [0,1] ?_)
    simp only [Zaa,Zah,Za5,pok,pval,VA.ev,Env.get,Env.put,Env.keep,Za0,Za6,Heap.nil,Nat.succ_ne_self,Nat.reduceEqDiff,ite_true,ite_false,true_and,reduceCtorEq,Nat.zero_add]
    refine Za9 (Zae [4] ?_)
    simp only [Zaa,Zah,Za8,Zao,Za5,pok,pval,VA.ev,Env.get,Env.put,Env.keep,Za6,Zbn,isBool,Nat.succ_ne_self,Nat.reduceEqDiff,Bool.false_eq_true,ite_true,ite_false,true_and,reduceCtorEq]
    refine Zca ?_
    try simp only [Env.get,retQ,resV,Zbl,RS.ev,RS.ok,ite_true,true_and,and_true]
    exact View.refl _ _
theorem sp_dateset_Union (l m:List Sp) (hl:l.length ≤ 10000) (hm:m.length ≤ 10000):Zcn Tryz.prog 27 [.sl 2 (l.map Sp.enc),.sl 2 (m.map Sp.enc)] (.sl 2 ((bothS ctOr l m).map Sp.enc)):=by
  refine Zb6 ?_ (Zb9 _) (by simp only [Zce,List.mem_cons,List.not_mem_nil,or_false,forall_eq_or_imp,forall_eq,false_implies,implies_true]; repeat' (first  | exact Zb9 _ | refine And.intro ?_ ?_))
  refine Zcc (vc:=c_dateset_Union) (ts:=[.t 4]) Go.Proofs.Tryz.func27 (by kernel_rfl) rfl rfl (Nat.le_of_ble_eq_true rfl) (by kernel_rfl) ?_
  unfold c_dateset_Union
  try dsimp only [ZM,ZO,ZN,ZG]
  refine Za9 (Zae [0,1] ?_)
  simp only [Zaa,Zah,Za5,pok,pval,VA.ev,Env.get,Env.put,Env.keep,Za0,Za6,Heap.nil,Nat.succ_ne_self,Nat.reduceEqDiff,ite_true,ite_false,true_and,reduceCtorEq,Nat.zero_add]
  refine Za9 (Zae [4] ?_)
  simp only [Zaa,Zah,Za5,pok,pval,VA.ev,Env.get,Env.put,Env.keep,Za6,Nat.succ_ne_self,List.map,Nat.reduceEqDiff,ite_true,ite_false,true_and,reduceCtorEq]
  refine Zb7 (sp_dateset_both ctOr _ sp_dateset_Union_1 l m hl hm (Nat.le_trans (norm_len l) hl) (Nat.le_trans (norm_len m) hm)) ?_
  skip
  refine Zca ?_
  try simp only [Env.get,retQ,resV,Zbl,RS.ev,RS.ok,ite_true,true_and,and_true]
  exact View.refl _ _
theorem sp_dateset_Intersect (l m:List Sp) (hl:l.length ≤ 10000) (hm:m.length ≤ 10000):Zcn Tryz.prog 28 [.sl 2 (l.map Sp.enc),.sl 2 (m.map Sp.enc)] (.sl 2 ((bothS ctAnd l m).map Sp.enc)):=by
  refine Zb6 ?_ (Zb9 _) (by simp only [Zce,List.mem_cons,List.not_mem_nil,or_false,forall_eq_or_imp,forall_eq,false_implies,implies_true]; repeat' (first  | exact Zb9 _ | refine And.intro ?_ ?_))
  refine Zcc (vc:=c_dateset_Intersect) (ts:=[.t 4]) Go.Proofs.Tryz.func28 (by kernel_rfl) rfl rfl (Nat.le_of_ble_eq_true rfl) (by kernel_rfl) ?_
  unfold c_dateset_Intersect
  try dsimp only [ZM,ZO,ZN,ZG]
  refine Za9 (Zae [0,1] ?_)
  simp only [Zaa,Zah,Za5,pok,pval,VA.ev,Env.get,Env.put,Env.keep,Za0,Za6,Heap.nil,Nat.succ_ne_self,Nat.reduceEqDiff,ite_true,ite_false,true_and,reduceCtorEq,Nat.zero_add]
  refine Za9 (Zae [4] ?_)
  simp only [Zaa,Zah,Za5,pok,pval,VA.ev,Env.get,Env.put,Env.keep,Za6,Nat.succ_ne_self,List.map,Nat.reduceEqDiff,ite_true,ite_false,true_and,reduceCtorEq]
  refine Zb7 (sp_dateset_both ctAnd _ sp_dateset_Intersect_1 l m hl hm (Nat.le_trans (norm_len l) hl) (Nat.le_trans (norm_len m) hm)) ?_
  skip
  refine Zca ?_
  try simp only [Env.get,retQ,resV,Zbl,RS.ev,RS.ok,ite_true,true_and,and_true]
  exact View.refl _ _
noncomputable def truncS (l:List Sp) (day:Int):List Sp:=bothS ctAnd l [⟨0,day⟩]
noncomputable def extendS (l:List Sp) (day:Int):List Sp:=bothS ctOr (truncS l day) [⟨day,1048577⟩]
theorem sp_dateset_Truncate (l:List Sp) (day:Int) (hl:l.length ≤ 10000):Zcn Tryz.prog 14 [.sl 2 (l.map Sp.enc),pI day] (.sl 2 ((truncS l day).map Sp.enc)):=by
  refine Zb6 ?_ (Zb9 _) (by simp only [Zce,List.mem_cons,List.not_mem_nil,or_false,forall_eq_or_imp,forall_eq,false_implies,implies_true]; repeat' (first  | exact cI _ | exact Zb9 _ | exact Zcs (by simp only [List.mem_cons,List.not_mem_nil,or_false,forall_eq]; first | exact cI _ | exact cS _ | exact Zcq _) | refine And.intro ?_ ?_))
  refine Zcc (vc:=c_dateset_Truncate) (ts:=[.t 4]) Go.Proofs.Tryz.func14 (by kernel_rfl) rfl rfl (Nat.le_of_ble_eq_true rfl) (by kernel_rfl) ?_
  unfold c_dateset_Truncate
  try dsimp only [ZM,ZO,ZN,ZG]
  refine Za9 (Zae [0,1] ?_)
  simp only [Zaa,Zah,Za5,pok,pval,VA.ev,Env.get,Env.put,Env.keep,Za0,Za6,Heap.nil,Nat.succ_ne_self,Nat.reduceEqDiff,ite_true,ite_false,true_and,reduceCtorEq,Nat.zero_add]
  refine Za9 (Zae [4] ?_)
  simp only [Zaa,Zah,Za5,pok,pval,VA.ev,Env.get,Env.put,Env.keep,Za6,Zbr,Zbb,PV.cells,PV.fits,overlay,Heap.push,Nat.le_refl,Nat.succ_ne_self,Zaz,Zal,List.map,List.set,List.replicate,List.length,List.take,List.drop,List.take_succ_cons,List.drop_succ_cons,List.cons_append,List.nil_append,Nat.reduceEqDiff,Nat.reduceAdd,Nat.reduceLT,Nat.reduceLeDiff,ite_true,ite_false,true_and,and_true,reduceCtorEq,BEq.rfl,Nat.zero_add,List.length_cons]
  refine ACall_f [.sl 2 (l.map Sp.enc),.sl 2 ([(⟨0,day⟩:Sp)].map Sp.enc)] ⟨View.refl _ _,?_,trivial⟩ (Zb7 (sp_dateset_Intersect l [⟨0,day⟩] hl (by simp)) ?_)
  · have hv:=View.own (h:=⟨[(0,.arr false 2 [[pI 0,pI day]])],1⟩) (id:=0) (off:=0) (len:=1) (z:=2) (fz:=false) (es:=[[pI 0,pI day]]) (by simp [Heap.get,HL.get]) (by simp)
    exact hv
  try simp only []
  refine Zca ?_
  try simp only [Env.get,retQ,resV,Zbl,RS.ev,RS.ok,ite_true,true_and,and_true]
  exact View.refl _ _
theorem sp_dateset_ExtendFrom (l:List Sp) (day:Int) (hl:l.length ≤ 10000) (hl2:(truncS l day).length ≤ 10000):Zcn Tryz.prog 13 [.sl 2 (l.map Sp.enc),pI day] (.sl 2 ((extendS l day).map Sp.enc)):=by
  refine Zb6 ?_ (Zb9 _) (by simp only [Zce,List.mem_cons,List.not_mem_nil,or_false,forall_eq_or_imp,forall_eq,false_implies,implies_true]; repeat' (first  | exact cI _ | exact Zb9 _ | exact Zcs (by simp only [List.mem_cons,List.not_mem_nil,or_false,forall_eq]; first | exact cI _ | exact cS _ | exact Zcq _) | refine And.intro ?_ ?_))
  refine Zcc (vc:=c_dateset_ExtendFrom) (ts:=[.t 4]) Go.Proofs.Tryz.func13 (by kernel_rfl) rfl rfl (Nat.le_of_ble_eq_true rfl) (by kernel_rfl) ?_
  unfold c_dateset_ExtendFrom
  try dsimp only [ZM,ZO,ZN,ZG]
  refine Za9 (Zae [0,1] ?_)
  simp only [Zaa,Zah,Za5,pok,pval,VA.ev,Env.get,Env.put,Env.keep,Za0,Za6,Heap.nil,Nat.succ_ne_self,Nat.reduceEqDiff,ite_true,ite_false,true_and,reduceCtorEq,Nat.zero_add]
  refine Za9 (Zae [4] ?_)
  simp only [Zaa,Zah,Za5,pok,pval,VA.ev,Env.get,Env.put,Env.keep,Za6,Zbr,Zbb,PV.cells,PV.fits,overlay,Heap.push,Nat.le_refl,Nat.succ_ne_self,Zaz,Zal,List.map,List.set,List.replicate,List.length,List.take,List.drop,List.take_succ_cons,List.drop_succ_cons,List.cons_append,List.nil_append,Nat.reduceEqDiff,Nat.reduceAdd,Nat.reduceLT,Nat.reduceLeDiff,ite_true,ite_false,true_and,and_true,reduceCtorEq,BEq.rfl,Nat.zero_add,List.length_cons]
  refine Zb7 (sp_dateset_Truncate l day hl) ?_
  try simp only [Nat.zero_add]
  refine ACall_f [.sl 2 ((truncS l day).map Sp.enc),.sl 2 ([(⟨day,1048577⟩:Sp)].map Sp.enc)] ⟨View.refl _ _,?_,trivial⟩ (Zb7 (sp_dateset_Union (truncS l day) [⟨day,1048577⟩] hl2 (by simp)) ?_)
  · have hv:=View.own (h:=⟨[(0,.arr false 2 [[pI day,pI 1048577]])],1⟩) (id:=0) (off:=0) (len:=1) (z:=2) (fz:=false) (es:=[[pI day,pI 1048577]]) (by simp [Heap.get,HL.get]) (by simp)
    exact hv
  try simp only []
  refine Zca ?_
  try simp only [Env.get,retQ,resV,Zbl,RS.ev,RS.ok,ite_true,true_and,and_true]
  exact View.refl _ _
end Go.Proofs.YthkbdabfjfffjaaGreatDoor.w
namespace Go.Proofs.YthkbdabfjfffjaaGreatDoor.w
open Go Go.VM
theorem norm_self {l:List Sp} (h:Canon l):Zci l = l:=norm_eq h fun d=>⟨fun hm=>⟨h.valid hm,hm⟩,fun hm=>hm.2⟩
theorem mem_one (a b d:Int):memS [⟨a,b⟩] d ↔ a ≤ d ∧ d < b:=by rw [Zcg]; simp [Zc0]
theorem trunc_spec (l:List Sp) (day:Int):Canon (truncS l day) ∧ ∀ d,memS (truncS l day) d ↔ validD d ∧ memS l d ∧ d < day:=by
  obtain ⟨h1,h2⟩:=both_spec ctAnd rfl l [⟨0,day⟩]
  refine ⟨h1,fun d=>(h2 d).trans ?_⟩
  rw [ctAnd,Bool.and_eq_true,Zcu,Zcu,(Zcj l).2,(Zcj _).2,mem_one]
  constructor
  · rintro ⟨⟨a,b⟩,c,e,f⟩; exact ⟨a,b,f⟩
  · rintro ⟨a,b,f⟩; exact ⟨⟨a,b⟩,a,a.1,f⟩
theorem extend_spec (l:List Sp) (day:Int):Canon (extendS l day) ∧ ∀ d,memS (extendS l day) d ↔ validD d ∧ (memS l d ∨ day ≤ d):=by
  obtain ⟨h1,h2⟩:=both_spec ctOr rfl (truncS l day) [⟨day,1048577⟩]
  refine ⟨h1,fun d=>(h2 d).trans ?_⟩
  rw [ctOr,Bool.or_eq_true,Zcu,Zcu,(Zcj _).2,(Zcj _).2,mem_one,(trunc_spec l day).2]
  constructor
  · rintro (⟨a,b,c,e⟩ | ⟨a,b,c⟩)
    · exact ⟨a,.inl c⟩
    · exact ⟨a,.inr b⟩
  · rintro ⟨a,b⟩
    by_cases h:day ≤ d
    · exact .inr ⟨a,h,a.2⟩
    · rcases b with b | b
      · exact .inl ⟨a,a,b,by omega⟩
      · exact absurd b h
end Go.Proofs.YthkbdabfjfffjaaGreatDoor.w
