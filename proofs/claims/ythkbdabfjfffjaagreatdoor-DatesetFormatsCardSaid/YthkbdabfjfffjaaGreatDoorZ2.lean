import Derived.Test.YthkbdabfjfffjaaGreatDoorR5
import Derived.Test.YthkbdabfjfffjaaGreatDoorD3
import Derived.Test.YthkbdabfjfffjaaGreatDoorVmAg
import Derived.Test.YthkbdabfjfffjaaGreatDoorVmI
import Derived.Lib.SplitLaws
set_option linter.all false
namespace Go.Proofs.YthkbdabfjfffjaaGreatDoor.w
open Go Go.VM
set_option maxRecDepth 20000
set_option maxHeartbeats 0
theorem idx_at {c:UInt8}:∀ {p t:Str},c ∉ p → Lib.indexByte (p ++ c :: t) c = p.length
  | [],t,_=>by rw [List.nil_append,Lib.indexByte,if_pos (by simp)]; rfl
  | b :: r,t,h=>by
    have h1:¬ b = c:=fun e=>h (by rw [e]; exact List.mem_cons_self)
    have ih:=idx_at (p:=r) (t:=t) fun hh=>h (List.mem_cons_of_mem _ hh)
    rw [List.cons_append,Lib.indexByte,if_neg (by simpa using h1),ih,if_neg (by simp),List.length_cons]
    push_cast; rfl
theorem idx_no {c:UInt8}:∀ {s:Str},c ∉ s → Lib.indexByte s c = -1
  | [],_=>rfl
  | b :: r,h=>by
    have h1:¬ b = c:=fun e=>h (by rw [e]; exact List.mem_cons_self)
    rw [Lib.indexByte,if_neg (by simpa using h1),idx_no fun hh=>h (List.mem_cons_of_mem _ hh)]; rfl
theorem cut_eq (c:UInt8) (s:Str):Lib.cut s [c] = cutC c s:=by
  unfold Lib.cut
  rw [Lib.index_one]
  by_cases h:c ∈ s
  · obtain ⟨p,t,rfl,hp⟩:=List.eq_append_cons_of_mem h
    rw [idx_at hp,cutC_at hp,if_pos (by omega)]
    simp
  · rw [idx_no h,cutC_no h,if_neg (by decide)]
theorem split_eq (c:UInt8):∀ (n:Nat) (s:Str),s.length ≤ n → Lib.splitK [c] 0 (Lib.count s [c]) s = Zco c s:=by
  intro n
  induction n with
  | zero =>
    intro s h
    have:s = []:=List.eq_nil_of_length_eq_zero (by omega)
    subst this
    have hi:Lib.index [] [c] = -1:=by rw [Lib.index_one]; rfl
    rw [Lib.count_miss hi]; rfl
  | succ n ih =>
    intro s h
    by_cases hc:c ∈ s
    · obtain ⟨p,t,rfl,hp⟩:=List.eq_append_cons_of_mem hc
      have hi:Lib.index (p ++ c :: t) [c] = (p.length:Int):=by rw [Lib.index_one,idx_at hp]
      have hd:(p ++ c :: t).drop (p.length + [c].length) = t:=by simp
      rw [Lib.count_hit (by simp) hi,hd,Nat.add_comm,Lib.splitK,hi,if_neg (by simp)]
      have e1:((p.length:Int)).toNat = p.length:=by omega
      rw [e1,hd,splitC_at hp,ih t (by simp at h; omega)]
      simp
    · have hi:Lib.index s [c] = -1:=by rw [Lib.index_one,idx_no hc]
      rw [Lib.count_miss hi,splitC_no hc]; rfl
theorem suf_eq (s:Str):Lib.hasSuffix s [43] = sufF s:=by
  unfold Lib.hasSuffix sufF
  rw [Bool.eq_iff_iff]
  rw [List.isSuffixOf_iff_suffix,beq_iff_eq]
  constructor
  · rintro ⟨t,rfl⟩; simp
  · intro h
    obtain ⟨t,rfl⟩:=List.getLast?_eq_some_iff.1 h
    exact ⟨t,rfl⟩
theorem trim_eq (s:Str):Lib.trimSuffix s [43] = trimF s:=by
  unfold Lib.trimSuffix trimF
  rw [suf_eq]
  split
  · rw [List.dropLast_eq_take]; rfl
  · rfl
theorem glob_int {g:Gh} {w:World} {h:Heap} (r:Rel g w h) {b:Nat} (hb:knownG.lookup b = some .int):∃ m,w.cell? ⟨b,0,none⟩ = some (.int .i64 m):=by
  obtain ⟨v,h1,m,rfl⟩:=g.m.kg b _ hb
  exact ⟨m,(r.mem _ _ _ h1).1⟩
theorem glob_ifc {g:Gh} {w:World} {h:Heap} (r:Rel g w h) {b:Nat} (hb:knownG.lookup b = some .ifc):∃ ev,w.cell? ⟨b,0,none⟩ = some ev ∧ (ev = .nilIface ∨ ∃ te pe,ev = .iface te pe):=by
  obtain ⟨v,h1,h2⟩:=g.m.kg b _ hb
  exact ⟨v,(r.mem _ _ _ h1).1,h2⟩
theorem below_drewN (w:World) (n:Nat):RowKit.Below w.heap.size w (w.drewN n):=⟨rfl,rfl,rfl,Nat.le_refl _,fun _ _=>rfl⟩
theorem below_bytesF (w:World) (t:TypeId) (s:ByteArray):RowKit.Below w.heap.size w (Lib.bytesWorld w t s):=⟨rfl,rfl,rfl,by rw [Lib.bytesWorld_size]; omega,fun j hj=>Lib.bytesWorld_at_old w t s j hj⟩
theorem cl2 (a b:Str):Zce [.str a,.str b]:=by intro x hx; simp only [List.mem_cons,List.not_mem_nil,or_false] at hx; rcases hx with rfl | rfl <;> exact cS _
theorem sp_HasSuffix (s:Str) (hl:s.length ≤ 1000000):Zcn Tryz.prog 35 [.str s,.str [43]] (.bool (sufF s)):=by
  refine PCall_of (by kernel_rfl) (cl2 _ _) fun g w vals r ha=>?_
  obtain ⟨v,u,rfl,hv,hu⟩:=args_2 ha
  obtain ⟨z,rfl,hs⟩:=hv.str_inv
  obtain ⟨y,rfl,hy⟩:=hu.str_inv
  rw [str_eq hs,str_eq hy]
  refine (Tryz.strings_HasSuffix _ _ w (by show s.toArray.size ≤ _; simp; omega)).mono ?_
  rintro e w' ⟨rfl,rfl⟩
  refine ⟨_,rfl,fun g=>?_,RowKit.Below.refl _ _⟩
  have:Lib.hasSuffix (⟨s.toArray⟩:ByteArray).data.toList (⟨[43].toArray⟩:ByteArray).data.toList = sufF s:=suf_eq s
  rw [this]; exact .bool _
theorem sp_TrimSuffix (s:Str) (hl:s.length ≤ 1000000):Zcn Tryz.prog 37 [.str s,.str [43]] (.str (trimF s)):=by
  refine PCall_of (by kernel_rfl) (cl2 _ _) fun g w vals r ha=>?_
  obtain ⟨v,u,rfl,hv,hu⟩:=args_2 ha
  obtain ⟨z,rfl,hs⟩:=hv.str_inv
  obtain ⟨y,rfl,hy⟩:=hu.str_inv
  rw [str_eq hs,str_eq hy]
  refine (Tryz.strings_TrimSuffix _ _ w (by show s.toArray.size ≤ _; simp; omega)).mono ?_
  rintro e w' ⟨rfl,rfl⟩
  refine ⟨_,rfl,fun g=>.str _ _ ?_,RowKit.Below.refl _ _⟩
  show Lib.trimSuffix s [43] = trimF s
  exact trim_eq s
theorem sp_Cut (s:Str) (hl:s.length ≤ 1000000):Zcn Tryz.prog 34 [.str s,.str [45]] (.tup [.str (cutC 45 s).1,.str (cutC 45 s).2.1,.bool (cutC 45 s).2.2]):=by
  refine PCall_of (by kernel_rfl) (cl2 _ _) fun g w vals r ha=>?_
  obtain ⟨v,u,rfl,hv,hu⟩:=args_2 ha
  obtain ⟨z,rfl,hs⟩:=hv.str_inv
  obtain ⟨y,rfl,hy⟩:=hu.str_inv
  rw [str_eq hs,str_eq hy]
  obtain ⟨m,hm⟩:=glob_int r (b:=0) rfl
  refine (Tryz.strings_Cut _ _ m w (by show s.toArray.size < _; simp; omega) hm).mono ?_
  rintro e w' ⟨rfl,n,rfl⟩
  have hc:Lib.cut (⟨s.toArray⟩:ByteArray).data.toList (⟨[45].toArray⟩:ByteArray).data.toList = cutC 45 s:=cut_eq 45 s
  rw [hc]
  refine ⟨_,rfl,fun g=>.tup _ _ rfl fun j hj=>?_,below_drewN _ _⟩
  match j,hj with
  | 0,_=>exact .str _ _ (by simp)
  | 1,_=>exact .str _ _ (by simp)
  | 2,_=>exact .bool _
def errP (ok:Bool):PV:=if ok then .nilif else .ifc 110 .any
theorem sp_AtoiF (s:Str) (hl:s.length ≤ 1000000):Zcn Tryz.prog 36 [.str s] (.tup [pI (atoiF s).1,errP (atoiF s).2]):=by
  refine PCall_of (by kernel_rfl) (by intro x hx; rw [List.mem_singleton] at hx; subst hx; exact cS _) fun g w vals r ha=>?_
  obtain ⟨v,rfl,hv⟩:=args_1 ha
  obtain ⟨z,rfl,hs⟩:=hv.str_inv
  rw [str_eq hs]
  have hsz:(⟨s.toArray⟩:ByteArray).size = s.length:=by show s.toArray.size = _; simp
  have hdl:(⟨s.toArray⟩:ByteArray).data.toList = s:=by simp
  unfold atoiF
  cases hA:Lib.atoiAll s with
  | ok n =>
    refine (Tryz.strconv_Atoi_ok ⟨s.toArray⟩ (by rw [hsz]; omega) n (by rw [hdl]; exact hA) w).mono ?_
    rintro e w' ⟨rfl,hw⟩
    refine ⟨_,rfl,fun g=>.tup _ _ rfl fun j hj=>?_,?_⟩
    · match j,hj with
      | 0,_=>exact .int _ _
      | 1,_=>exact .nilif
    · rcases hw with rfl | ⟨t,rfl⟩
      · exact RowKit.Below.refl _ _
      · exact below_bytesF _ _ _
  | «range» =>
    obtain ⟨ev,e1,e2⟩:=glob_ifc r (b:=2) rfl
    refine (Tryz.strconv_Atoi_range ⟨s.toArray⟩ (by rw [hsz]; omega) (by rw [hdl]; exact hA) ev w e1 e2).mono ?_
    rintro e w' ⟨N,rfl,_,_,hb⟩
    refine ⟨_,rfl,fun g=>.tup _ _ rfl fun j hj=>?_,hb⟩
    match j,hj with
    | 0,_=>exact .int _ _
    | 1,_=>exact .ifc _ _ _ (.any _)
  | «syntax» =>
    obtain ⟨ev,e1,e2⟩:=glob_ifc r (b:=1) rfl
    refine (Tryz.strconv_Atoi_syntax ⟨s.toArray⟩ (by rw [hsz]; omega) (by rw [hdl]; exact hA) ev w e1 e2).mono ?_
    rintro e w' ⟨N,rfl,_,_,hb⟩
    refine ⟨_,rfl,fun g=>.tup _ _ rfl fun j hj=>?_,hb⟩
    match j,hj with
    | 0,_=>exact .int _ _
    | 1,_=>exact .ifc _ _ _ (.any _)
theorem sp_Split (s:Str) (hl:s.length ≤ 1000000):Zcn Tryz.prog 18 [.str s,.str [44]] (It.strs (Zco 44 s)):=by
  refine ⟨by kernel_rfl,cl2 _ _,fun g w vals r ha=>?_⟩
  obtain ⟨v,u,rfl,hv,hu⟩:=args_2 ha
  obtain ⟨z,rfl,hs⟩:=hv.str_inv
  obtain ⟨y,rfl,hy⟩:=hu.str_inv
  rw [str_eq hs,str_eq hy]
  obtain ⟨m,hm⟩:=glob_int r (b:=0) rfl
  have hd:=Lib.splitB_data ⟨[44].toArray⟩ 0 (Lib.countB ⟨s.toArray⟩ ⟨[44].toArray⟩) ⟨s.toArray⟩
  have hd2:Lib.splitK (⟨[44].toArray⟩:ByteArray).data.toList 0 (Lib.countB ⟨s.toArray⟩ ⟨[44].toArray⟩) (⟨s.toArray⟩:ByteArray).data.toList = Zco 44 s:=split_eq 44 s.length s (Nat.le_refl _)
  rw [hd2] at hd
  have hcon:=Tryz.strings_Split ⟨s.toArray⟩ ⟨[44].toArray⟩ m w (by show s.toArray.size < _; simp; omega) hm (by decide)
  have hlen:(Lib.splitB ⟨[44].toArray⟩ 0 (Lib.countB ⟨s.toArray⟩ ⟨[44].toArray⟩) ⟨s.toArray⟩).length = Lib.countB ⟨s.toArray⟩ ⟨[44].toArray⟩ + 1:=Lib.splitB_all _ (by decide) 0 _ _ rfl
  generalize Lib.splitB ⟨[44].toArray⟩ 0 (Lib.countB ⟨s.toArray⟩ ⟨[44].toArray⟩) ⟨s.toArray⟩ = F at *
  generalize Lib.countB ⟨s.toArray⟩ ⟨[44].toArray⟩ + 1 = N at *
  refine hcon.mono ?_
  rintro e w' ⟨rfl,rfl⟩
  have hb:RowKit.Below w.heap.size w (w.alloc (.cells (F.map Value.string).toArray 9)):=(RowKit.Below.refl _ w).alloc (Nat.le_refl _) _
  have hl2:(F.map Value.string).length = N:=by rw [List.length_map,hlen]
  have hfl:(Zco 44 s).length = N:=by rw [← hd,List.length_map,hlen]
  have hget:∀ j,j < N → (F.map Value.string).getD j Go.undef = .string (F.getD j ⟨#[]⟩):=fun j hj=>by
    have:j < F.length:=by omega
    simp [List.getD_eq_getElem?_getD,this]
  have hgf:∀ j,j < N → (F.getD j ⟨#[]⟩).data.toList = (Zco 44 s).getD j []:=fun j hj=>by
    have:j < F.length:=by omega
    rw [← hd]; simp [List.getD_eq_getElem?_getD,this]
  obtain ⟨m', hr, hm'⟩ := row_result (cap := N) (gb := w.heap.size) r hb (F.map Value.string) ((Zco 44 s).map PV.str) (by rw [List.length_map, hl2, hfl]) (fun j hj g => by
      rw [hl2] at hj
      rw [hget j hj]
      have:PV.nth ((Zco 44 s).map PV.str) j = .str ((Zco 44 s).getD j []):=by
        have hj':j < (Zco 44 s).length:=by omega
        simp [PV.nth,List.getD_eq_getElem?_getD,hj']
      rw [this]
      exact .str _ _ (hgf j hj)) (fun j hj=>by rw [hl2] at hj; rw [hget j hj]; rfl) (Nat.le_refl _) (by
        show (w.heap.push _)[w.heap.size]? = _
        rw [Array.getElem?_push_size]) (by rw [hl2]; exact Nat.le_refl _) (fun j hj=>by
      have hj2:j < (F.map Value.string).length:=hj
      rw [List.getD_eq_getElem?_getD]
      simp [List.getElem?_eq_getElem hj2])
  rw [hl2,List.map_map] at hr
  exact ⟨_,m',rfl,hr,hm',hb⟩
end Go.Proofs.YthkbdabfjfffjaaGreatDoor.w
