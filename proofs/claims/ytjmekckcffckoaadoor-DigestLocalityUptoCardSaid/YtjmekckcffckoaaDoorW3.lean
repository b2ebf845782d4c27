import Derived.RangeFuncBox
import Derived.RangeFuncNested
import Derived.RangeFuncLeaves
import Derived.Shelf.Abstract
import Derived.WalkKit
import Derived.OwnWalkIn
import Derived.TacticsInMore
import Derived.LoopNIn
import Derived.LoopIn
import Derived.Maps.AppendAt
import Derived.Sort.OwnSorted
import Derived.Sort.MapsRangeIn
import Derived.Test.YtjmekckcffckoaaDoorVmAm
import Derived.Test.YtjmekckcffckoaaDoorChecked
import Derived.Test.YtjmekckcffckoaaDoorA4
set_option linter.all false
namespace Go.Proofs.YtjmekckcffckoaaDoor.w
open Go Go.RowKit Go.Shelf Go.Sort Go.VM
set_option maxRecDepth 100000
attribute [local go_sem] Oper.semAt_some
def idV (x:Idt):Value:=.agg #[.int .i64 x.act,.int .i64 x.item,.int .i64 x.n]
def idC (x:Idt):List Value:=[.int .i64 x.act,.int .i64 x.item,.int .i64 x.n]
section
variable {F : Fence} {n : Nat} {P : Program} (w : World) {ops : Array Oper} {rest : List Oper} {o : Oper} {a : Act} {Q : Exit → Act → World → Prop}
theorem wpListIn_range_raw (hg : o.guard = none) (m : Operand) (t : TypeId) (hop : o.op = Op.range t m) (k e : TypeId) (ht : P.underlying t = some (.map k e)) (b clock : Nat) (es : Array MapEntry)
    (hm:a.eval m = .map (some b)) (hb:w.heap[b]? = some (.map es clock)) (hK:wpListIn F n P ops Q rest (a.put o.dst (.pointer (some ⟨w.heap.size,0,none⟩))) (w.alloc (.mapIter (some b) clock #[] clock))) :
    wpListIn F n P ops Q (o :: rest) a w:=by
  refine wpListIn_plain hg fun K' hK'=>?_
  have hrun:=run_range_map (P:=P) w t k e b es clock ht hb
  unfold Oper.wpIn
  refine ⟨?_,?_⟩
  · simp [Oper.about,hop]
  · rw [Oper.semAt_plain F _ _ (by rw [hop]; intro c hc'; cases hc')]
    simp [execOp,hop,hm,hrun,Result.andThen]
    exact hK' _ _ hK
theorem wpListIn_next_raw (hg : o.guard = none) (it : Operand) (hop : o.op = Op.next it false) (r0 bm clock : Nat) (seen : Array Nat) (es : Array MapEntry)
    (hit:a.eval it = .pointer (some ⟨r0,0,none⟩)) (hr:w.heap[r0]? = some (.mapIter (some bm) clock seen clock)) (hb:w.heap[bm]? = some (.map es clock)) (hst:MapKept.Stamped es clock)
    (hDone:(leftOf es seen).size = 0 → wpListIn F n P ops Q rest (a.put o.dst (.tuple #[.bool false])) w)
    (hMore:∀ e ∈ (leftOf es seen).toList,∀ w',w.grownBy w' (some r0) → w'.heap.size = w.heap.size → w'.heap[r0]? = some (.mapIter (some bm) clock (seen.push e.born) clock) → w'.heap[bm]? = some (.map es clock) →
      (Instr.entry (.pointer (some ⟨r0,0,none⟩))).run P w' = .ok (.tuple #[e.key,e.val]) w' → wpListIn F n P ops Q rest (a.put o.dst (.tuple #[.bool true,e.key,e.val])) w') :
    wpListIn F n P ops Q (o :: rest) a w:=by
  refine wpListIn_plain hg fun K' hK'=>?_
  unfold Oper.wpIn
  refine ⟨by simp [Oper.about,hop],?_⟩
  rw [Oper.semAt_plain F _ _ (by rw [hop]; intro c hc'; cases hc')]
  rcases next_run (P:=P) w o.type r0 bm clock seen es hr hb hst.1 with ⟨h0,hrun⟩ | ⟨e,he,k,hrun⟩
  · simp [execOp,hop,hit,hrun,Result.andThen]
    exact hK' _ _ (hDone h0)
  · simp [execOp,hop,hit,hrun,Result.andThen]
    refine hK' _ _ ?_
    have hset:=MapKept.heap_set (w:=w) (o':=.mapIter (some bm) clock (seen.push e.born) clock) hr
    have hbm:bm ≠ r0:=by rintro rfl; rw [hr] at hb; cases hb
    obtain ⟨hm1,_⟩:=mem_left he
    have hfind:es.find? (·.born == e.born) = some e:=by
      rw [← Array.find?_toList]; exact find_born e es.toList hst.2.1 hm1
    refine hMore e he { w with drawn:=k,heap:=w.heap.setIfInBounds r0 (.mapIter (some bm) clock (seen.push e.born) clock) } ⟨rfl,rfl,rfl,by simp,fun j _ hj=>hset.2 j (fun e=>hj (by rw [e]))⟩ (by simp) hset.1 ((hset.2 bm hbm).trans hb) ?_
    have e1:(w.heap.setIfInBounds r0 (.mapIter (some bm) clock (seen.push e.born) clock))[r0]? = _:=hset.1
    have e2:(w.heap.setIfInBounds r0 (.mapIter (some bm) clock (seen.push e.born) clock))[bm]? = _:=(hset.2 bm hbm).trans hb
    simp only [Instr.entry,getObj,Sem.run_bind,Sem.run,e1,e2,Result.andThen,Array.back?_push,bne_self_eq_false,Bool.false_eq_true,if_false,hfind]
    rfl
end
structure SeenAt (ents : Array MapEntry) (clock bm it : Nat) (seen : List Nat) (W : World) : Prop where
  it : ∃ stamps : Array Nat, W.heap[it]? = some (.mapIter (some bm) clock stamps clock) ∧ stamps.toList = seen.map (fun i => (ents.getD i default).born)
  mp : W.heap[bm]? = some (.map ents clock)
  nodup : seen.Nodup
  lt : ∀ i ∈ seen, i < ents.size
def leftM (n it:Nat) (W:World):Nat:=n - (match W.heap[it]? with | some (.mapIter _ _ s _)=>s.size | _=>0)
theorem SeenAt.left {ents:Array MapEntry} {clock bm it:Nat} {seen:List Nat} {W:World} (h:SeenAt ents clock bm it seen W) (n:Nat):leftM n it W = n - seen.length:=by
  obtain ⟨st,h1,h2⟩:=h.it
  have:st.size = seen.length:=by rw [← Array.length_toList,h2,List.length_map]
  simp [leftM,h1,this]
theorem SeenAt.walks {ents:Array MapEntry} {clock bm it:Nat} {seen:List Nat} {W W':World} (h:SeenAt ents clock bm it seen W) (hk:KeepsWalks W W'):SeenAt ents clock bm it seen W':=by
  obtain ⟨⟨st,h1,h2⟩,h3,h4,h5⟩:=h
  exact ⟨⟨st,hk.same _ _ h1 rfl,h2⟩,hk.same _ _ h3 rfl,h4,h5⟩
theorem seen_iff {ents:Array MapEntry} {clock:Nat} (hst:MapKept.Stamped ents clock) {stamps:Array Nat} {seen:List Nat} (h6:stamps.toList = seen.map (fun i=>(ents.getD i default).born)) (h7:∀ i ∈ seen,i < ents.size) (i:Nat) (hi:i < ents.size):stamps.contains ents[i].born = true ↔ i ∈ seen:=by
  have hmap:∀ i,(hi:i < ents.size) → (ents.getD i default).born = ents[i].born:=fun i hi=>by simp [Array.getD_eq_getD_getElem?,hi]
  rw [Array.contains_iff_mem,← Array.mem_toList_iff,h6,List.mem_map]
  constructor
  · rintro ⟨j,hj,hjb⟩
    have hj':=h7 j hj
    rw [hmap j hj'] at hjb
    have hn:=hst.2.1
    have:i = j:=by
      have h2:(ents.toList.map (·.born))[i]'(by simpa using hi) = (ents.toList.map (·.born))[j]'(by simpa using hj'):=by simpa using hjb.symm
      exact (List.getElem_inj hn).1 h2
    exact this ▸ hj
  · exact fun h=>⟨i,h,hmap i hi⟩
theorem nod_bound3 {seen:List Nat} {n:Nat} (h:seen.Nodup) (hb:∀ i ∈ seen,i < n):seen.length ≤ n:=by
  have:=List.Nodup.length_le_of_subset h (l₂:=List.range n) (fun i hi=>List.mem_range.2 (hb i hi))
  simpa using this
theorem perm_of_all {α:Type} [Inhabited α] (xs:List α) {seen:List Nat} (hn:seen.Nodup) (hl:∀ i ∈ seen,i < xs.length) (hall:∀ i,i < xs.length → i ∈ seen):(seen.map fun i=>xs.getD i default).Perm xs:=by
  have hp:seen.Perm (List.range xs.length):=(List.perm_ext_iff_of_nodup hn List.nodup_range).2 fun i=>by
    rw [List.mem_range]
    exact ⟨hl i,hall i⟩
  have h2:=hp.map fun i=>xs.getD i default
  have h3:(List.range xs.length).map (fun i=>xs.getD i default) = xs:=by
    apply List.ext_getElem
    · simp
    · intro i h1 h2
      simp [List.getD_eq_getElem?_getD,h2]
  rwa [h3] at h2
set_option maxHeartbeats 4000000 in
theorem keysId1_in (F : Fence) (n : Nat) (h10 : F.fn 57) (hro : F.round = none) (hn : 1 ≤ n) (l Bm bm clock : Nat) (ents : Array MapEntry) (xs : List Idt) (hst : MapKept.Stamped ents clock) (hxs : ents.size = xs.length)
    (hkey:∀ i (h:i < ents.size),ents[i].key = idV (xs.getD i default)) (J Jx:List Idt → World → Prop)
    (hY:∀ pre x W,J pre W → pre.length < xs.length → YieldAt F (n - 1) Tryd.prog l #[idV x] W fun e W'=>(e = .returned (.bool true) ∧ J (pre ++ [x]) W' ∧ KeepsWalks W W') ∨ (e = .returned (.bool false) ∧ Jx (pre ++ [x]) W'))
    (W:World) (hJ:AbidesFrom W.heap.size J) (hm:W.cell? ⟨Bm,0,none⟩ = some (.map (some bm))) (hb:W.heap[bm]? = some (.map ents clock)) (h0:J [] W) :
    CallsIn F n Tryd.prog 57 #[.func (.yield l) #[] #[],.pointer (some ⟨Bm,0,none⟩)] W fun e W'=>(∃ v,e = .returned v) ∧ ((∃ ss,ss.Perm xs ∧ J ss W') ∨ (∃ pre,Jx pre W')):=by
  refine callsIn_of_wp Tryd.func57 rfl h10 ?_ hro
  simp only [Tryd.ntmps57,List.size_toArray,List.length_cons,List.length_nil,Nat.reduceAdd,Nat.reduceSub,Array.replicate_succ,Array.replicate_zero,List.push_toArray,List.append_toArray,List.nil_append,List.cons_append]
  have hbl:bm < W.heap.size:=(Array.getElem?_eq_some_iff.1 hb).1
  gi_wp2_with (first
    | (gi_at_range; refine wpListIn_range_raw _ rfl _ 59 rfl _ _ Tryd.underlying59 bm clock ents rfl hb ?_)
    | gi_in)
  have hS0:SeenAt ents clock bm W.heap.size [] (W.alloc (.mapIter (some bm) clock #[] clock)):=⟨⟨#[],heap_alloc_new W _,rfl⟩,(Below.heap_alloc W _ bm hbl).trans hb,.nil,by simp⟩
  have hJ0:J [] (W.alloc (.mapIter (some bm) clock #[] clock)):=hJ [] W _ none h0 (World.grownBy_alloc W _ none) (fun r e=>by cases e)
  have hsz0:W.heap.size < (W.alloc (.mapIter (some bm) clock #[] clock)).heap.size:=by simp
  generalize (W.alloc (.mapIter (some bm) clock #[] clock)) = W0 at hS0 hJ0 hsz0 ⊢
  go_frame
  gi_loopw [3] (fun _ wr=>∃ seen:List Nat,SeenAt ents clock bm W.heap.size seen wr ∧ J (seen.map fun i=>xs.getD i default) wr)
    (fun _ wr=>leftM ents.size W.heap.size wr)
  case atStart=>exact ⟨[],hS0,hJ0⟩
  case round =>
    obtain ⟨seen,hS,hJs⟩:=hrel
    obtain ⟨stamps,hit,hstm⟩:=hS.it
    gi_wp2_with (first
      | (gi_at_next; refine wpListIn_next_raw _ rfl _ rfl W.heap.size bm clock stamps ents rfl hit hS.mp hst ?_ ?_)
      | gi_in)
    · -- nothing is left
      intro hl0
      gi_wp2
      go_end0
      refine ⟨⟨_,rfl⟩,.inl ⟨_,perm_of_all xs hS.nodup (fun i hi=>by have:=hS.lt i hi; omega) (fun i hi=>?_),hJs⟩⟩
      have hi':i < ents.size:=by omega
      exact (seen_iff hst hstm hS.lt i hi').1 (all_seen ents stamps (by simpa using hl0) ents[i] (by simp))
    · -- an entry has come
      intro en hen w2 hg2 hs2 hr2 hb2 hrun
      obtain ⟨hm1,hm2⟩:=mem_left (by simpa using hen:en ∈ (leftOf ents stamps).toList)
      obtain ⟨i,hi,rfl⟩:=List.mem_iff_getElem.1 hm1
      have hi':i < ents.size:=by simpa using hi
      have hei:ents.toList[i] = ents[i]:=by simp
      rw [hei] at hrun hm2 hr2
      rw [hei]
      have hns:i ∉ seen:=fun h=>by rw [(seen_iff hst hstm hS.lt i hi').2 h] at hm2; cases hm2
      rw [hkey i hi'] at hrun ⊢
      generalize hx:xs.getD i default = x at hrun ⊢
      have hJ2:J (seen.map fun i=>xs.getD i default) w2:=hJ _ wr w2 (some W.heap.size) hJs hg2 (fun r e=>by cases e; exact ⟨Nat.le_refl _,_,hit,rfl⟩)
      have hS2:SeenAt ents clock bm W.heap.size (seen ++ [i]) w2:=⟨⟨_,hr2,by rw [Array.toList_push,hstm,List.map_append]; simp [Array.getD_eq_getD_getElem?,hi']⟩,hb2,by
        rw [List.nodup_append]
        exact ⟨hS.nodup,by simp,fun a ha b hb=>by rw [List.mem_singleton] at hb; rw [hb]; exact fun e=>hns (e ▸ ha)⟩,fun j hj=>by
        rcases List.mem_append.1 hj with h | h
        · exact hS.lt j h
        · rw [List.mem_singleton] at h; omega⟩
      have hll:seen.length < xs.length:=by
        have h1:=nod_bound3 (n:=xs.length) hS2.nodup (fun j hj=>by have:=hS2.lt j hj; omega)
        simp at h1; omega
      have hJ3:J (seen.map fun i=>xs.getD i default) (w2.alloc (.cells #[.int .i64 x.act,.int .i64 x.item,.int .i64 x.n] 26)):=hJ _ w2 _ none hJ2 (World.grownBy_alloc _ _ none) (fun r e=>by cases e)
      have hS3:SeenAt ents clock bm W.heap.size (seen ++ [i]) (w2.alloc (.cells #[.int .i64 x.act,.int .i64 x.item,.int .i64 x.n] 26)):=hS2.walks (KeepsWalks.alloc _ _)
      obtain ⟨fn,tmps,assign,body,hy,hR⟩:=hY _ x _ hJ3 (by simpa using hll)
      have hmp:(seen ++ [i]).map (fun i=>xs.getD i default) = seen.map (fun i=>xs.getD i default) ++ [x]:=by rw [List.map_append,List.map_cons,List.map_nil,hx]
      unfold idV at hrun hy ⊢
      clear hs2 hJ2 hS2
      gi_wp2
      refine hR.mono ?_
      rintro e W3 (⟨rfl,hJ4,hk4⟩ | ⟨rfl,hJx4⟩)
      · gi_wp2
        have hS4:=hS3.walks hk4
        go_roundw
        case rel=>exact ⟨seen ++ [i],hS4,by rw [hmp]; exact hJ4⟩
        case measure=>rw [hS4.left,hS.left]; simp; omega
      · gi_wp2
        refine bodyPost_ret (results_none rfl _ _ _) rfl ?_
        exact ⟨⟨_,rfl⟩,.inr ⟨_,hJx4⟩⟩
theorem keysId_stops (F : Fence) (n : Nat) (h10 : F.fn 57) (hro : F.round = none) (hn : 1 ≤ n) (Bm bm clock : Nat) (ents : Array MapEntry) (xs : List Idt) (hst : MapKept.Stamped ents clock) (hxs : ents.size = xs.length)
    (hkey:∀ i (h:i < ents.size),ents[i].key = idV (xs.getD i default)) (w:World) (hBm:Bm < w.heap.size) (hm:w.cell? ⟨Bm,0,none⟩ = some (.map (some bm))) (hb:w.heap[bm]? = some (.map ents clock)) :
    SeqStopsK F n Tryd.prog 57 #[.pointer (some ⟨Bm,0,none⟩)] (fun x:Idt=>#[idV x]) KeepsWalks (fun ss=>ss.Perm xs) (fun _=>True) xs.length w:=fun l J Jx W hW hJ _ hY h0=>by
  refine (keysId1_in F n h10 hro hn l Bm bm clock ents xs hst hxs hkey J Jx hY W hJ ((hW.cell (p:=⟨Bm,0,none⟩) hBm).trans hm) ((hW.block bm (Array.getElem?_eq_some_iff.1 hb).1).trans hb) h0).mono ?_
  rintro e W' ⟨he,⟨ss,h1,h2⟩ | ⟨pre,h2⟩⟩
  · exact ⟨he,.inl ⟨ss,h1,h2⟩⟩
  · exact ⟨he,.inr ⟨pre,trivial,h2⟩⟩
theorem infoId:(Tryd.prog.info? 26).map (fun i=>(i.zero,i.size,i.bytes)) = some (some (.agg #[.int .i64 0,.int .i64 0,.int .i64 0]),3,24):=by kernel_rfl
theorem cells_new3 (W:World) (t:TypeId) (a b c:Value):∀ j u,[a,b,c][j]? = some u → (W.alloc (.cells #[a,b,c] t)).cell? ((⟨W.heap.size,0,none⟩:Addr).add j) = some u:=by
  intro j u h
  have hb:=World.alloc_heap_new W (.cells #[a,b,c] t)
  generalize (W.alloc (.cells #[a,b,c] t)) = W1 at hb ⊢
  match j,h with
  | 0,h=>simp at h; subst h; simp [World.cell?,Addr.add,hb]
  | 1,h=>simp at h; subst h; simp [World.cell?,Addr.add,hb]
  | 2,h=>simp at h; subst h; simp [World.cell?,Addr.add,hb]
def AxId (Bs n0:Nat) (sv:Value) (x:Idt) (a:Act) (W:World):Prop :=
  ∃ b,n0 ≤ b ∧ W.heap[b]? = some (.cells #[.int .i64 x.act,.int .i64 x.item,.int .i64 x.n] 26 (0,0)) ∧
    a = { tmps:=#[.slice none 0 0,sv,.pointer (some ⟨Bs,0,none⟩),undef,.slice none 0 0,.pointer (some ⟨b,0,none⟩),sv,idV x,undef,undef,undef,undef,undef],defers:=[] }
theorem axId_own (Bs n0:Nat) (sv:Value) (x:Idt) (a:Act) (B:Nat):OwnFrom B (fun (_:Unit) W=>AxId Bs n0 sv x a W):=by
  rintro s W W' row ⟨b,hb,hc,ha⟩ hg hr
  refine ⟨b,hb,(hg.block b (Array.getElem?_eq_some_iff.1 hc).1 (fun e=>?_)).trans hc,ha⟩
  obtain ⟨_,o,ho,hn⟩:=hr b e.symm
  rw [hc] at ho; cases ho; cases hn
set_option maxHeartbeats 4000000 in
theorem appendSeqId_in (F : Fence) (n : Nat) (h1 : F.fn 73) (hro : F.round = none) (hn : 2 ≤ n) (g : Nat) (lb : Array Value) (hFg : F.fn g) (eg : ∀ args w, (callFunc g args).run Tryd.prog w = .ok (.enter g args) w)
    (S Sp:List Idt → Prop) (N:Nat) (hN:N ≤ 1000000) (w:World) (hseq:SeqStopsK F (n - 1) Tryd.prog g lb (fun x:Idt=>#[idV x]) KeepsWalks S Sp N w) :
    CallsIn F n Tryd.prog 73 #[.slice none 0 0,.func (.func g) #[] lb] w fun e w'=>∃ (v:Value) (ss:List Idt),e = .returned v ∧ S ss ∧ w'.ownsRow w.heap.size 26 3 v ss.length (ss.flatMap idC) ∧ (v = .slice none 0 0 ↔ ss = []) ∧ Below w.heap.size w w':=by
  have h1':1 ≤ n:=by omega
  have hNm:1000000 ≤ maxLen:=by decide
  obtain ⟨i0,hi,hz0,hz1,hz2⟩:=info_parts infoId
  refine callsIn_of_wp_marks Tryd.func73 rfl h1 ?_ hro
  simp only [Tryd.ntmps73,List.size_toArray,List.length_cons,List.length_nil,Nat.reduceAdd,Nat.reduceSub,Array.replicate_succ,Array.replicate_zero,List.push_toArray,List.append_toArray,List.nil_append,List.cons_append]
  gi_wp2
  have bO:=Boxed.new w 36 (.slice none 0 0)
  have hB0:Below w.heap.size w (w.alloc (.cells #[.slice none 0 0] 36)):=(Below.refl _ w).alloc (Nat.le_refl _) _
  refine wpIn_rangeFunc_ownH hro h1' (gf:=g) (lb:=lb) rfl hFg eg hseq walksK_t walksK_b hB0 (fun _=>rfl)
    (fun pre W=>(∃ v,Boxed W w.heap.size 36 v ∧ W.ownsRow w.heap.size 26 3 v pre.length (pre.flatMap idC) ∧ (v = .slice none 0 0 ↔ pre = [])) ∧ Below w.heap.size w W)
    (fun _ _ _=>False)
    (OwnFrom.and (Own.from (holdsRow_own w.heap.size w.heap.size 36 26 3 (fun pre:List Idt=>pre.length) (fun pre=>pre.flatMap idC) (fun pre v=>v = .slice none 0 0 ↔ pre = [])) _) (ownFrom_below (Nat.le_refl _) (by simp)))
    (fun _ _ _ _ _ hs _ _=>hs)
    ⟨⟨_,bO,World.ownsRow_nil _ _ _ _,by simp⟩,hB0⟩
    (AxId w.heap.size w.heap.size (.func (.func g) #[] lb)) (fun x a'=>axId_own _ _ _ x a' _) ?assign ?body ?done ?stop
  case assign =>
    intro l pre x W K hI hK
    obtain ⟨⟨v,hv,hrow,hnil⟩,hB⟩:=hI
    have hKK:=hK { tmps:=#[.slice none 0 0,.func (.func g) #[] lb,.pointer (some ⟨w.heap.size,0,none⟩),undef,.slice none 0 0,.pointer (some ⟨W.heap.size,0,none⟩),.func (.func g) #[] lb,idV x,undef,undef,undef,undef,undef],defers:=[] }
      (W.alloc (.cells #[.int .i64 x.act,.int .i64 x.item,.int .i64 x.n] 26)) ((KeepsOthers.alloc _ _).from _) (KeepsWalks.alloc _ _) ⟨⟨v,hv.alloc _,hrow.alloc _,hnil⟩,hB.alloc hB.size _⟩ ⟨W.heap.size,hB.size,World.alloc_heap_new W _,rfl⟩
    unfold idV at hKK ⊢
    gi_wp2
    exact hKK
  case body =>
    rintro l pre x a' W hl hlr ⟨⟨v,hv,hrow,hnil⟩,hB⟩ ⟨b,hbn,hbb,rfl⟩ hlt
    have hc:=hv.cell
    have hx0:W.cell? ⟨b,0,none⟩ = some (.int .i64 x.act):=by simp [World.cell?,hbb]
    have hx1:W.cell? ⟨b,1,none⟩ = some (.int .i64 x.item):=by simp [World.cell?,hbb]
    have hx2:W.cell? ⟨b,2,none⟩ = some (.int .i64 x.n):=by simp [World.cell?,hbb]
    gi_wp2_with (gi_at_builtin; refine wpListIn_append_own _ rfl _ _ 36 rfl w.heap.size 26 i0 _ 3 24 Tryd.underlying36 hi hz0 hz1 hz2 rfl (by decide) _ _ _ rfl (hrow.alloc _) ⟨W.heap.size,0,none⟩ 1 1 [.int .i64 x.act,.int .i64 x.item,.int .i64 x.n] rfl rfl (cells_new3 _ _ _ _ _) (by simp [Value.oneCell']) (by omega) (by omega) (by have:=hB.size; simp; omega) ?_; intro v' w1 hown' hgrow _; obtain ⟨g',cap',rfl⟩:=ownsRow_succ hown'; obtain ⟨hv1,hv2,hr2,hk2,hb2⟩:=hv.appended (by decide) hrow hB.size (Nat.le_refl _) hown' hgrow; have hc1:=hv1.cell; have hf1:=hv1.frozen)
    exact ⟨hk2.from _,hk2.walks,⟨_,hv2,by simpa [idC] using hr2,by simp⟩,hB.trans hb2⟩
  case done =>
    rintro D ys W hD hS ⟨⟨v,hv,hrow,hnil⟩,hB⟩ hK
    have hc:=hv.cell
    gi_wp2
    refine ⟨by simp,.inl ⟨_,_,rfl,run_takeDeferred hK,?_⟩⟩
    exact ⟨_,results_tmp rfl _ _ _,v,ys,rfl,hS,ownsRow_putObj hrow _ hK rfl,hnil,hB.trans (belowK_b (w:=w) (Nat.le_refl _) W D _ _ (by simp at hD; omega) hK rfl rfl)⟩
  case stop =>
    rintro D c pre W _ _ h _
    exact h.elim
set_option maxHeartbeats 1000000 in
theorem collectId_in (F : Fence) (n : Nat) (h8 : F.fn 55) (h11 : F.fn 73) (hro : F.round = none) (hn : 3 ≤ n) (g : Nat) (lb : Array Value) (hFg : F.fn g) (eg : ∀ args w, (callFunc g args).run Tryd.prog w = .ok (.enter g args) w)
    (S Sp:List Idt → Prop) (N:Nat) (hN:N ≤ 1000000) (w:World) (hseq:SeqStopsK F (n - 1 - 1) Tryd.prog g lb (fun x:Idt=>#[idV x]) KeepsWalks S Sp N w) :
    CallsIn F n Tryd.prog 55 #[.func (.func g) #[] lb] w fun e w'=>∃ (v:Value) (ss:List Idt),e = .returned v ∧ S ss ∧ w'.ownsRow w.heap.size 26 3 v ss.length (ss.flatMap idC) ∧ (v = .slice none 0 0 ↔ ss = []) ∧ Below w.heap.size w w':=by
  have h1:1 ≤ n:=by omega
  refine callsIn_of_wp Tryd.func55 rfl h8 ?_ hro
  simp only [Tryd.ntmps55,List.size_toArray,List.length_cons,List.length_nil,Nat.reduceAdd,Nat.reduceSub,Array.replicate_succ,Array.replicate_zero,List.push_toArray,List.append_toArray,List.nil_append,List.cons_append]
  gi_wp2_with (gi_at_call 73; refine (appendSeqId_in F (n - 1) h11 hro (by omega) g lb hFg eg S Sp N hN _ hseq).mono ?_; rintro e w' ⟨v,ss,rfl,hS,hrow,hnil,hb⟩)
  go_ret
  exact ⟨_,ss,rfl,hS,hrow,hnil,hb⟩
end Go.Proofs.YtjmekckcffckoaaDoor.w
