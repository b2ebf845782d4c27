import Derived.Test.YtjmekckcffckoabGreatDoorSp
import Derived.Test.YtjmekckcffckoabGreatDoorVmM
import Derived.Test.YtjmekckcffckoabGreatDoorVmA
import Derived.RangeFuncBox
import Derived.RangeFuncLeaves
import Derived.Shelf.Abstract
import Derived.WalkKit
import Derived.OwnWalkIn
import Derived.TacticsInMore
import Derived.LoopNIn
import Derived.LoopIn
import Derived.Maps.AppendAt
import Derived.Sort.OwnSorted
import Derived.Test.YtjmekckcffckoabGreatDoorChecked
set_option linter.all false
namespace Go.Proofs.YtjmekckcffckoabGreatDoor.w
open Go Go.VM
set_option maxRecDepth 20000
structure Ent where
  key : Str
  id : Nat
  ns : List Int
  deriving Inhabited
def encI (l:List Int):List (List PV):=l.map fun x=>[pI x]
theorem encI_len (l:List Int):(encI l).length = l.length:=List.length_map _
theorem encI_take (l:List Int):List.take l.length (encI l) = encI l:=List.take_of_length_le (by rw [encI_len]; exact Nat.le_refl _)
theorem encI_app (l:List Int) (n:Int):encI l ++ [[pI n]] = encI (l ++ [n]):=by simp [encI]
def encE (E:List Ent):List (PV × PV):=E.map fun e=>(.str e.key,.own e.id 0 e.ns.length)
def tailE (E:List Ent):List (Nat × AB):=E.map fun e=>(e.id,.arr false 1 (encI e.ns))
def canH (m:Nat) (E:List Ent):List (Nat × AB):=(m,.map (encE E)) :: tailE E
def Zch (E:List Ent) (s:Str):Option Ent:=E.find? fun e=>e.key == s
def updE (id:Nat) (s:Str) (n:Int):List Ent → List Ent
  | []=>[⟨s,id,[n]⟩]
  | e :: r=>if e.key == s then ⟨s,id,e.ns ++ [n]⟩ :: r else e :: updE id s n r
theorem keyEq_str (a b:Str):Zbm (.str a) (.str b) = (a == b):=by simp [Zbm,PV.cells,Zag,Za4]
theorem mapFind_enc (s:Str):∀ E:List Ent,Zak (.str s) (encE E) = (Zch E s).map fun e=>.own e.id 0 e.ns.length
  | []=>rfl
  | e :: r=>by
    have ih:=mapFind_enc s r
    unfold Zch encE at *
    simp only [List.map_cons,Zak,List.find?_cons,keyEq_str]
    cases h:e.key == s with
    | true =>
      have:s == e.key:=by rw [beq_iff_eq] at h ⊢; exact h.symm
      rw [this]; rfl
    | false =>
      have:(s == e.key) = false:=by rw [beq_eq_false_iff_ne] at h ⊢; exact h.symm
      rw [this]; simpa using ih
theorem mapPut_enc (id:Nat) (s:Str) (n:Int):∀ E:List Ent,Za5 (.str s) (.own id 0 (((Zch E s).map fun e=>e.ns.length).getD 0 + 1)) (encE E) = encE (updE id s n E)
  | []=>rfl
  | e :: r=>by
    have ih:=mapPut_enc id s n r
    unfold Zch encE at *
    simp only [List.map_cons,Za5,List.find?_cons,keyEq_str,updE]
    cases h:e.key == s with
    | true =>
      have:s == e.key:=by rw [beq_iff_eq] at h ⊢; exact h.symm
      rw [this]; simp
    | false =>
      have:(s == e.key) = false:=by rw [beq_eq_false_iff_ne] at h ⊢; exact h.symm
      rw [this]; simpa using ih
theorem keysOk_enc (s:Str) (E:List Ent):Za8 (.one .s) (.str s) (encE E):=by
  refine ⟨trivial,fun p hp=>?_⟩
  simp only [encE,List.mem_map] at hp
  obtain ⟨x,_,rfl⟩:=hp
  trivial
structure OkE (m t : Nat) (E : List Ent) : Prop where
  nod : (E.map Ent.id).Nodup
  ne : ∀ e ∈ E, e.id ≠ m
  lt : ∀ e ∈ E, e.id < t
  full : ∀ e ∈ E, e.ns ≠ []
  m : m < t
theorem OkE.mono {m t t':Nat} {E:List Ent} (h:OkE m t E) (ht:t ≤ t'):OkE m t' E:=⟨h.nod,h.ne,fun e he=>Nat.lt_of_lt_of_le (h.lt e he) ht,h.full,Nat.lt_of_lt_of_le h.m ht⟩
theorem tail_get {E:List Ent} (hn:(E.map Ent.id).Nodup):∀ {e:Ent},e ∈ E → HL.get (tailE E) e.id = some (.arr false 1 (encI e.ns)):=by
  intro e he
  refine HL.get_mem_nod ?_ ?_
  · unfold Nod tailE
    rw [List.map_map]
    exact hn
  · exact List.mem_map.2 ⟨e,he,rfl⟩
theorem tail_off {E:List Ent} {x:Nat} (h:∀ e ∈ E,e.id ≠ x):Off (tailE E) x:=by
  intro q hq
  obtain ⟨e,he,rfl⟩:=List.mem_map.1 hq
  exact h e he
theorem upd_mem (id:Nat) (s:Str) (n:Int):∀ (E:List Ent) (e:Ent),e ∈ updE id s n E → (e ∈ E ∧ ∀ o,Zch E s = some o → (E.map Ent.id).Nodup → e.id ≠ o.id) ∨ (e.id = id ∧ e.key = s ∧ e.ns = ((Zch E s).map Ent.ns).getD [] ++ [n])
  | [],e,h=>by
    simp only [updE,List.mem_singleton] at h
    subst h
    exact .inr ⟨rfl,rfl,rfl⟩
  | a :: r,e,h=>by
    unfold Zch
    simp only [updE] at h
    rw [List.find?_cons]
    cases hk:a.key == s with
    | true =>
      rw [hk,if_pos rfl] at h
      rcases List.mem_cons.1 h with rfl | h
      · exact .inr ⟨rfl,rfl,rfl⟩
      · refine .inl ⟨List.mem_cons_of_mem _ h,fun o ho hn=>?_⟩
        simp only [Option.some.injEq] at ho
        subst ho
        rw [List.map_cons,List.nodup_cons] at hn
        exact fun e1=>hn.1 (e1 ▸ List.mem_map.2 ⟨e,h,rfl⟩)
    | false =>
      rw [hk] at h
      simp only [Bool.false_eq_true,if_false] at h
      rcases List.mem_cons.1 h with rfl | h
      · refine .inl ⟨List.mem_cons_self,fun o ho hn=>?_⟩
        rw [List.map_cons,List.nodup_cons] at hn
        exact fun e1=>hn.1 (e1 ▸ List.mem_map.2 ⟨o,List.mem_of_find?_eq_some ho,rfl⟩)
      · rcases upd_mem id s n r e h with ⟨h1,h2⟩ | h1
        · refine .inl ⟨List.mem_cons_of_mem _ h1,fun o ho hn=>?_⟩
          rw [List.map_cons,List.nodup_cons] at hn
          exact h2 o ho hn.2
        · exact .inr h1
theorem upd_ids (id:Nat) (s:Str) (n:Int):∀ (E:List Ent),(E.map Ent.id).Nodup → (∀ e ∈ E,e.id ≠ id) → ((updE id s n E).map Ent.id).Nodup
  | [],_,_=>by simp [updE]
  | a :: r,hn,h=>by
    rw [List.map_cons,List.nodup_cons] at hn
    simp only [updE]
    split
    · rw [List.map_cons,List.nodup_cons]
      refine ⟨fun h1=>?_,hn.2⟩
      obtain ⟨e,he,e1⟩:=List.mem_map.1 h1
      exact h e (List.mem_cons_of_mem _ he) e1
    · rw [List.map_cons,List.nodup_cons]
      refine ⟨fun h1=>?_,upd_ids id s n r hn.2 fun e he=>h e (List.mem_cons_of_mem _ he)⟩
      obtain ⟨e,he,e1⟩:=List.mem_map.1 h1
      rcases upd_mem id s n r e he with ⟨h2,_⟩ | ⟨h2,_⟩
      · exact hn.1 (e1 ▸ List.mem_map.2 ⟨e,h2,rfl⟩)
      · exact h a List.mem_cons_self (by rw [← e1,h2])
theorem OkE.upd {m t:Nat} {E:List Ent} (h:OkE m t E) (id:Nat) (s:Str) (n:Int) (hi:t ≤ id):OkE m (id + 1) (updE id s n E):=by
  have hm:=h.m
  refine ⟨upd_ids id s n E h.nod fun e he=>by have:=h.lt e he; omega,fun e he=>?_,fun e he=>?_,fun e he=>?_,by omega⟩
  · rcases upd_mem id s n E e he with ⟨h1,_⟩ | ⟨h1,_⟩
    · exact h.ne e h1
    · omega
  · rcases upd_mem id s n E e he with ⟨h1,_⟩ | ⟨h1,_⟩
    · have:=h.lt e h1; omega
    · omega
  · rcases upd_mem id s n E e he with ⟨h1,_⟩ | ⟨_,_,h1⟩
    · exact h.full e h1
    · rw [h1]; simp
theorem canH_le {m t id : Nat} {E : List Ent} (h : OkE m t E) (s : Str) (n : Int) (hi : t ≤ id) (f : Nat → Option AB) (hm : f m = some (.map (encE (updE id s n E))))
    (hid:f id = some (.arr false 1 (encI (((Zch E s).map Ent.ns).getD [] ++ [n])))) (ho:∀ e ∈ E,(∀ o,Zch E s = some o → e.id ≠ o.id) → f e.id = some (.arr false 1 (encI e.ns))):HL.le (canH m (updE id s n E)) f:=by
  refine ⟨hm,HL.le_all fun k v hk=>?_⟩
  obtain ⟨e,he,e1⟩:=List.mem_map.1 hk
  simp only [Prod.mk.injEq] at e1
  obtain ⟨rfl,rfl⟩:=e1
  rcases upd_mem id s n E e he with ⟨h1,h2⟩ | ⟨h1,_,h3⟩
  · exact ho e h1 fun o h4=>h2 o h4 h.nod
  · rw [h1,h3]; exact hid
end Go.Proofs.YtjmekckcffckoabGreatDoor.w
namespace Go.Proofs.YtjmekckcffckoabGreatDoor.w
open Go Go.VM
set_option maxRecDepth 20000
def addO (s:Str) (n:Int):List (Str × List Int) → List (Str × List Int)
  | []=>[(s,[n])]
  | e :: r=>if e.1 == s then (s,e.2 ++ [n]) :: r else e :: addO s n r
def viewE (E:List Ent):List (Str × List Int):=E.map fun e=>(e.key,e.ns)
theorem view_upd (id:Nat) (s:Str) (n:Int):∀ E:List Ent,viewE (updE id s n E) = addO s n (viewE E)
  | []=>rfl
  | e :: r=>by
    have ih:=view_upd id s n r
    unfold viewE at *
    simp only [updE,List.map_cons,addO]
    split
    · rfl
    · rw [List.map_cons,ih]
def onS (occ:List (Str × Int)) (o:List (Str × List Int)):List (Str × List Int):=occ.foldl (fun o x=>addO x.1 x.2 o) o
structure OnOk (occ : List (Str × Int)) (o : List (Str × List Int)) : Prop where
  nod : (o.map (·.1)).Nodup
  val : ∀ x ∈ o, x.2 = (occ.filter fun y => y.1 == x.1).map (·.2)
  keys : ∀ s, s ∈ o.map (·.1) ↔ ∃ y ∈ occ, y.1 = s
theorem addO_mem (s:Str) (n:Int):∀ (o:List (Str × List Int)) (x:Str × List Int),x ∈ addO s n o → (x ∈ o ∧ (x.1 = s → (∀ y ∈ o,y.1 = s → y = x) → False ∨ ¬ (o.map (·.1)).Nodup)) ∨ (x.1 = s ∧ ((∃ y ∈ o,y.1 = s ∧ x.2 = y.2 ++ [n]) ∨ ((∀ y ∈ o,y.1 ≠ s) ∧ x.2 = [n])))
  | [],x,h=>by
    simp only [addO,List.mem_singleton] at h
    subst h
    exact .inr ⟨rfl,.inr ⟨fun y hy=>(by cases hy),rfl⟩⟩
  | e :: r,x,h=>by
    simp only [addO] at h
    cases hk:e.1 == s with
    | true =>
      rw [hk,if_pos rfl] at h
      rcases List.mem_cons.1 h with rfl | h
      · exact .inr ⟨rfl,.inl ⟨e,List.mem_cons_self,by simpa using hk,rfl⟩⟩
      · refine .inl ⟨List.mem_cons_of_mem _ h,fun h1 _=>.inr fun h2=>?_⟩
        rw [List.map_cons,List.nodup_cons] at h2
        have h3:e.1 = s:=by simpa using hk
        exact h2.1 (List.mem_map.2 ⟨x,h,by rw [h1,h3]⟩)
    | false =>
      have h3:e.1 ≠ s:=by simpa using hk
      rw [hk] at h
      simp only [Bool.false_eq_true,if_false] at h
      rcases List.mem_cons.1 h with rfl | h
      · exact .inl ⟨List.mem_cons_self,fun h1=>absurd h1 h3⟩
      · rcases addO_mem s n r x h with ⟨h1,h2⟩ | ⟨h1,h2⟩
        · refine .inl ⟨List.mem_cons_of_mem _ h1,fun h4 h5=>?_⟩
          rcases h2 h4 (fun y hy e1=>h5 y (List.mem_cons_of_mem _ hy) e1) with h6 | h6
          · exact .inl h6
          · exact .inr fun h7=>h6 (by rw [List.map_cons,List.nodup_cons] at h7; exact h7.2)
        · refine .inr ⟨h1,?_⟩
          rcases h2 with ⟨y,hy,e1⟩ | ⟨h4,e1⟩
          · exact .inl ⟨y,List.mem_cons_of_mem _ hy,e1⟩
          · refine .inr ⟨fun y hy=>?_,e1⟩
            rcases List.mem_cons.1 hy with rfl | hy
            · exact h3
            · exact h4 y hy
theorem addO_keys (s:Str) (n:Int):∀ (o:List (Str × List Int)),(addO s n o).map (·.1) = if s ∈ o.map (·.1) then o.map (·.1) else o.map (·.1) ++ [s]
  | []=>by simp [addO]
  | e :: r=>by
    have ih:=addO_keys s n r
    simp only [addO]
    by_cases hk:e.1 = s
    · rw [if_pos (by simpa using hk)]
      simp [hk]
    · rw [if_neg (by simpa using hk),List.map_cons,ih]
      by_cases h2:s ∈ r.map (·.1)
      · rw [if_pos h2,if_pos (by rw [List.map_cons]; exact List.mem_cons_of_mem _ h2)]
        rfl
      · rw [if_neg h2,if_neg (by rw [List.map_cons,List.mem_cons]; rintro (h3 | h3); exact hk h3.symm; exact h2 h3)]
        rfl
theorem on_step {occ:List (Str × Int)} {o:List (Str × List Int)} (h:OnOk occ o) (y:Str × Int):OnOk (occ ++ [y]) (addO y.1 y.2 o):=by
  have hnod:((addO y.1 y.2 o).map (·.1)).Nodup:=by
    rw [addO_keys]
    split
    · exact h.nod
    · rename_i hs
      rw [List.nodup_append]
      exact ⟨h.nod,by simp,fun a ha b hb=>by rw [List.mem_singleton] at hb; rw [hb]; exact fun e=>hs (e ▸ ha)⟩
  refine ⟨hnod,fun x hx=>?_,fun s=>?_⟩
  · rw [List.filter_append,List.map_append]
    rcases addO_mem y.1 y.2 o x hx with ⟨h1,h2⟩ | ⟨h1,h2⟩
    · have huniq : ∀ z ∈ o, z.1 = x.1 → z = x := fun z hz ez => by
        obtain ⟨i,hi,rfl⟩:=List.mem_iff_getElem.1 hz
        obtain ⟨j,hj,rfl⟩:=List.mem_iff_getElem.1 h1
        have hn:=List.pairwise_iff_getElem.1 h.nod
        rcases Nat.lt_trichotomy i j with h3 | h3 | h3
        · exact absurd (show (o.map (·.1))[i]'(by simpa using hi) = (o.map (·.1))[j]'(by simpa using hj) by rw [List.getElem_map,List.getElem_map]; exact ez) (hn i j (by simpa using hi) (by simpa using hj) h3)
        · subst h3; rfl
        · exact absurd (show (o.map (·.1))[j]'(by simpa using hj) = (o.map (·.1))[i]'(by simpa using hi) by rw [List.getElem_map,List.getElem_map]; exact ez.symm) (hn j i (by simpa using hj) (by simpa using hi) h3)
      have hne:y.1 ≠ x.1:=fun e=>by
        rcases h2 e.symm (fun z hz ez=>huniq z hz (by rw [ez,e])) with h3 | h3
        · exact h3
        · exact h3 h.nod
      have:([y].filter fun z=>z.1 == x.1) = []:=by simp [hne]
      rw [this,List.map_nil,List.append_nil]
      exact h.val x h1
    · have:([y].filter fun z=>z.1 == x.1) = [y]:=by simp [h1]
      rw [this]
      rcases h2 with ⟨z,hz,e1,e2⟩ | ⟨h4,e2⟩
      · rw [e2,h.val z hz,e1,h1]; rfl
      · have : (occ.filter fun z => z.1 == x.1) = [] := by
          rw [List.filter_eq_nil_iff]
          intro z hz e3
          have:x.1 ∈ o.map (·.1):=(h.keys x.1).2 ⟨z,hz,by simpa using e3⟩
          obtain ⟨w,hw,e4⟩:=List.mem_map.1 this
          exact h4 w hw (by rw [e4,h1])
        rw [e2,this]; rfl
  · rw [addO_keys]
    have hk:=h.keys s
    split
    · rename_i hs
      rw [hk]
      constructor
      · rintro ⟨z,hz,e⟩; exact ⟨z,List.mem_append_left _ hz,e⟩
      · rintro ⟨z,hz,e⟩
        rcases List.mem_append.1 hz with hz | hz
        · exact ⟨z,hz,e⟩
        · rw [List.mem_singleton] at hz
          subst hz
          rw [e] at hs
          exact hk.1 hs
    · rw [List.mem_append,List.mem_singleton,hk]
      constructor
      · rintro (⟨z,hz,e⟩ | e)
        · exact ⟨z,List.mem_append_left _ hz,e⟩
        · exact ⟨y,by simp,e.symm⟩
      · rintro ⟨z,hz,e⟩
        rcases List.mem_append.1 hz with hz | hz
        · exact .inl ⟨z,hz,e⟩
        · rw [List.mem_singleton] at hz
          subst hz
          exact .inr e.symm
theorem on_ok:∀ (occ pre:List (Str × Int)) (o:List (Str × List Int)),OnOk pre o → OnOk (pre ++ occ) (onS occ o)
  | [],pre,o,h=>by simpa [onS] using h
  | y :: r,pre,o,h=>by
    have:=on_ok r (pre ++ [y]) (addO y.1 y.2 o) (on_step h y)
    rw [List.append_assoc] at this
    exact this
theorem on_all (occ:List (Str × Int)):OnOk occ (onS occ []):=on_ok occ [] [] ⟨.nil,fun x hx=>(by cases hx),fun s=>⟨fun h=>(by cases h),fun ⟨y,hy,_⟩=>by cases hy⟩⟩
end Go.Proofs.YtjmekckcffckoabGreatDoor.w
namespace Go.Proofs.YtjmekckcffckoabGreatDoor.w
open Go Go.RowKit Go.Shelf Go.Sort
set_option maxRecDepth 100000
attribute [local go_sem] Oper.semAt_some
def upto {α:Type} (f:Nat → α) (k:Nat):List α:=(List.range k).map f
theorem upto_succ {α:Type} (f:Nat → α) (k:Nat):upto f (k + 1) = upto f k ++ [f k]:=by simp [upto,List.range_succ]
theorem upto_length {α:Type} (f:Nat → α) (k:Nat):(upto f k).length = k:=by simp [upto]
theorem upto_all (zs:List Int):upto (fun j=>zs[j]?.getD 0) zs.length = zs:=by
  apply List.ext_getElem
  · simp [upto]
  · intro i h1 h2
    simp [upto,h2]
theorem upto_take (zs:List Int) {k:Nat} (hk:k ≤ zs.length):upto (fun j=>zs[j]?.getD 0) k = zs.take k:=by
  apply List.ext_getElem
  · simp [upto,hk]
  · intro i h1 h2
    have:i < zs.length:=by simp [upto] at h1; omega
    simp [upto,this]
set_option maxHeartbeats 2000000 in
theorem values1_in (F : Fence) (n : Nat) (h7 : F.fn 80) (hro : F.round = none) (hn : 1 ≤ n) (l Bs n₀ b off len cap : Nat) (zs : List Int) (hreach : len * 8 ≤ 140737488351232) (hb : b < n₀) (J Jx : List Int → World → Prop)
    (hY:∀ pre x W,J pre W → pre.length < len → YieldAt F (n - 1) Tryz.prog l #[.int .i64 x] W fun e W' =>
      (e = .returned (.bool true) ∧ J (pre ++ [x]) W' ∧ Below n₀ W W') ∨ (e = .returned (.bool false) ∧ Jx (pre ++ [x]) W'))
    (W:World) (hBs:W.cell? ⟨Bs,0,none⟩ = some (.slice (some ⟨b,off,none⟩) len cap)) (hc:∀ j,j < len → W.cell? ⟨b,off + j,none⟩ = some (.int .i64 (zs[j]?.getD 0))) (h0:J [] W) :
    CallsIn F n Tryz.prog 80 #[.func (.yield l) #[] #[],.pointer (some ⟨Bs,0,none⟩)] W fun e W'=>(∃ v,e = .returned v) ∧
      ((∃ ys,ys = upto (fun j=>zs[j]?.getD 0) len ∧ J ys W') ∨ (∃ pre,(∃ k,k ≤ len ∧ pre = upto (fun j=>zs[j]?.getD 0) k) ∧ Jx pre W')):=by
  refine callsIn_of_wp Tryz.func80 rfl h7 ?_ hro
  simp only [Tryz.ntmps80,List.size_toArray,List.length_cons,List.length_nil,Nat.reduceAdd,Nat.reduceSub,Array.replicate_succ,Array.replicate_zero,List.push_toArray,List.append_toArray,List.nil_append,List.cons_append]
  gi_wp2
  gi_loopw [7] (fun i wr=>∃ k:Nat,k ≤ len ∧ i = .int .i64 k ∧ J (upto (fun j=>zs[j]?.getD 0) k) wr ∧ Below n₀ W wr)
    (fun i _=>len - (intOf i).toNat)
  case atStart=>exact ⟨0,Nat.zero_le _,rfl,h0,Below.refl _ _⟩
  case round =>
    obtain ⟨k,hk,rfl,hJs,hnx⟩:=hrel
    have hcx:k < len → wr.cell? ⟨b,off + k,none⟩ = some (.int .i64 (zs[k]?.getD 0)):=fun h=>(hnx.cell (p:=⟨b,off + k,none⟩) hb).trans (hc k h)
    by_cases hlt:k < len
    · obtain ⟨fn,tmps,assign,body,hy,hR⟩:=hY _ (zs[k]?.getD 0) wr hJs (by rw [upto_length]; exact hlt)
      have hcx':=hcx hlt
      gi_wp2
      refine hR.mono ?_
      rintro e W3 (⟨rfl,hJ3,hk3⟩ | ⟨rfl,hJx3⟩)
      · gi_wp2
        go_roundw
        case rel=>exact ⟨k + 1,by omega,by simp,by rw [upto_succ]; exact hJ3,hnx.trans hk3⟩
        case measure=>simp [intOf]; omega
      · gi_wp2
        refine bodyPost_ret (results_none rfl _ _ _) rfl ?_
        exact ⟨⟨_,rfl⟩,.inr ⟨_,⟨k + 1,by omega,(upto_succ _ _).symm⟩,hJx3⟩⟩
    · obtain rfl:k = len:=by omega
      gi_wp2
      go_end0
      exact ⟨⟨_,rfl⟩,.inl ⟨_,rfl,hJs⟩⟩
def IntsAt (n₀:Nat) (W:World) (sv:Value) (zs:List Int):Prop :=
  (∃ a cap,sv = .slice a 0 cap ∧ zs = []) ∨ ∃ b off cap,sv = .slice (some ⟨b,off,none⟩) zs.length cap ∧ b < n₀ ∧ ∀ j,j < zs.length → W.cell? ⟨b,off + j,none⟩ = some (.int .i64 (zs[j]?.getD 0))
theorem IntsAt.below {n₀:Nat} {A B:World} (h:Below n₀ A B) {sv:Value} {zs:List Int}:IntsAt n₀ A sv zs → IntsAt n₀ B sv zs
  | .inl e=>.inl e
  | .inr ⟨b,off,cap,e,hb,hc⟩=>.inr ⟨b,off,cap,e,hb,fun j hj=>(h.cell (p:=⟨b,off + j,none⟩) hb).trans (hc j hj)⟩
set_option maxHeartbeats 1000000 in
theorem values1_nil_in (F : Fence) (n : Nat) (h7 : F.fn 80) (hro : F.round = none) (l Bs : Nat) (a : Option Addr) (cap : Nat) (J : List Int → World → Prop) (W : World) (hBs : W.cell? ⟨Bs, 0, none⟩ = some (.slice a 0 cap)) (h0 : J [] W) :
    CallsIn F n Tryz.prog 80 #[.func (.yield l) #[] #[],.pointer (some ⟨Bs,0,none⟩)] W fun e W'=>(∃ v,e = .returned v) ∧ J [] W':=by
  refine callsIn_of_wp Tryz.func80 rfl h7 ?_ hro
  simp only [Tryz.ntmps80,List.size_toArray,List.length_cons,List.length_nil,Nat.reduceAdd,Nat.reduceSub,Array.replicate_succ,Array.replicate_zero,List.push_toArray,List.append_toArray,List.nil_append,List.cons_append]
  gi_wp2
  gi_loopw [7] (fun i wr=>i = .int .i64 0 ∧ J [] wr) (fun _ _=>0)
  case atStart=>exact ⟨rfl,h0⟩
  case round =>
    obtain ⟨rfl,hJs⟩:=hrel
    gi_wp2
    go_end0
    exact ⟨⟨_,rfl⟩,hJs⟩
set_option maxHeartbeats 1000000 in
theorem values_in (F : Fence) (n : Nat) (h5 : F.fn 51) (hro : F.round = none) (a : Option Addr) (len cap : Nat) (w : World) :
    CallsIn F n Tryz.prog 51 #[.slice a len cap] w fun e w'=>e = .returned (.func (.func 80) #[] #[.pointer (some ⟨w.heap.size,0,none⟩)]) ∧ w' = w.alloc (.cells #[.slice a len cap] 22):=by
  refine callsIn_of_wp Tryz.func51 rfl h5 ?_ hro
  simp only [Tryz.ntmps51,List.size_toArray,List.length_cons,List.length_nil,Nat.reduceAdd,Nat.reduceSub,Array.replicate_succ,Array.replicate_zero,List.push_toArray,List.append_toArray,List.nil_append,List.cons_append]
  gi_wp2
  go_ret
  exact ⟨rfl,rfl⟩
theorem values_stops (F : Fence) (n : Nat) (h7 : F.fn 80) (hro : F.round = none) (hn : 1 ≤ n) (Bs n₀ : Nat) (sv : Value) (zs : List Int) (hreach : zs.length * 8 ≤ 140737488351232) (w : World) (hBs : Bs < w.heap.size) (hn₀ : n₀ ≤ w.heap.size)
    (hc:w.cell? ⟨Bs,0,none⟩ = some sv) (hI:IntsAt n₀ w sv zs) :
    SeqStopsK F n Tryz.prog 80 #[.pointer (some ⟨Bs,0,none⟩)] (fun x:Int=>#[Value.int .i64 x]) (Below n₀) (fun ys=>ys = zs) (fun pre=>pre <+: zs) zs.length w:=fun l J Jx W hW _ _ hY h0=>by
  have hc':=(hW.cell (p:=⟨Bs,0,none⟩) hBs).trans hc
  rcases hI.below (hW.mono hn₀) with ⟨a,cap,rfl,rfl⟩ | ⟨b,off,cap,rfl,hb,hcs⟩
  · exact (values1_nil_in F n h7 hro l Bs a cap J W hc' h0).mono fun e W' ⟨he,hj⟩=>⟨he,.inl ⟨_,rfl,hj⟩⟩
  · refine (values1_in F n h7 hro hn l Bs n₀ b off zs.length cap zs hreach hb J Jx hY W hc' hcs h0).mono ?_
    rintro e W' ⟨he,⟨ys,rfl,hj⟩ | ⟨pre,⟨k,hk,rfl⟩,hj⟩⟩
    · exact ⟨he,.inl ⟨_,upto_all zs,hj⟩⟩
    · exact ⟨he,.inr ⟨_,by rw [upto_take zs hk]; exact List.take_prefix _ _,hj⟩⟩
end Go.Proofs.YtjmekckcffckoabGreatDoor.w
namespace Go.Proofs.YtjmekckcffckoabGreatDoor.w
open Go Go.RowKit Go.Shelf Go.Sort
set_option maxRecDepth 100000
attribute [local go_sem] Oper.semAt_some
theorem infoI:(Tryz.prog.info? 3).map (fun i=>(i.zero,i.size,i.bytes)) = some (some (.int .i64 0),1,8):=by kernel_rfl
set_option maxHeartbeats 4000000 in
theorem appendSeq_in (F : Fence) (n : Nat) (h1 : F.fn 119) (hro : F.round = none) (hn : 2 ≤ n) (g : Nat) (lb : Array Value) (hFg : F.fn g) (eg : ∀ args w, (callFunc g args).run Tryz.prog w = .ok (.enter g args) w)
    (S Sp:List Int → Prop) (N:Nat) (hN:N ≤ maxLen) (hNb:N * 8 ≤ 140737488355328) (hS:∀ l,S l → l.length ≤ N) (w:World) (hseq:SeqStopsK F (n - 1) Tryz.prog g lb (fun x:Int=>#[Value.int .i64 x]) (Below w.heap.size) S Sp N w) :
    CallsIn F n Tryz.prog 119 #[.slice none 0 0,.func (.func g) #[] lb] w fun e w'=>∃ (v:Value) (ss:List Int),e = .returned v ∧ S ss ∧ w'.ownsRow w.heap.size 3 1 v ss.length (ss.map (Value.int .i64)) ∧ (v = .slice none 0 0 ↔ ss = []) ∧ Below w.heap.size w w':=by
  have h1':1 ≤ n:=by omega
  obtain ⟨i0,hi,hz0,hz1,hz2⟩:=info_parts infoI
  refine callsIn_of_wp_marks Tryz.func119 rfl h1 ?_ hro
  simp only [Tryz.ntmps119,List.size_toArray,List.length_cons,List.length_nil,Nat.reduceAdd,Nat.reduceSub,Array.replicate_succ,Array.replicate_zero,List.push_toArray,List.append_toArray,List.nil_append,List.cons_append]
  gi_wp2
  have bO:=Boxed.new w 22 (.slice none 0 0)
  have hB0:Below w.heap.size w (w.alloc (.cells #[.slice none 0 0] 22)):=(Below.refl _ w).alloc (Nat.le_refl _) _
  refine wpIn_rangeFunc_ownG hro h1' (gf:=g) (lb:=lb) rfl hFg eg hseq belowK_t (belowK_b (by simp)) hB0 (fun _=>rfl)
    (fun pre W=>(∃ v,Boxed W w.heap.size 22 v ∧ W.ownsRow w.heap.size 3 1 v pre.length (pre.map (Value.int .i64)) ∧ (v = .slice none 0 0 ↔ pre = [])) ∧ Below w.heap.size w W)
    (fun _ _ _=>False)
    (OwnFrom.and (Own.from (holdsRow_own w.heap.size w.heap.size 22 3 1 (fun pre=>pre.length) (fun pre=>pre.map (Value.int .i64)) (fun pre v=>v = .slice none 0 0 ↔ pre = [])) _) (ownFrom_below (Nat.le_refl _) (by simp)))
    (fun _ _ _ _ _ hs _ _=>hs)
    ⟨⟨_,bO,World.ownsRow_nil _ _ _ _,by simp⟩,hB0⟩
    (fun x=>{ tmps:=#[.slice none 0 0,.func (.func g) #[] lb,.pointer (some ⟨w.heap.size,0,none⟩),undef,.slice none 0 0,.int .i64 x,.func (.func g) #[] lb,.int .i64 x,undef,undef,undef,undef,undef],defers:=[] }) ?assign ?body ?done ?stop
  case assign =>
    intro l x W K hK
    gi_wp2
    exact hK
  case body =>
    rintro l pre x W ⟨⟨v,hv,hrow,hnil⟩,hB⟩ hlt
    have hc:=hv.cell
    gi_wp2_with (gi_at_builtin; refine wpListIn_append_own _ rfl _ _ 22 rfl w.heap.size 3 i0 (.int .i64 0) 1 8 Tryz.underlying22 hi hz0 hz1 hz2 rfl (by decide) _ _ _ rfl (hrow.alloc _) ⟨W.heap.size,0,none⟩ 1 1 [.int .i64 x] rfl rfl (cell_one_new _ _ _) (by simp [Value.oneCell']) (by omega) (by omega) (by have:=hB.size; simp; omega) ?_; intro v' w1 hown' hgrow _; obtain ⟨g',cap',rfl⟩:=ownsRow_succ hown'; obtain ⟨hv1,hv2,hr2,hk2,hb2⟩:=hv.appended (by decide) hrow hB.size (Nat.le_refl _) hown' hgrow; have hc1:=hv1.cell; have hf1:=hv1.frozen)
    exact ⟨hk2.from _,hb2,⟨_,hv2,by simpa using hr2,by simp⟩,hB.trans hb2⟩
  case done =>
    rintro D ys W hD hS ⟨⟨v,hv,hrow,hnil⟩,hB⟩ hK
    have hc:=hv.cell
    gi_wp2
    refine ⟨by simp,.inl ⟨_,_,rfl,run_takeDeferred hK,?_⟩⟩
    exact ⟨_,results_tmp rfl _ _ _,v,ys,rfl,hS,ownsRow_putObj hrow _ hK rfl,hnil,hB.trans (belowK_b (w:=w) (Nat.le_refl _) W D _ _ (by simp at hD; omega) hK rfl rfl)⟩
  case stop =>
    rintro D c pre W _ _ h _
    exact h.elim
set_option maxHeartbeats 1000000 in
theorem collect_in (F : Fence) (n : Nat) (h8 : F.fn 78) (h11 : F.fn 119) (hro : F.round = none) (hn : 3 ≤ n) (g : Nat) (lb : Array Value) (hFg : F.fn g) (eg : ∀ args w, (callFunc g args).run Tryz.prog w = .ok (.enter g args) w)
    (S Sp:List Int → Prop) (N:Nat) (hN:N ≤ maxLen) (hNb:N * 8 ≤ 140737488355328) (hS:∀ l,S l → l.length ≤ N) (w:World) (hseq:SeqStopsK F (n - 1 - 1) Tryz.prog g lb (fun x:Int=>#[Value.int .i64 x]) (Below w.heap.size) S Sp N w) :
    CallsIn F n Tryz.prog 78 #[.func (.func g) #[] lb] w fun e w'=>∃ (v:Value) (ss:List Int),e = .returned v ∧ S ss ∧ w'.ownsRow w.heap.size 3 1 v ss.length (ss.map (Value.int .i64)) ∧ (v = .slice none 0 0 ↔ ss = []) ∧ Below w.heap.size w w':=by
  have h1:1 ≤ n:=by omega
  refine callsIn_of_wp Tryz.func78 rfl h8 ?_ hro
  simp only [Tryz.ntmps78,List.size_toArray,List.length_cons,List.length_nil,Nat.reduceAdd,Nat.reduceSub,Array.replicate_succ,Array.replicate_zero,List.push_toArray,List.append_toArray,List.nil_append,List.cons_append]
  gi_wp2_with (gi_at_call 119; refine (appendSeq_in F (n - 1) h11 hro (by omega) g lb hFg eg S Sp N hN hNb hS _ hseq).mono ?_; rintro e w' ⟨v,ss,rfl,hS,hrow,hnil,hb⟩)
  go_ret
  exact ⟨_,ss,rfl,hS,hrow,hnil,hb⟩
end Go.Proofs.YtjmekckcffckoabGreatDoor.w
