import Derived.Test.YtjmekckcffckoabGreatDoorVmA
import Derived.Lib.SlicesCompact
import Derived.Lib.ItoaNum
import Derived.Lib.Join
import Derived.Lib.FieldsP
set_option linter.all false
namespace Go.VM
open Go
abbrev forever:Int:=1048577
def CanonF:Int → List Sp → Prop
  | _,[]=>True
  | b,s :: r=>b < s.frm ∧ s.frm < s.to ∧ s.to ≤ forever ∧ CanonF s.to r
theorem CanonF.mono {b b':Int} (hb:b ≤ b'):∀ {l:List Sp},CanonF b' l → CanonF b l
  | [],_=>trivial
  | s :: r,h=>⟨Int.lt_of_le_of_lt hb h.1,h.2⟩
def mergeS:List Sp → Sp → List Sp
  | [],x=>[x]
  | s :: r,x=>if x.frm ≤ s.to then ⟨s.frm,if s.to < x.to then x.to else s.to⟩ :: r else x :: s :: r
end Go.VM
namespace Go.VM
open Go
def accS (ss:List Sp) (i:Nat):List Sp:=(ss.take i).foldl mergeS []
def mergeAll (ss:List Sp):List Sp:=(ss.foldl mergeS []).reverse
structure MS (ss : List Sp) (i : Nat) (rows : List Sp) (n : Nat) : Prop where
  len : rows.length = ss.length
  le : n ≤ i
  le2 : i ≤ ss.length
  cnt : n = (accS ss i).length
  tk : rows.take n = (accS ss i).reverse
  dr : rows.drop i = ss.drop i
theorem MS.get {ss rows:List Sp} {i n:Nat} (h:MS ss i rows n) (hi:i < ss.length):rows[i]? = some ss[i]:=by
  have e:(rows.drop i)[0]? = (ss.drop i)[0]?:=by rw [h.dr]
  rw [List.getElem?_drop,List.getElem?_drop] at e
  exact e.trans (List.getElem?_eq_getElem hi)
theorem accS_succ {ss:List Sp} {i:Nat} (hi:i < ss.length):accS ss (i + 1) = mergeS (accS ss i) ss[i]:=by
  unfold accS
  rw [List.take_add_one,List.getElem?_eq_getElem hi,List.foldl_append]
  rfl
theorem drop_of_set {α:Type} {l m:List α} {i k:Nat} {x:α} (h:l.drop i = m.drop i) (hk:k ≤ i):(l.set k x).drop (i + 1) = m.drop (i + 1):=by
  rw [List.drop_set_of_lt (by omega)]
  have:=congrArg (List.drop 1) h
  simpa [List.drop_drop] using this
theorem MS.top {ss rows:List Sp} {i n:Nat} (h:MS ss i rows (n + 1)):∃ s r,accS ss i = s :: r ∧ rows[n]? = some s ∧ r.length = n ∧ rows.take n = r.reverse:=by
  have h1:=h.cnt
  have h2:=h.tk
  cases ha:accS ss i with
  | nil=>rw [ha] at h1; cases h1
  | cons s r =>
    rw [ha] at h1 h2
    have hr:r.length = n:=by simpa using h1.symm
    refine ⟨s,r,rfl,?_,hr,?_⟩
    · have:=congrArg (fun l=>l[n]?) h2
      simpa [List.getElem?_take,hr] using this
    · have:=congrArg (List.take n) h2
      rw [List.take_take,Nat.min_eq_left (Nat.le_succ n)] at this
      rw [this]; simp [← hr]
theorem MS.join {ss rows : List Sp} {i n : Nat} (h : MS ss i rows (n + 1)) (hi : i < ss.length) (s : Sp) (hs : rows[n]? = some s) (hc : ss[i].frm ≤ s.to) :
    MS ss (i + 1) (rows.set n ⟨s.frm,if s.to < ss[i].to then ss[i].to else s.to⟩) (n + 1):=by
  obtain ⟨s',r,h1,h2,h3,h4⟩:=h.top
  rw [h2] at hs; cases hs
  have hn:=h.le
  have hl:=h.len
  have ha:accS ss (i + 1) = ⟨s.frm,if s.to < ss[i].to then ss[i].to else s.to⟩ :: r:=by rw [accS_succ hi,h1]; simp [mergeS,hc]
  refine ⟨by simpa using hl,by omega,by omega,by rw [ha]; simp [h3],?_,drop_of_set h.dr (by omega)⟩
  rw [ha,List.take_add_one,List.take_set_of_le (Nat.le_refl _),h4]
  rw [List.getElem?_set_self (by omega)]
  simp
theorem MS.push {ss rows : List Sp} {i n : Nat} (h : MS ss i rows n) (hi : i < ss.length) (hc : ∀ m s, n = m + 1 → rows[m]? = some s → ¬ ss[i].frm ≤ s.to) :
    MS ss (i + 1) (rows.set n ss[i]) (n + 1):=by
  have hn:=h.le
  have hl:=h.len
  have ha:accS ss (i + 1) = ss[i] :: accS ss i:=by
    rw [accS_succ hi]
    cases n with
    | zero=>have:=h.cnt; rw [List.eq_nil_of_length_eq_zero this.symm]; rfl
    | succ m =>
      obtain ⟨s,r,h1,h2,h3,h4⟩:=h.top
      have:=hc m s rfl h2
      rw [h1]; simp [mergeS,this]
  refine ⟨by simpa using hl,by omega,by omega,by rw [ha]; simp [← h.cnt],?_,drop_of_set h.dr hn⟩
  rw [ha,List.take_add_one,List.take_set_of_le (Nat.le_refl _),h.tk,List.getElem?_set_self (by omega)]
  simp
theorem MS.fin {ss rows:List Sp} {n:Nat} (h:MS ss ss.length rows n):rows.take n = mergeAll ss:=by
  rw [h.tk]; simp [accS,mergeAll]
def spOk (s:Sp):Prop:=0 ≤ s.frm ∧ s.frm < s.to ∧ s.to ≤ forever
def RevC:List Sp → Prop
  | []=>True
  | [s]=>spOk s
  | s :: t :: r=>spOk s ∧ t.to < s.frm ∧ RevC (t :: r)
theorem RevC.tail:∀ {s:Sp} {r:List Sp},RevC (s :: r) → RevC r
  | _,[],_=>trivial
  | _,_ :: _,h=>h.2.2
theorem RevC.ok:∀ {s:Sp} {r:List Sp},RevC (s :: r) → spOk s
  | _,[],h=>h
  | _,_ :: _,h=>h.1
theorem RevC.below:∀ {r:List Sp} {s:Sp},RevC (s :: r) → ∀ t ∈ r,t.to < s.frm
  | [],_,_,_,h=>by cases h
  | u :: r,s,h,t,ht=>by
    rcases List.mem_cons.1 ht with rfl | ht
    · exact h.2.1
    · have:=RevC.below h.2.2 t ht
      have:=h.2.1
      have:=h.2.2.ok.2.1
      omega
end Go.VM
namespace Go.VM
open Go
theorem get_bang {d:Array Int} {i:Nat} (h:i < d.size):d[i]! = d[i]:=getElem!_pos d i h
theorem compact_up {d:Array Int} (hs:∀ i j,i ≤ j → j < d.size → d[i]! ≤ d[j]!):∀ m,m ≤ d.size → (Lib.compactUpTo d m).Pairwise (· < ·) ∧ ∀ x,x ∈ Lib.compactUpTo d m ↔ ∃ j,j < m ∧ d[j]! = x
  | 0,_=>⟨.nil,fun x=>⟨fun h=>(by cases h),fun ⟨j,hj,_⟩=>by cases hj⟩⟩
  | m + 1,hm=>by
    obtain ⟨i1,i2⟩:=compact_up hs m (by omega)
    rw [Lib.compactUpTo_succ]
    have hmem:∀ x,(∃ j,j < m + 1 ∧ d[j]! = x) ↔ (∃ j,j < m ∧ d[j]! = x) ∨ d[m]! = x:=fun x=>by
      constructor
      · rintro ⟨j,hj,h⟩
        rcases Nat.lt_or_eq_of_le (Nat.le_of_lt_succ hj) with h1 | rfl
        · exact .inl ⟨j,h1,h⟩
        · exact .inr h
      · rintro (⟨j,hj,h⟩ | h)
        · exact ⟨j,by omega,h⟩
        · exact ⟨m,by omega,h⟩
    cases hk:Lib.keeps d m with
    | true =>
      simp only [Lib.keeps,decide_eq_true_eq] at hk
      refine ⟨?_,fun x=>?_⟩
      · rw [if_pos rfl,List.pairwise_append]
        refine ⟨i1,List.pairwise_singleton _ _,fun a ha b hb=>?_⟩
        rw [List.mem_singleton] at hb
        subst hb
        obtain ⟨j,hj,rfl⟩:=(i2 a).1 ha
        rcases hk with rfl | hk
        · cases hj
        · have h1:=hs j (m - 1) (by omega) (by omega)
          have h2:=hs (m - 1) m (by omega) (by omega)
          omega
      · rw [if_pos rfl,List.mem_append,i2,List.mem_singleton,hmem,eq_comm (a:=x)]
    | false =>
      simp only [Lib.keeps,decide_eq_false_iff_not,not_or,Decidable.not_not] at hk
      refine ⟨by simpa using i1,fun x=>?_⟩
      rw [hmem]
      simp only [Bool.false_eq_true,if_false,List.append_nil,i2]
      constructor
      · exact .inl
      · rintro (h | h)
        · exact h
        · exact ⟨m - 1,by omega,by rw [← hk.2]; exact h⟩
theorem compact_sorted {zs:List Int} (hs:zs.Pairwise (· ≤ ·)):(Lib.compact zs).Pairwise (· < ·) ∧ ∀ x,x ∈ Lib.compact zs ↔ x ∈ zs:=by
  have hs':∀ i j,i ≤ j → j < zs.toArray.size → zs.toArray[i]! ≤ zs.toArray[j]!:=fun i j hij hj=>by
    rw [get_bang (d:=zs.toArray) hj,get_bang (d:=zs.toArray) (Nat.lt_of_le_of_lt hij hj)]
    simp only [List.getElem_toArray]
    rcases Nat.lt_or_eq_of_le hij with h | rfl
    · exact List.pairwise_iff_getElem.1 hs i j _ _ h
    · exact Int.le_refl _
  obtain ⟨h1,h2⟩:=compact_up hs' zs.length (by simp)
  refine ⟨h1,fun x=>(h2 x).trans ?_⟩
  constructor
  · rintro ⟨j,hj,rfl⟩
    rw [get_bang (d:=zs.toArray) (by simpa using hj)]
    simp
  · intro h
    obtain ⟨j,hj,rfl⟩:=List.mem_iff_getElem.1 h
    exact ⟨j,hj,by rw [get_bang (d:=zs.toArray) (by simpa using hj)]; simp⟩
end Go.VM
namespace Go.Proofs.YtjmekckcffckoabGreatDoor.w
open Go Go.VM
set_option maxRecDepth 20000
theorem lt_ext:∀ {l m:List Int},l.Pairwise (· < ·) → m.Pairwise (· < ·) → (∀ x,x ∈ l ↔ x ∈ m) → l = m
  | [],[],_,_,_=>rfl
  | [],b :: m,_,_,h=>absurd ((h b).2 List.mem_cons_self) (by simp)
  | a :: l,[],_,_,h=>absurd ((h a).1 List.mem_cons_self) (by simp)
  | a :: l,b :: m,h1,h2,h=>by
    rw [List.pairwise_cons] at h1 h2
    have hab:a = b:=by
      rcases List.mem_cons.1 ((h a).1 List.mem_cons_self) with e | e
      · exact e
      · rcases List.mem_cons.1 ((h b).2 List.mem_cons_self) with e2 | e2
        · exact e2.symm
        · have:=h1.1 b e2; have:=h2.1 a e; omega
    subst hab
    rw [lt_ext h1.2 h2.2 fun x=>?_]
    constructor
    · intro hx
      rcases List.mem_cons.1 ((h x).1 (List.mem_cons_of_mem _ hx)) with rfl | e
      · exact absurd (h1.1 _ hx) (by omega)
      · exact e
    · intro hx
      rcases List.mem_cons.1 ((h x).2 (List.mem_cons_of_mem _ hx)) with rfl | e
      · exact absurd (h2.1 _ hx) (by omega)
      · exact e
def srtI (l:List Int):List Int:=l.mergeSort fun x y=>decide (x ≤ y)
theorem srtI_sorted (zs:List Int):(srtI zs).Pairwise (· ≤ ·):=by
  have:=List.pairwise_mergeSort (le:=fun a b:Int=>decide (a ≤ b)) (fun a b c h1 h2=>by simp at *; omega) (fun a b=>by simp; omega) zs
  exact this.imp (by simp)
def Zcd (l:List Int):List Int:=Lib.compact (srtI l)
theorem onceI_lt (l:List Int):(Zcd l).Pairwise (· < ·):=(compact_sorted (srtI_sorted l)).1
theorem mem_onceI (l:List Int) (x:Int):x ∈ Zcd l ↔ x ∈ l:=((compact_sorted (srtI_sorted l)).2 x).trans (List.mergeSort_perm ..).mem_iff
theorem onceI_ext {l m:List Int} (h:∀ x,x ∈ l ↔ x ∈ m):Zcd l = Zcd m :=
  lt_ext (onceI_lt l) (onceI_lt m) fun x=>by rw [mem_onceI,mem_onceI,h]
theorem onceI_self {l:List Int} (h:l.Pairwise (· < ·)):Zcd l = l:=lt_ext (onceI_lt l) h (mem_onceI l)
theorem onceI_len (l:List Int):(Zcd l).length ≤ l.length:=by
  have h:∀ (d:Array Int) (m:Nat),(Lib.compactUpTo d m).length ≤ m:=by
    intro d m
    unfold Lib.compactUpTo
    rw [List.length_map]
    exact Nat.le_trans (List.length_filter_le _ _) (by simp)
  unfold Zcd Lib.compact
  exact Nat.le_trans (h _ _) (by simp [srtI])
def Zcj:Int → List Int → Nat
  | _,[]=>0
  | a,b :: r=>if b = a + 1 then Zcj b r + 1 else 0
theorem runLen_le:∀ (l:List Int) (a:Int),Zcj a l ≤ l.length
  | [],_=>Nat.le_refl _
  | b :: r,a=>by
    unfold Zcj
    split
    · have:=runLen_le r b; simp; omega
    · simp
theorem runLen_at:∀ (l:List Int) (a:Int) (j:Nat) (h:j < Zcj a l),l[j]'(Nat.lt_of_lt_of_le h (runLen_le l a)) = a + 1 + j
  | b :: r,a,j,h=>by
    have h':=h
    unfold Zcj at h'
    split at h'
    · rename_i hb
      match j,h,h' with
      | 0,_,_=>simp [hb]
      | j + 1,h,h' =>
        have:=runLen_at r b j (by omega)
        simp only [List.getElem_cons_succ,this]
        omega
    · omega
theorem runLen_stop:∀ (l:List Int) (a:Int) (h:Zcj a l < l.length),l[Zcj a l] ≠ a + 1 + Zcj a l
  | b :: r,a,h=>by
    by_cases hb:b = a + 1
    · have e:Zcj a (b :: r) = Zcj b r + 1:=if_pos hb
      have ih:=runLen_stop r b (by rw [e] at h; simpa using h)
      simp only [e,List.getElem_cons_succ]
      omega
    · have e:Zcj a (b :: r) = 0:=if_neg hb
      simp only [e,List.getElem_cons_zero]
      omega
def toT:Str:=[32,116,111,32]
def runT (a:Int) (k:Nat):List Str:=if k = 0 then [Lib.itoa a] else if k = 1 then [Lib.itoa a,Lib.itoa (a + 1)] else [Lib.itoa a ++ toT ++ Lib.itoa (a + k)]
def partsT:Nat → List Int → List Str
  | 0,_=>[]
  | _,[]=>[]
  | f + 1,a :: r=>runT a (Zcj a r) ++ partsT f (r.drop (Zcj a r))
theorem partsT_fuel:∀ (f g:Nat) (l:List Int),l.length ≤ f → l.length ≤ g → partsT f l = partsT g l
  | 0,0,_,_,_=>rfl
  | 0,_ + 1,[],_,_=>rfl
  | _ + 1,0,[],_,_=>rfl
  | _ + 1,_ + 1,[],_,_=>rfl
  | f + 1,g + 1,a :: r,h1,h2=>by
    unfold partsT
    rw [partsT_fuel f g _ (by simp at *; omega) (by simp at *; omega)]
def partsI (l:List Int):List Str:=partsT l.length l
theorem partsI_cons (a:Int) (r:List Int):partsI (a :: r) = runT a (Zcj a r) ++ partsI (r.drop (Zcj a r)):=by
  unfold partsI
  rw [List.length_cons,partsT,partsT_fuel r.length (r.drop (Zcj a r)).length _ (by simp) (Nat.le_refl _)]
theorem runT_len (a:Int) (k:Nat):(runT a k).length ≤ k + 1:=by
  unfold runT
  split
  · simp
  · split
    · simp; omega
    · simp
theorem partsT_len:∀ (f:Nat) (l:List Int),(partsT f l).length ≤ l.length
  | 0,l=>by simp [partsT]
  | _ + 1,[]=>by simp [partsT]
  | f + 1,a :: r=>by
    have h1:=runT_len a (Zcj a r)
    have h2:=partsT_len f (r.drop (Zcj a r))
    have h3:=runLen_le r a
    simp only [partsT,List.length_append,List.length_cons,List.length_drop] at *
    omega
def sepT:Str:=[44,32]
def rangesS (l:List Int):Str:=Lib.join (partsI (Zcd l)) sepT
end Go.Proofs.YtjmekckcffckoabGreatDoor.w
namespace Go.Proofs.YtjmekckcffckoabGreatDoor.w
open Go Go.VM
set_option maxRecDepth 20000
theorem decode_low (s:ByteArray) (i:Nat) (h:(s.get! i).toNat < 128):Utf8.decode s i = ((s.get! i).toNat,1):=by
  simp [Utf8.decode,h]
theorem decode_high (s:ByteArray) (i:Nat) (hi:i < s.size) (h:¬ (s.get! i).toNat < 128):128 ≤ (Utf8.decode s i).1 ∧ 1 ≤ (Utf8.decode s i).2 ∧ ∀ k,k < (Utf8.decode s i).2 → i + k < s.size ∧ ¬ (s.get! (i + k)).toNat < 128:=by
  have one:∀ k,k < 1 → i + k < s.size ∧ ¬ (s.get! (i + k)).toNat < 128:=fun k hk=>by
    obtain rfl:k = 0:=by omega
    exact ⟨hi,h⟩
  have h':¬ (s.get! (i + 0)).toNat < 0x80:=h
  unfold Utf8.decode
  simp only [h',if_false,Utf8.runeError]
  split
  · rename_i h1
    simp only [Bool.and_eq_true,decide_eq_true_eq,beq_iff_eq] at h1
    split
    · rename_i h2
      refine ⟨h2,(by simp),fun k hk=>?_⟩
      simp only at hk
      obtain rfl | rfl:k = 0 ∨ k = 1:=by omega
      · exact ⟨hi,h⟩
      · exact ⟨h1.2.1,by omega⟩
    · exact ⟨by simp,by simp,one⟩
  · split
    · rename_i h1
      simp only [Bool.and_eq_true,decide_eq_true_eq,beq_iff_eq] at h1
      split
      · rename_i h2
        simp only [Bool.and_eq_true,decide_eq_true_eq] at h2
        refine ⟨by simp only []; omega,(by simp),fun k hk=>?_⟩
        simp only at hk
        obtain rfl | rfl | rfl:k = 0 ∨ k = 1 ∨ k = 2:=by omega
        · exact ⟨hi,h⟩
        · exact ⟨h1.1.2.1,by omega⟩
        · exact ⟨h1.2.1,by omega⟩
      · exact ⟨by simp,by simp,one⟩
    · split
      · rename_i h1
        simp only [Bool.and_eq_true,decide_eq_true_eq,beq_iff_eq] at h1
        split
        · rename_i h2
          simp only [Bool.and_eq_true,decide_eq_true_eq] at h2
          refine ⟨by simp only []; omega,(by simp),fun k hk=>?_⟩
          simp only at hk
          obtain rfl | rfl | rfl | rfl:k = 0 ∨ k = 1 ∨ k = 2 ∨ k = 3:=by omega
          · exact ⟨hi,h⟩
          · exact ⟨h1.1.1.2.1,by omega⟩
          · exact ⟨h1.1.2.1,by omega⟩
          · exact ⟨h1.2.1,by omega⟩
        · exact ⟨by simp,by simp,one⟩
      · exact ⟨by simp,by simp,one⟩
theorem get!_at (s:ByteArray) (i:Nat) (h:i < s.size):s.get! i = s.data.toList[i]'(by simpa using h):=by
  have h2:i < s.data.size:=h
  have:s.get! i = s.data[i]!:=rfl
  rw [this,getElem!_pos s.data i h2,Array.getElem_toList]
def fldF:Str → Str → List Str
  | cur,[]=>if cur = [] then [] else [cur]
  | cur,b :: r=>if b = 32 then (if cur = [] then fldF [] r else cur :: fldF [] r) else fldF (cur ++ [b]) r
def Zb9 (s:Str):List Str:=fldF [] s
def cutF:Str → Str → List Str
  | cur,[]=>[cur]
  | cur,b :: r=>if b = 32 then cur :: cutF [] r else cutF (cur ++ [b]) r
theorem cut_fields:∀ (s cur:Str),(cutF cur s).filter (fun x=>x != []) = fldF cur s
  | [],cur=>by
    unfold cutF fldF
    by_cases h:cur = [] <;> simp [h]
  | b :: r,cur=>by
    unfold cutF fldF
    by_cases hb:b = 32
    · rw [if_pos hb,if_pos hb,List.filter_cons,cut_fields r []]
      by_cases h:cur = [] <;> simp [h]
    · rw [if_neg hb,if_neg hb,cut_fields r _]
theorem fldF_skip:∀ (m cur r:Str),(∀ b ∈ m,b ≠ 32) → fldF cur (m ++ r) = fldF (cur ++ m) r
  | [],cur,r,_=>by simp
  | b :: m,cur,r,h=>by
    rw [List.cons_append,fldF,if_neg (h b List.mem_cons_self),fldF_skip m _ r fun x hx=>h x (List.mem_cons_of_mem _ hx)]
    simp
def isSp (x:Nat):Bool:=x == 32
def piece (s:ByteArray) (x:Nat × Nat):Str:=(s.extract x.1 x.2).data.toList
theorem piece_eq (s:ByteArray) (a b:Nat):piece s (a,b) = (s.data.toList.drop a).take (b - a):=by
  show (s.extract a b).data.toList = _
  rw [ByteArray.data_extract,Array.toList_extract,List.extract_eq_take_drop]
theorem spans_fields (s : ByteArray) : ∀ (f pos : Nat) (st : Option Nat) (acc : List (Nat × Nat)), s.size ≤ pos + f → pos ≤ s.size → (∀ a, st = some a → a < pos) →
    (Lib.closeSpans s (Lib.spansFromP isSp s f pos st acc)).map (piece s) = acc.map (piece s) ++ fldF (match st with | some a=>piece s (a,pos) | none=>[]) (s.data.toList.drop pos):=by
  intro f
  induction f with
  | zero =>
    intro pos st acc hf hp ha
    have hpe:pos = s.size:=by omega
    subst hpe
    have hd:s.data.toList.drop s.size = []:=List.drop_eq_nil_of_le (by simp)
    rw [hd]
    cases st with
    | none=>simp [Lib.spansFromP,Lib.closeSpans,fldF]
    | some a =>
      have hlt:=ha a rfl
      have hne:piece s (a,s.size) ≠ []:=by
        rw [piece_eq]
        intro h
        have:=congrArg List.length h
        simp at this; omega
      simp [Lib.spansFromP,Lib.closeSpans,fldF,hne]
  | succ f ih =>
    intro pos st acc hf hp ha
    by_cases hlt:pos < s.size
    · have hl:pos < s.data.toList.length:=by simpa using hlt
      have hg:=get!_at s pos hlt
      unfold Lib.spansFromP
      rw [if_pos hlt]
      by_cases h1:(s.get! pos).toNat < 128
      · rw [decode_low s pos h1]
        rw [List.drop_eq_getElem_cons hl,← hg]
        simp only []
        by_cases h2:s.get! pos = 32
        · have e:isSp (s.get! pos).toNat = true:=by rw [h2]; rfl
          rw [if_pos e]
          cases st with
          | none =>
            simp only []
            rw [ih _ _ _ (by omega) (by omega) (fun a h=>by cases h)]
            rw [h2]
            simp [fldF]
          | some a =>
            simp only []
            have hlt2:=ha a rfl
            have hne:piece s (a,pos) ≠ []:=by
              rw [piece_eq]
              intro h
              have:=congrArg List.length h
              simp at this; omega
            rw [ih _ _ _ (by omega) (by omega) (fun a h=>by cases h)]
            rw [h2]
            simp [fldF,hne]
        · have e : isSp (s.get! pos).toNat = false := by
            unfold isSp
            rw [beq_eq_false_iff_ne]
            intro h
            exact h2 (UInt8.toNat_inj.1 (by rw [h]; rfl))
          rw [e]
          simp only [Bool.false_eq_true,if_false]
          cases st with
          | none =>
            simp only []
            rw [ih _ _ _ (by omega) (by omega) (fun a h=>by cases h; omega)]
            simp only [fldF,h2,if_false,List.nil_append]
            congr 2
            rw [piece_eq,List.drop_eq_getElem_cons hl,← hg]
            simp
          | some a =>
            simp only []
            have hlt2:=ha a rfl
            rw [ih _ _ _ (by omega) (by omega) (fun a h=>by cases h; omega)]
            simp only [fldF,h2,if_false]
            congr 2
            rw [piece_eq,piece_eq,hg]
            rw [show pos + 1 - a = (pos - a) + 1 by omega,List.take_add_one,List.getElem?_drop,show a + (pos - a) = pos by omega,List.getElem?_eq_getElem hl]
            rfl
      · obtain ⟨d1,d2,d3⟩:=decode_high s pos hlt h1
        generalize hW:Utf8.decode s pos = W at d1 d2 d3
        obtain ⟨rn,wd⟩:=W
        simp only [] at d1 d2 d3 ⊢
        have e:isSp rn = false:=by
          unfold isSp
          rw [beq_eq_false_iff_ne]; omega
        rw [e]
        simp only [Bool.false_eq_true,if_false]
        have hlast:=(d3 (wd - 1) (by omega)).1
        have hsplit:s.data.toList.drop pos = (s.data.toList.drop pos).take wd ++ s.data.toList.drop (pos + wd):=by
          rw [← List.drop_drop,List.take_append_drop]
        have hno:∀ b ∈ (s.data.toList.drop pos).take wd,b ≠ 32:=by
          intro b hb
          obtain ⟨k,hk,rfl⟩:=List.mem_iff_getElem.1 hb
          have hk':k < wd:=by simp at hk; omega
          have h4:=d3 k hk'
          rw [get!_at s (pos + k) h4.1] at h4
          rw [List.getElem_take,List.getElem_drop]
          intro h5
          rw [h5] at h4
          exact h4.2 (by decide)
        rw [hsplit,fldF_skip _ _ _ hno]
        cases st with
        | none =>
          simp only []
          rw [ih _ _ _ (by omega) (by omega) (fun a h=>by cases h; omega)]
          congr 2
          show piece s (pos,pos + wd) = _
          rw [piece_eq,show pos + wd - pos = wd by omega]
          simp
        | some a =>
          simp only []
          have hlt2:=ha a rfl
          rw [ih _ _ _ (by omega) (by omega) (fun a h=>by cases h; omega)]
          congr 2
          show piece s (a,pos + wd) = _ ++ _
          rw [piece_eq]
          rw [show pos + wd - a = (pos - a) + wd by omega,List.take_add,List.drop_drop,show a + (pos - a) = pos by omega]
          rw [piece_eq]
    · have hpe:pos = s.size:=by omega
      subst hpe
      rw [Lib.spansFromP_end _ _ _ _ _ _ (by omega)]
      have hd:s.data.toList.drop s.size = []:=List.drop_eq_nil_of_le (by simp)
      rw [hd]
      cases st with
      | none=>simp [Lib.closeSpans,fldF]
      | some a =>
        have hlt:=ha a rfl
        have hne:piece s (a,s.size) ≠ []:=by
          rw [piece_eq]
          intro h
          have:=congrArg List.length h
          simp at this; omega
        simp [Lib.closeSpans,fldF,hne]
theorem goFields_plain (l:Str):(Lib.goFieldsP isSp ⟨l.toArray⟩).map (fun x=>x.data.toList) = Zb9 l:=by
  have h:=spans_fields ⟨l.toArray⟩ (ByteArray.mk l.toArray).size 0 none [] (by omega) (by omega) (fun a h=>by cases h)
  unfold Lib.goFieldsP Lib.spansOfP
  rw [List.map_map]
  exact h
end Go.Proofs.YtjmekckcffckoabGreatDoor.w
