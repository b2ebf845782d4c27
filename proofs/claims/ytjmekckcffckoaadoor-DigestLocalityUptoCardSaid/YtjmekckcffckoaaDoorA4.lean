import Derived.Test.YtjmekckcffckoaaDoorA2
import Derived.Test.YtjmekckcffckoaaDoorA3
import Derived.Test.YtjmekckcffckoaaDoorShAll
import Derived.Lib.AppendIntMem
import Derived.Lib.ItoaNum
import Derived.Lib.Join
import Derived.Test.YtjmekckcffckoaaDoorVmQ
import Derived.Test.YtjmekckcffckoaaDoorVmG
set_option linter.all false
namespace Go.Proofs.YtjmekckcffckoaaDoor.w
open Go Go.VM
set_option maxRecDepth 20000
set_option maxHeartbeats 0
set_option pp.deepTerms false
theorem known_pow:known.lookup 0 = some (Lib.pow10Tab.map fun z=>Value.int .u64 z):=by kernel_rfl
theorem sp_strconv_Itoa (n:Int) (hn:i64 n):Za8 Tryd.prog 69 [pI n] (.str (Lib.itoa n)):=by
  refine PCall_of (by kernel_rfl) (by intro x hx; rw [List.mem_singleton] at hx; subst hx; exact cI _) fun g w vals r ha=>?_
  obtain ⟨v,rfl,hv⟩:=args_1 ha
  obtain rfl:=hv.int_inv
  rw [i64_iff] at hn
  refine (Tryd.strconv_Itoa n (by omega) (by omega) w (var_known r known_pow (by kernel_rfl))).mono ?_
  rintro e w' ⟨rfl,k,os,rfl⟩
  exact ⟨_,rfl,fun g=>.str _ _ rfl,Lib.below_grow _ _ (Nat.le_refl _) _ _⟩
theorem join_none (a:Option Addr) (cap:Nat) (sep:Str) (w:World):Calls Tryd.prog 72 #[.slice a 0 cap,.string ⟨sep.toArray⟩] w fun e w'=>∃ v,e = .returned v ∧ (∀ g,Rep g v (.str (Lib.join [] sep))) ∧ RowKit.Below w.heap.size w w':=by
  refine (Tryd.strings_Join_none a cap _ w).mono ?_
  rintro e w' ⟨rfl,rfl⟩
  exact ⟨_,rfl,fun g=>.str _ _ (by simp [Lib.join,List.intercalate]),RowKit.Below.refl _ _⟩
theorem join_some (l : List Str) (sep : Str) (hl : l.length ≤ 1000000) (hlen : (Lib.join l sep).length ≤ 140737488355328) (b o cap : Nat) (w : World) (hc : l.length ≤ cap) (hb : b < w.heap.size)
    (hcells:∀ (j:Nat) (x:ByteArray),(l.map fun s=>(⟨s.toArray⟩:ByteArray))[j]? = some x → w.cell? ⟨b,o + j,none⟩ = some (.string x)) :
    Calls Tryd.prog 72 #[.slice (some ⟨b,o,none⟩) (l.map fun s=>(⟨s.toArray⟩:ByteArray)).length cap,.string ⟨sep.toArray⟩] w fun e w'=>∃ v,e = .returned v ∧ (∀ g,Rep g v (.str (Lib.join l sep))) ∧ RowKit.Below w.heap.size w w':=by
  have e2:((l.map fun s=>(⟨s.toArray⟩:ByteArray)).map (·.data.toList)) = l:=by rw [List.map_map]; simp [Function.comp_def]
  generalize (l.map fun s=>(⟨s.toArray⟩:ByteArray)) = xs at hcells e2 ⊢
  have hx:xs.length = l.length:=by rw [← e2]; simp
  have hj:Lib.join (xs.map (·.data.toList)) (ByteArray.mk sep.toArray).data.toList = Lib.join l sep:=by rw [e2]
  refine (Tryd.strings_Join b o cap xs ⟨sep.toArray⟩ w hcells hb (by omega) (by omega) (by rw [hj]; exact hlen)).mono ?_
  rintro e w' ⟨rfl,hw⟩
  exact ⟨_,rfl,fun g=>.str _ _ (by rw [hj]),hw⟩
theorem sp_strings_Join (l:List Str) (sep:Str) (hl:l.length ≤ 1000000) (hlen:(Lib.join l sep).length ≤ 140737488355328):Za8 Tryd.prog 72 [It.strs l,.str sep] (.str (Lib.join l sep)):=by
  refine PCall_of (by kernel_rfl) (by intro x hx; simp only [List.mem_cons,List.not_mem_nil,or_false] at hx; rcases hx with rfl | rfl; exact closed_strs _; exact cS _) ?_
  intro g w vals r ha
  obtain ⟨v,u,rfl,hv,hu⟩:=args_2 ha
  obtain ⟨s,rfl,hs⟩:=hu.str_inv
  rw [str_eq hs]
  rcases strs_cells r hv with ⟨a,cap,rfl,rfl⟩ | ⟨b,o,cap,rfl,hc,hb,hcells⟩
  · exact join_none a cap sep w
  · exact join_some l sep hl hlen b o cap w hc hb hcells
theorem sp_strings_Repeat (s:Str) (n:Nat) (hn:n ≤ 1000000) (hs:s.length ≤ 1000):Za8 Tryd.prog 26 [.str s,pI n] (.str (Lib.repeatL s n)):=by
  refine PCall_of (by kernel_rfl) (by intro x hx; simp only [List.mem_cons,List.not_mem_nil,or_false] at hx; rcases hx with rfl | rfl; exact cS _; exact cI _) fun g w vals r ha=>?_
  obtain ⟨v,u,rfl,hv,hu⟩:=args_2 ha
  obtain ⟨z,rfl,hz⟩:=hv.str_inv
  obtain rfl:=hu.int_inv
  rw [str_eq hz]
  have hm:s.length * n ≤ 1000 * 1000000:=Nat.mul_le_mul hs hn
  refine (Tryd.strings_Repeat ⟨s.toArray⟩ n w (by omega) (by show s.toArray.size * n ≤ _; rw [List.size_toArray]; omega)).mono ?_
  rintro e w' ⟨rfl,hb⟩
  exact ⟨_,rfl,fun g=>.str _ _ rfl,hb⟩
theorem itoa_pos_small {n:Int} (h0:0 ≤ n) (h:n < 10):Lib.itoa n = [UInt8.ofNat (48 + n.toNat)]:=by
  unfold Lib.itoa
  rw [if_neg (by omega),Lib.decDigits,dif_pos (by omega)]
theorem itoa_len (n:Int) (h:i64 n):(Lib.itoa n).length ≤ 20:=by
  rw [i64_iff] at h
  have d:∀ (k:Nat) (u:Nat),u < 10 ^ (k + 1) → (Lib.decDigits u).length ≤ k + 1:=by
    intro k
    induction k with
    | zero=>intro u hu; rw [Lib.decDigits,dif_pos (by omega)]; simp
    | succ k ih =>
      intro u hu
      rw [Lib.decDigits]
      split
      · simp
      · have:=ih (u / 10) (by rw [Nat.pow_succ] at hu; omega)
        simp; omega
  unfold Lib.itoa
  split
  · have:=d 18 n.natAbs (by simp; omega)
    simp; omega
  · have:=d 18 n.toNat (by simp; omega)
    omega
theorem rep_zeros (n:Nat):Lib.repeatL [48] n = zeros n:=by
  have:=Lib.repeatL_replicate 48 1 n
  rw [Nat.mul_one] at this
  exact this
theorem sp_digest_Sum (s:Str) (hs:s.length ≤ 1000000000):Za8 Tryd.prog 9 [.str s] (.str (sumT s)) :=
  sp_Sum sp_FormatUint (fun n hn=>by have:=sp_strings_Repeat [48] n (by omega) (by simp); rw [rep_zeros] at this; exact this) s hs
end Go.Proofs.YtjmekckcffckoaaDoor.w
namespace Go.Proofs.YtjmekckcffckoaaDoor.w
open Go Go.VM
set_option maxRecDepth 20000
set_option maxHeartbeats 0
set_option pp.deepTerms false
def pieceT (s:Str):Str:=Lib.itoa (s.length:Int) ++ [58] ++ s
def threeT (a b c:Int):Str:=Lib.itoa a ++ [46] ++ Lib.itoa b ++ [46] ++ Lib.itoa c
def wordT (m:Bool) (w:Wd):Str:=[32] ++ pieceT w.text ++ (if m then [64] ++ threeT w.act w.item w.at' else [])
def rowT (m:Bool) (l:List Wd):Str:=Lib.itoa (l.length:Int) ++ l.flatMap (wordT m)
theorem rowT_step (m:Bool) {l:List Wd} {k:Nat} (h:k < l.length):(l.take (k + 1)).flatMap (wordT m) = (l.take k).flatMap (wordT m) ++ wordT m l[k]:=by
  rw [List.take_add_one,List.getElem?_eq_getElem h,List.flatMap_append]; simp
theorem nat_i64 {n:Nat} (h:n ≤ 1000000000000):i64 (n:Int):=i64_iff.2 (by omega)
theorem piece_len (s:Str) (h:s.length ≤ 1000000):(pieceT s).length ≤ s.length + 21:=by
  have:=itoa_len _ (nat_i64 (n:=s.length) (by omega))
  unfold pieceT; simp; omega
theorem three_len {a b c:Int} (ha:i64 a) (hb:i64 b) (hc:i64 c):(threeT a b c).length ≤ 62:=by
  have:=itoa_len _ ha; have:=itoa_len _ hb; have:=itoa_len _ hc
  unfold threeT; simp; omega
theorem rowm {α:Type} {enc:α → List PV} {l:List α} {k:Nat} (h:k < l.length):(l.map enc).getD k [] = enc l[k]:=by simp [List.getD_eq_getElem?_getD,h]
theorem word_len (m:Bool) {w:Wd} (h:w.text.length ≤ 10000 ∧ i64 w.act ∧ i64 w.item ∧ i64 w.at'):(wordT m w).length ≤ 11000:=by
  have h1:=piece_len w.text (by omega)
  have h2:=three_len h.2.1 h.2.2.1 h.2.2.2
  unfold wordT
  cases m <;> simp <;> omega
theorem flat_len {m:Bool}:∀ {l:List Wd},(∀ w ∈ l,w.text.length ≤ 10000 ∧ i64 w.act ∧ i64 w.item ∧ i64 w.at') → (l.flatMap (wordT m)).length ≤ l.length * 11000
  | [],_=>by simp
  | w :: r,h=>by
    have h1:=word_len m (h w List.mem_cons_self)
    have h2:=flat_len (m:=m) (l:=r) fun x hx=>h x (List.mem_cons_of_mem _ hx)
    rw [List.flatMap_cons,List.length_append,List.length_cons,Nat.add_mul]
    omega
def Zbo (m:Bool) (u:Un):Str:=(if m then threeT u.act u.item u.n ++ [32] else []) ++ Lib.itoa u.kind ++ [32] ++ pieceT u.label ++ [10] ++ rowT m u.head ++ [10] ++ rowT m u.words ++ [10]
structure SmalU (u : Un) : Prop where
  ok : i64 u.act ∧ i64 u.item ∧ i64 u.n ∧ i64 u.kind
  label : u.label.length ≤ 10000
  head : u.head.length ≤ 1000 ∧ ∀ w ∈ u.head, w.text.length ≤ 10000 ∧ i64 w.act ∧ i64 w.item ∧ i64 w.at'
  words : u.words.length ≤ 1000 ∧ ∀ w ∈ u.words, w.text.length ≤ 10000 ∧ i64 w.act ∧ i64 w.item ∧ i64 w.at'
theorem row_len (m:Bool) {l:List Wd} (hl:l.length ≤ 1000) (ht:∀ w ∈ l,w.text.length ≤ 10000 ∧ i64 w.act ∧ i64 w.item ∧ i64 w.at'):(rowT m l).length ≤ 20000000:=by
  have h1:=flat_len (m:=m) ht
  have h2:l.length * 11000 ≤ 1000 * 11000:=Nat.mul_le_mul hl (Nat.le_refl _)
  have h3:=itoa_len _ (nat_i64 (n:=l.length) (by omega))
  unfold rowT
  rw [List.length_append]; omega
end Go.Proofs.YtjmekckcffckoaaDoor.w
namespace Go.Proofs.YtjmekckcffckoaaDoor.w
open Go Go.VM
set_option maxRecDepth 20000
set_option maxHeartbeats 0
set_option pp.deepTerms false
mutual
def saysT (m : Bool) : Un → Str
  | .mk a i n k l h w ks => sumT (Zbo m (.mk a i n k l h w ks) ++ saysL m ks)
def saysL (m : Bool) : List Un → Str
  | [] => []
  | k :: r => saysT m k ++ saysL m r
end
theorem saysT_eq (m:Bool) (u:Un):saysT m u = sumT (Zbo m u ++ saysL m u.kids):=by cases u; rw [saysT]; rfl
theorem saysT_len (m:Bool) (u:Un):(saysT m u).length = 16:=by rw [saysT_eq]; exact hexK_len 16 _
theorem saysL_flat (m:Bool):∀ l:List Un,saysL m l = l.flatMap (saysT m)
  | []=>by rw [saysL]; rfl
  | k :: r=>by rw [saysL,saysL_flat m r,List.flatMap_cons]
theorem saysL_len (m:Bool):∀ l:List Un,(saysL m l).length = l.length * 16
  | []=>by rw [saysL]; rfl
  | k :: r=>by rw [saysL,List.length_append,saysT_len,saysL_len m r,List.length_cons]; omega
theorem saysL_step (m:Bool) {l:List Un} {k:Nat} (h:k < l.length):saysL m (l.take (k + 1)) = saysL m (l.take k) ++ saysT m l[k]:=by
  rw [saysL_flat,saysL_flat,List.take_add_one,List.getElem?_eq_getElem h,List.flatMap_append]; simp
theorem alone_len (m:Bool) {u:Un} (h:SmalU u):(Zbo m u).length ≤ 50000000:=by
  have l1:=itoa_len _ h.ok.2.2.2
  have l2:=three_len h.ok.1 h.ok.2.1 h.ok.2.2.1
  have l3:=piece_len u.label (by have:=h.label; omega)
  have l4:=row_len m h.head.1 h.head.2
  have l5:=row_len m h.words.1 h.words.2
  have hl:=h.label
  unfold Zbo
  cases m <;> simp <;> omega
inductive SmalT : Un → Prop
  | mk (u : Un) (h : SmalU u) (hk : u.kids.length ≤ 1000) (hs : ∀ k ∈ u.kids, SmalT k) : SmalT u
end Go.Proofs.YtjmekckcffckoaaDoor.w
namespace Go.Proofs.YtjmekckcffckoaaDoor.w
open Go Go.VM
set_option maxRecDepth 20000
set_option maxHeartbeats 0
set_option pp.deepTerms false
structure Idt where
  act : Int
  item : Int
  n : Int
  deriving DecidableEq, Inhabited
def Idt.enc (x:Idt):List PV:=[pI x.act,pI x.item,pI x.n]
def ltId (a b:Idt):Bool:=if a.act ≠ b.act then decide (a.act < b.act) else if a.item ≠ b.item then decide (a.item < b.item) else decide (a.n < b.n)
theorem closed_id (x:Idt):Closed (.agg x.enc):=Zao fun y hy=>by
  simp only [Idt.enc,List.mem_cons,List.not_mem_nil,or_false] at hy
  rcases hy with rfl | rfl | rfl <;> exact cI _
theorem closed_ids (l:List Idt):Closed (.sl 3 (l.map Idt.enc)):=Zau fun x _ y hy=>by
  simp only [Idt.enc,List.mem_cons,List.not_mem_nil,or_false] at hy
  rcases hy with rfl | rfl | rfl <;> exact cI _
end Go.Proofs.YtjmekckcffckoaaDoor.w
namespace Go.Proofs.YtjmekckcffckoaaDoor.w
open Go Go.VM
set_option maxRecDepth 20000
set_option maxHeartbeats 0
set_option pp.deepTerms false
end Go.Proofs.YtjmekckcffckoaaDoor.w
namespace Go.Proofs.YtjmekckcffckoaaDoor.w
open Go Go.VM
set_option maxRecDepth 20000
set_option maxHeartbeats 0
set_option pp.deepTerms false
def c_pandectref12_Units:VC:=(.seq (.region [ZO 1 (.box 8 (.t 0)),ZO 2 (.mv (.c .nilsl))] false) (.seq (.region [ZO 5 (.load true 8 (.t 1)),ZO 6 (.bslice 8 1 [(.int .i64 0),(.int .i64 0),(.int .i64 0),(.int .i64 0),(.str []),.nilsl,.nilsl,.nilsl] [(0,(.t 5))]),ZM 3 6] false) (.seq (.seq (.region [ZO 4 (.mv (.c (.int .i64 0)))] false) (.block 0 (.loop (.seq (.seq (.region [ZM 7 4,ZO 8 (.faddr 7 (.t 1)),ZO 9 (.load false 1 (.t 8)),ZO 10 (.len false (.t 9)),ZO 11 (.bin .lss (.t 7) (.t 10))] false) (.cond (.t 11) .skip (.exit 0))) (.seq (.block 1 (.region [ZM 14 3,ZO 15 (.faddr 7 (.t 1)),ZO 16 (.load false 1 (.t 15)),ZM 17 4,ZO 18 (.iaddr 8 (.t 16) (.t 17)),ZO 19 (.load true 8 (.t 18)),ZO 20 (.call 22 [(.t 19)]),ZO 21 (.app 8 120 [(.int .i64 0),(.int .i64 0),(.int .i64 0),(.int .i64 0),(.str []),.nilsl,.nilsl,.nilsl] false (.t 14) (.t 20)),ZM 3 21] false)) (.region [ZM 12 4,ZO 13 (.bin .add (.t 12) (.c (.int .i64 1))),ZM 4 13] false)))))) (.seq (.region [ZM 22 3,ZM 2 22] false) .ret))))
mutual
def unitsT : Un → List Un
  | .mk a i n k l h w ks => .mk a i n k l h w ks :: unitsL ks
def unitsL : List Un → List Un
  | [] => []
  | k :: r => unitsT k ++ unitsL r
end
theorem Za5 (u:Un):unitsT u = u :: unitsL u.kids:=by cases u; rw [unitsT]; rfl
theorem Zby:∀ l:List Un,unitsL l = l.flatMap unitsT
  | []=>by rw [unitsL]; rfl
  | k :: r=>by rw [unitsL,Zby r,List.flatMap_cons]
theorem unitsL_step {l:List Un} {k:Nat} (h:k < l.length):unitsL (l.take (k + 1)) = unitsL (l.take k) ++ unitsT l[k]:=by
  rw [Zby,Zby,List.take_add_one,List.getElem?_eq_getElem h,List.flatMap_append]; simp
theorem unitsL_take (l:List Un) (k:Nat):(unitsL (l.take k)).length ≤ (unitsL l).length:=by
  have:unitsL l = unitsL (l.take k) ++ unitsL (l.drop k):=by rw [Zby,Zby,Zby,← List.flatMap_append,List.take_append_drop]
  rw [this]; simp
def unK (u:Un) (k:Nat):List Un:=u :: unitsL (u.kids.take k)
theorem closed_uns (l:List Un):Closed (.sl 8 (l.map Un.enc)):=Zau fun u _ y hy=>Un.closed u y hy
inductive KidT : Un → Prop
  | mk (u : Un) (hk : u.kids.length ≤ 1000) (hs : ∀ k ∈ u.kids, KidT k) : KidT u
theorem SmalT.kidT {u:Un} (h:SmalT u):KidT u:=by
  induction h with
  | mk u h hk hs ih=>exact .mk u hk ih
theorem sp_r_Units {u:Un} (hu:KidT u) (hn:(unitsT u).length ≤ 100000):Za8 Tryd.prog 22 [.agg u.enc] (.sl 8 ((unitsT u).map Un.enc)):=by
  induction hu with
  | mk u hk hs ih =>
    rw [Za5] at hn ⊢
    simp only [List.length_cons] at hn
    refine Zai ?_ (closed_uns _) (by simp only [Zax,List.mem_cons,List.not_mem_nil,or_false,forall_eq_or_imp,forall_eq,false_implies,implies_true]; repeat' (first  | exact Zao (Un.closed _) | exact Zau (fun w _=>Un.closed w) | refine And.intro ?_ ?_))
    refine Zan (vc:=c_pandectref12_Units) (ts:=[.t 2]) Go.Proofs.Tryd.func22 (by kernel_rfl) rfl rfl (Nat.le_of_ble_eq_true rfl) (by kernel_rfl) ?_
    unfold c_pandectref12_Units
    try dsimp only [ZM,ZO,ZN,ZG]
    have hcellsE:∀ v:Un,v.enc = [pI v.act,pI v.item,pI v.n,pI v.kind,.str v.label,.sl 4 (v.head.map Wd.enc),.sl 4 (v.words.map Wd.enc),.sl 8 (v.kids.map Un.enc)]:=Un.Za1
    rw [Un.Za1]
    refine Zac (Zaa [1,2] ?_)
    simp only [Zab,Zad,Zaf,pok,pval,VA.ev,Env.get,Env.put,Env.keep,Za3,Zae,PV.cells,PV.fits,Heap.push,Heap.nil,Nat.succ_ne_self,List.map,List.length,Nat.reduceEqDiff,Nat.reduceAdd,ite_true,ite_false,true_and,reduceCtorEq,BEq.rfl,Nat.zero_add]
    refine Zbu [(1,.ro [pI u.act,pI u.item,pI u.n,pI u.kind,.str u.label,.sl 4 (u.head.map Wd.enc),.sl 4 (u.words.map Wd.enc),.sl 8 (u.kids.map Un.enc)])] ⟨View.loc (z:=8) (fz:=false) (es:=[[pI u.act,pI u.item,pI u.n,pI u.kind,.str u.label,.sl 4 (u.head.map Wd.enc),.sl 4 (u.words.map Wd.enc),.sl 8 (u.kids.map Un.enc)]]) rfl (by simp) rfl (by simp),trivial⟩ ?_
    refine Zac (Zaa [1,3] ?_)
    simp only [Zab,Zad,Zaf,pok,pval,VA.ev,Env.get,Env.put,Env.keep,Zae,aggV,Zag,Zas,PV.cells,PV.fits,PV.nth,Heap.push,Nat.le_refl,Zbg,Zbr,List.set,List.replicate,List.length,List.getD_cons_zero,List.take,List.take_succ_cons,Nat.reduceEqDiff,Nat.reduceAdd,Nat.reduceLT,Bool.true_eq_false,ite_true,ite_false,true_and,and_true,BEq.rfl,Nat.zero_add,List.length_cons,imp_self]
    refine Zac ?_
    refine Zac (Zaa [1,3,4] ?_)
    simp only [Zab,Zad,Zaf,pok,pval,VA.ev,Env.get,Env.put,Env.keep,Zae,Nat.succ_ne_self,Nat.reduceEqDiff,ite_true,ite_false,true_and]
    refine Zam ?_
    refine Zb6 (σ:={ k:Nat × Nat × Nat // k.1 ≤ u.kids.length ∧ k.2.1 < k.2.2 }) (fun k=>([(1,.ro [pI u.act,pI u.item,pI u.n,pI u.kind,.str u.label,.sl 4 (u.head.map Wd.enc),.sl 4 (u.words.map Wd.enc),.sl 8 (u.kids.map Un.enc)]),(3,.own k.1.2.1 0 (unK u k.1.1).length),(4,pI k.1.1)],⟨[(k.1.2.1,.arr false 8 ((unK u k.1.1).map Un.enc))],k.1.2.2⟩)) (fun k=>u.kids.length - k.1.1) ⟨(0,1,2),Nat.zero_le _,by simp⟩ ?_ ?_ ?_
    · try simp only [Env.get,Nat.succ_ne_self,Env.le,Nat.reduceEqDiff,ite_true,ite_false,true_and,and_true,true_and]
      all_goals (repeat' (first | rfl | trivial | omega | (simp only []; omega) | refine And.intro ?_ ?_))
    · simp only [Heap.get,Heap.le,HL.get,HL.le,Nat.le_refl,ite_true,true_and,and_true,Option.some.injEq]
      simp [unK,unitsL,Un.Za1]
    rintro ⟨⟨k,id,n⟩,hkk,hid⟩
    simp only [] at hkk hid ⊢
    have qi0:(id = n) = False:=eq_false (by omega)
    have qi1:(id = (n + 1)) = False:=eq_false (by omega)
    have qi2:(n = id) = False:=eq_false (by omega)
    have qi3:(n = (n + 1)) = False:=eq_false (by omega)
    have qi4:((n + 1) = id) = False:=eq_false (by omega)
    have qi5:((n + 1) = n) = False:=eq_false (by omega)
    refine Zac ?_
    refine Zac (Zaa [1,3,4,11] ?_)
    simp only [Zab,Zad,Zaf,pok,pval,VA.ev,Env.get,Env.put,Env.keep,Zae,aggV,intV,binV,Zal,lenV,Zbi,Zbf,Zag,Zas,Zcd,PV.nth,Heap.get,Heap.le,HL.le,Nat.le_refl,Nat.succ_ne_self,Env.le,List.length,List.getD_cons_zero,List.take,List.drop,List.take_succ_cons,Nat.reduceEqDiff,Bool.false_eq_true,ite_true,ite_false,true_and,and_true,implies_true,Nat.zero_add,List.length_cons,List.length_map,qi0,qi1,qi2,qi3,qi4,qi5]
    refine Zaj rfl (fun h1=>?_) (fun h1=>?_)
    · simp only [decide_eq_true_eq] at h1
      have ka:k < u.kids.length:=by omega
      have hst:=unitsL_step ka
      have htk:=unitsL_take u.kids (k + 1)
      have hrow:(u.kids.map Un.enc).getD k [] = u.kids[k].enc:=rowm ka
      rw [hst,List.length_append] at htk
      have R:=ih _ (List.getElem_mem ka) (by omega)
      generalize u.kids[k] = v at hst hrow R htk
      rw [Un.Za1] at hrow R
      have hU:(unK u k).map Un.enc ++ (unitsT v).map Un.enc = (unK u (k + 1)).map Un.enc:=by unfold unK; rw [hst]; simp
      have hUl:(unK u k).length + (unitsT v).length = (unK u (k + 1)).length:=by unfold unK; rw [hst]; simp; omega
      have hb:(unK u k).length ≤ 200000:=by unfold unK; simp; omega
      generalize unitsT v = V at hU hUl R htk
      generalize (unK u k) = O at hU hUl hb ⊢
      have htO:List.take O.length (O.map Un.enc) = O.map Un.enc:=List.take_of_length_le (by simp)
      refine Zap ?_
      try simp only [Zae]
      refine Zac ?_
      refine Zam ?_
      refine Zaa [1,3,4] ?_
      simp only [Zab,Zad,Zaf,pok,pval,VA.ev,Env.get,Env.put,Env.keep,Zae,Zaw,aggV,isInt,numOf,lenV,Zbi,Zbf,Zag,Zas,iaddrV,Zb5,PV.nth,PV.row,Heap.get,Heap.del,Heap.push,Nat.le_refl,Nat.succ_ne_self,Zbe,oldId,Zbn,oldOk,Za0,srcOk,List.map,List.length,List.getD_cons_zero,List.take,List.drop,List.take_succ_cons,Nat.reduceEqDiff,Nat.reduceAdd,Bool.false_eq_true,Bool.true_eq_false,ite_true,ite_false,true_and,and_true,implies_true,Nat.zero_add,List.length_cons,imp_self,Int.toNat_natCast,List.length_map,hrow,qi0,qi1,qi2,qi3,qi4,qi5]
      refine ⟨by omega,?_⟩
      refine Zaq R ?_
      try simp only [HL.get,HL.del,Nat.le_refl,ite_true,true_and,and_true,List.length_map,htO,hU,qi0,qi1,qi2,qi3,qi4,qi5]
      refine ⟨by omega,by omega,?_⟩
      refine Zaa [1,3,4] ?_
      simp only [Zab,Zad,Zaf,pok,pval,VA.ev,Env.get,Env.put,Env.keep,Zae,intV,binV,Zal,HL.get,Nat.succ_ne_self,Nat.reduceEqDiff,ite_true,ite_false,true_and,ad1 (a:=k) (by omega),qi0,qi1,qi2,qi3,qi4,qi5]
      refine ⟨⟨(k + 1,n,n + 1),ka,by simp⟩,?_⟩
      simp only [← hUl]
      try simp only [Nat.le_refl,ite_true,true_and,and_true,qi0,qi1,qi2,qi3,qi4,qi5]
      all_goals (repeat' (first | rfl | trivial | omega | (simp only []; omega) | refine And.intro ?_ ?_))
    simp only [decide_eq_false_iff_not] at h1
    obtain rfl:k = u.kids.length:=by omega
    have hfinU:unK u u.kids.length = u :: unitsL u.kids:=by unfold unK; rw [List.take_length]
    rw [hfinU]
    refine Zbs ?_
    try simp only [Zae,Zaw,retQ,List.map,List.length,ite_true]
    refine Zac (Zaa [2] ?_)
    simp only [Zab,Zad,Zaf,pok,pval,VA.ev,Env.get,Env.put,Env.keep,Zae,Nat.succ_ne_self,Nat.reduceEqDiff,ite_true,ite_false,true_and,qi0,qi1,qi2,qi3,qi4,qi5]
    refine Zaz ?_
    try simp only [Env.get,retQ,resV,Zbc,RS.ev,RS.ok,ite_true,true_and,and_true]
    exact View.own_all (fz:=false) (by simp [Heap.get,HL.get]) (by simp)
end Go.Proofs.YtjmekckcffckoaaDoor.w
