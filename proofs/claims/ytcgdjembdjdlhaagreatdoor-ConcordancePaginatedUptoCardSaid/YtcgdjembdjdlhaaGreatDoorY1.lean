import Derived.Test.YtcgdjembdjdlhaaGreatDoorJn
import Derived.Test.YtcgdjembdjdlhaaGreatDoorVmPk
import Derived.Test.YtcgdjembdjdlhaaGreatDoorVmAx
import Derived.Test.YtcgdjembdjdlhaaGreatDoorV0
import Derived.Test.YtcgdjembdjdlhaaGreatDoorVmBa
import Derived.Test.YtcgdjembdjdlhaaGreatDoorVmE
set_option linter.all false
set_option maxRecDepth 20000
set_option maxHeartbeats 0
namespace Go.VM
open Go
theorem candV_bd {w:Int} {l:List Str} (hf:FitW w l) {i k:Nat} (hik:i<k) (hl:llen l i k≤w):0≤candV w l (Za3 w l) i k∧candV w l (Za3 w l) i k≤40000*(l.length:Int)+40000:=cand_bd hf hik hl (costAt_bd hf k)
end Go.VM
namespace Go.Proofs.w
open Go Go.VM
theorem closed_ends (E:List Nat):Closed (endsV E):=Zai (fun a _ x hx=>by simp only [List.mem_cons,List.not_mem_nil,or_false] at hx;subst hx;exact cI _)
theorem closed_brk (E:List Nat) (e:Int):Closed (.tup [endsV E,pI e]):=Zbl (by simp only [List.mem_cons,List.not_mem_nil,or_false,forall_eq_or_imp,forall_eq];exact ⟨closed_ends _,cI _⟩)
theorem closed_ws (w:Int) (l:List Str):Zax [pI w,It.strs l]:=by
 intro y hy;simp only [List.mem_cons,List.not_mem_nil,or_false] at hy;rcases hy with rfl|rfl
 ·exact cI _
 ·exact Zbd _
end Go.Proofs.w
namespace Go.VM
open Go
mutual
def unitsT : Un → List Un
 | .mk a i n k l h w ks => .mk a i n k l h w ks :: unitsL ks
def unitsL : List Un → List Un
 | [] => []
 | k :: r => unitsT k ++ unitsL r
end
theorem Zaj (u:Un):unitsT u=u::unitsL u.kids:=by cases u;rw [unitsT];rfl
theorem Zat:∀ l:List Un,unitsL l=l.flatMap unitsT
 | []=>by rw [unitsL];rfl
 | k::r=>by rw [unitsL,Zat r,List.flatMap_cons]
theorem unitsL_step {l:List Un} {k:Nat} (h:k<l.length):unitsL (l.take (k+1))=unitsL (l.take k)++unitsT l[k]:=by
 rw [Zat,Zat,List.take_add_one,List.getElem?_eq_getElem h,List.flatMap_append];simp
theorem unitsL_take (l:List Un) (k:Nat):(unitsL (l.take k)).length≤(unitsL l).length:=by
 have:unitsL l=unitsL (l.take k)++unitsL (l.drop k):=by rw [Zat,Zat,Zat,← List.flatMap_append,List.take_append_drop]
 rw [this];simp
theorem unitsT_pos (u:Un):1≤(unitsT u).length:=by rw [Zaj];simp
theorem unitsL_kids:∀ l:List Un,l.length≤(unitsL l).length
 | []=>by simp [unitsL]
 | k::r=>by rw [unitsL,Zx5,List.length_cons];have:=unitsT_pos k;have:=unitsL_kids r;omega
theorem Zbn {l:List Un} {k:Un} (h:k∈l):(unitsT k).length≤(unitsL l).length:=by
 induction l with
 | nil=>cases h
 | cons a r ih =>
  rw [unitsL,Zx5];rcases List.mem_cons.1 h with rfl|h
  ·omega
  ·have:=ih h;omega
theorem unitsT_all (p:Un→Bool) (u:Un):(unitsT u).all p=(p u&&u.kids.all fun k=>(unitsT k).all p):=by
 rw [Zaj,List.all_cons,Zat,List.all_flatMap]
theorem Zau (u:Un):u∈unitsT u:=by rw [Zaj];exact List.mem_cons_self
theorem Zb8 {u k x:Un} (hk:k∈u.kids) (hx:x∈unitsT k):x∈unitsT u:=by
 rw [Zaj,Zat];exact Zx7 _ (List.mem_flatMap.2 ⟨k,hk,hx⟩)
def Zb9 (f:Un→Int→Int) (m:Int) (n:Int) (k:Un):Int:=if n≤m then n+f k (m-n) else n
def sizeT:Nat→Un→Int→Int
 | 0,_,m=>m+1
 | d+1,u,m=>u.kids.foldl (Zb9 (sizeT d) m) 1
theorem sizeF_bd {f:Un→Int→Int} {m:Int} (hf:∀ k m',0≤m'→1≤f k m'∧f k m'≤m'+1):∀ (l:List Un) (n:Int),1≤n→n≤m+1→n≤l.foldl (Zb9 f m) n∧l.foldl (Zb9 f m) n≤m+1
 | [],n,_,h2=>⟨Int.le_refl _,h2⟩
 | k::r,n,h1,h2=>by
  rw [List.foldl_cons];have hs:n≤Zb9 f m n k∧Zb9 f m n k≤m+1:=by
   unfold Zb9;split
   ·have:=hf k (m-n) (by omega);omega
   ·exact ⟨Int.le_refl _,h2⟩
  have:=sizeF_bd hf r (Zb9 f m n k) (by omega) hs.2;omega
theorem sizeT_bd:∀ (d:Nat) (u:Un) (m:Int),0≤m→1≤sizeT d u m∧sizeT d u m≤m+1
 | 0,_,m,h=>by unfold sizeT;omega
 | d+1,u,m,h=>by
  have:=sizeF_bd (m:=m) (fun k m' h'=>sizeT_bd d k m' h') u.kids 1 (Int.le_refl _) (by omega);rw [sizeT];exact this
theorem sizeF_step (f:Un→Int→Int) (m:Int) {l:List Un} {k:Nat} (h:k<l.length):(l.take (k+1)).foldl (Zb9 f m) 1=Zb9 f m ((l.take k).foldl (Zb9 f m) 1) l[k]:=by
 rw [List.take_add_one,List.getElem?_eq_getElem h,List.foldl_append];rfl
theorem sizeF_stop (f:Un→Int→Int) (m:Int):∀ (l:List Un) (n:Int),m<n→l.foldl (Zb9 f m) n=n
 | [],_,_=>rfl
 | k::r,n,h=>by
  rw [List.foldl_cons];have:Zb9 f m n k=n:=by unfold Zb9;rw [if_neg (by omega)]
  rw [this];exact sizeF_stop f m r n h
theorem sizeF_low {f:Un→Int→Int} {m:Int} (hf:∀ k m',0≤m'→1≤f k m'):∀ (l:List Un) (n:Int),l.foldl (Zb9 f m) n≤m→n+l.length≤l.foldl (Zb9 f m) n
 | [],n,_=>by simp
 | k::r,n,h=>by
  rw [List.foldl_cons] at h ⊢;by_cases hn:n≤m
  ·have e:Zb9 f m n k=n+f k (m-n):=by unfold Zb9;rw [if_pos hn]
   have h1:=hf k (m-n) (by omega);have:=sizeF_low hf r (Zb9 f m n k) h;rw [List.length_cons]
   push_cast
   omega
  ·have e:Zb9 f m n k=n:=by unfold Zb9;rw [if_neg hn]
   rw [e,sizeF_stop f m r n (by omega)] at h;omega
theorem sizeT_count:∀ (d:Nat) (u:Un) (m:Int),0≤m→sizeT d u m≤m→((unitsT u).length:Int)=sizeT d u m
 | 0,u,m,_,h=>by unfold sizeT at h;omega
 | d+1,u,m,h0,h=>by
  have hb:=fun k m' h=>sizeT_bd d k m' h;have ih:=fun k m' a b=>sizeT_count d k m' a b;rw [sizeT] at h ⊢;rw [Zaj];generalize sizeT d=f at hb ih h ⊢;have key:∀ (l:List Un) (n:Int),1≤n→l.foldl (Zb9 f m) n≤m→n+((unitsL l).length:Int)=l.foldl (Zb9 f m) n:=by
   intro l
   induction l with
   | nil=>intro n _ _;simp [unitsL]
   | cons k r ihr =>
    intro n hn hle;rw [List.foldl_cons] at hle ⊢;by_cases hnm:n≤m
    ·have e:Zb9 f m n k=n+f k (m-n):=by unfold Zb9;rw [if_pos hnm]
     have h1:=hb k (m-n) (by omega);have hmono:Zb9 f m n k≤r.foldl (Zb9 f m) (Zb9 f m n k):=by
      by_cases hgt:m<Zb9 f m n k
      ·rw [sizeF_stop f m r _ hgt];exact Int.le_refl _
      ·have:=sizeF_low (f:=f) (m:=m) (fun k m' h=>(hb k m' h).1) r (Zb9 f m n k) hle;omega
     have h2:=ihr (Zb9 f m n k) (by omega) hle;have h3:=ih k (m-n) (by omega) (by omega);rw [unitsL,Zx5]
     push_cast
     omega
    ·have e:Zb9 f m n k=n:=by unfold Zb9;rw [if_neg hnm]
     rw [e,sizeF_stop f m r n (by omega)] at hle;omega
  have:=key u.kids 1 (Int.le_refl _) h;rw [List.length_cons]
  push_cast
  omega
def shortB (l:List Wd):Bool:=(l.all fun w=>decide (w.text.length≤100))&&decide (l.length≤300)
def briefB (u:Un):Bool:=decide (u.label.length≤30)&&(shortB u.head&&shortB u.words)
def wordsB (u:Un):Bool:=(unitsT u).all briefB
def fewB (u:Un) (m:Int):Bool:=decide (sizeT 21 u m≤m)&&wordsB u
structure WdB (w : Wd) : Prop where
 text : w.text.length ≤ 1048576
 ok : i64 w.act ∧ i64 w.item ∧ i64 w.at'
inductive UnB : Un → Prop
 | mk (u : Un) (h : i64 u.act ∧ i64 u.item ∧ i64 u.n ∧ i64 u.kind) (hl : u.label.length ≤ 1048576) (hh : u.head.length ≤ 1048576 ∧ ∀ w ∈ u.head, WdB w) (hw : u.words.length ≤ 1048576 ∧ ∀ w ∈ u.words, WdB w) (hk : u.kids.length ≤ 1048576) (hs : ∀ k ∈ u.kids, UnB k) : UnB u
structure SmU (u : Un) : Prop where
 ok : i64 u.act ∧ i64 u.item ∧ i64 u.n ∧ i64 u.kind
 label : u.label.length ≤ 30
 head : u.head.length ≤ 300 ∧ ∀ w ∈ u.head, w.text.length ≤ 100
 words : u.words.length ≤ 300 ∧ ∀ w ∈ u.words, w.text.length ≤ 100
inductive SmT : Un → Prop
 | mk (u : Un) (h : SmU u) (hk : u.kids.length ≤ 1000) (hs : ∀ k ∈ u.kids, SmT k) : SmT u
theorem SmT.u {u:Un} (h:SmT u):SmU u:=by cases h with|mk _ h _ _=>exact h
theorem SmT.kids {u:Un} (h:SmT u):u.kids.length≤1000∧∀ k∈u.kids,SmT k:=by cases h with|mk _ _ hk hs=>exact ⟨hk,hs⟩
theorem SmT.units {u:Un} (h:SmT u):∀ x∈unitsT u,SmT x:=by
 induction h with
 | mk u h hk hs ih =>
  intro x hx;rw [Zaj] at hx;rcases List.mem_cons.1 hx with rfl|hx
  ·exact .mk _ h hk hs
  ·rw [Zat] at hx;obtain ⟨k,h1,h2⟩:=List.mem_flatMap.1 hx;exact ih k h1 x h2
theorem shortB_iff {l:List Wd}:shortB l=true↔l.length≤300∧∀ w∈l,w.text.length≤100:=by
 unfold shortB;simp only [Zx4,Zx3,List.all_eq_true];exact ⟨fun h=>⟨h.2,h.1⟩,fun h=>⟨h.2,h.1⟩⟩
theorem smT_of {u:Un} (hu:UnB u) (hn:(unitsT u).length≤1000) (hw:wordsB u=true):SmT u:=by
 induction hu with
 | mk u h hl hh hww hk hs ih =>
  unfold wordsB at hw;rw [unitsT_all] at hw;simp only [Zx4,briefB,Zx3,List.all_eq_true (l:=u.kids)] at hw;obtain ⟨⟨h1,h2,h3⟩,h4⟩:=hw;rw [Zaj,List.length_cons] at hn;have:=unitsL_kids u.kids;exact .mk u ⟨h,h1,shortB_iff.1 h2,shortB_iff.1 h3⟩ (by omega) fun k hkk=>ih k hkk (by have:=Zbn hkk;omega) (h4 k hkk)
theorem few_small {u:Un} {m:Int} (hu:UnB u) (h0:0≤m) (h1:m≤1000) (h:fewB u m=true):SmT u∧((unitsT u).length:Int)≤m:=by
 unfold fewB at h;simp only [Zx4,Zx3] at h;have:=sizeT_count 21 u m h0 h.1;exact ⟨smT_of hu (by omega) h.2,by omega⟩
mutual
def depthT : Un → Nat
 | .mk _ _ _ _ _ _ _ ks => depthL 0 ks
def depthL : Nat → List Un → Nat
 | d, [] => d
 | d, k :: r => depthL (max d (1 + depthT k)) r
end
def dpF (d:Nat) (k:Un):Nat:=max d (1+depthT k)
theorem depthL_fold:∀ (l:List Un) (d:Nat),depthL d l=l.foldl dpF d
 | [],d=>by rw [depthL];rfl
 | k::r,d=>by rw [depthL,depthL_fold r];rfl
theorem depthT_eq (u:Un):depthT u=u.kids.foldl dpF 0:=by cases u;rw [depthT,depthL_fold];rfl
theorem dpF_bd:∀ (l:List Un) (d m:Nat),d≤m→(∀ k∈l,1+depthT k≤m)→l.foldl dpF d≤m
 | [],d,m,h,_=>h
 | k::r,d,m,h,hk=>by
  rw [List.foldl_cons];refine dpF_bd r _ m ?_ (fun x hx=>hk x (Zx7 _ hx));have:=hk k List.mem_cons_self;unfold dpF;omega
theorem depth_le {u:Un} (h:SmT u):depthT u+1≤(unitsT u).length:=by
 induction h with
 | mk u h hk hs ih =>
  rw [depthT_eq,Zaj,List.length_cons];have:=dpF_bd u.kids 0 (unitsL u.kids).length (Nat.zero_le _) (fun k hk=>by have:=ih k hk;have:=Zbn hk;omega);omega
theorem dpF_step {l:List Un} {k:Nat} (h:k<l.length):(l.take (k+1)).foldl dpF 0=max ((l.take k).foldl dpF 0) (1+depthT l[k]):=by
 rw [List.take_add_one,List.getElem?_eq_getElem h,List.foldl_append];rfl
def idU (u:Un):Idt:=⟨u.act,u.item,u.n⟩
def idsT (u:Un):List Idt:=(unitsT u).map idU
theorem idsT_eq (u:Un):idsT u=idU u::(unitsL u.kids).map idU:=by unfold idsT;rw [Zaj];rfl
theorem closed_ids (l:List Idt):Closed (.sl 3 (l.map Idt.enc)):=Zai fun u _ y hy=>Idt.closed u y hy
def Aft (L:List (Nat×AB)) (t:Nat) (Q:List (Nat×AB)→Prop) (h':Heap):Prop:=∃ L' t',t≤t'∧h'=⟨L',t'⟩∧Q L'∧Nod L'∧(∀ q∈L',q.1<t')∧(∀ q∈L',(∃ r∈L,r.1=q.1)∨t≤q.1)∧∀ q∈L',q.2.live=true
theorem Aft.off {L L':List (Nat×AB)} {t t0:Nat} (o:Off L t0) (h:t0<t) (hold:∀ q∈L',(∃ r∈L,r.1=q.1)∨t≤q.1):Off L' t0:=fun q hq e=>by
 rcases hold q hq with ⟨r,hr,er⟩|h'
 ·exact o r hr (er.trans e)
 ·omega
theorem ACall_side {P : Program} {f : FuncId} {args : List PV} {L : List (Nat × AB)} {t t0 : Nat} {x : AB} {R : PV → Prop} {Q : List (Nat × AB) → Prop} {K : PV → Heap → Prop} (hnod : Nod L) (o0 : Off L t0) (h0 : t0 < t) (hx : ∀ fz z, x ≠ .arr fz z [])
  (H:Zal P f args ⟨L,t⟩ (fun r h'=>R r∧Aft L t Q h'))
  (hK:∀ r L' t',R r→t≤t'→Q L'→Nod L'→(∀ q∈L',q.1<t')→Off L' t0→(∀ q∈L',(∃ r∈L,r.1=q.1)∨t≤q.1)→(∀ q∈L',q.2.live=true)→K r ⟨L'++[(t0,x)],t'⟩):Zal P f args ⟨(t0,x)::L,t⟩ K:=by
 refine Zal.weakenL (h0:=⟨L++[(t0,x)],t⟩) (HL.le_swap (P:=[(t0,x)]) hnod (by simp [Nod]) (by simpa using o0) _) ?_;refine Zal.frameL ?_ (by simpa using hx) (Zal.mono H ?_)
 ·simp only [List.mem_cons,List.not_mem_nil,or_false,forall_eq];exact fun q hq e=>o0 q hq e.symm
 rintro p h' ⟨hR,L',t',ht1,rfl,hS',hnod',hlt',hold,hlive'⟩;have o0':Off L' t0:=Aft.off o0 h0 hold;refine ⟨ht1,?_,hlive',hK _ _ _ hR ht1 hS' hnod' hlt' o0' hold hlive'⟩;simp only [List.mem_cons,List.not_mem_nil,or_false,forall_eq];exact fun q hq e=>o0' q hq e.symm
end Go.VM
namespace Go.Proofs.w
open Go Go.VM
def c_unit_every:VC:=(ZR [ZO 2 (.box 8 (.t 0)),ZO 4 (.mv (.c (.bool false)))] (.seq (ZR [ZM 7 1,ZO 8 (.load true 8 (.t 2)),ZO 9 (.callv (.t 7) [.t 8]),ZO 10 (.un .not (.t 9))] (.cond (.t 10) (ZR [ZO 4 (.mv (.c (.bool false)))] .ret) .skip)) (.seq (ZR [ZO 11 (.faddr 7 (.t 2)),ZO 12 (.load false 1 (.t 11)),ZO 13 (.len false (.t 12)),ZO 14 (.mv (.c (.int .i64 0)))] (.block 0 (.loop (ZR [ZO 15 (.bin .lss (.t 14) (.t 13))] (.seq (.cond (.t 15) .skip (.exit 0)) (.seq (.block 1 (ZR [ZO 16 (.iaddr 8 (.t 12) (.t 14)),ZO 17 (.load true 8 (.t 16)),ZO 6 (.alloc ZU),ZN (.store 8 (.t 6) (.t 17))] (ZR [ZO 18 (.load true 8 (.t 6)),ZM 19 1,ZO 20 (.call 199 [.t 18,.t 19]),ZO 21 (.un .not (.t 20))] (.cond (.t 21) (ZR [ZO 4 (.mv (.c (.bool false)))] .ret) .skip)))) (.region [ZO 22 (.bin .add (.t 14) (.c (.int .i64 1))),ZM 14 22] false))))))) (ZR [ZO 4 (.mv (.c (.bool true)))] .ret))))
def EvB (f:FuncId) (cap:List PV) (S:List Un→List (Nat×AB)→Prop) (N:Nat):Prop :=
 ∀ (pre:List Un) (u:Un),pre.length<N→SmT u→∀ (L:List (Nat×AB)) (t:Nat),S pre L→(∀ q∈L,q.1<t)→Nod L→(∀ q∈L,q.2.live=true) →
  Zal Tryz.prog f (.agg u.enc::cap) ⟨L,t⟩ (fun r h'=>r=.bool true∧Aft L t (S (pre++[u])) h')
theorem sp_every_st {f : FuncId} {cap : List PV} {S : List Un → List (Nat × AB) → Prop} {N : Nat} (hB : EvB f cap S N) (hN : N ≤ 1000) {u : Un} (hu : SmT u) : ∀ (pre : List Un), pre.length + (unitsT u).length ≤ N → ∀ (L : List (Nat × AB)) (t : Nat), S pre L → (∀ q ∈ L, q.1 < t) → Nod L → (∀ q ∈ L, q.2.live = true) →
  Zal Tryz.prog 199 [.agg u.enc,.fn (.func f) [] cap] ⟨L,t⟩ (fun r h'=>r=.bool true∧Aft L t (S (pre++unitsT u)) h'):=by
 induction hu with
 | mk u h hk hs ih =>
  intro pre hpre L t0 hS hlt hnod hlive;rw [Zaj,List.length_cons] at hpre;have hB0:=hB pre u (by omega) (.mk u h hk hs);rw [Zaj];have ih' : ∀ k ∈ u.kids, ∀ (pre : List Un), pre.length + (unitsT k).length ≤ N → ∀ (L : List (Nat × AB)) (t : Nat), S pre L → (∀ q ∈ L, q.1 < t) → Nod L → (∀ q ∈ L, q.2.live = true) →
    Zal Tryz.prog 199 [.agg k.enc,.fn (.func f) [] cap] ⟨L,t⟩ (fun r h'=>r=.bool true∧Aft L t (S (pre++unitsT k)) h'):=ih
  clear ih;refine Zal.drop ?_;refine Gn (vc:=c_unit_every) [.t 4] Tryz.func199 ?_;unfold c_unit_every;try dsimp only [ZM,ZO,ZN,ZG,ZR,ZU]
  rw [Un.Zaf] at hB0 ⊢;have o0:Off L t0:=Off.lt hlt (Nat.le_refl _);have g0':=o0.get;have d0':=o0.del;refine Rp0 [1,2] ?_;refine Zaa ?_;refine Rp1 [1,2,10] (x2 g0' d0') ?_;refine ACall_side (R:=fun r=>r=.bool true) (Q:=S (pre++[u])) hnod o0 (Nat.lt_succ_self _) (fun fz z e=>by cases e) (hB0 L (t0+1) hS (fun q hq=>by have:=hlt q hq;omega) hnod hlive) ?_;rintro r L1 t1 rfl ht1 hS1 hnod1 hlt1 o1 hold1 hlive1;have G1:=HL.get_off (P:=[(t0,AB.arr false 8 [[pI u.act,pI u.item,pI u.n,pI u.kind,.str u.label,.sl 4 (u.head.map Wd.enc),.sl 4 (u.words.map Wd.enc),.sl 8 (u.kids.map Un.enc)]])]) o1;refine Sp0 ?_;refine Fp0 ?_;refine Zaa ?_;refine Rp1 [1,12,13,14] (x2 G1 @xlm) ?_;refine Zab ?_;clear hS hlt hnod hlive hB0 g0' d0';generalize u.kids=KL at hk hpre ih' ⊢;refine Zak (σ:={ x:Nat×List (Nat×AB)×Nat//x.1≤KL.length∧t0<x.2.2∧S (pre++u::unitsL (KL.take x.1)) x.2.1∧Nod x.2.1∧(∀ q∈x.2.1,q.1<x.2.2)∧(∀ q∈x.2.1,(∃ r∈L,r.1=q.1)∨t0+1≤q.1)∧∀ q∈x.2.1,q.2.live=true })
   (fun x=>([(1,.fn (.func f) [] cap),(12,.sl 8 (KL.map Un.enc)),(13,pI KL.length),(14,pI x.1.1)],⟨x.1.2.1,x.1.2.2⟩)) (fun x=>KL.length-x.1.1) ⟨(0,L1,t1),Nat.zero_le _,ht1,by simpa [unitsL] using hS1,hnod1,hlt1,hold1,hlive1⟩ ?_ ?_ ?_
  ·refine Sp0 ?_;rfl
  ·refine Sp0 ?_;exact HL.le_app hnod1 _
  rintro ⟨⟨k,L2,t2⟩,hkk,ht2,hS2,hnod2,hlt2,hold2,hlive2⟩;simp only [] at hkk ht2 hS2 hnod2 hlt2 hold2 hlive2 ⊢;have o2:Off L2 t2:=Off.lt hlt2 (Nat.le_refl _);have g2:=o2.get;have d2:=o2.del;refine Rp0 [1,12,13,14,15] ?_;refine Zaa ?_;refine Zac rfl (fun h1=>?_) (fun h1=>?_)
  ·have ka:k<KL.length:=by simp only [Zx3] at h1;omega
   have hst:=unitsL_step ka;have htk:=unitsL_take KL (k+1);have hrow:(KL.map Un.enc).getD k []=KL[k].enc:=rowm ka;have R:=ih' _ (List.getElem_mem ka) (pre++u::unitsL (KL.take k));rw [hst,Zx5] at htk;generalize KL[k]=v at hst hrow R htk;rw [Un.Zaf] at hrow R;refine Kp0 ?_;refine Zaa ?_;refine Zab ?_;refine Rp1 [1,6,12,13,14] (x4 @xlm hrow g2 d2) ?_;refine Ok ?_;refine Rp1 [1,12,13,14,21] (x2 g2 d2) ?_;have hlen:(pre++u::unitsL (KL.take k)).length+(unitsT v).length≤N:=by
    rw [Zx5,List.length_cons];omega
   refine ACall_side (R:=fun r=>r=.bool true) (Q:=S (pre++u::unitsL (KL.take k)++unitsT v)) hnod2 o2 (Nat.lt_succ_self _) (fun fz z e=>by cases e) (R hlen L2 (t2+1) hS2 (fun q hq=>by have:=hlt2 q hq;omega) hnod2 hlive2) ?_;rintro r L3 t3 rfl ht3 hS3 hnod3 hlt3 o3 hold3 hlive3;refine Sp0 ?_;refine Fp0 ?_;refine rp1 [1,12,13,14] (ad1 (a:=k) (by omega)) ?_;refine ⟨⟨(k+1,L3,t3),ka,by show t0<t3;omega,by show S (pre++u::unitsL (KL.take (k+1))) L3;rw [hst];simpa using hS3,hnod3,hlt3,fun q hq=>?_,hlive3⟩,?_⟩
   ·rcases hold3 q hq with ⟨r,hr,er⟩|h
    ·rcases hold2 r hr with ⟨r',hr',er'⟩|h'
     ·exact .inl ⟨r',hr',er'.trans er⟩
     ·exact .inr (by omega)
    ·exact .inr (by omega)
   ·refine ⟨rfl,⟨Nat.le_refl _,HL.le_app hnod3 _⟩,?_⟩;show KL.length-(k+1)<KL.length-k;omega
  ·have ka:k=KL.length:=by simp only [Zx2] at h1;omega
   subst ka;rw [List.take_length] at hS2;refine Ep0 ?_;refine Rp0 [4] ?_;refine Tp0 ?_;refine ⟨⟨L2,t2⟩,⟨Nat.le_refl _,by simpa using HL.le_app (P:=[]) hnod2 t2⟩,L2,t2,by omega,rfl,hS2,hnod2,hlt2,fun q hq=>?_,hlive2⟩;rcases hold2 q hq with h|h
   ·exact .inl h
   ·exact .inr (by omega)
theorem sp_every_pure {f:FuncId} {p:Un→Bool} {u:Un} (hu:SmT u) (hp:∀ x∈unitsT u,Zam Tryz.prog f [.agg x.enc] (.bool (p x))):Zam Tryz.prog 199 [.agg u.enc,.fn (.func f) [] []] (.bool ((unitsT u).all p)):=by
 induction hu with
 | mk u h hk hs ih =>
  have P0:=hp u (Zau u);have ih':∀ k∈u.kids,Zam Tryz.prog 199 [.agg k.enc,.fn (.func f) [] []] (.bool ((unitsT k).all p)):=fun k hk'=>ih k hk' fun x hx=>hp x (Zb8 hk' hx);clear ih;rw [unitsT_all];refine Gp (vc:=c_unit_every) [.t 4] (cB _) Tryz.func199 ?_;unfold c_unit_every;try dsimp only [ZM,ZO,ZN,ZG,ZR,ZU]
  rw [Un.Zaf] at P0 ⊢;refine Rp0 [1,2] ?_;refine Zaw [(1,.fn (.func f) [] []),(2,.ro [pI u.act,pI u.item,pI u.n,pI u.kind,.str u.label,.sl 4 (u.head.map Wd.enc),.sl 4 (u.words.map Wd.enc),.sl 8 (u.kids.map Un.enc)])] ⟨View.refl _ _,View.loc (z:=8) (fz:=false) (es:=[[pI u.act,pI u.item,pI u.n,pI u.kind,.str u.label,.sl 4 (u.head.map Wd.enc),.sl 4 (u.words.map Wd.enc),.sl 8 (u.kids.map Un.enc)]]) rfl (by simp) rfl (by simp),trivial⟩ ?_;generalize u.head.map Wd.enc=EH at P0 ⊢;generalize u.words.map Wd.enc=EW at P0 ⊢;generalize p u=pu at P0 ⊢;generalize u.kids=L at hk P0 ih' ⊢;refine Zaa ?_;refine Rp0 [1,2,10] ?_;refine Ap0 P0 ?_;cases pu with
  | false =>
   refine Ct ?_;exact Rv0 [4]
  | true =>
  refine Fp0 ?_;refine Zaa ?_;refine Rp1 [1,12,13,14] @xlm ?_;refine Zab ?_;refine Zak (σ:={ x:Nat×Nat//x.1≤L.length∧(L.all fun k=>(unitsT k).all p)=((L.drop x.1).all fun k=>(unitsT k).all p) }) (fun x=>([(1,.fn (.func f) [] []),(12,.sl 8 (L.map Un.enc)),(13,pI L.length),(14,pI x.1.1)],⟨[],x.1.2⟩)) (fun x=>L.length-x.1.1) ⟨(0,1),Nat.zero_le _,rfl⟩ ?_ ?_ ?_
  ·exact Fn0
  ·exact Sc0
  rintro ⟨⟨k,t⟩,hkk,hpre⟩;simp only [] at hkk hpre ⊢;refine Rp0 [1,12,13,14,15] ?_;refine Zaa ?_;refine Zac rfl (fun h1=>?_) (fun h1=>?_)
  ·have ka:k<L.length:=by simp only [Zx3] at h1;omega
   have hd:L.drop k=L[k]::L.drop (k+1):=List.drop_eq_getElem_cons ka;rw [hd,List.all_cons] at hpre;have hrow:(L.map Un.enc).getD k []=L[k].enc:=rowm ka;have R:=ih' _ (List.getElem_mem ka);generalize L[k]=v at hpre hrow R;rw [Un.Zaf] at hrow R;refine Kp0 ?_;refine Zaa ?_;refine Zab ?_;refine Rp1 [1,6,12,13,14] (x2 @xlm hrow) ?_;refine Ok ?_;refine Rp0 [1,12,13,14,21] ?_;refine Ap0 R ?_;cases hq:(unitsT v).all p with
   | false =>
    refine Ct ?_;refine Rp0 [4] ?_;refine Tp0 ?_;rw [hpre,hq];exact View.refl _ _
   | true =>
    rw [hq,Bool.true_and] at hpre;refine Fp0 ?_;refine rp1 [1,12,13,14] (ad1 (a:=k) (by omega)) ?_;refine ⟨⟨(k+1,t+1),ka,hpre⟩,?_⟩;exact Fn0
  ·have ka:k=L.length:=by simp only [Zx2] at h1;omega
   subst ka;rw [List.drop_length] at hpre;refine Ep0 ?_;refine Rp0 [4] ?_;refine Tp0 ?_;rw [hpre];exact View.refl _ _
end Go.Proofs.w
