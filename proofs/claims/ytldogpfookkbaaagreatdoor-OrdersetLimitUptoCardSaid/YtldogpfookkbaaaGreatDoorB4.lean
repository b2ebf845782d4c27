import Derived.Test.YtldogpfookkbaaaGreatDoorB1
import Derived.Test.YtldogpfookkbaaaGreatDoorVmBe
import Derived.Test.YtldogpfookkbaaaGreatDoorVmZ
import Derived.Test.YtldogpfookkbaaaGreatDoorVmBa
import Derived.Test.YtldogpfookkbaaaGreatDoorV0
set_option linter.all false
set_option maxRecDepth 20000
set_option maxHeartbeats 0
namespace Go.VM
open Go
def swN (r:List Nat) (off len:Nat):Nat→List Nat
 | 0=>r
 | i+1=>swapR (swN r off len i) (off+i) (off+len-1-i)
theorem swapR_len (r:List Nat) (i k:Nat):(swapR r i k).length=r.length:=by unfold swapR;simp
theorem swN_len (r:List Nat) (off len:Nat):∀ i,(swN r off len i).length=r.length
 | 0=>rfl
 | i+1=>by rw [swN,swapR_len,swN_len r off len i]
theorem rev_small (r:List Nat) (h:r.length≤5) (off len:Nat) (e:off+len=r.length):swN r off len (len / 2)=turnR r off:=by
 match r,h with
 | [],_ =>
  simp only [List.length_nil] at e;obtain ⟨rfl,rfl⟩:off=0∧len=0:=by omega
  rfl
 | [a],_ =>
  simp only [List.length_cons,List.length_nil] at e;obtain ⟨rfl,rfl⟩|⟨rfl,rfl⟩:(off=0∧len=1)∨(off=1∧len=0):=by omega
  all_goals rfl
 | [a,b],_ =>
  simp only [List.length_cons,List.length_nil] at e;obtain ⟨rfl,rfl⟩|⟨rfl,rfl⟩|⟨rfl,rfl⟩:(off=0∧len=2)∨(off=1∧len=1)∨(off=2∧len=0):=by omega
  all_goals rfl
 | [a,b,c],_ =>
  simp only [List.length_cons,List.length_nil] at e;obtain ⟨rfl,rfl⟩|⟨rfl,rfl⟩|⟨rfl,rfl⟩|⟨rfl,rfl⟩:(off=0∧len=3)∨(off=1∧len=2)∨(off=2∧len=1)∨(off=3∧len=0):=by omega
  all_goals rfl
 | [a,b,c,d],_ =>
  simp only [List.length_cons,List.length_nil] at e;obtain ⟨rfl,rfl⟩|⟨rfl,rfl⟩|⟨rfl,rfl⟩|⟨rfl,rfl⟩|⟨rfl,rfl⟩:(off=0∧len=4)∨(off=1∧len=3)∨(off=2∧len=2)∨(off=3∧len=1)∨(off=4∧len=0):=by omega
  all_goals rfl
 | [a,b,c,d,f],_ =>
  simp only [List.length_cons,List.length_nil] at e;obtain ⟨rfl,rfl⟩|⟨rfl,rfl⟩|⟨rfl,rfl⟩|⟨rfl,rfl⟩|⟨rfl,rfl⟩|⟨rfl,rfl⟩:(off=0∧len=5)∨(off=1∧len=4)∨(off=2∧len=3)∨(off=3∧len=2)∨(off=4∧len=1)∨(off=5∧len=0):=by omega
  all_goals rfl
 | _::_::_::_::_::_::_,h=>simp only [List.length_cons] at h;omega
theorem nR_swap (r:List Nat) (i k:Nat):((nR r).set i [pI (r.getD k 0:Nat)]).set k [pI (r.getD i 0:Nat)]=nR (swapR r i k):=by
 rw [nR_set,nR_set];rfl
end Go.VM
namespace Go.Proofs.YtldogpfookkbaaaGreatDoor.w
open Go Go.VM
def c_slices_Reverse_int:VC:=(ZR [ZM 4 0,ZO 5 (.len false (.t 4)),ZO 6 (.bin .sub (.t 5) (.c (.int .i64 1))),ZO 2 (.mv (.c (.int .i64 0))),ZM 3 6] (.block 0 (.loop (.seq (ZR [ZM 7 2,ZM 8 3,ZO 9 (.bin .lss (.t 7) (.t 8))] (.cond (.t 9) .skip (.exit 0))) (.seq (.block 1 (.draw2 [ZM 14 0,ZM 15 2,ZM 16 0,ZM 17 3,ZM 18 0,ZM 19 3,ZO 20 (.iaddr 1 (.t 18) (.t 19)),ZO 21 (.load false 1 (.t 20)),ZM 22 0,ZM 23 2,ZO 24 (.iaddr 1 (.t 22) (.t 23)),ZO 25 (.load false 1 (.t 24)),ZO 26 (.iaddr 1 (.t 14) (.t 15)),ZN (.store 1 (.t 26) (.t 21)),ZO 27 (.iaddr 1 (.t 16) (.t 17)),ZN (.store 1 (.t 27) (.t 25))] [true,true,false,false,true,true,true,true,true,true,true,true,true,false,false,false])) (.region [ZM 10 2,ZO 11 (.bin .add (.t 10) (.c (.int .i64 1))),ZM 12 3,ZO 13 (.bin .sub (.t 12) (.c (.int .i64 1))),ZM 2 11,ZM 3 13] false))))))
def Zbk:VC:=(ZR [ZO 2 (.mv (.c .nilsl))] (.seq (ZR [ZM 3 0,ZO 4 (.nd false (.t 3))] (.cond (.t 4) (ZR [ZO 2 (.mv (.c .nilsl))] .ret) .skip)) (ZR [ZO 5 (.fx (.mk0 1) []),ZM 6 0,ZO 7 (.app 1 8 [.int .i64 0] false (.t 5) (.t 6)),ZM 2 7] .ret)))
theorem own_Reverse (r:List Nat) (id off len t:Nat) (hid:id<t) (h5:r.length≤5) (he:off+len=r.length):Zan Tryz.prog 54 [.own id off len] ⟨[(id,.arr false 1 (nR r))],t⟩ (fun _ h'=>∃ t',t≤t'∧h'=⟨[(id,.arr false 1 (nR (turnR r off)))],t'⟩):=by
 have hrs:=rev_small r h5 off len he;refine Gn (vc:=c_slices_Reverse_int) [] Tryz.func54 ?_;unfold c_slices_Reverse_int;try dsimp only [ZM,ZO,ZN,ZG,ZR,ZU]
 have hj0:IntKind.i64.wrap ((len:Int)-1)=(len:Int)-1:=w64 (by omega) (by omega);refine Rp1 [0,2,3] hj0 ?_;refine Zac ?_;refine Zao (σ:={ x:Nat×Int×Nat//x.2.1=(len:Int)-1-x.1∧x.1≤len / 2∧t≤x.2.2 }) (fun x=>([(0,.own id off len),(2,pI x.1.1),(3,pI x.1.2.1)],⟨[(id,.arr false 1 (nR (swN r off len x.1.1)))],x.1.2.2⟩)) (fun x=>len-x.1.1) ⟨(0,(len:Int)-1,t),by simp only [];omega,Nat.zero_le _,Nat.le_refl _⟩ ?_ ?_ ?_
 ·exact Fn0
 ·simp only [vmL,Nat.reduceEqDiff,Nat.reduceAdd,Nat.reduceLT,Nat.reduceLeDiff,Nat.reduceSub,Nat.reduceMul,reduceIte,reduceCtorEq,Int.reduceToNat]
  first|done|rfl|exact ⟨rfl,rfl⟩|trivial
 rintro ⟨⟨i,j,t1⟩,hj,hi,ht⟩;simp only [] at hj hi ht ⊢;subst hj;refine Zab ?_;refine Rp0 [0,2,3,9] ?_;refine Zaf rfl (fun h1=>?_) (fun h1=>?_)
 ·have ia:i+1≤len / 2:=by simp only [decide_eq_true_eq] at h1;omega
  obtain ⟨m,hm⟩:∃ m:Nat,(len:Int)-1-(i:Int)=(m:Int):=⟨len-1-i,by omega⟩;have hm2:m=len-1-i:=by omega
  rw [hm];have hsl:=swN_len r off len i;have hst:swN r off len (i+1)=swapR (swN r off len i) (off+i) (off+m):=by rw [swN,hm2];congr 1;omega
  generalize swN r off len i=R at *;have g1:=nR_getD (r:=R) (i:=off+i) (by omega);have g2:=nR_getD (r:=R) (i:=off+m) (by omega);have g3:=nR_swap R (off+i) (off+m);have g4:=nR_len R;have g5:∀ x,((nR R).set (off+i) x).length=R.length:=fun x=>by rw [List.length_set,g4]
  have g6:((nR R).set (off+i) [pI (R.getD (off+m) 0:Nat)]).getD (off+m) []=[pI (R.getD (off+m) 0:Nat)]:=by
   rw [nR_set,nR_getD (by simp;omega)];have e:¬ i=m:=by omega
   simp [List.getD_eq_getElem?_getD,List.getElem?_set,e]
  rw [← hst] at g3;generalize nR R=A at *;have w1:IntKind.i64.wrap ((m:Int)-1)=(len:Int)-1-((i+1:Nat):Int):=by rw [w64 (by omega) (by omega)];omega
  refine Kp0 ?_;refine Zab ?_;refine Zac ?_;refine VW_draw2H [0,2,3] (by simp [Heap.le,Heap.get,HL.le,HL.get]) ?_;simp only [vmL,Nat.reduceEqDiff,Nat.reduceAdd,Nat.reduceLT,Nat.reduceLeDiff,Nat.reduceSub,Nat.reduceMul,reduceIte,reduceCtorEq,Int.reduceToNat,g1,g2,g3,g4,g5,g6,List.append_nil];refine ⟨⟨by omega,by omega⟩,by omega,⟨by omega,by omega⟩,by omega,⟨by omega,by omega⟩,by omega,⟨by omega,by omega⟩,by omega,?_⟩;refine rp1 [0,2,3] (x2 (ad1 (a:=i) (by omega)) w1) ?_;refine ⟨⟨(i+1,(len:Int)-1-((i+1:Nat):Int),t1),rfl,ia,ht⟩,?_⟩;exact Fn0
 ·have ia:i=len / 2:=by simp only [decide_eq_false_iff_not] at h1;omega
  subst ia;rw [hrs];refine Ep0 ?_;exact ⟨t1,ht,rfl⟩
theorem own_Clone (r:List Nat) (id n t:Nat) (hid:id<t) (hn:n=r.length) (h0:r≠[]) (h5:r.length≤5):Zan Tryz.prog 34 [.own id 0 n] ⟨[(id,.arr false 1 (nR r))],t⟩ (fun p h'=>p=.sl 1 (nR r)∧h'=⟨[(id,.arr false 1 (nR r))],t+2⟩):=by
 have hl:=nR_len r;have htk:=nR_take r;have hne:nR r≠[]:=by unfold nR;simpa using h0
 have hpos:0<r.length:=List.length_pos_iff.2 h0;subst hn;refine Zan.frzR ?_;obtain ⟨m,hm⟩:∃ m,r.length=m+1:=⟨r.length-1,by omega⟩;rw [hm] at hl htk ⊢;refine Gn (vc:=Zbk) [.t 2] Tryz.func34 ?_;unfold Zbk;try dsimp only [ZM,ZO,ZN,ZG,ZR,ZU]
 generalize nR r=A at *;have qq:=N3 id t (t+1);refine Rp0 [0] ?_;refine Zab ?_;refine Rp1 [0,4] qq ?_;intro b _ hb;subst hb;refine Fp1 qq ?_;refine Rp1 [2] (x3 hl htk qq) ?_;refine ⟨by omega,by omega,?_⟩;refine Tp0 ?_;refine ⟨[(t+1,.arr false 1 A)],[(id,.arr false 1 A)],t+2,.sl 1 A,⟨Nat.le_refl _,?_⟩,?_,?_,?_,rfl,rfl⟩
 ·simp [HL.le,Heap.get,HL.get,qq]
 ·intro x hx y hy;rw [List.mem_singleton] at hx hy;subst hx;subst hy;show id≠t+1;omega
 ·intro x hx fz z e;rw [List.mem_singleton] at hx;subst hx;simp only [AB.arr.injEq] at e;exact hne e.2.2
 ·exact View.own_all (fz:=false) (by simp [Heap.get,HL.get]) (by rw [hl])
end Go.Proofs.YtldogpfookkbaaaGreatDoor.w
namespace Go.VM
open Go
mutual
def unitsT : Un → List Un
 | .mk a i n k l h w ks => .mk a i n k l h w ks :: unitsL ks
def unitsL : List Un → List Un
 | [] => []
 | k :: r => unitsT k ++ unitsL r
end
theorem Zbr (u:Un):unitsT u=u::unitsL u.kids:=by cases u;rw [unitsT];rfl
theorem Zbw:∀ l:List Un,unitsL l=l.flatMap unitsT
 | []=>by rw [unitsL];rfl
 | k::r=>by rw [unitsL,Zbw r,List.flatMap_cons]
theorem unitsL_step {l:List Un} {k:Nat} (h:k<l.length):unitsL (l.take (k+1))=unitsL (l.take k)++unitsT l[k]:=by
 rw [Zbw,Zbw,List.take_add_one,List.getElem?_eq_getElem h,List.flatMap_append];simp
theorem unitsL_take (l:List Un) (k:Nat):(unitsL (l.take k)).length≤(unitsL l).length:=by
 have:unitsL l=unitsL (l.take k)++unitsL (l.drop k):=by rw [Zbw,Zbw,Zbw,← List.flatMap_append,List.take_append_drop]
 rw [this];simp
theorem unitsT_pos (u:Un):1≤(unitsT u).length:=by rw [Zbr];simp
theorem unitsL_kids:∀ l:List Un,l.length≤(unitsL l).length
 | []=>by simp [unitsL]
 | k::r=>by rw [unitsL,List.length_append,List.length_cons];have:=unitsT_pos k;have:=unitsL_kids r;omega
theorem unitsL_mem {l:List Un} {k:Un} (h:k∈l):(unitsT k).length≤(unitsL l).length:=by
 induction l with
 | nil=>cases h
 | cons a r ih =>
  rw [unitsL,List.length_append];rcases List.mem_cons.1 h with rfl|h
  ·omega
  ·have:=ih h;omega
theorem unitsT_all (p:Un→Bool) (u:Un):(unitsT u).all p=(p u&&u.kids.all fun k=>(unitsT k).all p):=by
 rw [Zbr,List.all_cons,Zbw,List.all_flatMap]
def Zbj (f:Un→Int→Int) (m:Int) (n:Int) (k:Un):Int:=if n≤m then n+f k (m-n) else n
def sizeT:Nat→Un→Int→Int
 | 0,_,m=>m+1
 | d+1,u,m=>u.kids.foldl (Zbj (sizeT d) m) 1
theorem sizeF_bd {f:Un→Int→Int} {m:Int} (hf:∀ k m',0≤m'→1≤f k m'∧f k m'≤m'+1):∀ (l:List Un) (n:Int),1≤n→n≤m+1→n≤l.foldl (Zbj f m) n∧l.foldl (Zbj f m) n≤m+1
 | [],n,_,h2=>⟨Int.le_refl _,h2⟩
 | k::r,n,h1,h2=>by
  rw [List.foldl_cons];have hs:n≤Zbj f m n k∧Zbj f m n k≤m+1:=by
   unfold Zbj;split
   ·have:=hf k (m-n) (by omega);omega
   ·exact ⟨Int.le_refl _,h2⟩
  have:=sizeF_bd hf r (Zbj f m n k) (by omega) hs.2;omega
theorem sizeT_bd:∀ (d:Nat) (u:Un) (m:Int),0≤m→1≤sizeT d u m∧sizeT d u m≤m+1
 | 0,_,m,h=>by unfold sizeT;omega
 | d+1,u,m,h=>by
  have:=sizeF_bd (m:=m) (fun k m' h'=>sizeT_bd d k m' h') u.kids 1 (Int.le_refl _) (by omega);rw [sizeT];exact this
theorem sizeF_step (f:Un→Int→Int) (m:Int) {l:List Un} {k:Nat} (h:k<l.length):(l.take (k+1)).foldl (Zbj f m) 1=Zbj f m ((l.take k).foldl (Zbj f m) 1) l[k]:=by
 rw [List.take_add_one,List.getElem?_eq_getElem h,List.foldl_append];rfl
theorem sizeF_stop (f:Un→Int→Int) (m:Int):∀ (l:List Un) (n:Int),m<n→l.foldl (Zbj f m) n=n
 | [],_,_=>rfl
 | k::r,n,h=>by
  rw [List.foldl_cons];have:Zbj f m n k=n:=by unfold Zbj;rw [if_neg (by omega)]
  rw [this];exact sizeF_stop f m r n h
theorem sizeF_low {f:Un→Int→Int} {m:Int} (hf:∀ k m',0≤m'→1≤f k m'):∀ (l:List Un) (n:Int),l.foldl (Zbj f m) n≤m→n+l.length≤l.foldl (Zbj f m) n
 | [],n,_=>by simp
 | k::r,n,h=>by
  rw [List.foldl_cons] at h ⊢;by_cases hn:n≤m
  ·have e:Zbj f m n k=n+f k (m-n):=by unfold Zbj;rw [if_pos hn]
   have h1:=hf k (m-n) (by omega);have:=sizeF_low hf r (Zbj f m n k) h;rw [List.length_cons]
   push_cast
   omega
  ·have e:Zbj f m n k=n:=by unfold Zbj;rw [if_neg hn]
   rw [e,sizeF_stop f m r n (by omega)] at h;omega
theorem sizeT_count:∀ (d:Nat) (u:Un) (m:Int),0≤m→sizeT d u m≤m→((unitsT u).length:Int)=sizeT d u m
 | 0,u,m,_,h=>by unfold sizeT at h;omega
 | d+1,u,m,h0,h=>by
  have hb:=fun k m' h=>sizeT_bd d k m' h;have ih:=fun k m' a b=>sizeT_count d k m' a b;rw [sizeT] at h ⊢;rw [Zbr];generalize sizeT d=f at hb ih h ⊢;have key:∀ (l:List Un) (n:Int),1≤n→l.foldl (Zbj f m) n≤m→n+((unitsL l).length:Int)=l.foldl (Zbj f m) n:=by
   intro l
   induction l with
   | nil=>intro n _ _;simp [unitsL]
   | cons k r ihr =>
    intro n hn hle;rw [List.foldl_cons] at hle ⊢;by_cases hnm:n≤m
    ·have e:Zbj f m n k=n+f k (m-n):=by unfold Zbj;rw [if_pos hnm]
     have h1:=hb k (m-n) (by omega);have hmono:Zbj f m n k≤r.foldl (Zbj f m) (Zbj f m n k):=by
      by_cases hgt:m<Zbj f m n k
      ·rw [sizeF_stop f m r _ hgt];exact Int.le_refl _
      ·have:=sizeF_low (f:=f) (m:=m) (fun k m' h=>(hb k m' h).1) r (Zbj f m n k) hle;omega
     have h2:=ihr (Zbj f m n k) (by omega) hle;have h3:=ih k (m-n) (by omega) (by omega);rw [unitsL,List.length_append]
     push_cast
     omega
    ·have e:Zbj f m n k=n:=by unfold Zbj;rw [if_neg hnm]
     rw [e,sizeF_stop f m r n (by omega)] at hle;omega
  have:=key u.kids 1 (Int.le_refl _) h;rw [List.length_cons]
  push_cast
  omega
def shortB (l:List Wd):Bool:=(l.all fun w=>decide (w.text.length≤100))&&decide (l.length≤300)
def briefB (u:Un):Bool:=decide (u.label.length≤30)&&(shortB u.head&&shortB u.words)
def wordsB (u:Un):Bool:=(unitsT u).all briefB
def fewB (u:Un) (m:Int):Bool:=decide (sizeT 21 u m≤m)&&wordsB u
structure WdB (w : Wd) : Prop where
 text : w.text.length ≤ 1048576
 ok : i64 w.act ∧ i64 w.item ∧ i64 w.at'
inductive UnB : Un → Prop
 | mk (u : Un) (h : i64 u.act ∧ i64 u.item ∧ i64 u.n ∧ i64 u.kind) (hl : u.label.length ≤ 1048576) (hh : u.head.length ≤ 1048576 ∧ ∀ w ∈ u.head, WdB w) (hw : u.words.length ≤ 1048576 ∧ ∀ w ∈ u.words, WdB w) (hk : u.kids.length ≤ 1048576) (hs : ∀ k ∈ u.kids, UnB k) : UnB u
structure SmU (u : Un) : Prop where
 ok : i64 u.act ∧ i64 u.item ∧ i64 u.n ∧ i64 u.kind
 label : u.label.length ≤ 30
 head : u.head.length ≤ 300 ∧ ∀ w ∈ u.head, w.text.length ≤ 100
 words : u.words.length ≤ 300 ∧ ∀ w ∈ u.words, w.text.length ≤ 100
inductive SmT : Un → Prop
 | mk (u : Un) (h : SmU u) (hk : u.kids.length ≤ 1000) (hs : ∀ k ∈ u.kids, SmT k) : SmT u
theorem SmT.u {u:Un} (h:SmT u):SmU u:=by cases h with|mk _ h _ _=>exact h
theorem SmT.kids {u:Un} (h:SmT u):u.kids.length≤1000∧∀ k∈u.kids,SmT k:=by cases h with|mk _ _ hk hs=>exact ⟨hk,hs⟩
theorem shortB_iff {l:List Wd}:shortB l=true↔l.length≤300∧∀ w∈l,w.text.length≤100:=by
 unfold shortB;simp only [Bool.and_eq_true,decide_eq_true_eq,List.all_eq_true];exact ⟨fun h=>⟨h.2,h.1⟩,fun h=>⟨h.2,h.1⟩⟩
theorem smT_of {u:Un} (hu:UnB u) (hn:(unitsT u).length≤1000) (hw:wordsB u=true):SmT u:=by
 induction hu with
 | mk u h hl hh hww hk hs ih =>
  unfold wordsB at hw;rw [unitsT_all] at hw;simp only [Bool.and_eq_true,briefB,decide_eq_true_eq,List.all_eq_true (l:=u.kids)] at hw;obtain ⟨⟨h1,h2,h3⟩,h4⟩:=hw;rw [Zbr,List.length_cons] at hn;have:=unitsL_kids u.kids;exact .mk u ⟨h,h1,shortB_iff.1 h2,shortB_iff.1 h3⟩ (by omega) fun k hkk=>ih k hkk (by have:=unitsL_mem hkk;omega) (h4 k hkk)
theorem few_small {u:Un} {m:Int} (hu:UnB u) (h0:0≤m) (h1:m≤1000) (h:fewB u m=true):SmT u∧((unitsT u).length:Int)≤m:=by
 unfold fewB at h;simp only [Bool.and_eq_true,decide_eq_true_eq] at h;have:=sizeT_count 21 u m h0 h.1;exact ⟨smT_of hu (by omega) h.2,by omega⟩
end Go.VM
namespace Go.VM
open Go
mutual
def depthT : Un → Nat
 | .mk _ _ _ _ _ _ _ ks => depthL 0 ks
def depthL : Nat → List Un → Nat
 | d, [] => d
 | d, k :: r => depthL (max d (1 + depthT k)) r
end
def dpF (d:Nat) (k:Un):Nat:=max d (1+depthT k)
theorem depthL_fold:∀ (l:List Un) (d:Nat),depthL d l=l.foldl dpF d
 | [],d=>by rw [depthL];rfl
 | k::r,d=>by rw [depthL,depthL_fold r];rfl
theorem depthT_eq (u:Un):depthT u=u.kids.foldl dpF 0:=by cases u;rw [depthT,depthL_fold];rfl
theorem dpF_bd:∀ (l:List Un) (d m:Nat),d≤m→(∀ k∈l,1+depthT k≤m)→l.foldl dpF d≤m
 | [],d,m,h,_=>h
 | k::r,d,m,h,hk=>by
  rw [List.foldl_cons];refine dpF_bd r _ m ?_ (fun x hx=>hk x (List.mem_cons_of_mem _ hx));have:=hk k List.mem_cons_self;unfold dpF;omega
theorem depth_le {u:Un} (h:SmT u):depthT u+1≤(unitsT u).length:=by
 induction h with
 | mk u h hk hs ih =>
  rw [depthT_eq,Zbr,List.length_cons];have:=dpF_bd u.kids 0 (unitsL u.kids).length (Nat.zero_le _) (fun k hk=>by have:=ih k hk;have:=unitsL_mem hk;omega);omega
theorem dpF_step {l:List Un} {k:Nat} (h:k<l.length):(l.take (k+1)).foldl dpF 0=max ((l.take k).foldl dpF 0) (1+depthT l[k]):=by
 rw [List.take_add_one,List.getElem?_eq_getElem h,List.foldl_append];rfl
def idU (u:Un):Idt:=⟨u.act,u.item,u.n⟩
def idsT (u:Un):List Idt:=(unitsT u).map idU
theorem idsT_eq (u:Un):idsT u=idU u::(unitsL u.kids).map idU:=by unfold idsT;rw [Zbr];rfl
theorem closed_ids (l:List Idt):Closed (.sl 3 (l.map Idt.enc)):=Zak fun u _ y hy=>Idt.closed u y hy
end Go.VM
