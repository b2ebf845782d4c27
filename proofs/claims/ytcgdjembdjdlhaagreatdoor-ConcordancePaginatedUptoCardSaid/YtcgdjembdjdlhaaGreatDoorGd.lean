import Derived.Test.YtcgdjembdjdlhaaGreatDoorX2
import Derived.Test.YtcgdjembdjdlhaaGreatDoorVmPk
import Derived.Test.YtcgdjembdjdlhaaGreatDoorY4
import Derived.Test.YtcgdjembdjdlhaaGreatDoorY1
import Derived.Test.YtcgdjembdjdlhaaGreatDoorVmD
set_option linter.all false
set_option maxRecDepth 20000
set_option maxHeartbeats 0
namespace Go.Proofs.w
open Go Go.VM
def Zcj:VC:=(ZR [ZO 6 (.mv (.c (.int .i64 20)))] (ZR [ZM 10 6,ZO 7 (.mv (.c (.int .i64 0))),ZM 8 10] (.seq (.block 0 (.loop (.seq (ZR [ZM 11 8,ZM 12 1,ZO 13 (.bin .leq (.t 11) (.t 12))] (.cond (.t 13) .skip (.exit 0))) (.block 1 (ZR [ZM 14 0,ZM 15 7,ZM 16 8,ZM 17 2,ZO 18 (.call 213 [.t 14,.t 15,.t 16,.t 17])] (ZR [ZM 19 8,ZM 7 19] (.region [ZM 20 8,ZM 21 6,ZO 22 (.bin .add (.t 20) (.t 21)),ZM 8 22] false))))))) (ZR [ZM 23 0,ZM 24 7,ZM 25 1,ZM 26 2,ZO 27 (.call 213 [.t 23,.t 24,.t 25,.t 26])] (.block 2 (.loop (.seq (ZR [ZM 28 6,ZM 29 1,ZO 30 (.bin .lss (.t 28) (.t 29))] (.cond (.t 30) .skip (.exit 2))) (.block 3 (ZR [ZM 31 6,ZO 32 (.bin .mul (.c (.int .i64 2)) (.t 31)),ZO 7 (.mv (.c (.int .i64 0))),ZM 8 32] (.seq (.block 4 (.loop (.seq (ZR [ZM 33 8,ZM 34 1,ZO 35 (.bin .leq (.t 33) (.t 34))] (.cond (.t 35) .skip (.exit 4))) (.block 5 (ZR [ZM 36 0,ZM 37 7,ZM 38 7,ZM 39 6,ZO 40 (.bin .add (.t 38) (.t 39)),ZM 41 8,ZM 42 2,ZO 43 (.call 214 [.t 36,.t 37,.t 40,.t 41,.t 42])] (ZR [ZM 44 8,ZM 7 44] (.region [ZM 45 8,ZM 46 6,ZO 47 (.bin .mul (.c (.int .i64 2)) (.t 46)),ZO 48 (.bin .add (.t 45) (.t 47)),ZM 8 48] false))))))) (.seq (ZR [ZM 49 7,ZM 50 6,ZO 51 (.bin .add (.t 49) (.t 50)),ZM 9 51] (ZR [ZM 52 9,ZM 53 1,ZO 54 (.bin .lss (.t 52) (.t 53))] (.cond (.t 54) (.region [ZM 55 0,ZM 56 7,ZM 57 9,ZM 58 1,ZM 59 2,ZO 60 (.call 214 [.t 55,.t 56,.t 57,.t 58,.t 59])] false) .skip))) (.region [ZM 61 6,ZO 62 (.bin .mul (.t 61) (.c (.int .i64 2))),ZM 6 62] false))))))))))))
def Zcd:VC:=(.region [ZM 4 0,ZM 5 0,ZO 6 (.len false (.t 5)),ZM 7 1,ZO 8 (.call 173 [.t 4,.t 6,.t 7])] false)
theorem perm_extU {d d':Nat→Un} {a b n:Nat} (h:Same d d' a b) (hp:(seg d' a b).Perm (seg d a b)) (h1:a≤b) (h2:b≤n):(seg d' 0 n).Perm (seg d 0 n):=by
 rw [Zcu d' (show 0≤a by omega) (show a≤n by omega),Zcu d' h1 h2,Zcu d (show 0≤a by omega) (show a≤n by omega),Zcu d h1 h2,
  seg_congr (d:=d) (d':=d') (a:=0) (b:=a) (fun i _ hi=>h i (.inl hi)),seg_congr (d:=d) (d':=d') (a:=b) (b:=n) (fun i hi _=>h i (.inr hi))]
 exact List.Perm.append_left _ (hp.append_right _)
theorem ml2U {a:Nat} (h:a≤4611686018427387900):IntKind.i64.wrap (2*(a:Int))=((2*a:Nat):Int):=by rw [w64 (by omega) (by omega)];omega
theorem ml2U' {a:Nat} (h:a≤4611686018427387900):IntKind.i64.wrap ((a:Int)*2)=((2*a:Nat):Int):=by rw [w64 (by omega) (by omega)];omega
theorem sp_stableU {u : Un} (hu : SmU u) (id N t : Nat) (d : Nat → Un) (hid : id < t) (hN : N ≤ 1000000) :
  Zal Tryz.prog 173 [.own id 0 N,pI N,.fn (.func 119) [] [.ro u.enc]] ⟨[(id,.arr false 8 (rwsU d N))],t⟩
   (fun _ h'=>∃ d',((seg d' 0 N).Perm (seg d 0 N)∧Srt (leU u) d' 0 N)∧∃ t',t≤t'∧h'=⟨[(id,.arr false 8 (rwsU d' N))],t'⟩):=by
 refine Gn (vc:=Zcj) [] Tryz.func173 ?_;unfold Zcj;try dsimp only [ZM,ZO,ZN,ZG,ZR,ZU]
 refine Rp0 [0,1,2,6] ?_;refine Rp0 [0,1,2,6,7,8] ?_;refine Zaa ?_;refine Zab ?_;refine Zak (σ:={ s:Nat×(Nat→Un)×Nat//s.1*20≤N∧Blk (leU u) s.2.1 20 0 (s.1*20)∧(seg s.2.1 0 N).Perm (seg d 0 N)∧t≤s.2.2 }) (fun s=>([(0,.own id 0 N),(1,pI N),(2,.fn (.func 119) [] [.ro u.enc]),(6,pI (20:Nat)),(7,pI (s.1.1*20:Nat)),(8,pI (s.1.1*20+20:Nat))],⟨[(id,.arr false 8 (rwsU s.1.2.1 N))],s.1.2.2⟩)) (fun s=>N-s.1.1*20) ⟨(0,d,t),⟨Nat.zero_le _,Blk.zero,.refl _,Nat.le_refl _⟩⟩ ?_ ?_ ?_
 ·exact Fn0
 ·exact Fn0
 rintro ⟨⟨q,d1,t1⟩,hq,hb,hp,ht⟩;simp only [] at hq hb hp ht ⊢;refine Zaa ?_;refine Rp0 [0,1,2,6,7,8,13] ?_;refine Zac rfl (fun h1=>?_) (fun h1=>?_)
 ·refine Kp0 ?_;simp only [Zx3] at h1;have hle:q*20+20≤N:=by omega
  refine Zab ?_;refine Rp0 [0,1,2,6,8] ?_;refine Zal.mono (sp_insertionU hu id N (q*20) (q*20+20) t1 d1 (by omega) (by omega) (by omega) hN) ?_;rintro p h' ⟨d2,⟨k1,k2,k3⟩,t2,ht2,rfl⟩
  skip
  refine Rp0 [0,1,2,6,7,8] ?_;refine Zae [0,1,2,6,7,8] ?_;simp only [vmL,Nat.reduceEqDiff,reduceCtorEq,adIU (a:=q*20+20) (b:=20) (by omega)];refine ⟨⟨(q+1,d2,t2),⟨by show (q+1)*20≤N;omega,by
   have:=Blk.more hb k1 k3 (Nat.le_refl _)
   rwa [show q*20+20=(q+1)*20 by omega] at this,(perm_extU k1 k2 (by omega) (by omega)).trans hp,Nat.le_trans ht ht2⟩⟩,?_⟩
  all_goals exact Fn1 (show (q+1)*20=q*20+20 by omega)
 simp only [Zx2] at h1;refine Ep0 ?_;refine Rp0 [0,1,2,6] ?_;refine Zal.mono (sp_insertionU hu id N (q*20) N t1 d1 (by omega) (by omega) (by omega) hN) ?_;rintro p h' ⟨d2,⟨k1,k2,k3⟩,t2,ht2,rfl⟩;have hb2:Blk (leU u) d2 20 0 N:=Blk.more hb k1 k3 (by omega);have hp2:=(perm_extU k1 k2 (by omega) (Nat.le_refl _)).trans hp
 skip
 refine Zab ?_;refine Zak (σ:={ s:Nat×(Nat→Un)×Nat//20≤s.1∧s.1≤2*N+20∧Blk (leU u) s.2.1 s.1 0 N∧(seg s.2.1 0 N).Perm (seg d 0 N)∧t≤s.2.2 }) (fun s=>([(0,.own id 0 N),(1,pI N),(2,.fn (.func 119) [] [.ro u.enc]),(6,pI s.1.1)],⟨[(id,.arr false 8 (rwsU s.1.2.1 N))],s.1.2.2⟩)) (fun s=>2*N+20-s.1.1) ⟨(20,d2,t2),⟨Nat.le_refl _,by show 20≤2*N+20;omega,hb2,hp2,Nat.le_trans ht ht2⟩⟩ ?_ ?_ ?_
 ·exact Fn0
 ·exact Fn0
 clear k1 k2 k3 hb2 hp2 ht2 hb hp hq h1;rintro ⟨⟨bs,d2,t2⟩,hbs,hbs2,hb2,hp2,ht2⟩;simp only [] at hbs hbs2 hb2 hp2 ht2 ⊢;refine Zaa ?_;refine Rp0 [0,1,2,6,30] ?_;refine Zac rfl (fun h2=>?_) (fun h2=>?_)
 ·refine Kp0 ?_;simp only [Zx3] at h2;have hlt:bs<N:=by omega
  have m2:=ml2U (a:=bs) (by omega);refine Zab ?_;refine Rp1 [0,1,2,6,7,8] m2 ?_;refine Zaa ?_;refine Zab ?_;refine Zak (σ:={ s:Nat×Nat×(Nat→Un)×Nat//s.2.1=s.1*(2*bs)∧s.2.1≤N∧Blk (leU u) s.2.2.1 (2*bs) 0 (s.1*(2*bs))∧Blk (leU u) s.2.2.1 bs (s.1*(2*bs)) N∧(seg s.2.2.1 0 N).Perm (seg d 0 N)∧t≤s.2.2.2 }) (fun s=>([(0,.own id 0 N),(1,pI N),(2,.fn (.func 119) [] [.ro u.enc]),(6,pI bs),(7,pI s.1.2.1),(8,pI (s.1.2.1+2*bs:Nat))],⟨[(id,.arr false 8 (rwsU s.1.2.2.1 N))],s.1.2.2.2⟩)) (fun s=>N-s.1.2.1) ⟨(0,0,d2,t2),⟨by simp,Nat.zero_le _,by simp only [Nat.zero_mul];exact Blk.zero,by simp only [Nat.zero_mul];exact hb2,hp2,ht2⟩⟩ ?_ ?_ ?_
  ·exact Fn0
  ·exact Fn0
  rintro ⟨⟨q,A,d3,t3⟩,hA,hAN,hb3,hb4,hp3,ht3⟩;simp only [] at hA hAN hb3 hb4 hp3 ht3 ⊢;refine Zaa ?_;refine Rp0 [0,1,2,6,7,8,35] ?_;refine Zac rfl (fun h3=>?_) (fun h3=>?_)
  ·refine Kp0 ?_;simp only [Zx3] at h3;have hle:A+2*bs≤N:=by omega
   refine Zab ?_;refine Zaa (Zae [0,1,2,6,8] ?_);simp only [vmL,Nat.reduceEqDiff,reduceCtorEq,adIU (a:=A) (b:=bs) (by omega)];refine Zal.mono (sp_symMergeU hu (A+2*bs-A) id N A (A+bs) (A+2*bs) t3 d3 (Nat.le_refl _) (by omega) (by omega) (by omega) (by omega) hN) ?_;rintro p h' ⟨d4,hm,t4,ht4,rfl⟩
   skip
   refine Rp1 [0,1,2,6,7,8] m2 ?_;refine Zae [0,1,2,6,7,8] ?_;simp only [vmL,Nat.reduceEqDiff,reduceCtorEq,m2,adIU (a:=A+2*bs) (b:=2*bs) (by omega)];have hnext:(q+1)*(2*bs)=A+2*bs:=by rw [Nat.add_mul,Nat.one_mul,← hA]
   have hmm:Mrg (leU u) d3 d4 (q*(2*bs)) (q*(2*bs)+bs) (A+2*bs):=by rw [← hA];exact hm
   have hbb:=Blk.merge hb3 hb4 (b:=A+2*bs) (by omega) (by omega) (by omega) hmm;refine ⟨⟨(q+1,A+2*bs,d4,t4),⟨hnext.symm,hle,by rw [hnext];exact hbb.1,by rw [hnext];exact hbb.2,(perm_extU hm.out hm.perm (by omega) (by omega)).trans hp3,Nat.le_trans ht3 ht4⟩⟩,?_⟩;exact Fn0
  simp only [Zx2] at h3;refine Ep0 ?_;have m2':=ml2U' (a:=bs) (by omega);refine Zaa ?_;refine Zaa (Zae [0,1,2,6,7,9] ?_);simp only [vmL,Nat.reduceEqDiff,reduceCtorEq,adIU (a:=A) (b:=bs) (by omega)];refine Rp0 [0,1,2,6,7,9,54] ?_;refine Zac rfl (fun h4=>?_) (fun h4=>?_)
  ·simp only [Zx3] at h4;refine rp0 [0,1,2,6] ?_;refine Zal.mono (sp_symMergeU hu (N-A) id N A (A+bs) N t3 d3 (Nat.le_refl _) (by omega) (by omega) (by omega) (by omega) hN) ?_;rintro p h' ⟨d4,hm,t4,ht4,rfl⟩
   skip
   have hmm:Mrg (leU u) d3 d4 (q*(2*bs)) (q*(2*bs)+bs) N:=by rw [← hA];exact hm
   have hbb:=Blk.merge hb3 hb4 (b:=N) (by omega) (by omega) (by omega) hmm;refine rp1 [0,1,2,6] m2' ?_;refine ⟨⟨(2*bs,d4,t4),⟨by show 20≤2*bs;omega,by show 2*bs≤2*N+20;omega,hbb.1,(perm_extU hm.out hm.perm (by omega) (by omega)).trans hp3,Nat.le_trans ht3 ht4⟩⟩,?_⟩;exact Fn0
  ·simp only [Zx2] at h4;refine Kp0 ?_;refine rp1 [0,1,2,6] m2' ?_;refine ⟨⟨(2*bs,d3,t3),⟨by show 20≤2*bs;omega,by show 2*bs≤2*N+20;omega,Blk.rest hb3 hb4 (by omega),hp3,ht3⟩⟩,?_⟩;exact Fn0
 ·simp only [Zx2] at h2;refine Ep0 ?_;exact ⟨d2,⟨hp2,Blk.all hb2 (by omega)⟩,t2,ht2,rfl⟩
theorem sp_sortStableU {u : Un} (hu : SmU u) (id t : Nat) (l : List Un) (hid : id < t) (hN : l.length ≤ 1000000) :
  Zal Tryz.prog 118 [.own id 0 l.length,.fn (.func 119) [] [.ro u.enc]] ⟨[(id,.arr false 8 (l.map Un.enc))],t⟩
   (fun _ h'=>∃ l':List Un,(l'.Perm l∧l'.Pairwise (leU u))∧∃ t',t≤t'∧h'=⟨[(id,.arr false 8 (l'.map Un.enc))],t'⟩):=by
 have hrw:l.map Un.enc=rwsU (rowF l) l.length:=by
  refine List.ext_getElem (by simp [rwsU]) fun i h1 h2=>?_;have hi:i<l.length:=by simpa using h1
  simp [rwsU,rowF,Zx1,hi]
 rw [hrw];refine Gn (vc:=Zcd) [] Tryz.func118 ?_;unfold Zcd;try dsimp only [ZM,ZO,ZN,ZG,ZR,ZU]
 refine rp0 [] ?_;refine Zal.mono (sp_stableU hu id l.length t (rowF l) hid hN) ?_;rintro p h' ⟨d',⟨k1,k2⟩,t',ht',rfl⟩
 skip
 rw [seg_rowF] at k1;refine ⟨seg d' 0 l.length,⟨k1,k2.pairwise⟩,t',ht',?_⟩;have:(seg d' 0 l.length).map Un.enc=rwsU d' l.length:=by
  simp [seg,rwsU,List.range_eq_range']
 rw [this]
end Go.Proofs.w
namespace Go.VM
open Go
theorem HL.get_set (L:List (Nat×AB)) (k t:Nat) (x:AB):HL.get (HL.set L k x) t=if k=t then (if (HL.get L k).isSome then some x else none) else HL.get L t:=Heap.get_set ⟨L,0⟩ k t x
theorem HL.get_lt {L:List (Nat×AB)} {t id:Nat} {x:AB} (hd:HL.dec L t) (h:HL.get L id=some x):id<t:=by
 rcases Nat.lt_or_ge id t with h'|h'
 ·exact h'
 ·rw [HL.get_none hd h'] at h;cases h
def cellO:Option Nat→Nat→PV
 | none,_=>.nilsl
 | some b,n=>.own b 0 n
def rowO (u:Un) (s:Str) (tb:Bool) (c:PV):List PV:=[.str s,pI u.act,pI u.item,pI u.n,.bool tb,c]
structure OwnI (u : Un) (l : List Str) (ks : List Un) (nts : Nat → List Str) (tb : Bool) (c : Nat → Option Nat) (R : List (List PV)) (io ik : Nat) (L : List (Nat × AB)) (t : Nat) : Prop where
 dec : HL.dec L t
 gO : HL.get L io = some (.arr false 6 R)
 gK : HL.get L ik = some (.arr false 8 (ks.map Un.enc))
 ne : io ≠ ik
 len : R.length = l.length
 row : ∀ (i : Nat) (hi : i < l.length), R.getD i [] = rowO u l[i] (tb && (i + 1 == l.length)) (cellO (c i) (nts i).length)
 non : ∀ i, i < l.length → c i = none → nts i = []
 som : ∀ i b, i < l.length → c i = some b → HL.get L b = some (.arr false 1 ((nts i).map fun s => [PV.str s])) ∧ b ≠ io ∧ b ≠ ik
 inj : ∀ i j b, i < l.length → j < l.length → c i = some b → c j = some b → i = j
theorem OwnI.tie {u:Un} {l:List Str} {ks:List Un} {nts:Nat→List Str} {tb:Bool} {c:Nat→Option Nat} {R:List (List PV)} {io ik:Nat} {L:List (Nat×AB)} {t:Nat} (H:OwnI u l ks nts tb c R io ik L t) {m:Nat} (hm:l.length=m+1) {s:Str} (hs:s=l[m]):OwnI u l ks nts true c (R.set m (rowO u s true (cellO (c m) (nts m).length))) io ik (HL.set L io (.arr false 6 (R.set m (rowO u s true (cellO (c m) (nts m).length))))) t:=by
 refine { dec:=HL.dec_set _ _ H.dec,gO:=?_,gK:=?_,ne:=H.ne,len:=?_,row:=?_,non:=H.non,som:=?_,inj:=H.inj }
 ·rw [HL.get_set,if_pos rfl,H.gO];rfl
 ·rw [HL.get_set,if_neg H.ne];exact H.gK
 ·rw [List.length_set];exact H.len
 ·intro i hi;rw [Zx1,List.getElem?_set];by_cases e:m=i
  ·subst e;have:(m+1==l.length)=true:=by rw [beq_iff_eq];omega
   rw [if_pos rfl,if_pos (by rw [H.len];omega),this,hs];rfl
  ·have h1:(i+1==l.length)=false:=by rw [beq_eq_false_iff_ne];omega
   have:=H.row i hi;rw [Zx1,h1,Bool.and_false] at this;rw [if_neg e,this,h1,Bool.and_false]
 ·intro i b hi hb;obtain ⟨h1,h2,h3⟩:=H.som i b hi hb;exact ⟨by rw [HL.get_set,if_neg (Ne.symm h2)];exact h1,h2,h3⟩
def updN (f:Nat→List Str) (i:Nat) (x:List Str):Nat→List Str:=fun j=>if j=i then f j++x else f j
def updC (f:Nat→Option Nat) (i b:Nat):Nat→Option Nat:=fun j=>if j=i then some b else f j
def delO (L:List (Nat×AB)):Option Nat→List (Nat×AB)
 | none=>L
 | some b=>HL.del L b
theorem OwnI.add {u : Un} {l : List Str} {ks : List Un} {nts : Nat → List Str} {tb : Bool} {c : Nat → Option Nat} {R : List (List PV)} {io ik : Nat} {L : List (Nat × AB)} {t : Nat} (H : OwnI u l ks nts tb c R io ik L t) {i : Nat} (hi : i < l.length) {s : Str} (hs : s = l[i]) (x : List Str) {b n : Nat} {X : List (List PV)} (hb : b = t) (hn : n = (nts i ++ x).length) (hX : X = (nts i ++ x).map fun s => [PV.str s]) {R' : List (List PV)} (hR : R' = R.set i (rowO u s (tb && (i + 1 == l.length)) (.own b 0 n))) :
  OwnI u l ks (updN nts i x) tb (updC c i b) R' io ik ((b,.arr false 1 X)::HL.set (delO L (c i)) io (.arr false 6 R')) (t+1):=by
 subst hb hn hX hR;have hlo:=HL.get_lt H.dec H.gO;have hlk:=HL.get_lt H.dec H.gK;have hdec:HL.dec (delO L (c i)) b:=by
  cases c i with
  | none=>exact H.dec
  | some d=>exact HL.dec_del _ H.dec
 have hci:∀ d,c i=some d→d≠io∧d≠ik:=fun d hd=>(H.som i d hi hd).2;have hgd:∀ k,(∀ d,c i=some d→d≠k)→HL.get (delO L (c i)) k=HL.get L k:=by
  intro k hk;cases hc:c i with
  | none=>rfl
  | some d=>show HL.get (HL.del L d) k=_;rw [HL.get_del,if_neg (hk d hc)]
 have gO':HL.get (delO L (c i)) io=some (.arr false 6 R):=by rw [hgd io fun d hd=>(hci d hd).1];exact H.gO
 refine { dec:=⟨Nat.lt_succ_self _,HL.dec_set _ _ hdec⟩,gO:=?_,gK:=?_,ne:=H.ne,len:=?_,row:=?_,non:=?_,som:=?_,inj:=?_ }
 ·rw [HL.get,if_neg (by omega),HL.get_set,if_pos rfl,gO'];rfl
 ·rw [HL.get,if_neg (by omega),HL.get_set,if_neg H.ne,hgd ik fun d hd=>(hci d hd).2];exact H.gK
 ·rw [List.length_set];exact H.len
 ·intro j hj;rw [Zx1,List.getElem?_set];unfold updC updN;by_cases e:i=j
  ·subst e;rw [if_pos rfl,if_pos (by rw [H.len];exact hi),if_pos rfl,if_pos rfl,hs];rfl
  ·rw [if_neg e,if_neg (Ne.symm e),if_neg (Ne.symm e)];have:=H.row j hj
   rwa [Zx1] at this
 ·intro j hj hc;unfold updC at hc;unfold updN;by_cases e:j=i
  ·rw [if_pos e] at hc;cases hc
  ·rw [if_neg e] at hc ⊢;exact H.non j hj hc
 ·intro j d hj hd;unfold updC at hd;unfold updN;by_cases e:j=i
  ·rw [if_pos e] at hd ⊢;obtain rfl:b=d:=by simpa using hd
   subst e;exact ⟨by rw [HL.get,if_pos rfl],by omega,by omega⟩
  ·rw [if_neg e] at hd ⊢;obtain ⟨h1,h2,h3⟩:=H.som j d hj hd;have hdb:=HL.get_lt H.dec h1;refine ⟨?_,h2,h3⟩;rw [HL.get,if_neg (by omega),HL.get_set,if_neg (Ne.symm h2),hgd d fun d' hd'=>?_]
   ·exact h1
   ·rintro rfl;exact e (H.inj j i d' hj hi hd hd')
 ·intro j j' d hj hj' hd hd';unfold updC at hd hd';by_cases e:j=i
  ·by_cases e':j'=i
   ·rw [e,e']
   ·rw [if_pos e] at hd;rw [if_neg e'] at hd';obtain rfl:b=d:=by simpa using hd
    have:=HL.get_lt H.dec (H.som j' b hj' hd').1;omega
  ·by_cases e':j'=i
   ·rw [if_neg e] at hd;rw [if_pos e'] at hd';obtain rfl:b=d:=by simpa using hd'
    have:=HL.get_lt H.dec (H.som j b hj hd).1;omega
   ·rw [if_neg e] at hd;rw [if_neg e'] at hd';exact H.inj j j' d hj hj' hd hd'
end Go.VM
namespace Go.Proofs.w
open Go Go.VM
theorem clone_own (X:AB) (i0 t:Nat) (h0:i0<t) (l:List Un) (hl:l.length≤1048576):Zal Tryz.prog 117 [.sl 8 (l.map Un.enc)] ⟨[(i0,X)],t⟩ (fun p h'=>(l=[]∧p=.nilsl∧h'=⟨[(i0,X)],t⟩)∨(∃ id t',i0<id∧id<t'∧p=.own id 0 l.length∧h'=⟨[(id,.arr false 8 (l.map Un.enc)),(i0,X)],t'⟩)):=by
 refine Zal.drop ?_;have qq:=N3 i0 t (t+1);refine Gn (vc:=Zb3) [.t 2] Tryz.func117 ?_;unfold Zb3;try dsimp only [ZM,ZO,ZN,ZG,ZR,ZU]
 refine Rp0 [0] ?_;refine Zaa ?_;refine Rp0 [0,4] ?_;intro b hb1 hb2;cases b with
 | true =>
  skip
  refine Zac rfl (fun h1=>?_) (fun h1=>by cases h1);refine Rp0 [2] ?_;refine Tp0 ?_;cases l with
  | nil =>
   refine ⟨⟨[(i0,X)],t⟩,?_,.inl (by simp)⟩;exact Sc0
  | cons a r=>simp at hb2
 | false =>
  skip
  refine Zac rfl (fun h1=>by cases h1) (fun h1=>?_);refine Kp0 ?_;refine Rp1 [2] (x2 @xlm qq) ?_;refine Ok ?_;refine Tp0 ?_;refine ⟨⟨[(t+1,.arr false 8 (l.map Un.enc)),(i0,X)],t+1+1⟩,?_,.inr ⟨t+1,t+1+1,by omega,by omega,rfl,rfl⟩⟩;exact Sc1 qq
end Go.Proofs.w
namespace Go.VM
open Go
theorem OwnI.up {u:Un} {l:List Str} {ks:List Un} {nts:Nat→List Str} {tb:Bool} {c:Nat→Option Nat} {R:List (List PV)} {io ik:Nat} {L:List (Nat×AB)} {t t':Nat} (H:OwnI u l ks nts tb c R io ik L t) (h:t≤t'):OwnI u l ks nts tb c R io ik L t' :=
 { H with dec:=HL.dec_mono H.dec h }
theorem le_two {L:List (Nat×AB)} {t:Nat} (hd:HL.dec L t) (x y:AB) (p:Nat):HL.le L (Heap.get ⟨(t+1,x)::(t,y)::L,p⟩) :=
 HL.le_self hd fun k hk=>.inl (by show _=HL.get ((t+1,x)::(t,y)::L) k;rw [HL.get,if_neg (by omega),HL.get,if_neg (by omega)])
theorem le_three {L:List (Nat×AB)} {t:Nat} (hd:HL.dec L t) (x y z:AB) (p:Nat):HL.le ((t+2,z)::L) (Heap.get ⟨(t+2,z)::(t+1,x)::(t,y)::L,p⟩) :=
 HL.le_self (b:=t+3) ⟨by omega,HL.dec_mono hd (by omega)⟩ fun k hk=>by
  show HL.get ((t+2,z)::L) k=HL.get ((t+2,z)::(t+1,x)::(t,y)::L) k∨_;rw [HL.get,HL.get,HL.get,HL.get];by_cases h1:t+2=k
  ·rw [if_pos h1,if_pos h1];exact .inl rfl
  ·rw [if_neg h1,if_neg h1];by_cases h2:k<t
   ·rw [if_neg (by omega),if_neg (by omega)];exact .inl rfl
   ·exact .inr (HL.get_none hd (by omega))
theorem lineI_idx {u k:Un} {E:List Nat} {x:Int} (hx:x=Zag u k+(2+(u.head.length:Int))) (h:lineI u E k<E.length):idxF (fun e=>decide (x<e)) (E.map fun e=>((e:Nat):Int))=(lineI u E k:Int):=by
 subst hx;unfold idxF;have hf:(E.map fun e=>((e:Nat):Int)).findIdx (fun e=>decide (Zag u k+(2+(u.head.length:Int))<e))=lineI u E k:=by
  rw [List.findIdx_map];rfl
 rw [hf,if_pos];rw [List.any_eq_true];have hl:(E.map fun e=>((e:Nat):Int)).findIdx (fun e=>decide (Zag u k+(2+(u.head.length:Int))<e))<(E.map fun e=>((e:Nat):Int)).length:=by
  rw [hf,List.length_map];exact h
 obtain ⟨x,h1,h2⟩:=List.findIdx_lt_length.1 hl;exact ⟨x,h1,h2⟩
theorem view_nil1 (h:Heap):View h .nilsl (.sl 1 []):=by
 intro g w v r hv;cases hv;exact .slE _ _ _
theorem OwnI.view {w:Int} {u:Un} {ks ks0:List Un} {c:Nat→Option Nat} {R:List (List PV)} {io ik:Nat} {L:List (Nat×AB)} {t n:Nat} (hn:n=(Zaz w u).length) (H:OwnI u (Zaz w u) ks0 (ntsP w u (Zbu w (rowT u)) ks) (tbP u ks) c R io ik L t):View ⟨L,t⟩ (.own io 0 n) (.sl 6 ((ownQ w u ks).map Ln.encP)):=by
 subst hn;have hrow:∀ i,i<(Zaz w u).length→PV.row ((ownQ w u ks).map Ln.encP) i=[.str ((Zaz w u).getD i []),pI u.act,pI u.item,pI u.n,.bool (tbP u ks&&(i+1==(Zaz w u).length)),It.strs (ntsP w u (Zbu w (rowT u)) ks i)]:=by
  intro i hi;unfold PV.row ownQ;rw [Zx1,List.map_map,List.getElem?_map,List.getElem?_range hi];rfl
 refine View.ownV (fz:=false) (es:=R) H.gO (by rw [H.len,Nat.zero_add];exact Nat.le_refl _) (by simp [ownQ]) (fun i hi=>by rw [hrow i hi];rfl) (fun i j hi hj=>?_);rw [Nat.zero_add,hrow i hi];have hr:PV.row R i=_:=H.row i hi;rw [hr];unfold rowO;have hs:(Zaz w u)[i]=(Zaz w u).getD i []:=by rw [Zx1,List.getElem?_eq_getElem hi];rfl
 rw [hs]
 match j,hj with
 | 0,_=>exact View.refl _ _
 | 1,_=>exact View.refl _ _
 | 2,_=>exact View.refl _ _
 | 3,_=>exact View.refl _ _
 | 4,_=>exact View.refl _ _
 | 5,_ =>
  show View _ (cellO (c i) (ntsP w u (Zbu w (rowT u)) ks i).length) (It.strs _);cases hc:c i with
  | none =>
   rw [H.non i hi hc];exact view_nil1 _
  | some b=>exact View.own_all (fz:=false) (H.som i b hi hc).1 (by rw [List.length_map])
end Go.VM
namespace Go.Proofs.w
open Go Go.VM
def c_paginate_own:VC:=(ZR [ZO 2 (.box 8 (.t 0)),ZO 4 (.mv (.c .nilsl))] (ZR [ZO 18 (.load true 8 (.t 2)),ZM 19 1,ZO 20 (.call 45 [.t 18,.t 19]),ZM 17 20,ZO 21 (.ext (.t 17) 0),ZO 22 (.ext (.t 17) 1),ZM 5 21,ZM 6 22] (ZR [ZO 7 (.mv (.c .nilsl))] (.seq (ZR [ZM 23 5,ZO 24 (.len false (.t 23)),ZO 25 (.mv (.c (.int .i64 0)))] (.block 0 (.loop (ZR [ZO 26 (.bin .lss (.t 25) (.t 24))] (.seq (.cond (.t 26) .skip (.exit 0)) (.seq (.block 1 (ZR [ZO 27 (.iaddr 1 (.t 23) (.t 25)),ZO 28 (.load false 1 (.t 27)),ZM 9 28] (.region [ZM 29 7,ZM 30 9,ZO 31 (.faddr 0 (.t 2)),ZO 32 (.load true 3 (.t 31)),ZO 33 (.build [(.str []),.int .i64 0,.int .i64 0,.int .i64 0,(.bool false),.nilsl] [(0,(1,(.t 30))),(1,(3,(.t 32)))]),ZO 34 (.bslice 6 1 [(.str []),.int .i64 0,.int .i64 0,.int .i64 0,(.bool false),.nilsl] [(0,(.t 33))]),ZO 35 (.app 6 72 [(.str []),.int .i64 0,.int .i64 0,.int .i64 0,(.bool false),.nilsl] false (.t 29) (.t 34)),ZM 7 35] false))) (.region [ZO 36 (.bin .add (.t 25) (.c (.int .i64 1))),ZM 25 36] false))))))) (ZR [ZO 37 (.faddr 7 (.t 2)),ZO 38 (.load false 1 (.t 37)),ZO 39 (.call 117 [.t 38]),ZM 10 39] (ZR [ZM 40 10,ZO 41 (.mkfn (.func 119) [] [.t 2]),ZO 42 (.call 118 [.t 40,.t 41])] (.seq (ZR [ZM 43 10,ZO 44 (.len false (.t 43)),ZO 45 (.mv (.c (.int .i64 0)))] (.block 2 (.loop (ZR [ZO 46 (.bin .lss (.t 45) (.t 44))] (.seq (.cond (.t 46) .skip (.exit 2)) (.seq (.block 3 (ZR [ZO 47 (.iaddr 8 (.t 43) (.t 45)),ZO 48 (.load true 8 (.t 47)),ZO 12 (.alloc ZU),ZN (.store 8 (.t 12) (.t 48))] (ZR [ZO 49 (.load true 8 (.t 2)),ZO 50 (.load true 8 (.t 12)),ZO 51 (.call 63 [.t 49,.t 50]),ZO 13 (.alloc [.int .i64 0]),ZN (.store 1 (.t 13) (.t 51))] (.seq (ZR [ZO 52 (.load false 1 (.t 13)),ZO 53 (.bin .lss (.t 52) (.c (.int .i64 0)))] (.cond (.t 53) (ZR [ZM 54 7,ZM 55 7,ZO 56 (.len false (.t 55)),ZO 57 (.bin .sub (.t 56) (.c (.int .i64 1))),ZO 58 (.iaddr 6 (.t 54) (.t 57)),ZO 59 (.faddr 4 (.t 58)),ZN (.store 1 (.t 59) (.c (.bool true)))] (.exit 3)) .skip)) (ZR [ZO 60 (.load false 1 (.t 13)),ZO 61 (.faddr 5 (.t 2)),ZO 62 (.load false 1 (.t 61)),ZO 63 (.len false (.t 62)),ZO 64 (.bin .add (.c (.int .i64 2)) (.t 63)),ZO 65 (.bin .add (.t 60) (.t 64)),ZN (.store 1 (.t 13) (.t 65))] (ZR [ZM 66 6,ZO 67 (.mkfn (.func 121) [] [.t 13]),ZO 68 (.call 120 [.t 66,.t 67]),ZM 14 68] (ZR [ZO 70 (.load true 8 (.t 12)),ZM 71 1,ZO 72 (.call 45 [.t 70,.t 71]),ZM 69 72,ZO 73 (.ext (.t 69) 0),ZO 74 (.ext (.t 69) 1),ZM 15 73,ZM 16 74] (.region [ZM 75 7,ZM 76 14,ZM 77 7,ZM 78 14,ZO 79 (.iaddr 6 (.t 77) (.t 78)),ZO 80 (.faddr 5 (.t 79)),ZO 81 (.load false 1 (.t 80)),ZM 82 15,ZO 83 (.app 1 16 [(.str [])] false (.t 81) (.t 82)),ZO 84 (.iaddr 6 (.t 75) (.t 76)),ZO 85 (.faddr 5 (.t 84)),ZN (.store 1 (.t 85) (.t 83))] false)))))))) (.region [ZO 86 (.bin .add (.t 45) (.c (.int .i64 1))),ZM 45 86] false))))))) (ZR [ZM 87 7,ZM 4 87] .ret))))))))
theorem closed_lnP (x:Ln):∀ y∈x.encP,Closed y:=by
 intro y hy;simp only [Ln.encP,List.mem_cons,List.not_mem_nil,or_false] at hy;rcases hy with rfl|rfl|rfl|rfl|rfl|rfl
 ·exact cS _
 ·exact cI _
 ·exact cI _
 ·exact cI _
 ·exact cB _
 ·exact Zbd _
theorem closed_lnsP (l:List Ln):Closed (.sl 6 (l.map Ln.encP)):=Zai fun x _=>closed_lnP x
theorem sp_own_2L (e x:Int) {L:List (Nat×AB)} {b t:Nat} (hb:HL.get L b=some (.arr false 1 [[pI x]])):Zal Tryz.prog 121 [pI e,.loc b 0 0] ⟨L,t⟩ (fun p h'=>p=.bool (decide (x<e))∧h'=⟨L,t⟩):=by
 refine Gn (vc:=c_paginate_own_2) [.t 3] Tryz.func121 ?_;unfold c_paginate_own_2;try dsimp only [ZM,ZO,ZN,ZG,ZR,ZU]
 refine Rp0 [0,1] ?_;refine Rp1 [3] hb ?_;exact Tc0
theorem sp_IndexOwn (l : List Int) (x : Int) (hl : l.length ≤ 1000000) {L : List (Nat × AB)} {b t : Nat} (hd : HL.dec L t) (hb : HL.get L b = some (.arr false 1 [[pI x]])) :
  Zal Tryz.prog 120 [.sl 1 (l.map fun x=>[pI x]),.fn (.func 121) [] [.loc b 0 0]] ⟨L,t⟩ (fun p h'=>p=pI (idxF (fun e=>decide (x<e)) l)∧h'=⟨L,t⟩):=by
 have hp:=fun e=>sp_own_2L (t:=t) e x hb;generalize hpp:(fun e=>decide (x<e))=p;have hp':∀ e,Zal Tryz.prog 121 [pI e,.loc b 0 0] ⟨L,t⟩ (fun q h'=>q=.bool (p e)∧h'=⟨L,t⟩):=fun e=>by rw [← hpp];exact hp e
 clear hp;refine Gn (vc:=c_slices_IndexFunc_int) [.t 4] Tryz.func120 ?_;unfold c_slices_IndexFunc_int;try dsimp only [ZM,ZO,ZN,ZG,ZR,ZU]
 refine Rp0 [0,1] ?_;refine Zaa ?_;refine Rp1 [0,1,7,8] @xlm ?_;refine Zab ?_;refine Zak (σ:={ k:Nat//k≤l.length∧∀ (j:Nat) (hj:j<l.length),j<k→p l[j]=false }) (fun x=>([(0,.sl 1 (l.map fun x=>[pI x])),(1,.fn (.func 121) [] [.loc b 0 0]),(7,pI l.length),(8,pI x.1)],⟨L,t⟩)) (fun x=>l.length-x.1) ⟨0,Nat.zero_le _,fun j _ h=>by cases h⟩ ?_ ?_ ?_
 ·refine Sp0 ?_;rfl
 ·exact HOk.le_refl (h:=⟨L,t⟩) hd
 rintro ⟨k,hk,hpre⟩;simp only [];refine Rp0 [0,1,7,8,9] ?_;refine Zaa ?_;refine Zac rfl (fun h1=>?_) (fun h1=>?_)
 ·have ka:k<l.length:=by simp only [Zx3] at h1;omega
  have hcall:=hp' l[k];have hrow:(l.map fun x=>[pI x]).getD k []=(fun x:Int=>[pI x]) l[k]:=rowm ka;simp only [] at hrow;generalize hx:l[k]=y at hcall hrow;refine Kp0 ?_;refine Zaa ?_;refine Zab ?_;refine Rp0 [0,1,5,7,8] ?_;refine Rp1 [0,1,5,7,8,16] (x2 @xlm hrow) ?_;refine Ok ?_;refine Zal.mono hcall ?_;rintro q h' ⟨rfl,rfl⟩
  skip
  cases hq:p y with
  | true =>
   refine Ct ?_;refine Rp0 [4] ?_;refine Tp0 ?_;rw [idxF_at p l k ka hpre (by rw [hx];exact hq)]
  | false =>
   refine Fp0 ?_;refine rp1 [0,1,7,8] (w64 (n:=(k:Int)+1) (by omega) (by omega)) ?_;refine ⟨⟨k+1,ka,fun j hj hjk=>?_⟩,rfl,(HOk.le_refl (h:=⟨L,t⟩) hd).2,?_⟩
   ·by_cases e:j=k
    ·subst e;rw [hx];exact hq
    ·exact hpre j hj (by omega)
   ·simp only [];omega
 ·have ka:k=l.length:=by simp only [Zx2] at h1;omega
  subst ka;refine Ep0 ?_;refine Rp0 [4] ?_;refine Tp0 ?_;rw [idxF_none p l fun j hj=>hpre j hj hj]
theorem lines_pos {w:Int} {u:Un} (hw:Zcr w (rowT u)=0):1≤(Zaz w u).length:=by
 rw [linesU_len];obtain ⟨e,he,_⟩:=rises_end (x:=0) (Zcg hw) (Nat.zero_le _) (by rw [rowT_len];omega);exact List.length_pos_of_mem he
theorem own_sort {u : Un} (hu : SmU u) {N : FK} {Q : Exit → Env → Heap → Prop} (l : List Un) (hl : l.length ≤ 1000) {io ik t : Nat} {R0 : List (List PV)} {a b c : PV} {n : Nat} (hn : 1 ≤ n) (hR0 : R0.length = n) (h1 : io < ik) (h2 : ik < t)
  (H:∀ (ks:List Un) (t':Nat),ks.Perm l→ks.Pairwise (leU u)→ik<t'→Q .normal [(1,a),(2,.ro u.enc),(6,b),(7,c),(10,.own ik 0 l.length)] ⟨[(ik,.arr false 8 (ks.map Un.enc)),(io,.arr false 6 R0)],t'⟩) :
  VW Tryz.prog N (.region [⟨(some 40),(.mv (.t 10)),none⟩,⟨(some 41),(.mkfn (.func 119) [] [(.t 2)]),none⟩,⟨(some 42),(.call 118 [(.t 40),(.t 41)]),none⟩] false) Q [(1,a),(2,.ro u.enc),(6,b),(7,c),(10,.own ik 0 l.length)] ⟨[(ik,.arr false 8 (l.map Un.enc)),(io,.arr false 6 R0)],t⟩:=by
 have SO:=sp_sortStableU hu ik t l h2 (by omega);have qq:=N3 io ik t;refine Zae [1,2,6,7,10] ?_;generalize u.enc=ue at SO H ⊢;refine Sp1 qq ?_;refine Zal.frameL (l1:=[(ik,.arr false 8 (l.map Un.enc))]) (l2:=[(io,.arr false 6 R0)]) (by simp;omega) (by intro p hp;rw [List.mem_singleton] at hp;subst hp;intro fz z e;simp only [AB.arr.injEq] at e;rw [e.2.2] at hR0;simp at hR0;omega) (Zal.mono SO ?_);rintro p h' ⟨ks,⟨k1,k2⟩,t',ht',rfl⟩;refine ⟨ht',by simp;omega,by simp [AB.live],?_⟩;refine Sp0 ?_;exact H ks t' k1 k2 (by omega)
theorem sp_pag_own {u:Un} (hu:SmT u) (w:Int) (hw:Zcr w (rowT u)=0) (hky:KeyU u):Zam Tryz.prog 64 [.agg u.enc,pI w] (.sl 6 ((ownL w u).map Ln.encP)):=by
 have h:=hu.u;have hkl:=hu.kids.1;have hks:∀ k∈u.kids,SmU k:=fun k hk=>(hu.kids.2 k hk).u;have BR:=sp_pag_broken h w;have BRk:=fun k hk=>sp_pag_broken (hks k hk) w;have CLk:=fun k=>sp_called h k;have hlen:=linesU_len w u;have hle:=linesU_le h w;have hlp:=lines_pos hw;have hEl:=breakE_len (w:=w) (l:=rowT u);have hTl:=rowT_len u;have hHl:u.head.length≤300:=h.head.1;have hWl:u.words.length≤300:=h.words.1;have hbr:=fun (k:Un) (hk:0≤Zag u k)=>lineI_lt (u:=u) (k:=k) hw hk;have hcb:=fun k=>calledT_bd h k;have hfin:=fun (ks:List Un) hp hs=>ownQ_eq (ks:=ks) hw hky hp hs;have hvw:=fun ks ks0 c R io ik L t=>@OwnI.view w u ks ks0 c R io ik L t;refine Zad ?_ (closed_lnsP _) (closed_uw _ _);refine Gn (vc:=c_paginate_own) [.t 4] Tryz.func64 ?_;unfold c_paginate_own;try dsimp only [ZM,ZO,ZN,ZG,ZR,ZU]
 have hue:=Un.Zaf u;rw [hue] at BR CLk ⊢;generalize hl:Zaz w u=l at BR hlen hle hlp hvw;generalize hE:Zbu w (rowT u)=E at BR hlen hEl hbr hvw;unfold It.strs endsV at BR;refine Rp0 [1,2] ?_;refine Zaw [(1,pI w),(2,.ro [pI u.act,pI u.item,pI u.n,pI u.kind,.str u.label,.sl 4 (u.head.map Wd.enc),.sl 4 (u.words.map Wd.enc),.sl 8 (u.kids.map Un.enc)])] ⟨View.refl _ _,View.loc (z:=8) (fz:=false) (es:=[[pI u.act,pI u.item,pI u.n,pI u.kind,.str u.label,.sl 4 (u.head.map Wd.enc),.sl 4 (u.words.map Wd.enc),.sl 8 (u.kids.map Un.enc)]]) rfl (by simp) rfl (by simp),trivial⟩ ?_;refine Rp0 [1,2,5,6] ?_;refine Ap0 BR ?_;refine Rp0 [1,2,5,6,7] ?_;refine Zcx 7 6 rfl ?_;refine Sp0 ?_;refine Zaa (Zc1 (σ:={ x:Nat×Nat//x.1<x.2 }) (fun x=>([(1,pI w),(2,.ro [pI u.act,pI u.item,pI u.n,pI u.kind,.str u.label,.sl 4 (u.head.map Wd.enc),.sl 4 (u.words.map Wd.enc),.sl 8 (u.kids.map Un.enc)]),(6,.sl 1 (E.map fun e=>[pI (e:Nat)])),(7,.own x.1.1 0 l.length)],⟨[(x.1.1,.arr false 6 (l.map fun s=>rowO u s false .nilsl))],x.1.2⟩)) ?_ (fun x=>?_))
 ·refine Rp1 [1,2,6,7,23,24,25] @xlm ?_;refine Zab ?_;refine Zak (σ:={ x:Nat×Nat×Nat//x.1≤l.length∧x.2.1<x.2.2 }) (fun x=>([(1,pI w),(2,.ro [pI u.act,pI u.item,pI u.n,pI u.kind,.str u.label,.sl 4 (u.head.map Wd.enc),.sl 4 (u.words.map Wd.enc),.sl 8 (u.kids.map Un.enc)]),(6,.sl 1 (E.map fun e=>[pI (e:Nat)])),(7,.own x.1.2.1 0 x.1.1),(23,.sl 1 (l.map fun s=>[PV.str s])),(24,pI l.length),(25,pI x.1.1)],⟨[(x.1.2.1,.arr false 6 ((l.take x.1.1).map fun s=>rowO u s false .nilsl))],x.1.2.2⟩)) (fun x=>l.length-x.1.1) ⟨(0,1,2),Nat.zero_le _,by simp⟩ ?_ ?_ ?_
  ·exact Sr0
  ·exact Sr0
  rintro ⟨⟨k,id,t⟩,hk,hid⟩;simp only [] at hk hid ⊢;have qq:=N4 id t (t+1) (t+1+1);refine Rp1 [1,2,6,7,23,24,25,26] qq ?_;refine Zaa ?_;refine Zac rfl (fun h1=>?_) (fun h1=>?_)
  ·have ka:k<l.length:=by simp only [Zx3] at h1;omega
   have hrow:(l.map fun s=>[PV.str s]).getD k []=[PV.str l[k]]:=rowm ka;have hst:(l.take (k+1)).map (fun s=>rowO u s false .nilsl)=(l.take k).map (fun s=>rowO u s false .nilsl)++[rowO u l[k] false .nilsl]:=by
    rw [List.take_add_one,List.getElem?_eq_getElem ka,Option.toList_some,List.map_append];rfl
   generalize l[k]=s at hrow hst;have hBl:((l.take k).map fun s=>rowO u s false .nilsl).length=k:=by simp;omega
   generalize ((l.take k).map fun s=>rowO u s false .nilsl)=B at hst hBl ⊢;have tk:List.take k B=B:=List.take_of_length_le (by omega);refine Kp0 ?_;refine Zaa ?_;refine Zab ?_;refine Rp1 [1,2,6,7,9,23,24,25] (x3 @xlm hrow qq) ?_;refine Ok ?_;refine rp1 [1,2,6,7,23,24,25] (x3 tk hBl qq) ?_;refine ⟨by omega,by omega,?_⟩;refine rp1 [1,2,6,7,23,24,25] (x2 (ad1 (a:=k) (by omega)) qq) ?_;refine ⟨⟨(k+1,t+1,t+2),ka,by simp⟩,?_⟩;simp only [hst]
   all_goals exact Fn1 qq
  ·have ka:k=l.length:=by simp only [Zx2] at h1;omega
   subst ka;rw [List.take_length];refine Ep1 qq ?_;refine ⟨⟨(id,t),hid⟩,?_⟩;exact Fn1 qq
 obtain ⟨⟨io,t0⟩,hio⟩:=x;simp only [] at hio ⊢;have hR0:(l.map fun s=>rowO u s false .nilsl).length=l.length:=List.length_map _;have hR0i:∀ (i:Nat) (hi:i<l.length),(l.map fun s=>rowO u s false .nilsl).getD i []=rowO u l[i] false .nilsl:=fun i hi=>rowm (enc:=fun s=>rowO u s false .nilsl) hi;generalize (l.map fun s=>rowO u s false .nilsl)=R0 at hR0 hR0i ⊢;refine Zaa (Zc1 (σ:={ x:Option (Nat×Nat)//match x with|none=>u.kids=[]|some y=>io<y.1∧y.1<y.2 }) (fun x=>match x.1 with
  | none=>([(1,pI w),(2,.ro [pI u.act,pI u.item,pI u.n,pI u.kind,.str u.label,.sl 4 (u.head.map Wd.enc),.sl 4 (u.words.map Wd.enc),.sl 8 (u.kids.map Un.enc)]),(6,.sl 1 (E.map fun e=>[pI (e:Nat)])),(7,.own io 0 l.length),(10,.nilsl)],⟨[(io,.arr false 6 R0)],t0⟩)
  | some y=>([(1,pI w),(2,.ro [pI u.act,pI u.item,pI u.n,pI u.kind,.str u.label,.sl 4 (u.head.map Wd.enc),.sl 4 (u.words.map Wd.enc),.sl 8 (u.kids.map Un.enc)]),(6,.sl 1 (E.map fun e=>[pI (e:Nat)])),(7,.own io 0 l.length),(10,.own y.1 0 u.kids.length)],⟨[(y.1,.arr false 8 (u.kids.map Un.enc)),(io,.arr false 6 R0)],y.2⟩)) ?_ (fun x=>?_))
 ·refine rp0 [1,2,6,7,10] ?_;refine Zal.mono (clone_own (.arr false 6 R0) io t0 hio u.kids (by omega)) ?_;rintro p h' (⟨h0,rfl,rfl⟩|⟨id,t',h1,h2,rfl,rfl⟩)
  ·refine Sp0 ?_;refine ⟨⟨none,h0⟩,?_⟩;exact Fn0
  ·have qq:=N3 io id (t');refine Sp0 ?_;refine ⟨⟨some (id,t'),h1,h2⟩,?_⟩;exact Fn1 qq
 refine Zaa (Zc1 (σ:={ x:List Un×Nat×Nat//(x.1.Perm u.kids∧x.1.Pairwise (leU u))∧io<x.2.1∧x.2.1<x.2.2 }) (fun x=>([(1,pI w),(2,.ro [pI u.act,pI u.item,pI u.n,pI u.kind,.str u.label,.sl 4 (u.head.map Wd.enc),.sl 4 (u.words.map Wd.enc),.sl 8 (u.kids.map Un.enc)]),(6,.sl 1 (E.map fun e=>[pI (e:Nat)])),(7,.own io 0 l.length),(10,.own x.1.2.1 0 u.kids.length)],⟨[(x.1.2.1,.arr false 8 (x.1.1.map Un.enc)),(io,.arr false 6 R0)],x.1.2.2⟩)) ?_ (fun x=>?_))
 ·obtain ⟨x,hx⟩:=x;cases x with
  | none =>
   simp only [] at hx ⊢;have hk0:u.kids.length=0:=by rw [hx];rfl
   refine Zcx 10 8 rfl ?_;have qq:=N2 io t0;refine VW.weaken (e':=[(1,pI w),(2,.ro [pI u.act,pI u.item,pI u.n,pI u.kind,.str u.label,.sl 4 (u.head.map Wd.enc),.sl 4 (u.words.map Wd.enc),.sl 8 (u.kids.map Un.enc)]),(6,.sl 1 (E.map fun e=>[pI (e:Nat)])),(7,.own io 0 l.length),(10,.own t0 0 u.kids.length)]) (h':=⟨[(t0,.arr false 8 (u.kids.map Un.enc)),(io,.arr false 6 R0)],t0+1⟩) ?_ ?_ ?_
   ·simp only [vmL,Nat.reduceEqDiff,hk0]
    try exact ⟨rfl,rfl⟩
   ·rw [hx];exact Sr1 qq
   rw [← hue];refine own_sort h u.kids (by omega) hlp hR0 hio (by omega) ?_;intro ks t' k1 k2 k3;have qq:=N3 io t0 (t');refine ⟨⟨(ks,t0,t'),⟨k1,k2⟩,hio,k3⟩,?_⟩;exact Fn1 qq
  | some y =>
   obtain ⟨ik,t⟩:=y;simp only [] at hx ⊢;rw [← hue];refine own_sort h u.kids (by omega) hlp hR0 hx.1 hx.2 ?_;intro ks t' k1 k2 k3;have qq:=N3 io ik (t');refine ⟨⟨(ks,ik,t'),⟨k1,k2⟩,hx.1,k3⟩,?_⟩;exact Fn1 qq
 obtain ⟨⟨ks,ik,t1⟩,⟨hp,hsrt⟩,hik,ht1⟩:=x;simp only [] at hp hsrt hik ht1 ⊢;have hkn:ks.length=u.kids.length:=hp.length_eq;have hksm:∀ k∈ks,SmU k:=fun k hk=>hks k (hp.mem_iff.1 hk);have hBk:∀ k∈ks,_:=fun k hk=>BRk k (hp.mem_iff.1 hk);have hfq:=hfin ks hp hsrt;refine Zaa ?_;refine Rp0 [1,2,6,7,43,44,45] ?_;refine Zab ?_;refine Zak (σ:={ x:Nat×(Nat→Option Nat)×List (List PV)×List (Nat×AB)×Nat//x.1≤ks.length∧OwnI u l ks (ntsP w u E (ks.take x.1)) (tbP u (ks.take x.1)) x.2.1 x.2.2.1 io ik x.2.2.2.1 x.2.2.2.2 }) (fun x=>([(1,pI w),(2,.ro [pI u.act,pI u.item,pI u.n,pI u.kind,.str u.label,.sl 4 (u.head.map Wd.enc),.sl 4 (u.words.map Wd.enc),.sl 8 (u.kids.map Un.enc)]),(6,.sl 1 (E.map fun e=>[pI (e:Nat)])),(7,.own io 0 l.length),(43,.own ik 0 ks.length),(44,pI ks.length),(45,pI x.1.1)],⟨x.1.2.2.2.1,x.1.2.2.2.2⟩)) (fun x=>ks.length-x.1.1) ⟨(0,fun _=>none,R0,[(ik,.arr false 8 (ks.map Un.enc)),(io,.arr false 6 R0)],t1),Nat.zero_le _,?_⟩ ?_ ?_ ?_
 ·exact { dec:=⟨ht1,hik,trivial⟩,gO:=by rw [HL.get,if_neg (by omega),HL.get,if_pos rfl],gK:=by rw [HL.get,if_pos rfl],ne:=by omega,len:=hR0,row:=fun i hi=>by rw [hR0i i hi];rfl,non:=fun i hi _=>rfl,som:=fun i b _ hb=>(by cases hb),inj:=fun i j b _ _ hb=>(by cases hb) }
 ·exact Sr1 hkn
 ·exact HOk.le_refl (h:=⟨[(ik,.arr false 8 (ks.map Un.enc)),(io,.arr false 6 R0)],t1⟩) ⟨ht1,hik,trivial⟩
 rintro ⟨⟨k,c,R,L,t⟩,hk,H⟩;simp only [] at hk H ⊢;have gO:=H.gO;have gK:=H.gK;have ioT:=HL.get_lt H.dec gO;have ikT:=HL.get_lt H.dec gK;have d0:HL.del L t=L:=HL.del_ge H.dec (Nat.le_refl t);have d1:HL.del L (t+1)=L:=HL.del_ge H.dec (Nat.le_succ t);have qq:=N4 io ik t (t+1);refine Rp1 [1,2,6,7,43,44,45,46] qq ?_;refine Zaa ?_;refine Zac rfl (fun h2=>?_) (fun h2=>?_)
 ·have ka:k<ks.length:=by simp only [Zx3] at h2;omega
  have hrow:(ks.map Un.enc).getD k []=ks[k].enc:=rowm ka;have hmem:ks[k]∈ks:=List.getElem_mem ka;have C:=CLk ks[k];have Bk:=hBk _ hmem;have hcv:=hcb ks[k];have hstN:=fun i=>ntsP_step w u E i ka;have hstT:=tbP_step u ka;have hln:=hbr ks[k];generalize ks[k]=v at hrow hmem C Bk hcv hstN hstT hln;rw [Un.Zaf v] at hrow C Bk;generalize hcq:Zag u v=cv at C hcv hstN hstT hln;refine Kp0 ?_;refine Zaa ?_;refine Zab ?_;refine Rp1 [1,2,6,7,12,43,44,45] (x5 gK hrow @xlm d0 qq) ?_;refine Ok ?_;refine Rp1 [1,2,6,7,12,13,43,44,45] (x2 d1 qq) ?_;refine Ap1 C (x2 d1 qq) ?_;refine Zaa ?_;refine Rp1 [1,2,6,7,12,13,43,44,45,53] qq ?_;refine Zac rfl (fun h3=>?_) (fun h3=>?_)
  ·have hneg:cv<0:=by simpa using h3
   obtain ⟨m,hm⟩:∃ m,l.length=m+1:=⟨l.length-1,by omega⟩;have hmi:m<l.length:=by omega
   have hm1:((l.length:Int)-1)=(m:Nat):=by omega
   have hrm:=H.row m hmi;have hRl:=H.len;unfold rowO at hrm;refine Zaa (Zae [1,2,6,7,43,44,45] ?_);simp only [vmL,Nat.reduceEqDiff,Nat.reduceAdd,Nat.reduceLeDiff,gO,hm1,w64 (n:=(m:Nat)) (by omega) (by omega),hrm,hRl,qq];refine ⟨⟨by omega,by omega⟩,hmi,?_⟩;refine Ep1 qq ?_;refine rp1 [1,2,6,7,43,44,45] (x2 (ad1 (a:=k) (by omega)) qq) ?_;have hN:ntsP w u E (ks.take (k+1))=ntsP w u E (ks.take k):=funext fun i=>by
    rw [hstN i,decide_eq_false (by omega),Bool.false_and,if_neg Bool.false_ne_true,List.append_nil]
   have hT:tbP u (ks.take (k+1))=true:=by rw [hstT,decide_eq_true hneg,Bool.or_true]
   have HT0:=(H.tie hm rfl).dec;have HT:=(H.tie hm rfl).up (show t≤t+2 by omega);rw [← hN,← hT] at HT;refine ⟨⟨(k+1,c,_,_,t+2),ka,HT⟩,?_⟩;try simp only [vmL,qq]
   all_goals (repeat' (first|rfl|trivial|omega|(simp only [];omega)|refine And.intro ?_ ?_))
   rw [hN,hT];exact le_two HT0 _ _ _
  ·have hpos:0≤cv:=by simpa using h3
   have hli:=hln hpos;rw [← hlen] at hli;have hHL:(u.head.map Wd.enc).length=u.head.length:=List.length_map _;refine Kp0 ?_;refine Rp1 [1,2,6,7,12,13,43,44,45] (x5 d1 @xlm (w64 (n:=2+(u.head.length:Int)) (by omega) (by omega)) (w64 (n:=cv+(2+(u.head.length:Int))) (by omega) (by omega)) qq) ?_;have IX:=sp_IndexOwn (t:=t+2) (L:=(t+1,.arr false 1 [[pI (cv+(2+(u.head.length:Int)))]])::(t,.arr false 8 [[pI v.act,pI v.item,pI v.n,pI v.kind,.str v.label,.sl 4 (v.head.map Wd.enc),.sl 4 (v.words.map Wd.enc),.sl 8 (v.kids.map Un.enc)]])::L) (b:=t+1) (E.map fun x=>((x:Nat):Int)) (cv+(2+(u.head.length:Int))) (by rw [List.length_map];omega) ⟨by omega,by omega,H.dec⟩ (by rw [HL.get,if_pos rfl]);rw [endsV_int,lineI_idx (u:=u) (k:=v) (by rw [hcq]) (by rw [← hlen];exact hli)] at IX;refine Rp0 [1,2,6,7,12,14,43,44,45] ?_;refine Zal.mono IX ?_;rintro p h' ⟨rfl,rfl⟩
   skip
   refine Rp1 [1,2,6,7,14,15,43,44,45] qq ?_;refine Ap0 Bk ?_;have hri:=H.row _ hli;have hRl:=H.len;have hnl:=ntsP_le (u:=u) w E (ks:=ks.take k) (fun x hx=>hksm x (List.mem_of_mem_take hx)) (lineI u E v);have htl:(ks.take k).length≤1000:=by rw [List.length_take];omega
   have hxl:(Zaz w v).length≤602:=linesU_le (hksm _ hmem) w;have hN:ntsP w u E (ks.take (k+1))=updN (ntsP w u E (ks.take k)) (lineI u E v) (Zaz w v):=funext fun i=>by
    rw [hstN i,decide_eq_true hpos,Bool.true_and];unfold updN;by_cases e:i=lineI u E v
    ·rw [if_pos e,if_pos (by rw [e];exact beq_self_eq_true _),e]
    ·rw [if_neg e,if_neg (by rw [beq_iff_eq];exact fun h=>e h.symm),List.append_nil]
   have hT:tbP u (ks.take (k+1))=tbP u (ks.take k):=by rw [hstT,decide_eq_false (by omega),Bool.or_false]
   have HA:=fun (b:Nat) (X:List (List PV)) (n:Nat) (hb:b=t+2)=>(H.up (show t≤t+2 by omega)).add hli rfl (Zaz w v) (b:=b) (n:=n) (X:=X) hb;rw [← hN,← hT] at HA;have HNo:=H.non _ hli;have HSo:=fun b=>H.som _ b hli;generalize lineI u E v=i at hli hri HA HNo HSo hnl ⊢;generalize ntsP w u E (ks.take k) i=nt at hri HA HNo HSo hnl ⊢;generalize Zaz w v=tx at HA hxl ⊢;unfold It.strs;unfold rowO at hri HA;cases hc:c i with
   | none =>
    rw [hc] at hri HA;simp only [cellO,delO] at hri HA;obtain rfl:=HNo hc;have qq:=N5 io ik t (t+1) (t+2);refine rp1 [1,2,6,7,43,44,45] (x5 gO hri hRl @xlm qq) ?_;refine Ok ?_;refine rp1 [1,2,6,7,43,44,45] (x2 (ad1 (a:=k) (by omega)) qq) ?_;have HB:=HA (t+2) (tx.map fun s=>[PV.str s]) tx.length rfl rfl rfl rfl;have hdc:=HB.dec.2;refine ⟨⟨(k+1,_,_,_,t+2+1),ka,HB⟩,?_⟩;try simp only [vmL,qq]
    all_goals (repeat' (first|rfl|trivial|omega|(simp only [];omega)|refine And.intro ?_ ?_))
    rw [hT];exact (le_three (HL.dec_set _ _ H.dec) _ _ _ _).2
   | some b =>
    obtain ⟨gb,hbo,hbk⟩:=HSo b hc;rw [hc] at hri HA;simp only [cellO,delO] at hri HA;have bT:=HL.get_lt H.dec gb;have qq:=N6 b io ik t (t+1) (t+2);have gdel:HL.get (HL.del L b) io=some (.arr false 6 R):=by rw [HL.get_del,if_neg hbo];exact gO
    have hnl':(nt.map fun s=>[PV.str s]).length=nt.length:=List.length_map _;have hTk:List.take nt.length (nt.map fun s=>[PV.str s])=nt.map fun s=>[PV.str s]:=List.take_of_length_le (by omega);refine Zae [1,2,6,7,43,44,45] ?_;simp only [vmL,Nat.reduceEqDiff,Nat.reduceAdd,gO,gb,gdel,hri,hRl,hTk,List.length_map,qq];refine Ok ?_;refine rp1 [1,2,6,7,43,44,45] (x2 (ad1 (a:=k) (by omega)) qq) ?_;have HB:=HA (t+2) ((nt.map fun s=>[PV.str s])++tx.map fun s=>[PV.str s]) (nt.length+tx.length) rfl (by rw [Zx5]) (by rw [List.map_append]) rfl;refine ⟨⟨(k+1,_,_,_,t+2+1),ka,HB⟩,?_⟩;try simp only [vmL,qq]
    all_goals (repeat' (first|rfl|trivial|omega|(simp only [];omega)|refine And.intro ?_ ?_))
    rw [hT];exact (le_three (HL.dec_set _ _ (HL.dec_del _ H.dec)) _ _ _ _).2
 ·have ka:k=ks.length:=by simp only [Zx2] at h2;omega
  subst ka;rw [List.take_length] at H;refine VW_exit ?_;refine Rp0 [4] ?_;refine Tp0 ?_;rw [← hfq];exact hvw ks ks c R io ik L t rfl H
end Go.Proofs.w
namespace Go.VM
open Go
def Zcs (l:List Ln):Prop:=∀ x,l.getLast?=some x→x.tied=false
theorem lastOk_app {a b:List Ln} (hb:b≠[]) (h:Zcs b):Zcs (a++b):=by
 intro x hx;rw [List.getLast?_append] at hx;cases hl:b.getLast? with
 | none=>exact absurd (List.getLast?_eq_none_iff.1 hl) hb
 | some y =>
  rw [hl] at hx;simp only [Option.some_or,Zx0] at hx;subst hx;exact h _ hl
theorem ownF_last (w:Int) (u:Un) (t:Bool):∀ (l:List Str) (E:List Nat) (fr:Nat),l.length=E.length→∀ x,(ownF w u t fr l E).getLast?=some x→x.tied=t
 | [],E,fr,_,x,h=>by unfold ownF at h;simp at h
 | s::l,[],fr,hl,x,h=>by simp at hl
 | s::l,e::E,fr,hl,x,h=>by
  unfold ownF at h;rw [List.getLast?_cons] at h;have hl':l.length=E.length:=by simpa using hl
  cases hr:(ownF w u t (toN u e) l E).getLast? with
  | none =>
   rw [hr] at h;simp only [Option.getD_none,Zx0] at h;have hn:=List.getLast?_eq_none_iff.1 hr;have he:l=[]:=by
    cases l with
    | nil=>rfl
    | cons a r =>
     cases E with
     | nil=>simp at hl'
     | cons b q=>unfold ownF at hn;cases hn
   subst h;simp [he]
  | some y =>
   rw [hr] at h;simp only [Option.getD_some,Zx0] at h;subst h;exact ownF_last w u t l E _ hl' _ hr
theorem body_last {u:Un} (hu:SmT u) {w:Int}:(∀ x∈unitsT u,Zcr w (rowT x)=0)→bodyT w u≠[]∧Zcs (bodyT w u):=by
 induction hu with
 | mk u h hk hs ih =>
  intro hw;have ih':∀ k∈u.kids,bodyT w k≠[]∧Zcs (bodyT w k):=fun k hk'=>ih k hk' fun x hx=>hw x (Zb8 hk' hx);rw [bodyT_eq];have hpos:0<(Zaz w u).length:=Go.Proofs.w.lines_pos (hw u (Zau u));have hown:ownL w u≠[]:=by
   intro h0;unfold ownL at h0;have hl:=linesU_len w u;cases hl1:Zaz w u with
   | nil=>rw [hl1] at hpos;simp at hpos
   | cons a r =>
    rw [hl1] at hl h0;cases he:Zbu w (rowT u) with
    | nil=>rw [he] at hl;simp at hl
    | cons b q=>rw [he] at h0;unfold ownF at h0;cases h0
  refine ⟨by simp [hown],?_⟩;have key:∀ L:List Un,(∀ k∈L,k∈u.kids)→(bodyL w u L=[]∧∀ k∈L,¬ Zag u k<0)∨(bodyL w u L≠[]∧Zcs (bodyL w u L)):=by
   intro L
   induction L with
   | nil=>intro _;exact .inl ⟨by rw [bodyL],fun k hk=>by cases hk⟩
   | cons a r ihr =>
    intro hL;have ha:=ih' a (hL a List.mem_cons_self);rcases ihr fun k hk=>hL k (Zx7 _ hk) with ⟨h1,h2⟩|⟨h1,h2⟩
    ·by_cases hc:Zag u a<0
     ·right
      rw [bodyL,if_pos hc,h1,List.append_nil];exact ha
     ·left
      rw [bodyL,if_neg hc,h1];exact ⟨rfl,fun k hk=>by
       rcases List.mem_cons.1 hk with rfl|hk
       ·exact hc
       ·exact h2 k hk⟩
    ·right
     rw [bodyL];exact ⟨by simp [h1],lastOk_app h1 h2⟩
  rcases key u.kids fun k hk=>hk with ⟨h1,h2⟩|⟨h1,h2⟩
  ·rw [h1,List.append_nil];intro x hx;have:=ownF_last w u (tiedU u) (Zaz w u) (Zbu w (rowT u)) 0 (linesU_len w u) x hx;rw [this];unfold tiedU;rw [Bool.eq_false_iff];intro ht;obtain ⟨k,k1,k2⟩:=List.any_eq_true.1 ht;exact h2 k k1 (by simpa using k2)
  ·exact lastOk_app h1 h2
theorem kids_last {u:Un} (hu:SmT u) {w:Int} (hw:∀ x∈unitsL u.kids,Zcr w (rowT x)=0):Zcs (kidsB w true u u.kids):=by
 unfold kidsB;rw [if_pos rfl];have key:∀ L:List Un,(∀ k∈L,k∈u.kids)→Zcs (L.flatMap (bodyT w)):=by
  intro L
  induction L with
  | nil=>intro _ x hx;simp at hx
  | cons a r ihr =>
   intro hL;have ha:=body_last (hu.kids.2 a (hL a List.mem_cons_self)) (w:=w) fun x hx=>hw x (by
    rw [Zat];exact List.mem_flatMap.2 ⟨a,hL a List.mem_cons_self,hx⟩)
   have hr:=ihr fun k hk=>hL k (Zx7 _ hk);rw [List.flatMap_cons];by_cases h0:r.flatMap (bodyT w)=[]
   ·rw [h0,List.append_nil];exact ha.2
   ·exact lastOk_app h0 hr
 exact key u.kids fun k hk=>hk
theorem grp_last:∀ (l acc:List Ln),Zcs (acc++l)→∀ g∈grpG acc l,Zcs g
 | [],acc,h,g,hg=>by
  unfold grpG at hg;split at hg
  ·cases hg
  ·rw [List.mem_singleton] at hg;subst hg;simpa using h
 | x::r,acc,h,g,hg=>by
  unfold grpG at hg;split at hg
  ·exact grp_last r (acc++[x]) (by simpa using h) g hg
  ·rename_i ht;rcases List.mem_cons.1 hg with rfl|hg
   ·intro y hy;rw [List.getLast?_append] at hy;simp only [List.getLast?_singleton,Option.some_or,Zx0] at hy;subst hy
    simpa using ht
   ·refine grp_last r [] ?_ g hg;intro y hy;rw [List.nil_append] at hy;refine h y ?_;rw [List.getLast?_append,List.getLast?_cons,hy];rfl
theorem addG_last {m:Int} {s s':List (List Ln)×List Ln} {g:List Ln} (h1:∀ l∈s.1,Zcs l) (h2:Zcs s.2) (hg:g≠[]) (hg2:Zcs g) (h:addG m (some s) g=some s'):(∀ l∈s'.1,Zcs l)∧Zcs s'.2:=by
 obtain ⟨D,N⟩:=s;rw [addG_eq] at h;split at h
 ·cases h
 split at h
 ·simp only [Zx0] at h;subst h;refine ⟨fun l hl=>?_,hg2⟩;rcases List.mem_append.1 hl with hl|hl
  ·exact h1 l hl
  ·rw [List.mem_singleton] at hl;subst hl;exact h2
 ·simp only [Zx0] at h;subst h;exact ⟨h1,lastOk_app hg hg2⟩
theorem lastG_fold {m:Int}:∀ (G:List (List Ln)) {s s':List (List Ln)×List Ln},(∀ l∈s.1,Zcs l)→Zcs s.2→(∀ g∈G,g≠[]∧Zcs g)→G.foldl (addG m) (some s)=some s'→(∀ l∈s'.1,Zcs l)∧Zcs s'.2
 | [],s,s',h1,h2,_,h=>by simp only [List.foldl_nil,Zx0] at h;subst h;exact ⟨h1,h2⟩
 | g::r,s,s',h1,h2,hG,h=>by
  rw [List.foldl_cons] at h;cases hs:addG m (some s) g with
  | none=>rw [hs,addG_none] at h;cases h
  | some s2 =>
   rw [hs] at h;obtain ⟨a,b⟩:=addG_last h1 h2 (hG g List.mem_cons_self).1 (hG g List.mem_cons_self).2 hs;exact lastG_fold r a b (fun x hx=>hG x (Zx7 _ hx)) h
structure PgsI (m : Int) (B : List Ln) (P : List (List Ln)) : Prop where
 flat : P.flatten = B
 ne : ∀ l ∈ P, l ≠ []
 hi : ∀ l ∈ P, (Zda l : Int) ≤ m
 last : ∀ l ∈ P, Zcs l
theorem pagesG_inv {m:Int} {B:List Ln} {P:List (List Ln)} (hB:Zcs B) (h:pagesG m B=some P):PgsI m B P:=by
 unfold pagesG at h;obtain ⟨s,hs,rfl⟩:=Option.map_eq_some_iff.1 h;have hne:=fun g hg=>grpG_ne B [] g hg;have I:=pagG_inv hne hs;have hl:=lastG_fold (grpG [] B) (s:=([],[])) (fun l h=>by cases h) (fun x h=>by cases h) (fun g hg=>⟨hne g hg,grp_last B [] hB g hg⟩) hs;have hf:=I.flat
 rw [grpG_flat,List.nil_append] at hf;obtain ⟨D,N⟩:=s;show PgsI m B (if N=[] then D else D++[N]);have h1:=I.ne;have h2:=I.hi;have h3:=I.now;simp only [] at hf h1 h2 h3 hl;by_cases h0:N=[]
 ·rw [if_pos h0];subst h0;rw [List.append_nil] at hf;exact ⟨hf,h1,h2,hl.1⟩
 ·rw [if_neg h0];refine ⟨by rw [List.flatten_append];simpa using hf,fun l h=>?_,fun l h=>?_,fun l h=>?_⟩
  all_goals rcases List.mem_append.1 h with h|h
  ·exact h1 l h
  ·rw [List.mem_singleton] at h;subst h;exact h0
  ·exact h2 l h
  ·rw [List.mem_singleton] at h;subst h;exact h3 h0
  ·exact hl.1 l h
  ·rw [List.mem_singleton] at h;subst h;exact hl.2
end Go.VM
