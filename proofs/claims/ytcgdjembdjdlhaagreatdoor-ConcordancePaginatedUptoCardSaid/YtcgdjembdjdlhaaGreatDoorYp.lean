import Derived.Test.YtcgdjembdjdlhaaGreatDoorYl
import Derived.Test.YtcgdjembdjdlhaaGreatDoorVmPk
import Derived.Test.YtcgdjembdjdlhaaGreatDoorVmBc
import Derived.Test.YtcgdjembdjdlhaaGreatDoorVmBe
import Derived.Test.YtcgdjembdjdlhaaGreatDoorVmE
import Derived.Test.YtcgdjembdjdlhaaGreatDoorC0
import Derived.Test.YtcgdjembdjdlhaaGreatDoorX2
import Derived.Test.YtcgdjembdjdlhaaGreatDoorY1
import Derived.KernelRfl
import Derived.Test.YtcgdjembdjdlhaaGreatDoorGd
set_option linter.all false
set_option maxRecDepth 20000
set_option maxHeartbeats 0
namespace Go.VM
open Go
structure ItI (Inv : List (List Ln) → List (Nat × AB) → Nat → Prop) : Prop where
 nod : ∀ {p L t}, Inv p L t → Nod L
 lt : ∀ {p L t}, Inv p L t → ∀ q ∈ L, q.1 < t
 mono : ∀ {p L t t'}, Inv p L t → t ≤ t' → Inv p L t'
theorem grpG_tie {x:Ln} (h:x.tied=true) (acc r:List Ln):grpG acc (x::r)=grpG (acc++[x]) r:=by rw [grpG,if_pos h]
theorem grpG_cut {x:Ln} (h:x.tied=false) (acc r:List Ln):grpG acc (x::r)=(acc++[x])::grpG [] r:=by rw [grpG,if_neg (by rw [h];simp)]
theorem dt_step {α:Type} {l:List α} {f k:Nat} (hf:f≤k) (hk:k<l.length):(l.drop f).take (k+1-f)=(l.drop f).take (k-f)++[l[k]]:=by
 rw [show k+1-f=(k-f)+1 by omega,List.take_succ_eq_append_getElem (by rw [List.length_drop];omega),List.getElem_drop]
 congr 2
 congr 1
 omega
end Go.VM
namespace Go.Proofs.w
open Go Go.VM
def c_paginate_groups_1:VC:=(ZR [ZO 3 (.mv (.c (.int .i64 0)))] (.seq (ZR [ZO 6 (.load false 1 (.t 1)),ZO 7 (.len false (.t 6)),ZO 8 (.mv (.c (.int .i64 0)))] (.block 0 (.loop (ZR [ZO 9 (.bin .lss (.t 8) (.t 7))] (.seq (.cond (.t 9) .skip (.exit 0)) (.seq (.block 1 (ZR [ZM 10 8,ZO 11 (.iaddr 6 (.t 6) (.t 8)),ZO 12 (.load true 6 (.t 11)),ZO 5 (.alloc [(.str []),.int .i64 0,.int .i64 0,.int .i64 0,(.bool false),.nilsl]),ZM 4 10,ZN (.store 6 (.t 5) (.t 12))] (.seq (ZR [ZO 13 (.faddr 4 (.t 5)),ZO 14 (.load false 1 (.t 13))] (.cond (.t 14) (.exit 1) .skip)) (.seq (ZR [ZM 15 0,ZO 16 (.load false 1 (.t 1)),ZM 17 3,ZM 18 4,ZO 19 (.bin .add (.t 18) (.c (.int .i64 1))),ZO 20 (.slice false 6 (.t 16) (some (.t 17)) (some (.t 19))),ZO 21 (.callv (.t 15) [.t 20]),ZO 22 (.un .not (.t 21))] (.cond (.t 22) .ret .skip)) (.region [ZM 23 4,ZO 24 (.bin .add (.t 23) (.c (.int .i64 1))),ZM 3 24] false))))) (.region [ZO 25 (.bin .add (.t 8) (.c (.int .i64 1))),ZM 8 25] false))))))) (ZR [ZM 26 3,ZO 27 (.load false 1 (.t 1)),ZO 28 (.len false (.t 27)),ZO 29 (.bin .lss (.t 26) (.t 28))] (.cond (.t 29) (.region [ZM 30 0,ZO 31 (.load false 1 (.t 1)),ZM 32 3,ZO 33 (.slice false 6 (.t 31) (some (.t 32)) none),ZO 34 (.callv (.t 30) [.t 33])] false) .skip))))
theorem sp_groups_1 (l : Nat) (G : List Ln) (hG : G.length ≤ 1000000) {Inv : List (List Ln) → List (Nat × AB) → Nat → Prop} {Fin : Heap → Prop} (hI : ItI Inv)
  (hy:∀ pre g post L1 t1,grpG [] G=pre++g::post→Inv pre L1 t1→AY Tryz.prog l [.sl 6 (g.map Ln.encP)] ⟨L1,t1⟩ (fun v h'=>(v=.bool true∧∃ L2 t2,h'=⟨L2,t2⟩∧Inv (pre++[g]) L2 t2)∨(v=.bool false∧Fin h')))
  {L0:List (Nat×AB)} {t0:Nat} (h0:Inv [] L0 t0) :
  Zal Tryz.prog 62 [.fn (.yield l) [] [],.ro [.sl 6 (G.map Ln.encP)]] ⟨L0,t0⟩ (fun _ h'=>(∃ L2 t2,h'=⟨L2,t2⟩∧Inv (grpG [] G) L2 t2)∨Fin h'):=by
 refine Gn (vc:=c_paginate_groups_1) [] Tryz.func62 ?_;unfold c_paginate_groups_1;try dsimp only [ZM,ZO,ZN,ZG,ZR,ZU]
 refine Rp0 [0,1,3] ?_;refine Zaa ?_;refine Rp1 [0,1,3,6,7,8] @xlm ?_;have hml:(G.map Ln.encP).length=G.length:=List.length_map _;refine Zab ?_;refine Zak (σ:={ x:Nat×Nat×List (List Ln)×List (Nat×AB)×Nat//x.1≤G.length∧x.2.1≤x.1∧grpG [] G=x.2.2.1++grpG ((G.drop x.2.1).take (x.1-x.2.1)) (G.drop x.1)∧Inv x.2.2.1 x.2.2.2.1 x.2.2.2.2 })
  (fun x=>([(0,.fn (.yield l) [] []),(1,.ro [.sl 6 (G.map Ln.encP)]),(3,pI x.1.2.1),(6,.sl 6 (G.map Ln.encP)),(7,pI G.length),(8,pI x.1.1)],⟨x.1.2.2.2.1,x.1.2.2.2.2⟩)) (fun x=>G.length-x.1.1) ⟨(0,0,[],L0,t0),Nat.zero_le _,Nat.le_refl _,rfl,h0⟩ ?_ ?_ ?_
 ·refine Sp0 ?_;exact ⟨rfl,rfl⟩
 ·refine Sp0 ?_
  simpa using HL.le_app (P:=[]) (hI.nod h0) t0
 rintro ⟨⟨k,f,pre,L1,t1⟩,hk,hf,hgr,hInv⟩;simp only [] at hk hf hgr hInv ⊢;have hnod:=hI.nod hInv;have hlt:=hI.lt hInv;have o1:Off L1 t1:=Off.lt hlt (Nat.le_refl _);have g1:=o1.get;have d1:=o1.del;refine Rp0 [0,1,3,6,7,8,9] ?_;refine Zaa ?_;refine Zac rfl (fun h1=>?_) (fun h1=>?_)
 ·have ka:k<G.length:=by simp only [Zx3] at h1;omega
  have hdr:G.drop k=G[k]::G.drop (k+1):=(List.getElem_cons_drop ka).symm;have hst:=dt_step (l:=G) hf ka;have hsl:((G.map Ln.encP).drop f).take (k+1-f)=((G.drop f).take (k-f)++[G[k]]).map Ln.encP:=by
   rw [← hst,List.map_take,List.map_drop]
  have hrow:(G.map Ln.encP).getD k []=G[k].encP:=rowm ka;rw [hdr] at hgr;generalize G[k]=x at hst hrow hgr hsl;have hx:x.encP=[.str x.text,pI x.id.act,pI x.id.item,pI x.id.n,.bool x.tied,It.strs x.notes]:=rfl;rw [hx] at hrow;unfold It.strs at hrow;refine Kp0 ?_;refine Zaa ?_;refine Zab ?_;refine Rp1 [0,1,3,4,5,6,7,8] (x4 hml hrow g1 d1) ?_;refine Ok ?_;refine Zaa ?_;refine Rp1 [0,1,3,4,6,7,8,14] (x2 g1 d1) ?_;cases ht:x.tied with
  | true =>
   rw [grpG_tie ht,← hst] at hgr;refine Ct ?_;refine Ep0 ?_;refine rp1 [0,1,3,6,7,8] (ad1 (a:=k) (by omega)) ?_;refine ⟨⟨(k+1,f,pre,L1,t1+1),ka,by show f≤k+1;omega,hgr,hI.mono hInv (Nat.le_succ _)⟩,?_⟩;refine ⟨⟨rfl,rfl⟩,⟨Nat.le_refl _,HL.le_tail1 hnod o1 _⟩,?_⟩;show G.length-(k+1)<G.length-k;omega
  | false =>
   rw [grpG_cut ht] at hgr;have hY:=hy pre ((G.drop f).take (k-f)++[x]) _ L1 (t1+1) hgr (hI.mono hInv (Nat.le_succ _));rw [← hsl] at hY;refine Fp0 ?_;refine Zaa ?_;refine Zaa (VW_regionY [0,1,4,6,7,8,22] ?_);simp only [vmL,Nat.reduceEqDiff,reduceCtorEq,OpsY,StepY,hml,ad1 (a:=k) (by omega),Int.toNat_natCast];refine ⟨⟨by omega,by omega,by omega,by omega⟩,AY.weakenL (h0:=⟨L1,t1+1⟩) ⟨Nat.le_refl _,HL.le_tail1 hnod o1 _⟩ (hY.mono ?_)⟩;rintro v h' (⟨rfl,L2,t2,rfl,hI2⟩|⟨rfl,hF⟩)
   ·refine Sp0 ?_;refine Fp0 ?_;refine rp1 [0,1,3,6,7,8] (ad1 (a:=k) (by omega)) ?_;refine rp1 [0,1,3,6,7,8] (ad1 (a:=k) (by omega)) ?_;refine ⟨⟨(k+1,k+1,pre++[(G.drop f).take (k-f)++[x]],L2,t2),ka,Nat.le_refl _,?_,hI2⟩,?_⟩
    ·show grpG [] G=(pre++[(G.drop f).take (k-f)++[x]])++grpG ((G.drop (k+1)).take (k+1-(k+1))) (G.drop (k+1));rw [hgr,Nat.sub_self,List.take_zero];simp
    refine ⟨⟨rfl,rfl⟩,⟨Nat.le_refl _,by simpa using HL.le_app (P:=[]) (hI.nod hI2) t2⟩,?_⟩;show G.length-(k+1)<G.length-k;omega
   ·refine Sp0 ?_;refine Ct ?_;refine Tp0 ?_;exact .inr hF
 ·have ka:k=G.length:=by simp only [Zx2] at h1;omega
  subst ka;refine Ep0 ?_;rw [List.drop_length] at hgr;refine Rp1 [0,1,3,29] hml ?_;by_cases hfe:f<G.length
  ·have e1:decide ((f:Int)<(G.length:Int))=true:=decide_eq_true (by omega);have hne:(G.drop f).take (G.length-f)≠[]:=by
    intro h;have:=congrArg List.length h;simp at this;omega
   have hgr':grpG [] G=pre++[(G.drop f).take (G.length-f)]:=by
    rw [hgr,grpG,if_neg hne]
   have hsl:((G.map Ln.encP).drop f).take (G.length-f)=((G.drop f).take (G.length-f)).map Ln.encP:=by
    rw [List.map_take,List.map_drop]
   have hY:=hy pre ((G.drop f).take (G.length-f)) [] L1 t1 hgr' hInv;rw [← hsl] at hY;rw [hgr'];refine Zac rfl (fun _=>?_) (fun h=>by rw [e1] at h;cases h);refine VW_regionY [] ?_;simp only [vmL,Nat.reduceEqDiff,reduceCtorEq,OpsY,StepY,hml,Int.toNat_natCast];refine ⟨by omega,hY.mono ?_⟩;rintro v h' (⟨rfl,L2,t2,rfl,hI2⟩|⟨rfl,hF⟩)
   ·skip
    exact .inl ⟨L2,t2,rfl,hI2⟩
   ·skip
    exact .inr hF
  ·have e1:decide ((f:Int)<(G.length:Int))=false:=decide_eq_false (by omega);have hnil:(G.drop f).take (G.length-f)=[]:=by
    apply List.eq_nil_of_length_eq_zero
    simp;omega
   refine Zac rfl (fun h=>by rw [e1] at h;cases h) (fun _=>?_);refine Kp0 ?_;refine .inl ⟨L1,t1,rfl,?_⟩;rw [hgr,hnil,grpG,if_pos rfl,List.append_nil];exact hInv
end Go.Proofs.w
namespace Go.VM
open Go
theorem closed_encR {z:Nat} {L:List (List (List PV))} (hc:∀ x∈L,∀ r∈x,Zax r):Closed (.sl 1 (L.map (enW z))):=Zai fun x hx y hy=>by
 simp only [enW,List.mem_cons,List.not_mem_nil,or_false] at hy;subst hy;exact closed_sl fun r hr y hy=>hc x hx r hr y hy
theorem closed_flat {z:Nat} {L:List (List (List PV))} (hc:∀ x∈L,∀ r∈x,Zax r):Closed (.sl z L.flatten):=by
 refine closed_sl fun r hr y hy=>?_;obtain ⟨x,h1,h2⟩:=List.mem_flatten.1 hr;exact hc x h1 r h2 y hy
end Go.VM
namespace Go.Proofs.w
open Go Go.VM
def Zbi : VC := (ZR [ZO 2 (.mv (.c .nilsl))] (ZR [ZO 3 (.mv (.c (.int .i64 0)))] (.seq (ZR [ZM 9 0,ZO 10 (.len false (.t 9)),ZO 11 (.mv (.c (.int .i64 0)))] (.block 0 (.loop (ZR [ZO 12 (.bin .lss (.t 11) (.t 10))] (.seq (.cond (.t 12) .skip (.exit 0)) (.seq (.block 1 (ZR [ZO 13 (.iaddr 1 (.t 9) (.t 11)),ZO 14 (.load false 1 (.t 13)),ZM 5 14] (ZR [ZM 15 3,ZM 16 5,ZO 17 (.len false (.t 16)),ZO 18 (.bin .add (.t 15) (.t 17)),ZM 3 18] (ZR [ZM 19 3,ZO 20 (.bin .lss (.t 19) (.c (.int .i64 0)))] (.cond (.t 20) (.region [ZO 21 (.other ({ dst := some 21,op := Op.makeInterface 9 (Operand.const (Value.string { data := #[108,101,110,32,111,117,116,32,111,102,32,114,97,110,103,101] })),type := 20,pos := "slices.go:496",after := #[],guard := none } : Oper)),ZN (.other ({ dst := none,op := Op.panic (Operand.tmp 21),type := 0,pos := "slices.go:496",after := #[{ on := 0,ground := Ground.data }],guard := none } : Oper))] false) .skip))))) (.region [ZO 22 (.bin .add (.t 11) (.c (.int .i64 1))),ZM 11 22] false))))))) (ZR [ZM 23 3,ZO 24 (.call 80 [(.c .nilsl),.t 23]),ZM 6 24] (.seq (ZR [ZM 25 0,ZO 26 (.len false (.t 25)),ZO 27 (.mv (.c (.int .i64 0)))] (.block 2 (.loop (ZR [ZO 28 (.bin .lss (.t 27) (.t 26))] (.seq (.cond (.t 28) .skip (.exit 2)) (.seq (.block 3 (ZR [ZO 29 (.iaddr 1 (.t 25) (.t 27)),ZO 30 (.load false 1 (.t 29)),ZM 8 30] (.region [ZM 31 6,ZM 32 8,ZO 33 (.app 1 16 [(.str [])] false (.t 31) (.t 32)),ZM 6 33] false))) (.region [ZO 34 (.bin .add (.t 27) (.c (.int .i64 1))),ZM 27 34] false))))))) (ZR [ZM 35 6,ZM 2 35] .ret))))))
theorem grow_string (n:Nat) (hn:n≤1000000) (h:Heap):Zal Tryz.prog 80 [.nilsl,pI n] h (fun p h'=>p=.own h.top 0 0∧h'=h.push (.arr false 1 [])):=by
 obtain ⟨i0,v0,hi,hz,hc,hs,hb⟩:∃ i0 v0,Tryz.prog.info? 9=some i0∧i0.zero=some v0∧v0.cells.size=1∧i0.size=1∧i0.bytes=16:=by
  have h:(Tryz.prog.info? 9).map (fun i=>(i.zero.map fun v=>v.cells.size,i.size,i.bytes))=some (some 1,1,16):=by kernel_rfl
  obtain ⟨i,h1,h2⟩:=Option.map_eq_some_iff.1 h;simp only [Prod.mk.injEq,Option.map_eq_some_iff] at h2;obtain ⟨⟨v0,h3,h4⟩,h5,h6⟩:=h2;exact ⟨i,v0,h1,h3,h4,h5,h6⟩
 exact ACall_growZ Tryz.growS (by kernel_rfl) i0 v0 hi hz (by omega) hs hc n (by rw [hb];omega) (by omega) h
theorem sp_ConcatP_line (L:List (List (List PV))) (hc:∀ x∈L,∀ r∈x,Zax r) (hL:L.length≤1000) (hl:Zbb L≤900000):Zam Tryz.prog 34 [.sl 1 (L.map (enW 6))] (.sl 6 L.flatten):=by
 refine Zad ?_ (closed_flat hc) (by intro y hy;rw [List.mem_singleton] at hy;subst hy;exact closed_encR hc);refine Gn (vc:=c_slices_Concat_line) [.t 2] Tryz.func34 ?_;unfold c_slices_Concat_line;try dsimp only [ZM,ZO,ZN,ZG,ZR,ZU]
 refine Rp0 [0] ?_;refine Rp0 [0,3] ?_;refine Zaa ?_;refine Rp1 [0,3,9,10,11] @xlm ?_;refine Zab ?_;refine Zak (σ:={ k:Nat//k≤L.length }) (fun s=>([(0,.sl 1 (L.map (enW 6))),(3,pI (Zbb (L.take s.1))),(9,.sl 1 (L.map (enW 6))),(10,pI L.length),(11,pI s.1)],⟨[],0⟩)) (fun s=>L.length-s.1) ⟨0,Nat.zero_le _⟩ ?_ ?_ ?_
 ·simp only [vmL,Nat.reduceEqDiff,reduceCtorEq,List.take_zero,Zbb]
  try trivial
 ·exact Sc0
 rintro ⟨k,hk⟩;simp only [];refine Rp0 [0,3,9,10,11,12] ?_;refine Zaa ?_;refine Zac rfl (fun h1=>?_) (fun h1=>?_)
 ·simp only [Zx3] at h1;have ka:k<L.length:=by omega
  have hst:=Zc4 ka;have htk:=Zbm L (k+1);have hrow:(L.map (enW 6)).getD k []=enW 6 L[k]:=rowm ka;refine Kp0 ?_;refine Zaa ?_;refine Zab ?_;refine Zaa (Zae [0,3,5,9,10,11] ?_);simp only [vmL,Nat.reduceEqDiff,reduceCtorEq,List.length_map,hrow,enW];refine Ok ?_;refine Rp1 [0,3,9,10,11] (w64 (n:=(Zbb (L.take k):Int)+(L[k].length:Int)) (by omega) (by omega)) ?_;refine Rp0 [0,3,9,10,11,20] ?_;refine Zac rfl (fun h2=>?_) (fun h2=>?_)
  ·simp only [Zx3] at h2;omega
  refine Kp0 ?_;refine rp1 [0,3,9,10,11] (ad1 (a:=k) (by omega)) ?_;refine ⟨⟨k+1,ka⟩,?_⟩;have e:(Zbb (L.take k):Int)+(L[k].length:Int)=(Zbb (L.take (k+1)):Nat):=by omega
  exact Fn1 e
 simp only [Zx2] at h1;obtain rfl:k=L.length:=by omega
 rw [List.take_length];refine Ep0 ?_;refine Rp0 [0,6] ?_;refine Zal.mono (grow_line (Zbb L) (by omega) _) ?_;rintro p h' ⟨rfl,rfl⟩;refine Sp0 ?_;have hfin:Zbb L≤900000:=hl;refine Zaa ?_;refine Rp1 [6,25,26,27] @xlm ?_;refine Zab ?_;refine Zak (σ:={ s:Nat×Nat×Nat//s.1≤L.length∧s.2.1<s.2.2 }) (fun s=>([(6,.own s.1.2.1 0 (L.take s.1.1).flatten.length),(25,.sl 1 (L.map (enW 6))),(26,pI L.length),(27,pI s.1.1)],⟨[(s.1.2.1,.arr false 6 (L.take s.1.1).flatten)],s.1.2.2⟩)) (fun s=>L.length-s.1.1) ⟨(0,0,1),Nat.zero_le _,by simp⟩ ?_ ?_ ?_
 ·simp only [vmL,Nat.reduceEqDiff,List.take_zero,List.flatten_nil]
  try trivial
 ·simp only [vmL,List.take_zero,List.flatten_nil]
  try trivial
 rintro ⟨⟨k,i2,n⟩,hk,h3⟩;simp only [] at hk h3 ⊢;have qq:=N3 i2 n (n+1);refine Rp1 [6,25,26,27,28] qq ?_;refine Zaa ?_;refine Zac rfl (fun h1=>?_) (fun h1=>?_)
 ·simp only [Zx3] at h1;have ka:k<L.length:=by omega
  have hst:=flatR_step ka;have hrow:(L.map (enW 6)).getD k []=enW 6 L[k]:=rowm ka;have hF:(L.take k).flatten.length≤900000:=by have:=Zbm L k;rw [Zc3];omega
  have hLk:(L.take k).flatten.length+L[k].length≤900000:=by have:=Zbm L (k+1);rw [Zc4 ka] at this;rw [Zc3];omega
  refine Kp0 ?_;refine Zaa ?_;refine Zab ?_;refine Zaa (Zae [6,8,25,26,27] ?_);simp only [vmL,Nat.reduceEqDiff,List.length_map,hrow,enW,qq];refine Ok ?_;generalize (L.take k).flatten=F at hst hF hLk ⊢;generalize L[k]=x at hst hLk ⊢;have e2:F.length+x.length=(L.take (k+1)).flatten.length:=by rw [hst,Zx5]
  have tF:List.take F.length F=F:=List.take_length;refine rp1 [6,25,26,27] (x3 tF hst.symm qq) ?_;refine ⟨by omega,by omega,?_⟩;refine rp1 [6,25,26,27] (x2 (ad1 (a:=k) (by omega)) qq) ?_;refine ⟨⟨(k+1,n,n+1),ka,by simp⟩,?_⟩;simp only [← e2]
  all_goals exact Fn1 qq
 simp only [Zx2] at h1;obtain rfl:k=L.length:=by omega
 rw [List.take_length];refine Ep0 ?_;refine Rp1 [2] qq ?_;refine Tp0 ?_;exact View.own_all (fz:=false) (by simp [Heap.get,HL.get]) rfl
theorem sp_ConcatP_string (L:List (List (List PV))) (hc:∀ x∈L,∀ r∈x,Zax r) (hL:L.length≤1000) (hl:Zbb L≤900000):Zam Tryz.prog 48 [.sl 1 (L.map (enW 1))] (.sl 1 L.flatten):=by
 refine Zad ?_ (closed_flat hc) (by intro y hy;rw [List.mem_singleton] at hy;subst hy;exact closed_encR hc);refine Gn (vc:=Zbi) [.t 2] Tryz.func48 ?_;unfold Zbi;try dsimp only [ZM,ZO,ZN,ZG,ZR,ZU]
 refine Rp0 [0] ?_;refine Rp0 [0,3] ?_;refine Zaa ?_;refine Rp1 [0,3,9,10,11] @xlm ?_;refine Zab ?_;refine Zak (σ:={ k:Nat//k≤L.length }) (fun s=>([(0,.sl 1 (L.map (enW 1))),(3,pI (Zbb (L.take s.1))),(9,.sl 1 (L.map (enW 1))),(10,pI L.length),(11,pI s.1)],⟨[],0⟩)) (fun s=>L.length-s.1) ⟨0,Nat.zero_le _⟩ ?_ ?_ ?_
 ·simp only [vmL,Nat.reduceEqDiff,reduceCtorEq,List.take_zero,Zbb]
  try trivial
 ·exact Sc0
 rintro ⟨k,hk⟩;simp only [];refine Rp0 [0,3,9,10,11,12] ?_;refine Zaa ?_;refine Zac rfl (fun h1=>?_) (fun h1=>?_)
 ·simp only [Zx3] at h1;have ka:k<L.length:=by omega
  have hst:=Zc4 ka;have htk:=Zbm L (k+1);have hrow:(L.map (enW 1)).getD k []=enW 1 L[k]:=rowm ka;refine Kp0 ?_;refine Zaa ?_;refine Zab ?_;refine Zaa (Zae [0,3,5,9,10,11] ?_);simp only [vmL,Nat.reduceEqDiff,reduceCtorEq,List.length_map,hrow,enW];refine Ok ?_;refine Rp1 [0,3,9,10,11] (w64 (n:=(Zbb (L.take k):Int)+(L[k].length:Int)) (by omega) (by omega)) ?_;refine Rp0 [0,3,9,10,11,20] ?_;refine Zac rfl (fun h2=>?_) (fun h2=>?_)
  ·simp only [Zx3] at h2;omega
  refine Kp0 ?_;refine rp1 [0,3,9,10,11] (ad1 (a:=k) (by omega)) ?_;refine ⟨⟨k+1,ka⟩,?_⟩;have e:(Zbb (L.take k):Int)+(L[k].length:Int)=(Zbb (L.take (k+1)):Nat):=by omega
  exact Fn1 e
 simp only [Zx2] at h1;obtain rfl:k=L.length:=by omega
 rw [List.take_length];refine Ep0 ?_;refine Rp0 [0,6] ?_;refine Zal.mono (grow_string (Zbb L) (by omega) _) ?_;rintro p h' ⟨rfl,rfl⟩;refine Sp0 ?_;have hfin:Zbb L≤900000:=hl;refine Zaa ?_;refine Rp1 [6,25,26,27] @xlm ?_;refine Zab ?_;refine Zak (σ:={ s:Nat×Nat×Nat//s.1≤L.length∧s.2.1<s.2.2 }) (fun s=>([(6,.own s.1.2.1 0 (L.take s.1.1).flatten.length),(25,.sl 1 (L.map (enW 1))),(26,pI L.length),(27,pI s.1.1)],⟨[(s.1.2.1,.arr false 1 (L.take s.1.1).flatten)],s.1.2.2⟩)) (fun s=>L.length-s.1.1) ⟨(0,0,1),Nat.zero_le _,by simp⟩ ?_ ?_ ?_
 ·simp only [vmL,Nat.reduceEqDiff,List.take_zero,List.flatten_nil]
  try trivial
 ·simp only [vmL,List.take_zero,List.flatten_nil]
  try trivial
 rintro ⟨⟨k,i2,n⟩,hk,h3⟩;simp only [] at hk h3 ⊢;have qq:=N3 i2 n (n+1);refine Rp1 [6,25,26,27,28] qq ?_;refine Zaa ?_;refine Zac rfl (fun h1=>?_) (fun h1=>?_)
 ·simp only [Zx3] at h1;have ka:k<L.length:=by omega
  have hst:=flatR_step ka;have hrow:(L.map (enW 1)).getD k []=enW 1 L[k]:=rowm ka;have hF:(L.take k).flatten.length≤900000:=by have:=Zbm L k;rw [Zc3];omega
  have hLk:(L.take k).flatten.length+L[k].length≤900000:=by have:=Zbm L (k+1);rw [Zc4 ka] at this;rw [Zc3];omega
  refine Kp0 ?_;refine Zaa ?_;refine Zab ?_;refine Zaa (Zae [6,8,25,26,27] ?_);simp only [vmL,Nat.reduceEqDiff,List.length_map,hrow,enW,qq];refine Ok ?_;generalize (L.take k).flatten=F at hst hF hLk ⊢;generalize L[k]=x at hst hLk ⊢;have e2:F.length+x.length=(L.take (k+1)).flatten.length:=by rw [hst,Zx5]
  have tF:List.take F.length F=F:=List.take_length;refine rp1 [6,25,26,27] (x3 tF hst.symm qq) ?_;refine ⟨by omega,by omega,?_⟩;refine rp1 [6,25,26,27] (x2 (ad1 (a:=k) (by omega)) qq) ?_;refine ⟨⟨(k+1,n,n+1),ka,by simp⟩,?_⟩;simp only [← e2]
  all_goals exact Fn1 qq
 simp only [Zx2] at h1;obtain rfl:k=L.length:=by omega
 rw [List.take_length];refine Ep0 ?_;refine Rp1 [2] qq ?_;refine Tp0 ?_;exact View.own_all (fz:=false) (by simp [Heap.get,HL.get]) rfl
def c_paginate_Paginate_asg:VC:=(.region [ZM 11 28] false)
def Zc7:VC:=(.block 1 (.seq (.seq (.region [ZM 29 11,ZO 30 (.call 33 [.t 29]),ZO 31 (.load false 1 (.t 5)),ZO 32 (.bin .gtr (.t 30) (.t 31))] true) (.cond (.t 32) (ZR [ZN (.store 1 (.t 6) (.c .nilsl)),ZN (.store 1 (.t 7) (.c (.int .i64 6)))] .ret) .skip)) (.seq (.seq (.region [ZO 33 (.load false 1 (.t 10)),ZO 34 (.len false (.t 33)),ZO 35 (.bin .gtr (.t 34) (.c (.int .i64 0))),ZM 36 35,ZG 37 (.load false 1 (.t 10)) 36 true,ZG 38 (.mv (.t 11)) 36 true,ZG 39 (.bslice 1 2 [.nilsl] [(0,(.t 37)),(1,(.t 38))]) 36 true,ZG 40 (.call 34 [.t 39]) 36 true,ZG 41 (.call 33 [.t 40]) 36 true,ZG 42 (.load false 1 (.t 5)) 36 true,ZG 43 (.bin .gtr (.t 41) (.t 42)) 36 true,ZO 44 (.pick (.t 36) (.t 43) (.c (.bool false)))] true) (.cond (.t 44) (.seq (.draw2 [ZO 45 (.load false 1 (.t 9)),ZO 46 (.load true 8 (.t 3)),ZO 47 (.load false 1 (.t 9)),ZO 48 (.len false (.t 47)),ZO 49 (.bin .add (.t 48) (.c (.int .i64 1))),ZO 50 (.load false 1 (.t 10)),ZO 51 (.call 35 [.t 46,.t 49,.t 50]),ZO 52 (.bslice 4 1 [.int .i64 0,(.str []),.nilsl,.nilsl] [(0,(.t 51))]),ZO 53 (.app 4 72 [.int .i64 0,(.str []),.nilsl,.nilsl] false (.t 45) (.t 52)),ZN (.store 1 (.t 9) (.t 53))] [true,true,true,true,true,true,true,true,false,false]) (.region [ZN (.store 1 (.t 10) (.c .nilsl))] false)) .skip)) (.region [ZO 54 (.load false 1 (.t 10)),ZM 55 11,ZO 56 (.bslice 1 2 [.nilsl] [(0,(.t 54)),(1,(.t 55))]),ZO 57 (.call 34 [.t 56]),ZN (.store 1 (.t 10) (.t 57))] false))))
def pgsF (u:Un):Nat→List (List Ln)→List Pg
 | _,[]=>[]
 | n,l::r=>pageP u ((n+1:Nat):Int) l::pgsF u (n+1) r
theorem pgsF_app (u:Un):∀ (A B:List (List Ln)) (n:Nat),pgsF u n (A++B)=pgsF u n A++pgsF u (n+A.length) B
 | [],B,n=>by simp [pgsF]
 | a::A,B,n=>by
  simp only [List.cons_append,pgsF,List.length_cons];rw [pgsF_app u A B (n+1),show n+1+A.length=n+(A.length+1) by omega]
theorem pgsF_len (u:Un):∀ (A:List (List Ln)) (n:Nat),(pgsF u n A).length=A.length
 | [],n=>rfl
 | a::A,n=>by simp only [pgsF,List.length_cons];rw [pgsF_len u A]
def nowV (N:List Ln):PV:=if N=[] then .nilsl else .sl 6 (N.map Ln.encP)
def outV (Dn:List (List Ln)) (id:Nat):PV:=if Dn=[] then .nilsl else .own id 0 Dn.length
def outB (u:Un) (Dn:List (List Ln)) (id:Nat):List (Nat×AB):=if Dn=[] then [] else [(id,.arr false 4 ((pgsF u 0 Dn).map Pg.enc))]
def stB (RB:AB) (D:Nat) (u:Un) (Dn:List (List Ln)) (N:List Ln) (id:Nat):List (Nat×AB) :=
 outB u Dn id++[(8,RB),(7,.dfr D true),(5,.arr false 1 [[nowV N]]),(4,.arr false 1 [[outV Dn id]]),(3,.arr false 1 [[pI 0]]),(2,.arr false 1 [[.nilsl]])]
theorem stB_get {RB:AB} {D:Nat} {u:Un} {Dn:List (List Ln)} {N:List Ln} {id:Nat} (hid:8<id):∀ k,k≤8→HL.get (stB RB D u Dn N id) k=HL.get [(8,RB),(7,.dfr D true),(5,.arr false 1 [[nowV N]]),(4,.arr false 1 [[outV Dn id]]),(3,.arr false 1 [[pI 0]]),(2,.arr false 1 [[.nilsl]])] k:=by
 intro k hk;unfold stB outB;split
 ·rfl
 ·rw [List.cons_append,List.nil_append,HL.get,if_neg (by omega)]
theorem stB_le5 {RB:AB} {D:Nat} {u:Un} {Dn:List (List Ln)} {N:List Ln} {id t T:Nat} (hid:8<id) (hT:t≤T):Heap.le ⟨[(5,.arr false 1 [[nowV N]])],T⟩ ⟨stB RB D u Dn N id,t⟩ :=
 ⟨hT,(stB_get hid 5 (by omega)).trans rfl,trivial⟩
theorem stB_leF {RB:AB} {D:Nat} {u:Un} {Dn:List (List Ln)} {N:List Ln} {id t:Nat} (hid:8<id):Heap.le ⟨[(8,RB),(7,.dfr D true),(3,.arr false 1 [[pI 0]]),(2,.arr false 1 [[.nilsl]])],t⟩ ⟨stB RB D u Dn N id,t⟩ :=
 ⟨Nat.le_refl _,(stB_get hid 8 (by omega)).trans rfl,(stB_get hid 7 (by omega)).trans rfl,(stB_get hid 3 (by omega)).trans rfl,(stB_get hid 2 (by omega)).trans rfl,trivial⟩
theorem stB_nod {RB:AB} {D:Nat} {u:Un} {Dn:List (List Ln)} {N:List Ln} {id:Nat} (hid:8<id):Nod (stB RB D u Dn N id):=by
 unfold stB outB;split
 ·simp [Nod]
 ·simp [Nod];omega
theorem stB_refl {RB:AB} {D:Nat} {u:Un} {Dn:List (List Ln)} {N:List Ln} {id t:Nat} (hid:8<id):Heap.le ⟨stB RB D u Dn N id,t⟩ ⟨stB RB D u Dn N id,t⟩ :=
 ⟨Nat.le_refl _,by simpa using HL.le_app (P:=[]) (stB_nod hid) t⟩
theorem stB_app {RB:AB} {D:Nat} {u:Un} {Dn:List (List Ln)} {N:List Ln} {id:Nat}:stB RB D u (Dn++[N]) [] id=[(id,.arr false 4 ((pgsF u 0 (Dn++[N])).map Pg.enc)),(8,RB),(7,.dfr D true),(5,.arr false 1 [[.nilsl]]),(4,.arr false 1 [[.own id 0 (Dn.length+1)]]),(3,.arr false 1 [[pI 0]]),(2,.arr false 1 [[.nilsl]])]:=by
 have h0:Dn++[N]≠[]:=by simp
 unfold stB outB outV nowV;rw [if_neg h0,if_neg h0,if_pos rfl,Zx5];rfl
def bodyEnv (u:Un) (m:Int) (g:List Ln):Env:=[(3,.ro u.enc),(5,.ro [pI m]),(6,.loc 2 0 0),(7,.loc 3 0 0),(9,.loc 4 0 0),(10,.loc 5 0 0),(11,.sl 6 (g.map Ln.encP))]
def endQ (RB:AB) (D:Nat) (u:Un) (m:Int) (Dn:List (List Ln)) (N g:List Ln) (x:Exit) (_:Env) (h':Heap):Prop :=
 (x=.normal∧∃ Dn' N' id' t',addG m (some (Dn,N)) g=some (Dn',N')∧8<id'∧id'<t'∧Heap.le ⟨stB RB D u Dn' N' id',t'⟩ h') ∨
 (x=.ret∧addG m (some (Dn,N)) g=none∧Heap.le ⟨[(8,RB),(7,.dfr D true),(3,.arr false 1 [[pI 6]]),(2,.arr false 1 [[.nilsl]])],h'.top⟩ h')
theorem pag_body {u : Un} (hu : SmT u) (hn : (unitsT u).length ≤ 1000) (m : Int) (h2 : 2 ≤ m) (h200 : m ≤ 200) (l D : Nat) (RB : AB) (hRB : ∀ fz z, RB ≠ .arr fz z []) (Dn : List (List Ln)) (N g : List Ln) (id t : Nat) (hid : 8 < id) (hit : id < t) (hg0 : g ≠ []) (hgl : g.length ≤ 1000000) (hgn : Za0 g ≤ 900000000) (hNm : N ≠ [] → (Zda N : Int) ≤ m) (hD : Dn.length ≤ 1000000) :
  VW Tryz.prog ⟨Tryz.f11.ntmps,some l,[],fun _ _=>False⟩ Zc7 (endQ RB D u m Dn N g) (bodyEnv u m g) ⟨stB RB D u Dn N id,t⟩:=by
 have HG:=sp_high g hgl hgn;have PP:=fun (h0:N≠[]) (h1:N.length≤1000000) (h2:Za0 N≤1000000)=>sp_page hu hn ((Dn.length+1:Nat):Int) N h0 h1 h2;unfold Zc7 bodyEnv;rw [Un.Zaf u] at PP ⊢;generalize u.head.map Wd.enc=EH at *;generalize u.words.map Wd.enc=EW at *;generalize u.kids.map Un.enc=EK at *;refine Zab ?_;refine Zaa ?_;refine Zaa (VW_drawE (t+10) [3,5,6,7,9,10,11,32] (by simp) ?_);refine Sp0 ?_;refine ⟨_,.inl HG,?_⟩;refine Sp0 ?_;by_cases c1:m<(Zda g:Int)
 ·have e1:decide ((Zda g:Int)>m)=true:=decide_eq_true c1;refine Zac rfl (fun _=>?_) (fun h=>by rw [e1] at h;cases h);refine VW.weakenH (stB_leF hid) ?_;refine Rp0 [6,7] ?_;refine Tp0 ?_;exact .inr ⟨rfl,addG_hi c1,by simp [Heap.le,Heap.get,HL.le,HL.get]⟩
 have e1:decide ((Zda g:Int)>m)=false:=decide_eq_false c1;have hgm:Zda g≤200:=by omega
 have hg1:=high_len g;have hg2:=high_notes g;refine Zac rfl (fun h=>by rw [e1] at h;cases h) (fun _=>?_);refine Kp0 ?_;refine Zaa (Zc1 (σ:={ x:List (List Ln)×List Ln×Nat×Nat//addG m (some (Dn,N)) g=some (x.1,x.2.1++g)∧8<x.2.2.1∧x.2.2.1<x.2.2.2∧x.2.1.length≤200 })
  (fun x=>([(10,.loc 5 0 0),(11,.sl 6 (g.map Ln.encP))],⟨stB RB D u x.1.1 x.1.2.1 x.1.2.2.1,x.1.2.2.2⟩)) ?_ ?_)
 ·by_cases hN:N=[]
  ·have hnv:nowV N=.nilsl:=by unfold nowV;rw [if_pos hN]
   refine Zaa (VW_draw [3,9,10,11,44] ⟨[(5,.arr false 1 [[nowV N]])],t+10⟩ (stB_le5 hid (by omega)) ?_);have e00:decide (((0:Nat):Int)>0)=false:=rfl;refine Sp1 (x2 hnv e00) ?_;refine Fp0 ?_;exact ⟨⟨(Dn,N,id,t),addG_on c1 (.inl hN),hid,hit,by rw [hN];simp⟩,Nat.le_refl _,(stB_refl (t:=t) hid).2⟩
  ·have hnv:nowV N=.sl 6 (N.map Ln.encP):=by unfold nowV;rw [if_neg hN]
   have hNm':=hNm hN;have hN1:=high_len N;have hN2:=high_notes N;have hNl:0<N.length:=List.length_pos_iff.2 hN;have hlN:(N.map Ln.encP).length=N.length:=List.length_map _;have e0:decide (((N.map Ln.encP).length:Int)>0)=true:=decide_eq_true (by omega);have CC:=sp_ConcatP_line [N.map Ln.encP,g.map Ln.encP] (by
    intro x hx r hr;simp only [List.mem_cons,List.not_mem_nil,or_false] at hx;rcases hx with rfl|rfl<;>(obtain ⟨y,_,rfl⟩:=List.mem_map.1 hr;exact closed_lnP y)) (by simp) (by simp [Zbb];omega)
   have HG2:=sp_high (N++g) (by rw [Zx5];omega) (by rw [Zb4];omega);have hfl:[N.map Ln.encP,g.map Ln.encP].flatten=(N++g).map Ln.encP:=by simp
   rw [hfl] at CC;refine Zaa (VW_draw [3,9,10,11,44] ⟨[(5,.arr false 1 [[nowV N]])],t+10⟩ (stB_le5 hid (by omega)) ?_);simp only [List.map_cons,List.map_nil,enW] at CC;refine Sp1 (x2 hnv e0) ?_;refine ⟨_,.inl CC,_,.inl HG2,?_⟩;refine Sp0 ?_;by_cases c2:m<(Zda (N++g):Int)
   ·have e2:decide ((Zda (N++g):Int)>m)=true:=decide_eq_true c2;refine Zac rfl (fun _=>?_) (fun h=>by rw [e2] at h;cases h);have P:=PP hN (by omega) (by omega);by_cases hDn:Dn=[]
    ·have e3:outV Dn id=.nilsl:=by unfold outV;rw [if_pos hDn]
     have e4:outB u Dn id=[]:=by unfold outB;rw [if_pos hDn]
     have e5:stB RB D u Dn N id=[(8,RB),(7,.dfr D true),(5,.arr false 1 [[.sl 6 (N.map Ln.encP)]]),(4,.arr false 1 [[.nilsl]]),(3,.arr false 1 [[pI 0]]),(2,.arr false 1 [[.nilsl]])]:=by unfold stB;rw [e4,e3,hnv];rfl
     rw [e5];have hd0:Dn.length=0:=by rw [hDn];rfl
     rw [hd0] at P;have hpe:pgsF u 0 (Dn++[N])=[pageP u ((0+1:Nat):Int) N]:=by rw [hDn];rfl
     generalize pageP u ((0+1:Nat):Int) N=pg at P hpe;have hpg:pg.enc=[pI pg.number,.str pg.head,.sl 1 (pg.lines.map fun s=>[PV.str s]),.sl 1 (pg.notes.map fun s=>[PV.str s])]:=rfl;rw [hpg] at P;have qq:=N7 2 3 4 5 7 8 t;refine Zaa (VW_draw2A (t+10) [10,11] ?_ ?_)
     ·exact Fn1 qq
     simp only [vmL,Nat.reduceEqDiff,Nat.reduceAdd,Nat.reduceLT,Nat.reduceLeDiff,Nat.reduceMul,DrawA,VOp.writes,false_implies,implies_true,qq,ad1 (a:=0) (by omega)];refine ⟨_,.inl P,?_⟩;try simp only [vmL,Nat.reduceAdd,DrawA,VOp.writes,false_implies,implies_true,qq]
     refine ⟨by omega,by omega,?_⟩;refine rp1 [10,11] qq ?_;refine ⟨⟨(Dn++[N],[],t,t+1),by rw [List.nil_append];exact addG_new c1 hN c2,by show 8<t;omega,Nat.lt_succ_self _,Nat.zero_le _⟩,Nat.le_refl _,?_⟩;show HL.le (stB RB D u (Dn++[N]) [] t) _;rw [stB_app,hpe,hd0];simp only [vmL,HL.le,Heap.get,HL.get,qq,List.map_cons,List.map_nil,hpg]
     try trivial
    ·have e3:outV Dn id=.own id 0 Dn.length:=by unfold outV;rw [if_neg hDn]
     have e4:outB u Dn id=[(id,.arr false 4 ((pgsF u 0 Dn).map Pg.enc))]:=by unfold outB;rw [if_neg hDn]
     have e5:stB RB D u Dn N id=[(id,.arr false 4 ((pgsF u 0 Dn).map Pg.enc)),(8,RB),(7,.dfr D true),(5,.arr false 1 [[.sl 6 (N.map Ln.encP)]]),(4,.arr false 1 [[.own id 0 Dn.length]]),(3,.arr false 1 [[pI 0]]),(2,.arr false 1 [[.nilsl]])]:=by unfold stB;rw [e4,e3,hnv];rfl
     rw [e5];have hpe:(pgsF u 0 (Dn++[N])).map Pg.enc=(pgsF u 0 Dn).map Pg.enc++[(pageP u ((Dn.length+1:Nat):Int) N).enc]:=by rw [pgsF_app,List.map_append,Nat.zero_add];rfl
     have hrl:((pgsF u 0 Dn).map Pg.enc).length=Dn.length:=by rw [List.length_map,pgsF_len]
     generalize pageP u ((Dn.length+1:Nat):Int) N=pg at P hpe;have hpg:pg.enc=[pI pg.number,.str pg.head,.sl 1 (pg.lines.map fun s=>[PV.str s]),.sl 1 (pg.notes.map fun s=>[PV.str s])]:=rfl;rw [hpg] at P hpe;generalize (pgsF u 0 Dn).map Pg.enc=R at hpe hrl ⊢;have hRt:R.take Dn.length=R:=List.take_of_length_le (by omega);have qq:=N8 2 3 4 5 7 8 id t;refine Zaa (VW_draw2A (t+10) [10,11] ?_ ?_)
     ·exact Fn1 qq
     simp only [vmL,Nat.reduceEqDiff,Nat.reduceAdd,Nat.reduceLT,Nat.reduceLeDiff,reduceCtorEq,DrawA,VOp.writes,false_implies,implies_true,qq,ad1 (a:=Dn.length) (by omega)];refine ⟨_,.inl P,?_⟩;try simp only [vmL,Nat.reduceAdd,DrawA,VOp.writes,false_implies,implies_true,hrl,hRt,qq]
     refine ⟨by omega,by omega,by omega,by omega,?_⟩;refine rp1 [10,11] qq ?_;refine ⟨⟨(Dn++[N],[],t,t+1),by rw [List.nil_append];exact addG_new c1 hN c2,by show 8<t;omega,Nat.lt_succ_self _,Nat.zero_le _⟩,Nat.le_refl _,?_⟩;show HL.le (stB RB D u (Dn++[N]) [] t) _;rw [stB_app,hpe];simp only [vmL,HL.le,Heap.get,HL.get,qq]
     try trivial
   ·have e2:decide ((Zda (N++g):Int)>m)=false:=decide_eq_false c2;refine Zac rfl (fun h=>by rw [e2] at h;cases h) (fun _=>?_);refine Kp0 ?_;exact ⟨⟨(Dn,N,id,t),addG_on c1 (.inr c2),hid,hit,by show N.length≤200;omega⟩,Nat.le_refl _,(stB_refl (t:=t) hid).2⟩
 ·rintro ⟨⟨Da,Na,ia,ta⟩,hadd,hia,hta,hNa⟩;simp only [] at hadd hia hta hNa ⊢;clear PP hNm hD hit hid;have CC:=sp_ConcatP_line [Na.map Ln.encP,g.map Ln.encP] (by
   intro x hx r hr;simp only [List.mem_cons,List.not_mem_nil,or_false] at hx;rcases hx with rfl|rfl<;>(obtain ⟨y,_,rfl⟩:=List.mem_map.1 hr;exact closed_lnP y)) (by simp) (by simp [Zbb];omega)
  have hfl:[Na.map Ln.encP,g.map Ln.encP].flatten=(Na++g).map Ln.encP:=by simp
  rw [hfl] at CC;simp only [List.map_cons,List.map_nil,enW] at CC;have hng:Na++g≠[]:=by simp [hg0]
  have hn2:nowV (Na++g)=.sl 6 ((Na++g).map Ln.encP):=by unfold nowV;rw [if_neg hng]
  have hvw:∀ (h:Heap),h.get ta=some (.arr false 1 [[nowV Na],[.sl 6 (g.map Ln.encP)]])→View h (.own ta 0 2) (.sl 1 [[.sl 6 (Na.map Ln.encP)],[.sl 6 (g.map Ln.encP)]]):=by
   intro h hg;refine View.ownV (z:=1) (fz:=false) (es:=[[nowV Na],[.sl 6 (g.map Ln.encP)]]) hg (by simp) rfl (fun i hi=>?_) (fun i j hi hj=>?_)
   ·have:i=0∨i=1:=by omega
    rcases this with rfl|rfl<;>rfl
   ·obtain rfl:j=0:=by omega
    have:i=0∨i=1:=by omega
    rcases this with rfl|rfl
    ·show View h (nowV Na) (.sl 6 (Na.map Ln.encP));unfold nowV;split
     ·rename_i e;rw [e];exact View.nil _ _
     ·exact View.refl _ _
    ·exact View.refl _ _
  have qq:=N8 2 3 4 5 7 8 ia ta;have hV:nowV Na=.nilsl∨nowV Na=.sl 6 (Na.map Ln.encP):=by
   unfold nowV;split
   ·exact .inl rfl
   ·exact .inr rfl
  by_cases hDa:Da=[]
  ·have e4:outB u Da ia=[]:=by unfold outB;rw [if_pos hDa]
   have e5:∀ M,stB RB D u Da M ia=[(8,RB),(7,.dfr D true),(5,.arr false 1 [[nowV M]]),(4,.arr false 1 [[outV Da ia]]),(3,.arr false 1 [[pI 0]]),(2,.arr false 1 [[.nilsl]])]:=fun M=>by unfold stB;rw [e4];rfl
   have HT:∀ M,HL.le (stB RB D u Da M ia) (Heap.get ⟨[(8,RB),(7,.dfr D true),(5,.arr false 1 [[nowV M]]),(4,.arr false 1 [[outV Da ia]]),(3,.arr false 1 [[pI 0]]),(2,.arr false 1 [[.nilsl]])],ta+1⟩):=fun M=>by
    rw [e5];exact (e5 M▸stB_refl (t:=ta+1) hia).2
   rw [e5];rcases hV with hV|hV
   ·rw [hV] at hvw ⊢;refine rp1 [] qq ?_;refine Zal.frameL (l1:=[(ta,.arr false 1 [[.nilsl],[.sl 6 (g.map Ln.encP)]])]) (l2:=[(8,RB),(7,.dfr D true),(5,.arr false 1 [[.nilsl]]),(4,.arr false 1 [[outV Da ia]]),(3,.arr false 1 [[pI 0]]),(2,.arr false 1 [[.nilsl]])]) (by simp;omega) (by simp [hRB]) (ACall_f [.sl 1 [[.sl 6 (Na.map Ln.encP)],[.sl 6 (g.map Ln.encP)]]] ⟨hvw _ (by simp [Heap.get,HL.get]),trivial⟩ (Zaq CC ?_));refine ⟨Nat.le_refl _,(fun _ _ q hq=>by cases hq),(fun q hq=>by cases hq),?_⟩;refine Sp1 qq ?_;refine .inl ⟨rfl,Da,Na++g,ia,ta+1,hadd,hia,by omega,Nat.le_refl _,?_⟩;have:=HT (Na++g);rw [hn2] at this;exact this
   ·rw [hV] at hvw ⊢;refine rp1 [] qq ?_;refine Zal.frameL (l1:=[(ta,.arr false 1 [[.sl 6 (Na.map Ln.encP)],[.sl 6 (g.map Ln.encP)]])]) (l2:=[(8,RB),(7,.dfr D true),(5,.arr false 1 [[.sl 6 (Na.map Ln.encP)]]),(4,.arr false 1 [[outV Da ia]]),(3,.arr false 1 [[pI 0]]),(2,.arr false 1 [[.nilsl]])]) (by simp;omega) (by simp [hRB]) (ACall_f [.sl 1 [[.sl 6 (Na.map Ln.encP)],[.sl 6 (g.map Ln.encP)]]] ⟨hvw _ (by simp [Heap.get,HL.get]),trivial⟩ (Zaq CC ?_));refine ⟨Nat.le_refl _,(fun _ _ q hq=>by cases hq),(fun q hq=>by cases hq),?_⟩;refine Sp1 qq ?_;refine .inl ⟨rfl,Da,Na++g,ia,ta+1,hadd,hia,by omega,Nat.le_refl _,?_⟩;have:=HT (Na++g);rw [hn2] at this;exact this
  ·have e4:outB u Da ia=[(ia,.arr false 4 ((pgsF u 0 Da).map Pg.enc))]:=by unfold outB;rw [if_neg hDa]
   have e5:∀ M,stB RB D u Da M ia=[(ia,.arr false 4 ((pgsF u 0 Da).map Pg.enc)),(8,RB),(7,.dfr D true),(5,.arr false 1 [[nowV M]]),(4,.arr false 1 [[outV Da ia]]),(3,.arr false 1 [[pI 0]]),(2,.arr false 1 [[.nilsl]])]:=fun M=>by unfold stB;rw [e4];rfl
   have hRn:(pgsF u 0 Da).map Pg.enc≠[]:=by
    intro h;have:=congrArg List.length h;rw [List.length_map,pgsF_len] at this;exact hDa (List.eq_nil_of_length_eq_zero this)
   generalize (pgsF u 0 Da).map Pg.enc=R at e5 hRn;have HT:∀ M,HL.le (stB RB D u Da M ia) (Heap.get ⟨[(ia,.arr false 4 R),(8,RB),(7,.dfr D true),(5,.arr false 1 [[nowV M]]),(4,.arr false 1 [[outV Da ia]]),(3,.arr false 1 [[pI 0]]),(2,.arr false 1 [[.nilsl]])],ta+1⟩):=fun M=>by
    rw [e5];exact (e5 M▸stB_refl (t:=ta+1) hia).2
   rw [e5];rcases hV with hV|hV
   ·rw [hV] at hvw ⊢;refine rp1 [] qq ?_;refine Zal.frameL (l1:=[(ta,.arr false 1 [[.nilsl],[.sl 6 (g.map Ln.encP)]])]) (l2:=[(ia,.arr false 4 R),(8,RB),(7,.dfr D true),(5,.arr false 1 [[.nilsl]]),(4,.arr false 1 [[outV Da ia]]),(3,.arr false 1 [[pI 0]]),(2,.arr false 1 [[.nilsl]])]) (by simp;omega) (by simp [hRB,hRn]) (ACall_f [.sl 1 [[.sl 6 (Na.map Ln.encP)],[.sl 6 (g.map Ln.encP)]]] ⟨hvw _ (by simp [Heap.get,HL.get]),trivial⟩ (Zaq CC ?_));refine ⟨Nat.le_refl _,(fun _ _ q hq=>by cases hq),(fun q hq=>by cases hq),?_⟩;refine Sp1 qq ?_;refine .inl ⟨rfl,Da,Na++g,ia,ta+1,hadd,hia,by omega,Nat.le_refl _,?_⟩;have:=HT (Na++g);rw [hn2] at this;exact this
   ·rw [hV] at hvw ⊢;refine rp1 [] qq ?_;refine Zal.frameL (l1:=[(ta,.arr false 1 [[.sl 6 (Na.map Ln.encP)],[.sl 6 (g.map Ln.encP)]])]) (l2:=[(ia,.arr false 4 R),(8,RB),(7,.dfr D true),(5,.arr false 1 [[.sl 6 (Na.map Ln.encP)]]),(4,.arr false 1 [[outV Da ia]]),(3,.arr false 1 [[pI 0]]),(2,.arr false 1 [[.nilsl]])]) (by simp;omega) (by simp [hRB,hRn]) (ACall_f [.sl 1 [[.sl 6 (Na.map Ln.encP)],[.sl 6 (g.map Ln.encP)]]] ⟨hvw _ (by simp [Heap.get,HL.get]),trivial⟩ (Zaq CC ?_));refine ⟨Nat.le_refl _,(fun _ _ q hq=>by cases hq),(fun q hq=>by cases hq),?_⟩;refine Sp1 qq ?_;refine .inl ⟨rfl,Da,Na++g,ia,ta+1,hadd,hia,by omega,Nat.le_refl _,?_⟩;have:=HT (Na++g);rw [hn2] at this;exact this
noncomputable def c_paginate_Paginate:VC:=(ZR [ZO 3 (.box 8 (.t 0)),ZO 5 (.box 1 (.t 2)),ZO 6 (.alloc [.nilsl]),ZO 7 (.alloc [.int .i64 0])] (.seq (ZR [ZO 12 (.load true 8 (.t 3)),ZM 13 1,ZO 14 (.call 30 [.t 12,.t 13]),ZM 8 14] (ZR [ZM 15 8,ZO 16 (.bin .neq (.t 15) (.c (.int .i64 0)))] (.cond (.t 16) (ZR [ZM 17 8,ZN (.store 1 (.t 6) (.c .nilsl)),ZN (.store 1 (.t 7) (.t 17))] .ret) .skip))) (.seq (ZR [ZO 18 (.load false 1 (.t 5)),ZO 19 (.bin .lss (.t 18) (.c (.int .i64 2))),ZM 20 19,ZG 21 (.load false 1 (.t 5)) 20 false,ZG 22 (.bin .gtr (.t 21) (.c (.int .i64 200))) 20 false,ZO 23 (.pick (.t 20) (.c (.bool true)) (.t 22))] (.cond (.t 23) (ZR [ZN (.store 1 (.t 6) (.c .nilsl)),ZN (.store 1 (.t 7) (.c (.int .i64 3)))] .ret) .skip)) (ZR [ZO 9 (.alloc [.nilsl])] (ZR [ZO 10 (.alloc [.nilsl])] (.seq (ZR [ZO 24 (.load true 8 (.t 3)),ZM 25 1,ZO 26 (.call 32 [.t 24,.t 25,(.c (.bool true))]),ZO 27 (.call 31 [.t 26])] (.block 0 (.other (rfIn Tryz.f11)))) (.seq (ZR [ZO 58 (.load false 1 (.t 10)),ZO 59 (.len false (.t 58)),ZO 60 (.bin .gtr (.t 59) (.c (.int .i64 0)))] (.cond (.t 60) (.draw2 [ZO 61 (.load false 1 (.t 9)),ZO 62 (.load true 8 (.t 3)),ZO 63 (.load false 1 (.t 9)),ZO 64 (.len false (.t 63)),ZO 65 (.bin .add (.t 64) (.c (.int .i64 1))),ZO 66 (.load false 1 (.t 10)),ZO 67 (.call 35 [.t 62,.t 65,.t 66]),ZO 68 (.bslice 4 1 [.int .i64 0,(.str []),.nilsl,.nilsl] [(0,(.t 67))]),ZO 69 (.app 4 72 [.int .i64 0,(.str []),.nilsl,.nilsl] false (.t 61) (.t 68)),ZN (.store 1 (.t 9) (.t 69))] [true,true,true,true,true,true,true,true,false,false]) .skip)) (ZR [ZO 70 (.load false 1 (.t 9)),ZN (.store 1 (.t 6) (.t 70)),ZN (.store 1 (.t 7) (.c (.int .i64 0)))] .ret))))))))
theorem le_set8 {RA RB:AB} {D:Nat} {u:Un} {Dn:List (List Ln)} {N:List Ln} {id t:Nat} {h:Heap} (hid:8<id) (H:Heap.le ⟨stB RA D u Dn N id,t⟩ h):Heap.le ⟨stB RB D u Dn N id,t⟩ (h.set 8 RB):=by
 refine ⟨H.1,?_⟩;have h2:=H.2;unfold stB outB at h2 ⊢;by_cases h0:Dn=[]
 ·rw [if_pos h0] at h2 ⊢;simp only [List.nil_append,HL.le,Heap.get_set] at h2 ⊢;obtain ⟨a,b,c,d,e,f,_⟩:=h2;exact ⟨by rw [if_pos trivial,a];rfl,by rw [if_neg (by omega)];exact b,by rw [if_neg (by omega)];exact c,by rw [if_neg (by omega)];exact d,by rw [if_neg (by omega)];exact e,by rw [if_neg (by omega)];exact f,trivial⟩
 ·rw [if_neg h0] at h2 ⊢;simp only [List.cons_append,List.nil_append,HL.le,Heap.get_set] at h2 ⊢;obtain ⟨z,a,b,c,d,e,f,_⟩:=h2;exact ⟨by rw [if_neg (by omega)];exact z,by rw [if_pos trivial,a];rfl,by rw [if_neg (by omega)];exact b,by rw [if_neg (by omega)];exact c,by rw [if_neg (by omega)];exact d,by rw [if_neg (by omega)];exact e,by rw [if_neg (by omega)];exact f,trivial⟩
noncomputable def lpP (l D:Nat) (st:LoopState) (pe:Option Code) (e:Env):AB:=lpR l st pe #[28] (rfAsg (rfIn Tryz.f11)) (rfBody (rfIn Tryz.f11)) D Tryz.f11.ntmps e
def envP (u:Un) (m:Int) (F:PV):Env:=[(3,.ro u.enc),(5,.ro [pI m]),(6,.loc 2 0 0),(7,.loc 3 0 0),(9,.loc 4 0 0),(10,.loc 5 0 0),(27,F)]
theorem pag_round {u : Un} (hu : SmT u) (hn : (unitsT u).length ≤ 1000) (m : Int) (h2 : 2 ≤ m) (h200 : m ≤ 200) (l D : Nat) (F : PV) (Dn : List (List Ln)) (N g : List Ln) (id t : Nat) (hid : 8 < id) (hit : id < t) (hg0 : g ≠ []) (hgl : g.length ≤ 1000000) (hgn : Za0 g ≤ 900000000) (hNm : N ≠ [] → (Zda N : Int) ≤ m) (hD : Dn.length ≤ 1000000) :
  AY Tryz.prog l [.sl 6 (g.map Ln.encP)] ⟨stB (lpP l D .ready none (envP u m F)) D u Dn N id,t⟩ (fun v h'=>(v=.bool true∧∃ Dn' N' id' t',addG m (some (Dn,N)) g=some (Dn',N')∧8<id'∧id'<t'∧h'=⟨stB (lpP l D .ready none (envP u m F)) D u Dn' N' id',t'⟩) ∨
   (v=.bool false∧addG m (some (Dn,N)) g=none∧∃ t',h'=⟨[(8,lpP l D .done (some .ret) (envP u m F)),(7,.dfr D true),(3,.arr false 1 [[pI 6]]),(2,.arr false 1 [[.nilsl]])],t'⟩)):=by
 have B:=pag_body hu hn m h2 h200 l D (lpP l D .busy none (envP u m F)) (fun fz z h=>by cases h) Dn N g id t hid hit hg0 hgl hgn hNm hD;have hg8:Heap.get ⟨stB (lpP l D .ready none (envP u m F)) D u Dn N id,t⟩ 8=some (lpR l .ready none #[28] (rfAsg (rfIn Tryz.f11)) (rfBody (rfIn Tryz.f11)) D Tryz.f11.ntmps (envP u m F)):=(stB_get hid 8 (Nat.le_refl _)).trans rfl;refine AY.drop (AY_round (lid:=8) hg8 rfl (fun p hp=>by
  simp only [List.mem_cons,List.not_mem_nil,or_false] at hp;subst hp;exact Nat.le_of_ble_eq_true rfl) ?_)
 refine (?_:VW Tryz.prog ⟨Tryz.f11.ntmps,some l,[],fun _ _=>False⟩ c_paginate_Paginate_asg _ _ _) (rfAsg (rfIn Tryz.f11)) (by kernel_rfl);unfold c_paginate_Paginate_asg;try dsimp only [ZM,ZO,ZN,ZG,ZR,ZU]
 refine Zae [3,5,6,7,9,10,11] ?_;refine ⟨trivial,rfl,hg8,?_⟩;have B2:=(VW.weakenH (le_set8 (RA:=lpP l D .ready none (envP u m F)) (RB:=lpP l D .busy none (envP u m F)) hid (stB_refl (t:=t) hid)) B) (rfBody (rfIn Tryz.f11)) (by kernel_rfl);refine AW.mono B2 ?_;rintro x e h' (⟨rfl,Dn',N',id',t',q1,q2,q3,q4⟩|⟨rfl,q1,q2⟩)
 ·refine ⟨(Heap.le_get q4 8 _ ((stB_get q2 8 (Nat.le_refl _)).trans rfl)),⟨stB (lpP l D .ready none (envP u m F)) D u Dn' N' id',t'⟩,?_,.inl ⟨rfl,Dn',N',id',t',q1,q2,q3,rfl⟩⟩;exact le_set8 q2 q4
 ·obtain ⟨q3,a,b,c,d,_⟩:=q2;refine ⟨a,⟨[(8,lpP l D .done (some .ret) (envP u m F)),(7,.dfr D true),(3,.arr false 1 [[pI 6]]),(2,.arr false 1 [[.nilsl]])],h'.top⟩,⟨Nat.le_refl _,?_⟩,.inr ⟨rfl,q1,h'.top,rfl⟩⟩;simp only [HL.le,Heap.get_set];exact ⟨by rw [if_pos trivial,a];rfl,by rw [if_neg (by omega)];exact b,by rw [if_neg (by omega)];exact c,by rw [if_neg (by omega)];exact d,trivial⟩
def bodyP (u:Un) (w:Int):List Ln:=kidsB w true u u.kids
def pagP (u:Un) (w m:Int):List Pg×Int :=
 if wrongP u w=0 then (if m<2∨200<m then ([],3) else match pagesG m (bodyP u w) with
  | some L=>(pgsF u 0 L,0)
  | none=>([],6)) else ([],wrongP u w)
theorem closed_pgs (l:List Pg):Closed (.sl 4 (l.map Pg.enc)):=Zai fun p _=>Pg.closed p
theorem closed_pag (l:List Pg) (e:Int):Closed (.tup [.sl 4 (l.map Pg.enc),pI e]):=Zbl (by simp only [List.mem_cons,List.not_mem_nil,or_false,forall_eq_or_imp,forall_eq];exact ⟨closed_pgs _,cI _⟩)
theorem unm {K:PV→Heap→Prop} {p:PV} {h:Heap} (hok:Heap.le h h) (hd:∀ id D o,h.get id≠some (.dfr D o)) (hk:K p h):unmark K p h:=⟨h,hok,fun id D o e=>absurd e (hd id D o),hk⟩
theorem pagG_empty {m:Int} {G:List (List Ln)} {s:List (List Ln)×List Ln} (hG:∀ g∈G,g≠[]) (h:pagG m G=some s) (h0:s.2=[]):s.1=[]:=by
 have I:=pagG_inv hG h;have hf:G.flatten=[]:=by
  by_cases hh:G.flatten=[]
  ·exact hh
  ·exact absurd h0 (I.last hh)
 have hfl:=I.flat
 rw [h0,hf,List.append_nil] at hfl;cases hd:s.1 with
 | nil=>rfl
 | cons a r =>
  rw [hd,List.flatten_cons] at hfl;have:=I.ne a (by rw [hd];exact List.mem_cons_self);exact absurd (List.append_eq_nil_iff.1 hfl).1 this
theorem good_wrong {u:Un} (hu:SmT u) {w:Int} (h:wrongP u w=0):rightT u=true∧24≤w∧w≤200:=by
 unfold wrongP at h;split at h
 ·rename_i hs;split at h
  ·cases h
  ·unfold Zch validT at hs;simp only [Zx4] at hs;exact ⟨hs.1.1,by omega,by omega⟩
 ·cases h
def stC (D:Nat) (u:Un) (Dn:List (List Ln)) (N:List Ln) (id:Nat):List (Nat×AB) :=
 outB u Dn id++[(7,.dfr D true),(5,.arr false 1 [[nowV N]]),(4,.arr false 1 [[outV Dn id]]),(3,.arr false 1 [[pI 0]]),(2,.arr false 1 [[.nilsl]])]
theorem stC_le {RB:AB} {D:Nat} {u:Un} {Dn:List (List Ln)} {N:List Ln} {id t:Nat} (hid:8<id):Heap.le ⟨stC D u Dn N id,t⟩ ⟨stB RB D u Dn N id,t⟩:=by
 have h1:=stB_refl (RB:=RB) (D:=D) (u:=u) (Dn:=Dn) (N:=N) (t:=t) hid;refine ⟨Nat.le_refl _,?_⟩;have h2:=h1.2;unfold stC;generalize hf:(Heap.get ⟨stB RB D u Dn N id,t⟩)=f at h2 ⊢;unfold stB at h2;by_cases h0:outB u Dn id=[]
 ·rw [h0] at h2 ⊢;simp only [List.nil_append,HL.le] at h2 ⊢;exact h2.2
 ·unfold outB at h2 ⊢ h0;split at h2
  ·rename_i h5;rw [if_pos h5] at h0;exact absurd rfl h0
  ·rename_i h5;rw [if_neg h5];simp only [List.cons_append,List.nil_append,HL.le] at h2 ⊢;exact ⟨h2.1,h2.2.2⟩
theorem stC_get8 {D:Nat} {u:Un} {Dn:List (List Ln)} {N:List Ln} {id:Nat} (hid:8<id):HL.get (stC D u Dn N id) 8=none:=by
 unfold stC outB;split
 ·rfl
 ·rw [List.cons_append,List.nil_append,HL.get,if_neg (by omega)];rfl
theorem dfr7 {L:List (Nat×AB)} {t i D:Nat} {o:Bool} (hL:∀ q∈L,q.1=7∨∀ D o,q.2≠.dfr D o) (h:Heap.get ⟨L,t⟩ i=some (.dfr D o)):i=7:=by
 rcases hL _ (HL.get_mem h) with h|h
 ·exact h
 ·exact absurd rfl (h D o)
theorem sp_Paginate {u:Un} (hu:SmT u) (hn:(unitsT u).length≤1000) (w m:Int):Zam Tryz.prog 11 [.agg u.enc,pI w,pI m] (.tup [.sl 4 ((pagP u w m).1.map Pg.enc),pI (pagP u w m).2]):=by
 have W:=sp_pag_wrong hu hn w;refine Zad ?_ (closed_pag _ _) (by intro y hy;simp only [List.mem_cons,List.not_mem_nil,or_false] at hy;rcases hy with rfl|rfl|rfl;exact Zao u;exact cI _;exact cI _);refine ACall_fnR (vc:=c_paginate_Paginate) (ts:=[.c 6 false 1,.c 7 false 1]) Go.Proofs.Tryz.func11 (by kernel_rfl) rfl rfl (Nat.le_of_ble_eq_true rfl) (by kernel_rfl) ?_;unfold c_paginate_Paginate;try dsimp only [ZM,ZO,ZN,ZG,ZR,ZU]
 unfold pagP;have hue:=Un.Zaf u;have BP:=fun h=>sp_pag_body hu hn w h true;have RD:=fun l D F Dn N g id t a b c d e f i=>pag_round hu hn m a b l D F Dn N g id t c d e f i;have BL:=kidsB_le hu w true u.kids.length;rw [List.take_length] at BL;have BN:=notes_kids hu hn w;have PG:=fun (k:Int) (N:List Ln) (h0:N≠[]) (h1:N.length≤1000000) (h2:Za0 N≤1000000)=>sp_page hu hn k N h0 h1 h2;have hgw:=fun h=>good_wrong hu (w:=w) h;unfold envP at RD;rw [hue] at W BP RD PG ⊢;generalize u.head.map Wd.enc=EH at *;generalize u.words.map Wd.enc=EW at *;generalize u.kids.map Un.enc=EK at *;refine Rp0 [1,3,5,6,7] ?_;refine VW_freezeP (l1:=[(1,.arr false 1 [[pI m]]),(0,.arr false 8 [[pI u.act,pI u.item,pI u.n,pI u.kind,.str u.label,.sl 4 EH,.sl 4 EW,.sl 8 EK]])]) (l2:=[(3,.arr false 1 [[pI 0]]),(2,.arr false 1 [[.nilsl]])]) (t:=4)
  [(1,pI w),(3,.ro [pI u.act,pI u.item,pI u.n,pI u.kind,.str u.label,.sl 4 EH,.sl 4 EW,.sl 8 EK]),(5,.ro [pI m]),(6,.loc 2 0 0),(7,.loc 3 0 0)] (by simp [Heap.le,Heap.get,HL.le,HL.get]) (by simp) (by simp)
  ⟨View.refl _ _,View.loc (z:=8) (fz:=false) (es:=[[pI u.act,pI u.item,pI u.n,pI u.kind,.str u.label,.sl 4 EH,.sl 4 EW,.sl 8 EK]]) rfl (by simp) rfl (by simp),View.loc (z:=1) (fz:=false) (es:=[[pI m]]) rfl (by simp) rfl (by simp),View.refl _ _,View.refl _ _,trivial⟩ ?_
 refine Zaa ?_;refine Rp0 [1,3,5,6,7,8] ?_;refine Zaq W ?_;generalize hW:wrongP u w=E at *;by_cases hE:E=0
 ·rw [if_pos hE];have e1:(E != 0)=false:=by rw [hE];rfl
  obtain ⟨hr,hw1,hw2⟩:=hgw hE
  replace BP:=BP (good_all hu hr hw1 hw2)
  refine Rp1 [1,3,5,6,7,16] e1 ?_;refine Fp0 ?_;by_cases hm:m<2∨200<m
  ·rw [if_pos hm];refine Zaa (Zc1 (σ:=Empty) (fun x=>x.elim) ?_ (fun x=>x.elim));by_cases c1:m<2
   ·have e2:=decide_eq_true c1;refine Rp1 [6,7,23] e2 ?_;refine Ct ?_;refine Rp0 [6,7] ?_;refine Tp0 ?_;refine unm (by simp [Heap.le,Heap.get,HL.le,HL.get]) (fun id D o=>by simp only [Heap.get,HL.get];split<;>(try split)<;>simp) ?_;exact View.tup2 (View.nil _ _) (View.refl _ _)
   ·have e2:=decide_eq_false c1;have e3:decide (m>200)=true:=decide_eq_true (by omega);refine Rp1 [6,7,23] (x2 e2 e3) ?_;refine Ct ?_;refine Rp0 [6,7] ?_;refine Tp0 ?_;refine unm (by simp [Heap.le,Heap.get,HL.le,HL.get]) (fun id D o=>by simp only [Heap.get,HL.get];split<;>(try split)<;>simp) ?_;exact View.tup2 (View.nil _ _) (View.refl _ _)
  ·rw [if_neg hm];have c1:decide (m<2)=false:=decide_eq_false (by omega);have c2:decide (m>200)=false:=decide_eq_false (by omega);refine Zaa (Zaa (Zae [1,3,5,6,7,23] ?_));refine Sp1 (x2 c1 c2) ?_;refine Fp0 ?_;refine Rp0 [1,3,5,6,7,9] ?_;refine Rp0 [1,3,5,6,7,9,10] ?_;unfold bodyP;generalize hG:kidsB w true u u.kids=G at *;have SG:=sp_groups G;refine VW.weakenH (h':=⟨[(5,.arr false 1 [[.nilsl]]),(4,.arr false 1 [[.nilsl]]),(3,.arr false 1 [[pI 0]]),(2,.arr false 1 [[.nilsl]])],7⟩) (by simp [Heap.le,Heap.get,HL.le,HL.get]) ?_;refine VW_rangeB rfl (gx:=.tmp 27) (ps:=#[28]) (asg:=rfAsg (rfIn Tryz.f11)) (body:=rfBody (rfIn Tryz.f11)) (by kernel_rfl) ?_;refine rp0 [3,5,6,7,9,10,27] ?_;refine Zaq BP ?_;refine Zaq SG ?_;generalize hF:PV.fn (.func 62) [] [.ro [.sl 6 (G.map Ln.encP)]]=F at *;refine ⟨.t 27,62,[.ro [.sl 6 (G.map Ln.encP)]],rfl,hF.symm,fun l D=>?_⟩;have hGl:G.length≤602000:=by
    rw [Zaj,List.length_cons] at hn;omega
   replace RD:=fun Dn N g id t c d e f i j k=>RD l D F Dn N g id t (by omega) (by omega) c d e f i j k
   generalize hE0:([(3,.ro [pI u.act,pI u.item,pI u.n,pI u.kind,.str u.label,.sl 4 EH,.sl 4 EW,.sl 8 EK]),(5,.ro [pI m]),(6,.loc 2 0 0),(7,.loc 3 0 0),(9,.loc 4 0 0),(10,.loc 5 0 0),(27,F)]:Env)=E0 at *;have hgr:∀ pre g post,grpG [] G=pre++g::post→g≠[]∧g.length≤602000∧Za0 g≤362404000∧(∀ x∈pre,x≠[])∧pre.flatten.length≤602000:=by
    intro pre g post h;obtain ⟨a,b,hab⟩:=grp_mem h;have hne:=grpG_ne G [];rw [h] at hne;have h1:=congrArg List.length hab;have h2:=notesN_sub (a:=a) (b:=g) (c:=b);rw [← hab] at h2;rw [Zx5,Zx5] at h1;have h3:=congrArg List.length (grpG_flat G []);rw [h,List.flatten_append,Zx5,List.nil_append] at h3;exact ⟨hne g (by simp),by omega,by omega,fun x hx=>hne x (by simp [hx]),by omega⟩
   have hI:ItI (fun pre L t=>∃ Dn N id,pagG m pre=some (Dn,N)∧8<id∧id<t∧L=stB (lpP l D .ready none E0) D u Dn N id):=by
    refine ⟨?_,?_,?_⟩
    ·rintro p L t ⟨Dn,N,id,-,h1,-,rfl⟩;exact stB_nod h1
    ·rintro p L t ⟨Dn,N,id,-,h1,h2,rfl⟩ q hq;unfold stB outB at hq;split at hq
     ·simp only [List.nil_append,List.mem_cons,List.not_mem_nil,or_false] at hq;rcases hq with rfl|rfl|rfl|rfl|rfl|rfl<;>simp only []<;>omega
     ·simp only [List.cons_append,List.nil_append,List.mem_cons,List.not_mem_nil,or_false] at hq;rcases hq with rfl|rfl|rfl|rfl|rfl|rfl|rfl<;>simp only []<;>omega
    ·rintro p L t t' ⟨Dn,N,id,h0,h1,h2,rfl⟩ hle;exact ⟨Dn,N,id,h0,h1,by omega,rfl⟩
   have IT:=sp_groups_1 l G (by omega) (Fin:=fun h'=>pagesG m G=none∧∃ t',h'=⟨[(8,lpP l D .done (some .ret) E0),(7,.dfr D true),(3,.arr false 1 [[pI 6]]),(2,.arr false 1 [[.nilsl]])],t'⟩) hI (fun pre g post L1 t1 hgp hInv=>by
    obtain ⟨Dn,N,id,q1,q2,q3,rfl⟩:=hInv;obtain ⟨g1,g2,g3,g4,g5⟩:=hgr pre g post hgp;have PI:=pagG_inv g4 q1;have hf:=pgI_few PI;refine (RD Dn N g id t1 q2 q3 g1 (by omega) (by omega) PI.now (by simp only [] at hf;omega)).mono ?_;rintro v h' (⟨rfl,Dn',N',id',t',r1,r2,r3,rfl⟩|⟨rfl,r1,t',rfl⟩)
    ·exact .inl ⟨rfl,_,_,rfl,Dn',N',id',by rw [pagG_snoc,q1];exact r1,r2,r3,rfl⟩
    ·refine .inr ⟨rfl,?_,t',rfl⟩;unfold pagesG;rw [hgp,pagG_pre (by rw [q1];exact r1)];rfl) (L0:=stB (lpP l D .ready none E0) D u [] [] 9) (t0:=10) ⟨[],[],9,rfl,by omega,by omega,rfl⟩
   refine Zal.weakenL (h0:=⟨stB (lpP l D .ready none E0) D u [] [] 9,10⟩) ?_ (Zal.mono IT ?_)
   ·simp only [vmL,Nat.reduceEqDiff,Nat.reduceAdd,Nat.reduceLeDiff,lpP,stB,outB,nowV,outV,Heap.le,HL.le,Heap.get,HL.get,List.nil_append,if_true];rfl
   rintro p h' (⟨L2,t2,rfl,Dn,N,id,q1,q2,q3,rfl⟩|⟨q1,t',rfl⟩)
   ·refine ⟨.ready,none,⟨stC D u Dn N id,t2⟩,by simp,(stB_get q2 8 (Nat.le_refl _)).trans rfl,stC_le q2,stC_get8 q2,?_⟩;have hGne:=grpG_ne G [];have PI:=pagG_inv hGne q1;have hf:=pgI_few PI;rw [grpG_flat,List.nil_append] at hf;have hpg:pagesG m G=some (endG (Dn,N)):=by unfold pagesG;rw [q1];rfl
    rw [hpg];by_cases hN:N=[]
    ·have hDn:Dn=[]:=pagG_empty hGne q1 hN;subst hN hDn hE0;have e5:stC D u [] [] id=[(7,.dfr D true),(5,.arr false 1 [[.nilsl]]),(4,.arr false 1 [[.nilsl]]),(3,.arr false 1 [[pI 0]]),(2,.arr false 1 [[.nilsl]])]:=rfl;have e00:decide (((0:Nat):Int)>0)=false:=rfl;rw [e5];refine Zaa ?_;refine Rp1 [6,7,9,60] e00 ?_;refine Fp0 ?_;refine Rp0 [6,7] ?_;refine Tp0 ?_;refine ⟨⟨⟨[(3,.arr false 1 [[pI 0]]),(2,.arr false 1 [[.nilsl]])],t2⟩,by simp [Heap.le,Heap.get,HL.le,HL.get],fun i D o h=>?_,View.tup2 (View.nil _ _) (View.refl _ _)⟩,7,D,rfl,rfl⟩;obtain rfl:=dfr7 (by simp) h;rfl
    ·have hnv:nowV N=.sl 6 (N.map Ln.encP):=by unfold nowV;rw [if_neg hN]
     have hNm:=PI.now hN;have hN1:=high_len N;have hN2:=high_notes N;simp only [] at hNm hf;have hNl:0<N.length:=List.length_pos_iff.2 hN;have hlN:(N.map Ln.encP).length=N.length:=List.length_map _;have e0:decide (((N.map Ln.encP).length:Int)>0)=true:=decide_eq_true (by omega);have P:=PG ((Dn.length+1:Nat):Int) N hN (by omega) (by omega);have hend:endG (Dn,N)=Dn++[N]:=(show (if N=[] then Dn else Dn++[N])=Dn++[N] by rw [if_neg hN]);rw [hend];have hpe:(pgsF u 0 (Dn++[N])).map Pg.enc=(pgsF u 0 Dn).map Pg.enc++[(pageP u ((Dn.length+1:Nat):Int) N).enc]:=by rw [pgsF_app,List.map_append,Nat.zero_add];rfl
     have hrl:((pgsF u 0 Dn).map Pg.enc).length=Dn.length:=by rw [List.length_map,pgsF_len]
     generalize pageP u ((Dn.length+1:Nat):Int) N=pg at P hpe;have hpg:pg.enc=[pI pg.number,.str pg.head,.sl 1 (pg.lines.map fun s=>[PV.str s]),.sl 1 (pg.notes.map fun s=>[PV.str s])]:=rfl;rw [hpg] at P hpe;subst hE0;by_cases hDn:Dn=[]
     ·have hd0:Dn.length=0:=by rw [hDn];rfl
      have hR:(pgsF u 0 Dn).map Pg.enc=[]:=List.eq_nil_of_length_eq_zero (by omega);rw [hR,List.nil_append] at hpe;rw [hd0] at P;have e5:stC D u Dn N id=[(7,.dfr D true),(5,.arr false 1 [[.sl 6 (N.map Ln.encP)]]),(4,.arr false 1 [[.nilsl]]),(3,.arr false 1 [[pI 0]]),(2,.arr false 1 [[.nilsl]])]:=by
       unfold stC outB outV;rw [if_pos hDn,if_pos hDn,hnv];rfl
      rw [e5];have qq:=N6 2 3 4 5 7 t2;refine Zaa ?_;refine Rp1 [3,6,7,9,10,60] e0 ?_;refine Ct ?_;refine VW_draw2A (t2+10) [6,7,9] ?_ ?_
      ·exact Fn1 qq
      simp only [vmL,Nat.reduceEqDiff,Nat.reduceAdd,Nat.reduceLT,Nat.reduceLeDiff,Nat.reduceMul,DrawA,VOp.writes,false_implies,implies_true,qq,ad1 (a:=0) (by omega)];refine ⟨_,.inl P,?_⟩;try simp only [vmL,Nat.reduceAdd,DrawA,VOp.writes,false_implies,implies_true,qq]
      refine ⟨by omega,by omega,?_⟩;refine Rp1 [6,7] qq ?_;refine Tp1 qq ?_;refine ⟨⟨⟨[(t2,.arr false 4 [[pI pg.number,.str pg.head,.sl 1 (pg.lines.map fun s=>[PV.str s]),.sl 1 (pg.notes.map fun s=>[PV.str s])]]),(3,.arr false 1 [[pI 0]]),(2,.arr false 1 [[.own t2 0 1]])],t2+1⟩,?_,fun i D o h=>?_,View.tup2 ?_ (View.refl _ _)⟩,7,D,?_,rfl⟩
      ·simp only [vmL,Heap.le,Heap.get,HL.le,HL.get,qq]
       try exact ⟨Nat.le_refl _,rfl,rfl,trivial⟩
      ·obtain rfl:=dfr7 (by simp) h;exact Sc1 qq
      ·show View _ _ (.sl 4 ((pgsF u 0 (Dn++[N])).map Pg.enc));rw [hpe];exact View.own_all (fz:=false) (by simp [Heap.get,HL.get]) rfl
      ·exact Sc1 qq
     ·have e5 : stC D u Dn N id = [(id, .arr false 4 ((pgsF u 0 Dn).map Pg.enc)), (7, .dfr D true), (5, .arr false 1 [[.sl 6 (N.map Ln.encP)]]), (4, .arr false 1 [[.own id 0 Dn.length]]), (3, .arr false 1 [[pI 0]]), (2, .arr false 1 [[.nilsl]])] := by
       unfold stC outB outV;rw [if_neg hDn,if_neg hDn,hnv];rfl
      rw [e5];generalize (pgsF u 0 Dn).map Pg.enc=R at hpe hrl ⊢;have hRt:R.take Dn.length=R:=List.take_of_length_le (by omega);have qq:=N7 2 3 4 5 7 id t2;refine Zaa ?_;refine Rp1 [3,6,7,9,10,60] (x2 e0 qq) ?_;refine Ct ?_;refine VW_draw2A (t2+10) [6,7,9] ?_ ?_
      ·exact Fn1 qq
      simp only [vmL,Nat.reduceEqDiff,Nat.reduceAdd,Nat.reduceLT,Nat.reduceLeDiff,reduceCtorEq,DrawA,VOp.writes,false_implies,implies_true,qq,ad1 (a:=Dn.length) (by omega)];refine ⟨_,.inl P,?_⟩;try simp only [vmL,Nat.reduceAdd,DrawA,VOp.writes,false_implies,implies_true,hrl,hRt,qq]
      refine ⟨by omega,by omega,by omega,by omega,?_⟩;refine Rp1 [6,7] qq ?_;refine Tp1 qq ?_;refine ⟨⟨⟨[(t2,.arr false 4 (R++[[pI pg.number,.str pg.head,.sl 1 (pg.lines.map fun s=>[PV.str s]),.sl 1 (pg.notes.map fun s=>[PV.str s])]])),(3,.arr false 1 [[pI 0]]),(2,.arr false 1 [[.own t2 0 (Dn.length+1)]])],t2+1⟩,?_,fun i D o h=>?_,View.tup2 ?_ (View.refl _ _)⟩,7,D,?_,rfl⟩
      ·simp only [vmL,Heap.le,Heap.get,HL.le,HL.get,qq]
       try exact ⟨Nat.le_refl _,rfl,rfl,trivial⟩
      ·obtain rfl:=dfr7 (by simp) h;exact Sc1 qq
      ·show View _ _ (.sl 4 ((pgsF u 0 (Dn++[N])).map Pg.enc));rw [hpe];exact View.own_all (fz:=false) (by simp [Heap.get,HL.get]) (by rw [Zx5,hrl];rfl)
      ·exact Sc1 qq
   ·refine ⟨.done,some .ret,⟨[(7,.dfr D true),(3,.arr false 1 [[pI 6]]),(2,.arr false 1 [[.nilsl]])],t'⟩,by simp,rfl,by simp [Heap.le,Heap.get,HL.le,HL.get],rfl,?_⟩;rw [q1];subst hE0;refine Sp0 ?_;refine ⟨⟨⟨[(3,.arr false 1 [[pI 6]]),(2,.arr false 1 [[.nilsl]])],t'⟩,by simp [Heap.le,Heap.get,HL.le,HL.get],fun i D o h=>?_,View.tup2 (View.nil _ _) (View.refl _ _)⟩,7,D,rfl,rfl⟩;obtain rfl:=dfr7 (by simp) h;rfl
 ·rw [if_neg hE];have e1:(E != 0)=true:=by simpa using hE
  refine Rp1 [6,7,8,16] e1 ?_;refine Ct ?_;refine Rp0 [6,7] ?_;refine Tp0 ?_;refine unm (by simp [Heap.le,Heap.get,HL.le,HL.get]) (fun id D o=>by simp only [Heap.get,HL.get];split<;>(try split)<;>simp) ?_;exact View.tup2 (View.nil _ _) (View.refl _ _)
def Zb5:VC:=(ZR [ZO 3 (.box 8 (.t 0)),ZO 6 (.mv (.c (.int .i64 0)))] (.seq (ZR [ZM 9 1,ZO 10 (.bin .gtr (.t 9) (.c (.int .i64 20)))] (.cond (.t 10) (ZR [ZM 11 2,ZO 12 (.bin .add (.t 11) (.c (.int .i64 1))),ZM 6 12] .ret) .skip)) (ZR [ZO 7 (.mv (.c (.int .i64 1)))] (.seq (ZR [ZO 8 (.mv (.c (.int .i64 0)))] (.block 0 (.loop (.seq (ZR [ZM 13 8,ZO 14 (.faddr 7 (.t 3)),ZO 15 (.load false 1 (.t 14)),ZO 16 (.len false (.t 15)),ZO 17 (.bin .lss (.t 13) (.t 16)),ZM 18 17,ZG 19 (.mv (.t 7)) 18 true,ZG 20 (.mv (.t 2)) 18 true,ZG 21 (.bin .leq (.t 19) (.t 20)) 18 true,ZO 22 (.pick (.t 18) (.t 21) (.c (.bool false)))] (.cond (.t 22) .skip (.exit 0))) (.seq (.block 1 (.region [ZM 25 7,ZO 26 (.faddr 7 (.t 3)),ZO 27 (.load false 1 (.t 26)),ZM 28 8,ZO 29 (.iaddr 8 (.t 27) (.t 28)),ZO 30 (.load true 8 (.t 29)),ZM 31 1,ZO 32 (.bin .add (.t 31) (.c (.int .i64 1))),ZM 33 2,ZM 34 7,ZO 35 (.bin .sub (.t 33) (.t 34)),ZO 36 (.call 53 [.t 30,.t 32,.t 35]),ZO 37 (.bin .add (.t 25) (.t 36)),ZM 7 37] false)) (.region [ZM 23 8,ZO 24 (.bin .add (.t 23) (.c (.int .i64 1))),ZM 8 24] false)))))) (ZR [ZM 38 7,ZM 6 38] .ret)))))
def c_pandectref06_short:VC:=(ZR [ZO 2 (.mv (.c (.bool false)))] (.seq (ZR [ZO 3 (.mv (.c (.int .i64 0)))] (.block 0 (.loop (.seq (ZR [ZM 4 3,ZM 5 0,ZO 6 (.len false (.t 5)),ZO 7 (.bin .lss (.t 4) (.t 6))] (.cond (.t 7) .skip (.exit 0))) (.seq (.block 1 (ZR [ZM 10 0,ZM 11 3,ZO 12 (.iaddr 4 (.t 10) (.t 11)),ZO 13 (.faddr 0 (.t 12)),ZO 14 (.load false 1 (.t 13)),ZO 15 (.len true (.t 14)),ZO 16 (.bin .gtr (.t 15) (.c (.int .i64 100)))] (.cond (.t 16) (ZR [ZO 2 (.mv (.c (.bool false)))] .ret) .skip))) (.region [ZM 8 3,ZO 9 (.bin .add (.t 8) (.c (.int .i64 1))),ZM 3 9] false)))))) (ZR [ZM 17 0,ZO 18 (.len false (.t 17)),ZO 19 (.bin .leq (.t 18) (.c (.int .i64 300))),ZM 2 19] .ret)))
def c_pandectref06_words:VC:=(ZR [ZO 1 (.box 8 (.t 0)),ZO 2 (.mv (.c (.bool false)))] (.seq (ZR [ZO 4 (.faddr 4 (.t 1)),ZO 5 (.load false 1 (.t 4)),ZO 6 (.len true (.t 5)),ZO 7 (.bin .gtr (.t 6) (.c (.int .i64 30))),ZM 8 7,ZG 9 (.faddr 5 (.t 1)) 8 false,ZG 10 (.load false 1 (.t 9)) 8 false,ZG 11 (.call 92 [.t 10]) 8 false,ZG 12 (.un .not (.t 11)) 8 false,ZO 13 (.pick (.t 8) (.c (.bool true)) (.t 12)),ZM 14 13,ZG 15 (.faddr 6 (.t 1)) 14 false,ZG 16 (.load false 1 (.t 15)) 14 false,ZG 17 (.call 92 [.t 16]) 14 false,ZG 18 (.un .not (.t 17)) 14 false,ZO 19 (.pick (.t 14) (.c (.bool true)) (.t 18))] (.cond (.t 19) (ZR [ZO 2 (.mv (.c (.bool false)))] .ret) .skip)) (.seq (ZR [ZO 3 (.mv (.c (.int .i64 0)))] (.block 0 (.loop (.seq (ZR [ZM 20 3,ZO 21 (.faddr 7 (.t 1)),ZO 22 (.load false 1 (.t 21)),ZO 23 (.len false (.t 22)),ZO 24 (.bin .lss (.t 20) (.t 23))] (.cond (.t 24) .skip (.exit 0))) (.seq (.block 1 (ZR [ZO 27 (.faddr 7 (.t 1)),ZO 28 (.load false 1 (.t 27)),ZM 29 3,ZO 30 (.iaddr 8 (.t 28) (.t 29)),ZO 31 (.load true 8 (.t 30)),ZO 32 (.call 54 [.t 31]),ZO 33 (.un .not (.t 32))] (.cond (.t 33) (ZR [ZO 2 (.mv (.c (.bool false)))] .ret) .skip))) (.region [ZM 25 3,ZO 26 (.bin .add (.t 25) (.c (.int .i64 1))),ZM 3 26] false)))))) (ZR [ZO 2 (.mv (.c (.bool true)))] .ret))))
def c_pandectref06_Few:VC:=(ZR [ZO 2 (.box 8 (.t 0)),ZO 4 (.mv (.c (.bool false)))] (ZR [ZO 5 (.load true 8 (.t 2)),ZM 6 1,ZO 7 (.call 53 [.t 5,(.c (.int .i64 0)),.t 6]),ZM 8 1,ZO 9 (.bin .leq (.t 7) (.t 8)),ZM 10 9,ZG 11 (.load true 8 (.t 2)) 10 true,ZG 12 (.call 54 [.t 11]) 10 true,ZO 13 (.pick (.t 10) (.t 12) (.c (.bool false))),ZM 4 13] .ret))
theorem sp_ref06_size:∀ (d:Nat) (u:Un) (m:Int),d≤21→0≤m→m≤1000→Zam Tryz.prog 53 [.agg u.enc,pI (21-(d:Int)),pI m] (pI (sizeT d u m))
 | 0,u,m,hd,h0,h1=>by
  have e:(21:Int)-((0:Nat):Int)=21:=rfl;rw [e];refine Gp (vc:=Zb5) [.t 6] (cI _) Tryz.func53 ?_;unfold Zb5;try dsimp only [ZM,ZO,ZN,ZG,ZR,ZU]
  rw [Un.Zaf];refine Rp0 [1,2,3] ?_;refine Zaa ?_;refine Rp0 [1,2,3,10] ?_;refine Zac rfl (fun h1=>?_) (fun h1=>by cases h1);refine Rp1 [6] (w64 (n:=m+1) (by omega) (by omega)) ?_;refine Tp0 ?_;rw [sizeT];exact View.refl _ _
 | d+1,u,m,hd,h0,h1=>by
  have A:=fun k m' a b=>sp_ref06_size d k m' (by omega) a b;have hb:=fun k m' h=>sizeT_bd d k m' h;rw [sizeT];generalize sizeT d=f at A hb ⊢;obtain ⟨D,hD⟩:∃ D:Int,D=21-((d+1:Nat):Int):=⟨_,rfl⟩;have hD1:21-(d:Int)=D+1:=by omega
  rw [← hD];rw [hD1] at A;have hD0:0≤D∧D≤20:=by omega
  clear hD hD1;refine Gp (vc:=Zb5) [.t 6] (cI _) Tryz.func53 ?_;unfold Zb5;try dsimp only [ZM,ZO,ZN,ZG,ZR,ZU]
  rw [Un.Zaf];refine Rp0 [1,2,3] ?_;refine Zaw [(1,pI D),(2,pI m),(3,.ro [pI u.act,pI u.item,pI u.n,pI u.kind,.str u.label,.sl 4 (u.head.map Wd.enc),.sl 4 (u.words.map Wd.enc),.sl 8 (u.kids.map Un.enc)])] ⟨View.refl _ _,View.refl _ _,View.loc (z:=8) (fz:=false) (es:=[[pI u.act,pI u.item,pI u.n,pI u.kind,.str u.label,.sl 4 (u.head.map Wd.enc),.sl 4 (u.words.map Wd.enc),.sl 8 (u.kids.map Un.enc)]]) rfl (by simp) rfl (by simp),trivial⟩ ?_;generalize u.head.map Wd.enc=EH;generalize u.words.map Wd.enc=EW;generalize u.kids=L;refine Zaa ?_;refine Rp0 [1,2,3,10] ?_;refine Zac rfl (fun h1=>by simp at h1;omega) (fun h1=>?_);refine Kp0 ?_;refine Rp0 [1,2,3,7] ?_;refine Zaa ?_;refine Rp0 [1,2,3,7,8] ?_;refine Zab ?_;refine Zak (σ:={ x:Nat×Nat//x.1≤L.length∧(x.1:Int)+1≤m+2 }) (fun x=>([(1,pI D),(2,pI m),(3,.ro [pI u.act,pI u.item,pI u.n,pI u.kind,.str u.label,.sl 4 EH,.sl 4 EW,.sl 8 (L.map Un.enc)]),(7,pI ((L.take x.1.1).foldl (Zb9 f m) 1)),(8,pI x.1.1)],⟨[],x.1.2⟩)) (fun x=>L.length-x.1.1) ⟨(0,1),Nat.zero_le _,by simp;omega⟩ ?_ ?_ ?_
  ·exact Fn0
  ·exact Sc0
  rintro ⟨⟨k,t⟩,hk,hk2⟩;simp only [] at hk hk2 ⊢;have hn:=sizeF_bd (f:=f) (m:=m) (fun k m' h=>hb k m' h) (L.take k) 1 (Int.le_refl _) (by omega);generalize hN:(L.take k).foldl (Zb9 f m) 1=n at hn ⊢;by_cases ka:k<L.length
  ·have hc:decide ((k:Int)<(L.length:Int))=true:=by simp;omega
   by_cases kn:n≤m
   ·have hc2:decide (n≤m)=true:=by simpa using kn
    have hst:=sizeF_step f m ka;rw [hN] at hst;have hs2:Zb9 f m n L[k]=n+f L[k] (m-n):=by unfold Zb9;rw [if_pos kn]
    rw [hs2] at hst;have hrow:(L.map Un.enc).getD k []=L[k].enc:=rowm ka;have R:=A L[k] (m-n) (by omega) (by omega);have hr:=hb L[k] (m-n) (by omega);have hlow:=sizeF_low (f:=f) (m:=m) (fun k m' h=>(hb k m' h).1) (L.take k) 1 (by rw [hN];exact kn);rw [hN,List.length_take] at hlow;generalize L[k]=v at hst hs2 hrow R hr;rw [Un.Zaf] at hrow R;generalize f v (m-n)=s at hst R hr;refine Zaa ?_;refine Rp1 [1,2,3,7,8,22] (x3 @xlm hc hc2) ?_;refine Ct ?_;refine Kp0 ?_;refine Zaa ?_;refine Zab ?_;refine rp1 [1,2,3,7,8] (x4 @xlm hrow (w64 (n:=m-n) (by omega) (by omega)) (w64 (n:=D+1) (by omega) (by omega))) ?_;refine ⟨by omega,?_⟩;refine Ap1 R (w64 (n:=n+s) (by omega) (by omega)) ?_;refine rp1 [1,2,3,7,8] (ad1 (a:=k) (by omega)) ?_;refine ⟨⟨(k+1,t),ka,by simp only [];omega⟩,?_⟩;simp only [hst]
    all_goals exact Fn0
   ·have hc2:decide (n≤m)=false:=by simpa using kn
    have hst:L.foldl (Zb9 f m) 1=n:=by
     have e:L=L.take k++L.drop k:=(List.take_append_drop _ _).symm;rw [e,List.foldl_append,hN];exact sizeF_stop f m _ n (by omega)
    rw [hst];refine Zaa ?_;refine Rp1 [1,2,3,7,8,22] (x3 @xlm hc hc2) ?_;refine Cf ?_;refine Ep0 ?_;exact Rv0 [6]
  ·have hc:decide ((k:Int)<(L.length:Int))=false:=by simp;omega
   obtain rfl:k=L.length:=by omega
   rw [List.take_length] at hN;rw [hN];refine Zaa ?_;refine Rp1 [1,2,3,7,8,22] (x2 @xlm hc) ?_;refine Cf ?_;refine Ep0 ?_;exact Rv0 [6]
theorem sp_ref06_short (l:List Wd) (hl:l.length≤1048576) (ht:∀ w∈l,w.text.length≤1048576):Zam Tryz.prog 92 [.sl 4 (l.map Wd.enc)] (.bool (shortB l)):=by
 have h3:decide ((l.length:Int)≤300)=decide (l.length≤300):=decide_eq_decide.2 (by omega);refine Gp (vc:=c_pandectref06_short) [.t 2] (cB _) Tryz.func92 ?_;unfold c_pandectref06_short;try dsimp only [ZM,ZO,ZN,ZG,ZR,ZU]
 refine Rp0 [0] ?_;refine Zaa ?_;refine Rp0 [0,3] ?_;refine Zab ?_;refine Zak (σ:={ k:Nat//k≤l.length∧(l.all fun w=>decide (w.text.length≤100))=((l.drop k).all fun w=>decide (w.text.length≤100)) }) (fun x=>([(0,.sl 4 (l.map Wd.enc)),(3,pI x.1)],⟨[],0⟩)) (fun x=>l.length-x.1) ⟨0,Nat.zero_le _,rfl⟩ ?_ ?_ ?_
 ·refine Sp0 ?_;rfl
 ·exact Sc0
 rintro ⟨k,hk,hpre⟩;simp only [];refine Zaa ?_;refine Rp1 [0,3,7] @xlm ?_;refine Zac rfl (fun h1=>?_) (fun h1=>?_)
 ·have ka:k<l.length:=by simp only [Zx3] at h1;omega
  have hd:l.drop k=l[k]::l.drop (k+1):=List.drop_eq_getElem_cons ka;have htk:=ht _ (List.getElem_mem ka);rw [hd,List.all_cons] at hpre;have h2:decide ((100:Int)<(l[k].text.length:Int)) = !(decide (l[k].text.length≤100)):=by
   by_cases h:l[k].text.length≤100
   ·rw [decide_eq_true h,decide_eq_false (by omega)];rfl
   ·rw [decide_eq_false h,decide_eq_true (by omega)];rfl
  refine Kp0 ?_;refine Zaa ?_;refine Zab ?_;refine Zaa (Zae [0,3,16] ?_);simp only [vmL,Nat.reduceEqDiff,Nat.reduceAdd,Nat.reduceLeDiff,reduceCtorEq,List.length_map,rowm ka,Wd.enc,h2];refine Ok ?_;cases hq:decide (l[k].text.length≤100) with
  | false =>
   refine Ct ?_;refine Rp0 [2] ?_;refine Tp0 ?_;unfold shortB;rw [hpre,hq];exact View.refl _ _
  | true =>
   rw [hq,Bool.true_and] at hpre;refine Fp0 ?_;refine rp1 [0,3] (w64 (n:=(k:Int)+1) (by omega) (by omega)) ?_;refine ⟨⟨k+1,ka,hpre⟩,?_,?_⟩
   ·rfl
   ·simp only [];omega
 ·have ka:k=l.length:=by simp only [Zx2] at h1;omega
  subst ka;rw [List.drop_length] at hpre;refine Ep0 ?_;refine Rp1 [2] (x2 @xlm h3) ?_;refine Tp0 ?_;unfold shortB;rw [hpre];exact View.refl _ _
theorem wordsB_eq (u:Un):wordsB u=(briefB u&&u.kids.all wordsB):=unitsT_all briefB u
theorem sp_ref06_words {u:Un} (hu:UnB u):Zam Tryz.prog 54 [.agg u.enc] (.bool (wordsB u)):=by
 induction hu with
 | mk u h hl hh hw hk hs ih =>
  have H:=sp_ref06_short u.head hh.1 (fun w hw=>(hh.2 w hw).text);have W:=sp_ref06_short u.words hw.1 (fun w hx=>(hw.2 w hx).text);have h2:decide ((30:Int)<(u.label.length:Int)) = !(decide (u.label.length≤30)):=by
   by_cases h:u.label.length≤30
   ·rw [decide_eq_true h,decide_eq_false (by omega)];rfl
   ·rw [decide_eq_false h,decide_eq_true (by omega)];rfl
  rw [wordsB_eq];have hbr:briefB u=(decide (u.label.length≤30)&&(shortB u.head&&shortB u.words)):=rfl;rw [hbr];refine Gp (vc:=c_pandectref06_words) [.t 2] (cB _) Tryz.func54 ?_;unfold c_pandectref06_words;try dsimp only [ZM,ZO,ZN,ZG,ZR,ZU]
  rw [Un.Zaf];refine Rp0 [1] ?_;refine Zaw [(1,.ro [pI u.act,pI u.item,pI u.n,pI u.kind,.str u.label,.sl 4 (u.head.map Wd.enc),.sl 4 (u.words.map Wd.enc),.sl 8 (u.kids.map Un.enc)])] ⟨View.loc (z:=8) (fz:=false) (es:=[[pI u.act,pI u.item,pI u.n,pI u.kind,.str u.label,.sl 4 (u.head.map Wd.enc),.sl 4 (u.words.map Wd.enc),.sl 8 (u.kids.map Un.enc)]]) rfl (by simp) rfl (by simp),trivial⟩ ?_;generalize u.head.map Wd.enc=EH at H ⊢;generalize u.words.map Wd.enc=EW at W ⊢;generalize u.kids=L at hk hs ih ⊢;generalize shortB u.head=bh at H ⊢;generalize shortB u.words=bw at W ⊢;clear hbr;refine Zaa ?_;cases d1:decide (u.label.length≤30) with
  | false =>
   rw [d1] at h2;refine Rp1 [1,19] h2 ?_;refine Ct ?_;exact Rv0 [2]
  | true =>
  rw [d1] at h2;cases bh with
  | false =>
   refine Rp1 [1,19] h2 ?_;refine Ap0 H ?_;refine Ct ?_;exact Rv0 [2]
  | true =>
  cases bw with
  | false =>
   refine Rp1 [1,19] h2 ?_;refine Ap0 H ?_;refine Ap0 W ?_;refine Ct ?_;exact Rv0 [2]
  | true =>
  refine Rp1 [1,19] h2 ?_;refine Ap0 H ?_;refine Ap0 W ?_;refine Fp0 ?_;refine Zaa ?_;refine Rp0 [1,3] ?_;refine Zab ?_;refine Zak (σ:={ x:Nat×Nat//x.1≤L.length∧L.all wordsB=(L.drop x.1).all wordsB }) (fun x=>([(1,.ro [pI u.act,pI u.item,pI u.n,pI u.kind,.str u.label,.sl 4 EH,.sl 4 EW,.sl 8 (L.map Un.enc)]),(3,pI x.1.1)],⟨[],x.1.2⟩)) (fun x=>L.length-x.1.1) ⟨(0,1),Nat.zero_le _,rfl⟩ ?_ ?_ ?_
  ·exact Fn0
  ·exact Sc0
  rintro ⟨⟨k,t⟩,hkk,hpre⟩;simp only [] at hkk hpre ⊢;refine Zaa ?_;refine Rp1 [1,3,24] @xlm ?_;refine Zac rfl (fun h1=>?_) (fun h1=>?_)
  ·have ka:k<L.length:=by simp only [Zx3] at h1;omega
   have hd:L.drop k=L[k]::L.drop (k+1):=List.drop_eq_getElem_cons ka;rw [hd,List.all_cons] at hpre;have hrow:(L.map Un.enc).getD k []=L[k].enc:=rowm ka;have R:=ih _ (List.getElem_mem ka);generalize L[k]=v at hpre hrow R;rw [Un.Zaf] at hrow R;refine Kp0 ?_;refine Zaa ?_;refine Zab ?_;refine Rp1 [1,3,33] (x2 @xlm hrow) ?_;refine Ok ?_;refine Ap0 R ?_;cases hq:wordsB v with
   | false =>
    refine Ct ?_;refine Rp0 [2] ?_;refine Tp0 ?_;rw [hpre,hq];exact View.refl _ _
   | true =>
    rw [hq,Bool.true_and] at hpre;refine Fp0 ?_;refine rp1 [1,3] (ad1 (a:=k) (by omega)) ?_;refine ⟨⟨(k+1,t),ka,hpre⟩,?_⟩;exact Fn0
  ·have ka:k=L.length:=by simp only [Zx2] at h1;omega
   subst ka;rw [List.drop_length] at hpre;refine Ep0 ?_;refine Rp0 [2] ?_;refine Tp0 ?_;rw [hpre];exact View.refl _ _
theorem sp_ref06_Few {u:Un} (hu:UnB u) (m:Int) (h0:0≤m) (h1:m≤1000):Zam Tryz.prog 24 [.agg u.enc,pI m] (.bool (fewB u m)):=by
 have S:=sp_ref06_size 21 u m (Nat.le_refl _) h0 h1;have e:(21:Int)-((21:Nat):Int)=0:=rfl;rw [e] at S;have W:=sp_ref06_words hu;unfold fewB;refine Gp (vc:=c_pandectref06_Few) [.t 4] (cB _) Tryz.func24 ?_;unfold c_pandectref06_Few;try dsimp only [ZM,ZO,ZN,ZG,ZR,ZU]
 rw [Un.Zaf] at S W ⊢;refine Rp0 [1,2] ?_;cases d1:decide (sizeT 21 u m≤m) with
 | false =>
  refine Rp0 [4] ?_;refine Zaq S ?_;try simp only [vmL,Nat.reduceEqDiff,d1]
  exact Tv0
 | true =>
  refine Rp0 [4] ?_;refine Zaq S ?_;try simp only [vmL,Nat.reduceEqDiff,Nat.reduceAdd,Nat.reduceLT,d1]
  refine Zaq W ?_;exact Tv0
theorem pagP_cases {u:Un} (hs:SmT u) (w m:Int):((pagP u w m).2≠0∧(pagP u w m).1=[])∨∃ P,pagP u w m=(pgsF u 0 P,0)∧wrongP u w=0∧2≤m∧m≤200∧pagesG m (bodyP u w)=some P∧PgsI m (bodyP u w) P:=by
 unfold pagP;by_cases hw:wrongP u w=0
 ·rw [if_pos hw];by_cases hm:m<2∨200<m
  ·rw [if_pos hm];exact .inl ⟨by simp,rfl⟩
  ·rw [if_neg hm];cases hg:pagesG m (bodyP u w) with
   | none=>exact .inl ⟨by simp,rfl⟩
   | some P =>
    obtain ⟨hr,h1,h2⟩:=good_wrong hs hw;have hl:Zcs (bodyP u w):=kids_last hs fun x hx=>(good_all hs hr h1 h2 x hx).1;exact .inr ⟨P,rfl,hw,by omega,by omega,rfl,pagesG_inv hl hg⟩
 ·rw [if_neg hw];exact .inl ⟨hw,rfl⟩
theorem pgsF_get (u:Un):∀ (P:List (List Ln)) (n k:Nat) (hk:k<P.length),(pgsF u n P)[k]?=some (pageP u ((n+k+1:Nat):Int) P[k])
 | a::P,n,0,hk=>rfl
 | a::P,n,k+1,hk=>by
  have h:k<P.length:=by simpa using hk
  rw [pgsF,List.getElem?_cons_succ,pgsF_get u P (n+1) k h,show n+1+k+1=n+(k+1)+1 by omega];rfl
theorem pgs_row (u:Un) {P:List (List Ln)} {k:Nat} (hk:k<P.length):((pgsF u 0 P).map Pg.enc).getD k []=(pageP u ((k+1:Nat):Int) P[k]).enc:=by
 rw [Zx1,List.getElem?_map,pgsF_get u P 0 k hk,Nat.zero_add];rfl
theorem body_le {u:Un} (hs:SmT u) (hn:(unitsT u).length≤1000) (w:Int):(bodyP u w).length≤602000∧Za0 (bodyP u w)≤362404000:=by
 have h1:=kidsB_le hs w true u.kids.length;rw [List.take_length] at h1;have h2:=notes_kids hs hn w;rw [Zaj,List.length_cons] at hn;unfold bodyP;omega
end Go.Proofs.w
