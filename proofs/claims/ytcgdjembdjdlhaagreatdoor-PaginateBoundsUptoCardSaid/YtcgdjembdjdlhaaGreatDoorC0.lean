import Derived.Test.YtcgdjembdjdlhaaGreatDoorV0
import Derived.Test.YtcgdjembdjdlhaaGreatDoorVmPk
import Derived.Test.YtcgdjembdjdlhaaGreatDoorShG
import Derived.Test.YtcgdjembdjdlhaaGreatDoorVmBa
import Derived.Test.YtcgdjembdjdlhaaGreatDoorVmZ
set_option linter.all false
set_option maxRecDepth 20000
set_option maxHeartbeats 0
namespace Go.VM
open Go
def Zc2 (L:List (List (List PV))):Nat:=(L.map List.length).sum
theorem lensR_flat (L:List (List (List PV))):L.flatten.length=Zc2 L:=by simp [Zc2,List.length_flatten]
theorem lensR_step {L:List (List (List PV))} {k:Nat} (h:k<L.length):Zc2 (L.take (k+1))=Zc2 (L.take k)+L[k].length:=by
 unfold Zc2;rw [List.take_add_one,List.getElem?_eq_getElem h,List.map_append,List.sum_append];simp
theorem flatR_step {L:List (List (List PV))} {k:Nat} (h:k<L.length):(L.take (k+1)).flatten=(L.take k).flatten++L[k]:=by
 rw [List.take_add_one,List.getElem?_eq_getElem h,List.flatten_append];simp
theorem lensR_take (L:List (List (List PV))) (k:Nat):Zc2 (L.take k)≤Zc2 L:=by
 have:Zc2 L=Zc2 (L.take k)+Zc2 (L.drop k):=by unfold Zc2;rw [← List.sum_append,← List.map_append,List.take_append_drop]
 omega
def enW (z:Nat) (x:List (List PV)):List PV:=[.sl z x]
end Go.VM
namespace Go.Proofs.YtcgdjembdjdlhaaGreatDoor.w
open Go Go.VM
def c_slices_Concat_Word : VC := (ZR [ZO 2 (.mv (.c .nilsl))] (ZR [ZO 3 (.mv (.c (.int .i64 0)))] (.seq (ZR [ZM 9 0,ZO 10 (.len false (.t 9)),ZO 11 (.mv (.c (.int .i64 0)))] (.block 0 (.loop (ZR [ZO 12 (.bin .lss (.t 11) (.t 10))] (.seq (.cond (.t 12) .skip (.exit 0)) (.seq (.block 1 (ZR [ZO 13 (.iaddr 1 (.t 9) (.t 11)),ZO 14 (.load false 1 (.t 13)),ZM 5 14] (ZR [ZM 15 3,ZM 16 5,ZO 17 (.len false (.t 16)),ZO 18 (.bin .add (.t 15) (.t 17)),ZM 3 18] (ZR [ZM 19 3,ZO 20 (.bin .lss (.t 19) (.c (.int .i64 0)))] (.cond (.t 20) (.region [ZO 21 (.other ({ dst := some 21,op := Op.makeInterface 9 (Operand.const (Value.string { data := #[108,101,110,32,111,117,116,32,111,102,32,114,97,110,103,101] })),type := 20,pos := "slices.go:496",after := #[],guard := none } : Oper)),ZN (.other ({ dst := none,op := Op.panic (Operand.tmp 21),type := 0,pos := "slices.go:496",after := #[{ on := 0,ground := Ground.data }],guard := none } : Oper))] false) .skip))))) (.region [ZO 22 (.bin .add (.t 11) (.c (.int .i64 1))),ZM 11 22] false))))))) (ZR [ZM 23 3,ZO 24 (.call 175 [(.c .nilsl),.t 23]),ZM 6 24] (.seq (ZR [ZM 25 0,ZO 26 (.len false (.t 25)),ZO 27 (.mv (.c (.int .i64 0)))] (.block 2 (.loop (ZR [ZO 28 (.bin .lss (.t 27) (.t 26))] (.seq (.cond (.t 28) .skip (.exit 2)) (.seq (.block 3 (ZR [ZO 29 (.iaddr 1 (.t 25) (.t 27)),ZO 30 (.load false 1 (.t 29)),ZM 8 30] (.region [ZM 31 6,ZM 32 8,ZO 33 (.app 4 40 [(.str []),.int .i64 0,.int .i64 0,.int .i64 0] false (.t 31) (.t 32)),ZM 6 33] false))) (.region [ZO 34 (.bin .add (.t 27) (.c (.int .i64 1))),ZM 27 34] false))))))) (ZR [ZM 35 6,ZM 2 35] .ret))))))
def c_slices_Concat_line : VC := (ZR [ZO 2 (.mv (.c .nilsl))] (ZR [ZO 3 (.mv (.c (.int .i64 0)))] (.seq (ZR [ZM 9 0,ZO 10 (.len false (.t 9)),ZO 11 (.mv (.c (.int .i64 0)))] (.block 0 (.loop (ZR [ZO 12 (.bin .lss (.t 11) (.t 10))] (.seq (.cond (.t 12) .skip (.exit 0)) (.seq (.block 1 (ZR [ZO 13 (.iaddr 1 (.t 9) (.t 11)),ZO 14 (.load false 1 (.t 13)),ZM 5 14] (ZR [ZM 15 3,ZM 16 5,ZO 17 (.len false (.t 16)),ZO 18 (.bin .add (.t 15) (.t 17)),ZM 3 18] (ZR [ZM 19 3,ZO 20 (.bin .lss (.t 19) (.c (.int .i64 0)))] (.cond (.t 20) (.region [ZO 21 (.other ({ dst := some 21,op := Op.makeInterface 9 (Operand.const (Value.string { data := #[108,101,110,32,111,117,116,32,111,102,32,114,97,110,103,101] })),type := 20,pos := "slices.go:496",after := #[],guard := none } : Oper)),ZN (.other ({ dst := none,op := Op.panic (Operand.tmp 21),type := 0,pos := "slices.go:496",after := #[{ on := 0,ground := Ground.data }],guard := none } : Oper))] false) .skip))))) (.region [ZO 22 (.bin .add (.t 11) (.c (.int .i64 1))),ZM 11 22] false))))))) (ZR [ZM 23 3,ZO 24 (.call 65 [(.c .nilsl),.t 23]),ZM 6 24] (.seq (ZR [ZM 25 0,ZO 26 (.len false (.t 25)),ZO 27 (.mv (.c (.int .i64 0)))] (.block 2 (.loop (ZR [ZO 28 (.bin .lss (.t 27) (.t 26))] (.seq (.cond (.t 28) .skip (.exit 2)) (.seq (.block 3 (ZR [ZO 29 (.iaddr 1 (.t 25) (.t 27)),ZO 30 (.load false 1 (.t 29)),ZM 8 30] (.region [ZM 31 6,ZM 32 8,ZO 33 (.app 6 72 [(.str []),.int .i64 0,.int .i64 0,.int .i64 0,(.bool false),.nilsl] false (.t 31) (.t 32)),ZM 6 33] false))) (.region [ZO 34 (.bin .add (.t 27) (.c (.int .i64 1))),ZM 27 34] false))))))) (ZR [ZM 35 6,ZM 2 35] .ret))))))
theorem grow_Word (n:Nat) (hn:n≤1000000) (h:Heap):Zal Tryz.prog 175 [.nilsl,pI n] h (fun p h'=>p=.own h.top 0 0∧h'=h.push (.arr false 4 [])):=by
 obtain ⟨i0,v0,hi,hz,hc,hs,hb⟩:∃ i0 v0,Tryz.prog.info? 116=some i0∧i0.zero=some v0∧v0.cells.size=4∧i0.size=4∧i0.bytes=40:=by
  have h:(Tryz.prog.info? 116).map (fun i=>(i.zero.map fun v=>v.cells.size,i.size,i.bytes))=some (some 4,4,40):=by kernel_rfl
  obtain ⟨i,h1,h2⟩:=Option.map_eq_some_iff.1 h;simp only [Prod.mk.injEq,Option.map_eq_some_iff] at h2;obtain ⟨⟨v0,h3,h4⟩,h5,h6⟩:=h2;exact ⟨i,v0,h1,h3,h4,h5,h6⟩
 exact ACall_growZ Tryz.growW (by kernel_rfl) i0 v0 hi hz (by omega) hs hc n (by rw [hb];omega) (by omega) h
theorem sp_Concat_Word (id t : Nat) (L2 : List (Nat × AB)) (hid : id < t) (hlt : ∀ q ∈ L2, q.1 < t) (hnod : Nod L2) (hoff : Off L2 id) (L : List (List (List PV))) (hL : L.length ≤ 1000) (hl : Zc2 L ≤ 100000) :
  Zal Tryz.prog 133 [.own id 0 L.length] ⟨(id,.arr false 1 (L.map (enW 4)))::L2,t⟩
   (fun p h'=>∃ id2 t2,id≠id2∧id2<t2∧t≤id2∧p=.own id2 0 L.flatten.length∧h'=⟨(id2,.arr false 4 L.flatten)::(id,.arr false 1 (L.map (enW 4)))::L2,t2⟩):=by
 refine Zal.drop ?_;refine Gn (vc:=c_slices_Concat_Word) [.t 2] Tryz.func133 ?_;unfold c_slices_Concat_Word;try dsimp only [ZM,ZO,ZN,ZG,ZR,ZU]
 have qq:=N3 id t (t+1);have ot:Off L2 t:=Off.lt hlt (Nat.le_refl _);have gt:=ot.get;have dt:=ot.del;refine Rp0 [0] ?_;refine Rp0 [0,3] ?_;refine Zaa ?_;refine Rp0 [0,3,9,10,11] ?_;refine Zab ?_;refine Zah (σ:={ k:Nat//k≤L.length }) (fun s=>([(0,.own id 0 L.length),(3,pI (Zc2 (L.take s.1))),(9,.own id 0 L.length),(10,pI L.length),(11,pI s.1)],⟨(id,.arr false 1 (L.map (enW 4)))::L2,t⟩)) (fun s=>L.length-s.1) ⟨0,Nat.zero_le _⟩ ?_ ?_ ?_
 ·try simp only [vmL,Nat.reduceEqDiff,reduceCtorEq,qq,List.take_zero,Zc2]
  all_goals (repeat' (first|rfl|trivial|omega|(simp only [];omega)|refine And.intro ?_ ?_))
 ·refine Sp1 qq ?_;exact HL.le_tail1 hnod hoff _
 rintro ⟨k,hk⟩;simp only [];refine Rp1 [0,3,9,10,11,12] qq ?_;refine Zaa ?_;refine Zac rfl (fun h1=>?_) (fun h1=>?_)
 ·simp only [decide_eq_true_eq] at h1;have ka:k<L.length:=by omega
  have hst:=lensR_step ka;have htk:=lensR_take L (k+1);refine Kp0 ?_;refine Zaa ?_;refine Zab ?_;refine Zaa (Zae [0,3,5,9,10,11] ?_);simp only [vmL,Nat.reduceEqDiff,reduceCtorEq,List.length_map,rowm ka,enW,qq];refine Ok ?_;refine Rp1 [0,3,9,10,11] (x2 (w64 (n:=(Zc2 (L.take k):Int)+(L[k].length:Int)) (by omega) (by omega)) qq) ?_;refine Rp1 [0,3,9,10,11,20] qq ?_;refine Zac rfl (fun h2=>?_) (fun h2=>?_)
  ·simp only [decide_eq_true_eq] at h2;omega
  refine Kp0 ?_;refine rp1 [0,3,9,10,11] (x2 (ad1 (a:=k) (by omega)) qq) ?_;refine ⟨⟨k+1,ka⟩,?_⟩;have e:(Zc2 (L.take k):Int)+(L[k].length:Int)=(Zc2 (L.take (k+1)):Nat):=by omega
  try simp only [vmL,qq,e]
  all_goals (repeat' (first|rfl|trivial|omega|(simp only [];omega)|refine And.intro ?_ ?_))
  exact HL.le_tail1 hnod hoff _
 simp only [decide_eq_false_iff_not] at h1;obtain rfl:k=L.length:=by omega
 rw [List.take_length];refine Ep0 ?_;refine Rp1 [0,6] qq ?_;refine Zal.mono (grow_Word (Zc2 L) (by omega) _) ?_;rintro p h' ⟨rfl,rfl⟩;refine Sp1 qq ?_;have hfin:Zc2 L≤100000:=hl;refine Zaa ?_;refine Rp1 [6,25,26,27] qq ?_;refine Zab ?_;refine Zah (σ:={ s:Nat×Nat×Nat//s.1≤L.length∧id<s.2.1∧s.2.1<s.2.2∧t≤s.2.1 }) (fun s=>([(6,.own s.1.2.1 0 (L.take s.1.1).flatten.length),(25,.own id 0 L.length),(26,pI L.length),(27,pI s.1.1)],⟨(s.1.2.1,.arr false 4 (L.take s.1.1).flatten)::(id,.arr false 1 (L.map (enW 4)))::L2,s.1.2.2⟩)) (fun s=>L.length-s.1.1) ⟨(0,t,t+1),Nat.zero_le _,hid,by simp,Nat.le_refl _⟩ ?_ ?_ ?_
 ·try simp only [vmL,Nat.reduceEqDiff,qq,List.take_zero,List.flatten_nil]
  all_goals (repeat' (first|rfl|trivial|omega|(simp only [];omega)|refine And.intro ?_ ?_))
 ·refine Sp1 qq ?_;exact ⟨rfl,HL.le_tail2 hnod ot hoff _⟩
 rintro ⟨⟨k,i2,n⟩,hk,h2,h3,h4⟩;simp only [] at hk h2 h3 h4 ⊢;have qq:=N4 id i2 n (n+1);have o2:Off L2 i2:=Off.lt hlt h4;have on:Off L2 n:=Off.lt hlt (by omega);have g2:=o2.get;have d2:=o2.del;have gn:=on.get;have dn:=on.del;refine Rp1 [6,25,26,27,28] qq ?_;refine Zaa ?_;refine Zac rfl (fun h1=>?_) (fun h1=>?_)
 ·simp only [decide_eq_true_eq] at h1;have ka:k<L.length:=by omega
  have hst:=flatR_step ka;have hF:(L.take k).flatten.length≤100000:=by have:=lensR_take L k;rw [lensR_flat];omega
  have hLk:(L.take k).flatten.length+L[k].length≤100000:=by have:=lensR_take L (k+1);rw [lensR_step ka] at this;rw [lensR_flat];omega
  refine Kp0 ?_;refine Zaa ?_;refine Zab ?_;refine Zaa (Zae [6,8,25,26,27] ?_);simp only [vmL,Nat.reduceEqDiff,List.length_map,rowm ka,enW,qq];refine Ok ?_;generalize (L.take k).flatten=F at hst hF hLk ⊢;generalize L[k]=x at hst hLk ⊢;have e2:F.length+x.length=(L.take (k+1)).flatten.length:=by rw [hst,List.length_append]
  have tF:List.take F.length F=F:=List.take_length;refine Zae [6,25,26,27] ?_;simp only [vmL,Nat.reduceEqDiff,tF,← hst,g2,d2,gn,dn,qq];refine ⟨by omega,by omega,?_⟩;refine rp1 [6,25,26,27] (x2 (ad1 (a:=k) (by omega)) qq) ?_;refine ⟨⟨(k+1,n,n+1),ka,by show id<n;omega,by simp,by show t≤n;omega⟩,?_⟩;simp only [← e2];try simp only [vmL,qq,g2,d2,gn,dn]
  all_goals (repeat' (first|rfl|trivial|omega|(simp only [];omega)|refine And.intro ?_ ?_))
  exact HL.le_tail2 hnod on hoff _
 simp only [decide_eq_false_iff_not] at h1;obtain rfl:k=L.length:=by omega
 rw [List.take_length];refine Ep0 ?_;refine Rp1 [2] qq ?_;refine Tp0 ?_;refine ⟨⟨(i2,.arr false 4 L.flatten)::(id,.arr false 1 (L.map (enW 4)))::L2,n⟩,?_,i2,n,by omega,h3,by omega,rfl,rfl⟩;try simp only [vmL,qq]
 all_goals (repeat' (first|rfl|trivial|omega|(simp only [];omega)|refine And.intro ?_ ?_))
 exact HL.le_tail2 hnod o2 hoff _
theorem grow_line (n:Nat) (hn:n≤1000000) (h:Heap):Zal Tryz.prog 65 [.nilsl,pI n] h (fun p h'=>p=.own h.top 0 0∧h'=h.push (.arr false 6 [])):=by
 obtain ⟨i0,v0,hi,hz,hc,hs,hb⟩:∃ i0 v0,Tryz.prog.info? 72=some i0∧i0.zero=some v0∧v0.cells.size=6∧i0.size=6∧i0.bytes=72:=by
  have h:(Tryz.prog.info? 72).map (fun i=>(i.zero.map fun v=>v.cells.size,i.size,i.bytes))=some (some 6,6,72):=by kernel_rfl
  obtain ⟨i,h1,h2⟩:=Option.map_eq_some_iff.1 h;simp only [Prod.mk.injEq,Option.map_eq_some_iff] at h2;obtain ⟨⟨v0,h3,h4⟩,h5,h6⟩:=h2;exact ⟨i,v0,h1,h3,h4,h5,h6⟩
 exact ACall_growZ Tryz.growL (by kernel_rfl) i0 v0 hi hz (by omega) hs hc n (by rw [hb];omega) (by omega) h
end Go.Proofs.YtcgdjembdjdlhaaGreatDoor.w
namespace Go.Proofs.YtcgdjembdjdlhaaGreatDoor.w
open Go Go.VM
def Zcq:VC:=(ZR [ZO 4 (.mv (.c (.int .i64 0)))] (.seq (ZR [ZM 6 0,ZO 7 (.len false (.t 6)),ZO 8 (.mv (.c (.int .i64 0)))] (.block 0 (.loop (ZR [ZO 9 (.bin .lss (.t 8) (.t 7))] (.seq (.cond (.t 9) .skip (.exit 0)) (.seq (.block 1 (ZR [ZM 10 8,ZM 5 10] (ZR [ZM 11 1,ZM 12 0,ZM 13 5,ZO 14 (.iaddr 1 (.t 12) (.t 13)),ZO 15 (.load false 1 (.t 14)),ZO 16 (.callv (.t 11) [.t 15])] (.cond (.t 16) (ZR [ZM 17 5,ZM 4 17] .ret) .skip)))) (.region [ZO 18 (.bin .add (.t 8) (.c (.int .i64 1))),ZM 8 18] false))))))) (ZR [ZO 4 (.mv (.c (.int .i64 (-1))))] .ret)))
def c_slices_IndexFunc_byte:VC:=(ZR [ZO 4 (.mv (.c (.int .i64 0)))] (.seq (ZR [ZM 6 0,ZO 7 (.len false (.t 6)),ZO 8 (.mv (.c (.int .i64 0)))] (.block 0 (.loop (ZR [ZO 9 (.bin .lss (.t 8) (.t 7))] (.seq (.cond (.t 9) .skip (.exit 0)) (.seq (.block 1 (ZR [ZM 10 8,ZM 5 10] (ZR [ZM 11 1,ZM 12 0,ZM 13 5,ZO 14 (.iaddr 1 (.t 12) (.t 13)),ZO 15 (.load false 1 (.t 14)),ZO 16 (.callv (.t 11) [.t 15])] (.cond (.t 16) (ZR [ZM 17 5,ZM 4 17] .ret) .skip)))) (.region [ZO 18 (.bin .add (.t 8) (.c (.int .i64 1))),ZM 8 18] false))))))) (ZR [ZO 4 (.mv (.c (.int .i64 (-1))))] .ret)))
def c_slices_IndexFunc_int:VC:=(ZR [ZO 4 (.mv (.c (.int .i64 0)))] (.seq (ZR [ZM 6 0,ZO 7 (.len false (.t 6)),ZO 8 (.mv (.c (.int .i64 0)))] (.block 0 (.loop (ZR [ZO 9 (.bin .lss (.t 8) (.t 7))] (.seq (.cond (.t 9) .skip (.exit 0)) (.seq (.block 1 (ZR [ZM 10 8,ZM 5 10] (ZR [ZM 11 1,ZM 12 0,ZM 13 5,ZO 14 (.iaddr 1 (.t 12) (.t 13)),ZO 15 (.load false 1 (.t 14)),ZO 16 (.callv (.t 11) [.t 15])] (.cond (.t 16) (ZR [ZM 17 5,ZM 4 17] .ret) .skip)))) (.region [ZO 18 (.bin .add (.t 8) (.c (.int .i64 1))),ZM 8 18] false))))))) (ZR [ZO 4 (.mv (.c (.int .i64 (-1))))] .ret)))
def c_slices_IndexFunc_Word:VC:=(ZR [ZO 4 (.mv (.c (.int .i64 0)))] (.seq (ZR [ZM 6 0,ZO 7 (.len false (.t 6)),ZO 8 (.mv (.c (.int .i64 0)))] (.block 0 (.loop (ZR [ZO 9 (.bin .lss (.t 8) (.t 7))] (.seq (.cond (.t 9) .skip (.exit 0)) (.seq (.block 1 (ZR [ZM 10 8,ZM 5 10] (ZR [ZM 11 1,ZM 12 0,ZM 13 5,ZO 14 (.iaddr 4 (.t 12) (.t 13)),ZO 15 (.load true 4 (.t 14)),ZO 16 (.callv (.t 11) [.t 15])] (.cond (.t 16) (ZR [ZM 17 5,ZM 4 17] .ret) .skip)))) (.region [ZO 18 (.bin .add (.t 8) (.c (.int .i64 1))),ZM 8 18] false))))))) (ZR [ZO 4 (.mv (.c (.int .i64 (-1))))] .ret)))
def c_slices_IndexFunc_Id:VC:=(ZR [ZO 4 (.mv (.c (.int .i64 0)))] (.seq (ZR [ZM 6 0,ZO 7 (.len false (.t 6)),ZO 8 (.mv (.c (.int .i64 0)))] (.block 0 (.loop (ZR [ZO 9 (.bin .lss (.t 8) (.t 7))] (.seq (.cond (.t 9) .skip (.exit 0)) (.seq (.block 1 (ZR [ZM 10 8,ZM 5 10] (ZR [ZM 11 1,ZM 12 0,ZM 13 5,ZO 14 (.iaddr 3 (.t 12) (.t 13)),ZO 15 (.load true 3 (.t 14)),ZO 16 (.callv (.t 11) [.t 15])] (.cond (.t 16) (ZR [ZM 17 5,ZM 4 17] .ret) .skip)))) (.region [ZO 18 (.bin .add (.t 8) (.c (.int .i64 1))),ZM 8 18] false))))))) (ZR [ZO 4 (.mv (.c (.int .i64 (-1))))] .ret)))
def c_slices_IndexFunc_Unit:VC:=(ZR [ZO 4 (.mv (.c (.int .i64 0)))] (.seq (ZR [ZM 6 0,ZO 7 (.len false (.t 6)),ZO 8 (.mv (.c (.int .i64 0)))] (.block 0 (.loop (ZR [ZO 9 (.bin .lss (.t 8) (.t 7))] (.seq (.cond (.t 9) .skip (.exit 0)) (.seq (.block 1 (ZR [ZM 10 8,ZM 5 10] (ZR [ZM 11 1,ZM 12 0,ZM 13 5,ZO 14 (.iaddr 8 (.t 12) (.t 13)),ZO 15 (.load true 8 (.t 14)),ZO 16 (.callv (.t 11) [.t 15])] (.cond (.t 16) (ZR [ZM 17 5,ZM 4 17] .ret) .skip)))) (.region [ZO 18 (.bin .add (.t 8) (.c (.int .i64 1))),ZM 8 18] false))))))) (ZR [ZO 4 (.mv (.c (.int .i64 (-1))))] .ret)))
def Zca:VC:=(ZR [ZO 4 (.mv (.c (.bool false)))] (ZR [ZM 5 0,ZM 6 1,ZO 7 (.call 215 [.t 5,.t 6]),ZO 8 (.bin .geq (.t 7) (.c (.int .i64 0))),ZM 4 8] .ret))
def Zcl:VC:=(ZR [ZO 4 (.mv (.c (.bool false)))] (ZR [ZM 5 0,ZM 6 1,ZO 7 (.call 273 [.t 5,.t 6]),ZO 8 (.bin .geq (.t 7) (.c (.int .i64 0))),ZM 4 8] .ret))
def Zcy:VC:=(ZR [ZO 4 (.mv (.c (.bool false)))] (ZR [ZM 5 0,ZM 6 1,ZO 7 (.call 205 [.t 5,.t 6]),ZO 8 (.bin .geq (.t 7) (.c (.int .i64 0))),ZM 4 8] .ret))
theorem sp_IndexFunc_string (l : List Str) (f : FuncId) (cap : List PV) (p : Str → Bool) (hl : l.length ≤ 1000000) (hc : Za0 cap) (hp : ∀ x ∈ l, Zak Tryz.prog f ((PV.str x) :: cap) (.bool (p x))) :
  Zak Tryz.prog 215 [.sl 1 (l.map fun x=>[PV.str x]),.fn (.func f) [] cap] (pI (idxF p l)):=by
 refine Zad ?_ (cI _) (by intro x hx;simp only [List.mem_cons,List.not_mem_nil,or_false] at hx;rcases hx with rfl|rfl;exact Zaj (fun a _ x hx=>by simp only [List.mem_cons,List.not_mem_nil,or_false] at hx;subst hx;exact Closed.of_scalar (by first|exact Zcv _ _|exact scalar_str _));exact Zbt hc);refine Gn (vc:=Zcq) [.t 4] Tryz.func215 ?_;unfold Zcq;try dsimp only [ZM,ZO,ZN,ZG,ZR,ZU]
 refine Rp0 [0,1] ?_;refine Zaa ?_;refine Rp1 [0,1,7,8] @xlm ?_;refine Zab ?_;refine Zah (σ:={ k:Nat//k≤l.length∧∀ (j:Nat) (hj:j<l.length),j<k→p l[j]=false }) (fun x=>([(0,.sl 1 (l.map fun x=>[PV.str x])),(1,.fn (.func f) [] cap),(7,pI l.length),(8,pI x.1)],⟨[],0⟩)) (fun x=>l.length-x.1) ⟨0,Nat.zero_le _,fun j _ h=>by cases h⟩ ?_ ?_ ?_
 ·refine Sp0 ?_;rfl
 ·exact Sc0
 rintro ⟨k,hk,hpre⟩;simp only [];refine Rp0 [0,1,7,8,9] ?_;refine Zaa ?_;refine Zac rfl (fun h1=>?_) (fun h1=>?_)
 ·have ka:k<l.length:=by simp only [decide_eq_true_eq] at h1;omega
  have hcall:=hp l[k] (List.getElem_mem ka);have hrow:(l.map fun x=>[PV.str x]).getD k []=(fun x:Str=>[PV.str x]) l[k]:=rowm ka;simp only [] at hrow;generalize hx:l[k]=y at hcall hrow;refine Kp0 ?_;refine Zaa ?_;refine Zab ?_;refine Rp0 [0,1,5,7,8] ?_;refine Rp1 [0,1,5,7,8,16] (x2 @xlm hrow) ?_;refine Ok ?_;refine Zao hcall ?_;cases hq:p y with
  | true =>
   refine Ct ?_;refine Rp0 [4] ?_;refine Tp0 ?_;rw [idxF_at p l k ka hpre (by rw [hx];exact hq)];exact View.refl _ _
  | false =>
   refine Fp0 ?_;refine rp1 [0,1,7,8] (w64 (n:=(k:Int)+1) (by omega) (by omega)) ?_;refine ⟨⟨k+1,ka,fun j hj hjk=>?_⟩,?_,?_⟩
   ·by_cases e:j=k
    ·subst e;rw [hx];exact hq
    ·exact hpre j hj (by omega)
   ·rfl
   ·simp only [];omega
 ·have ka:k=l.length:=by simp only [decide_eq_false_iff_not] at h1;omega
  refine Ep0 ?_;refine Rp0 [4] ?_;refine Tp0 ?_;rw [idxF_none p l (fun j hj=>hpre j hj (by omega))];exact View.refl _ _
theorem sp_IndexFunc_byte (l : List UInt8) (f : FuncId) (cap : List PV) (p : UInt8 → Bool) (hl : l.length ≤ 1000000) (hc : Za0 cap) (hp : ∀ x ∈ l, Zak Tryz.prog f ((PV.int .u8 (x.toNat : Int)) :: cap) (.bool (p x))) :
  Zak Tryz.prog 273 [.sl 1 (l.map fun x=>[PV.int .u8 (x.toNat:Int)]),.fn (.func f) [] cap] (pI (idxF p l)):=by
 refine Zad ?_ (cI _) (by intro x hx;simp only [List.mem_cons,List.not_mem_nil,or_false] at hx;rcases hx with rfl|rfl;exact Zaj (fun a _ x hx=>by simp only [List.mem_cons,List.not_mem_nil,or_false] at hx;subst hx;exact Closed.of_scalar (by first|exact Zcv _ _|exact scalar_str _));exact Zbt hc);refine Gn (vc:=c_slices_IndexFunc_byte) [.t 4] Tryz.func273 ?_;unfold c_slices_IndexFunc_byte;try dsimp only [ZM,ZO,ZN,ZG,ZR,ZU]
 refine Rp0 [0,1] ?_;refine Zaa ?_;refine Rp1 [0,1,7,8] @xlm ?_;refine Zab ?_;refine Zah (σ:={ k:Nat//k≤l.length∧∀ (j:Nat) (hj:j<l.length),j<k→p l[j]=false }) (fun x=>([(0,.sl 1 (l.map fun x=>[PV.int .u8 (x.toNat:Int)])),(1,.fn (.func f) [] cap),(7,pI l.length),(8,pI x.1)],⟨[],0⟩)) (fun x=>l.length-x.1) ⟨0,Nat.zero_le _,fun j _ h=>by cases h⟩ ?_ ?_ ?_
 ·refine Sp0 ?_;rfl
 ·exact Sc0
 rintro ⟨k,hk,hpre⟩;simp only [];refine Rp0 [0,1,7,8,9] ?_;refine Zaa ?_;refine Zac rfl (fun h1=>?_) (fun h1=>?_)
 ·have ka:k<l.length:=by simp only [decide_eq_true_eq] at h1;omega
  have hcall:=hp l[k] (List.getElem_mem ka);have hrow:(l.map fun x=>[PV.int .u8 (x.toNat:Int)]).getD k []=(fun x:UInt8=>[PV.int .u8 (x.toNat:Int)]) l[k]:=rowm ka;simp only [] at hrow;generalize hx:l[k]=y at hcall hrow;refine Kp0 ?_;refine Zaa ?_;refine Zab ?_;refine Rp0 [0,1,5,7,8] ?_;refine Rp1 [0,1,5,7,8,16] (x2 @xlm hrow) ?_;refine Ok ?_;refine Zao hcall ?_;cases hq:p y with
  | true =>
   refine Ct ?_;refine Rp0 [4] ?_;refine Tp0 ?_;rw [idxF_at p l k ka hpre (by rw [hx];exact hq)];exact View.refl _ _
  | false =>
   refine Fp0 ?_;refine rp1 [0,1,7,8] (w64 (n:=(k:Int)+1) (by omega) (by omega)) ?_;refine ⟨⟨k+1,ka,fun j hj hjk=>?_⟩,?_,?_⟩
   ·by_cases e:j=k
    ·subst e;rw [hx];exact hq
    ·exact hpre j hj (by omega)
   ·rfl
   ·simp only [];omega
 ·have ka:k=l.length:=by simp only [decide_eq_false_iff_not] at h1;omega
  refine Ep0 ?_;refine Rp0 [4] ?_;refine Tp0 ?_;rw [idxF_none p l (fun j hj=>hpre j hj (by omega))];exact View.refl _ _
theorem sp_IndexFunc_Word (l : List Wd) (f : FuncId) (cap : List PV) (p : Wd → Bool) (hl : l.length ≤ 1000000) (hc : Za0 cap) (hp : ∀ x ∈ l, Zak Tryz.prog f ((PV.agg x.enc) :: cap) (.bool (p x))) :
  Zak Tryz.prog 114 [.sl 4 (l.map fun x=>x.enc),.fn (.func f) [] cap] (pI (idxF p l)):=by
 refine Zad ?_ (cI _) (by intro x hx;simp only [List.mem_cons,List.not_mem_nil,or_false] at hx;rcases hx with rfl|rfl;exact Zaj (fun a _ x hx=>by exact Wd.closed a x hx);exact Zbt hc);refine Gn (vc:=c_slices_IndexFunc_Word) [.t 4] Tryz.func114 ?_;unfold c_slices_IndexFunc_Word;try dsimp only [ZM,ZO,ZN,ZG,ZR,ZU]
 refine Rp0 [0,1] ?_;refine Zaa ?_;refine Rp1 [0,1,7,8] @xlm ?_;refine Zab ?_;refine Zah (σ:={ k:Nat//k≤l.length∧∀ (j:Nat) (hj:j<l.length),j<k→p l[j]=false }) (fun x=>([(0,.sl 4 (l.map fun x=>x.enc)),(1,.fn (.func f) [] cap),(7,pI l.length),(8,pI x.1)],⟨[],0⟩)) (fun x=>l.length-x.1) ⟨0,Nat.zero_le _,fun j _ h=>by cases h⟩ ?_ ?_ ?_
 ·refine Sp0 ?_;rfl
 ·exact Sc0
 rintro ⟨k,hk,hpre⟩;simp only [];refine Rp0 [0,1,7,8,9] ?_;refine Zaa ?_;refine Zac rfl (fun h1=>?_) (fun h1=>?_)
 ·have ka:k<l.length:=by simp only [decide_eq_true_eq] at h1;omega
  have hcall:=hp l[k] (List.getElem_mem ka);have hrow:(l.map fun x=>x.enc).getD k []=(fun x:Wd=>x.enc) l[k]:=rowm ka;simp only [] at hrow;generalize hx:l[k]=y at hcall hrow;refine Kp0 ?_;refine Zaa ?_;refine Zab ?_;refine Rp0 [0,1,5,7,8] ?_;refine Rp1 [0,1,5,7,8,16] (x4 @xlm hrow @enc_t_Wd @enc_l_Wd) ?_;refine Ok ?_;refine Zao hcall ?_;cases hq:p y with
  | true =>
   refine Ct ?_;refine Rp0 [4] ?_;refine Tp0 ?_;rw [idxF_at p l k ka hpre (by rw [hx];exact hq)];exact View.refl _ _
  | false =>
   refine Fp0 ?_;refine rp1 [0,1,7,8] (w64 (n:=(k:Int)+1) (by omega) (by omega)) ?_;refine ⟨⟨k+1,ka,fun j hj hjk=>?_⟩,?_,?_⟩
   ·by_cases e:j=k
    ·subst e;rw [hx];exact hq
    ·exact hpre j hj (by omega)
   ·rfl
   ·simp only [];omega
 ·have ka:k=l.length:=by simp only [decide_eq_false_iff_not] at h1;omega
  refine Ep0 ?_;refine Rp0 [4] ?_;refine Tp0 ?_;rw [idxF_none p l (fun j hj=>hpre j hj (by omega))];exact View.refl _ _
theorem sp_IndexFunc_Id (l : List Idt) (f : FuncId) (cap : List PV) (p : Idt → Bool) (hl : l.length ≤ 1000000) (hc : Za0 cap) (hp : ∀ x ∈ l, Zak Tryz.prog f ((PV.agg x.enc) :: cap) (.bool (p x))) :
  Zak Tryz.prog 205 [.sl 3 (l.map fun x=>x.enc),.fn (.func f) [] cap] (pI (idxF p l)):=by
 refine Zad ?_ (cI _) (by intro x hx;simp only [List.mem_cons,List.not_mem_nil,or_false] at hx;rcases hx with rfl|rfl;exact Zaj (fun a _ x hx=>by exact Idt.closed a x hx);exact Zbt hc);refine Gn (vc:=c_slices_IndexFunc_Id) [.t 4] Tryz.func205 ?_;unfold c_slices_IndexFunc_Id;try dsimp only [ZM,ZO,ZN,ZG,ZR,ZU]
 refine Rp0 [0,1] ?_;refine Zaa ?_;refine Rp1 [0,1,7,8] @xlm ?_;refine Zab ?_;refine Zah (σ:={ k:Nat//k≤l.length∧∀ (j:Nat) (hj:j<l.length),j<k→p l[j]=false }) (fun x=>([(0,.sl 3 (l.map fun x=>x.enc)),(1,.fn (.func f) [] cap),(7,pI l.length),(8,pI x.1)],⟨[],0⟩)) (fun x=>l.length-x.1) ⟨0,Nat.zero_le _,fun j _ h=>by cases h⟩ ?_ ?_ ?_
 ·refine Sp0 ?_;rfl
 ·exact Sc0
 rintro ⟨k,hk,hpre⟩;simp only [];refine Rp0 [0,1,7,8,9] ?_;refine Zaa ?_;refine Zac rfl (fun h1=>?_) (fun h1=>?_)
 ·have ka:k<l.length:=by simp only [decide_eq_true_eq] at h1;omega
  have hcall:=hp l[k] (List.getElem_mem ka);have hrow:(l.map fun x=>x.enc).getD k []=(fun x:Idt=>x.enc) l[k]:=rowm ka;simp only [] at hrow;generalize hx:l[k]=y at hcall hrow;refine Kp0 ?_;refine Zaa ?_;refine Zab ?_;refine Rp0 [0,1,5,7,8] ?_;refine Rp1 [0,1,5,7,8,16] (x4 @xlm hrow @enc_t_Idt @enc_l_Idt) ?_;refine Ok ?_;refine Zao hcall ?_;cases hq:p y with
  | true =>
   refine Ct ?_;refine Rp0 [4] ?_;refine Tp0 ?_;rw [idxF_at p l k ka hpre (by rw [hx];exact hq)];exact View.refl _ _
  | false =>
   refine Fp0 ?_;refine rp1 [0,1,7,8] (w64 (n:=(k:Int)+1) (by omega) (by omega)) ?_;refine ⟨⟨k+1,ka,fun j hj hjk=>?_⟩,?_,?_⟩
   ·by_cases e:j=k
    ·subst e;rw [hx];exact hq
    ·exact hpre j hj (by omega)
   ·rfl
   ·simp only [];omega
 ·have ka:k=l.length:=by simp only [decide_eq_false_iff_not] at h1;omega
  refine Ep0 ?_;refine Rp0 [4] ?_;refine Tp0 ?_;rw [idxF_none p l (fun j hj=>hpre j hj (by omega))];exact View.refl _ _
theorem sp_IndexFunc_Unit (l : List Un) (f : FuncId) (cap : List PV) (p : Un → Bool) (hl : l.length ≤ 1000000) (hc : Za0 cap) (hp : ∀ x ∈ l, Zak Tryz.prog f ((PV.agg x.enc) :: cap) (.bool (p x))) :
  Zak Tryz.prog 206 [.sl 8 (l.map fun x=>x.enc),.fn (.func f) [] cap] (pI (idxF p l)):=by
 refine Zad ?_ (cI _) (by intro x hx;simp only [List.mem_cons,List.not_mem_nil,or_false] at hx;rcases hx with rfl|rfl;exact Zaj (fun a _ x hx=>by exact Un.closed a x hx);exact Zbt hc);refine Gn (vc:=c_slices_IndexFunc_Unit) [.t 4] Tryz.func206 ?_;unfold c_slices_IndexFunc_Unit;try dsimp only [ZM,ZO,ZN,ZG,ZR,ZU]
 refine Rp0 [0,1] ?_;refine Zaa ?_;refine Rp1 [0,1,7,8] @xlm ?_;refine Zab ?_;refine Zah (σ:={ k:Nat//k≤l.length∧∀ (j:Nat) (hj:j<l.length),j<k→p l[j]=false }) (fun x=>([(0,.sl 8 (l.map fun x=>x.enc)),(1,.fn (.func f) [] cap),(7,pI l.length),(8,pI x.1)],⟨[],0⟩)) (fun x=>l.length-x.1) ⟨0,Nat.zero_le _,fun j _ h=>by cases h⟩ ?_ ?_ ?_
 ·refine Sp0 ?_;rfl
 ·exact Sc0
 rintro ⟨k,hk,hpre⟩;simp only [];refine Rp0 [0,1,7,8,9] ?_;refine Zaa ?_;refine Zac rfl (fun h1=>?_) (fun h1=>?_)
 ·have ka:k<l.length:=by simp only [decide_eq_true_eq] at h1;omega
  have hcall:=hp l[k] (List.getElem_mem ka);have hrow:(l.map fun x=>x.enc).getD k []=(fun x:Un=>x.enc) l[k]:=rowm ka;simp only [] at hrow;generalize hx:l[k]=y at hcall hrow;refine Kp0 ?_;refine Zaa ?_;refine Zab ?_;refine Rp0 [0,1,5,7,8] ?_;refine Rp1 [0,1,5,7,8,16] (x4 @xlm hrow @enc_t_Un @enc_l_Un) ?_;refine Ok ?_;refine Zao hcall ?_;cases hq:p y with
  | true =>
   refine Ct ?_;refine Rp0 [4] ?_;refine Tp0 ?_;rw [idxF_at p l k ka hpre (by rw [hx];exact hq)];exact View.refl _ _
  | false =>
   refine Fp0 ?_;refine rp1 [0,1,7,8] (w64 (n:=(k:Int)+1) (by omega) (by omega)) ?_;refine ⟨⟨k+1,ka,fun j hj hjk=>?_⟩,?_,?_⟩
   ·by_cases e:j=k
    ·subst e;rw [hx];exact hq
    ·exact hpre j hj (by omega)
   ·rfl
   ·simp only [];omega
 ·have ka:k=l.length:=by simp only [decide_eq_false_iff_not] at h1;omega
  refine Ep0 ?_;refine Rp0 [4] ?_;refine Tp0 ?_;rw [idxF_none p l (fun j hj=>hpre j hj (by omega))];exact View.refl _ _
theorem sp_ContainsFunc_string (l : List Str) (f : FuncId) (cap : List PV) (p : Str → Bool) (hl : l.length ≤ 1000000) (hc : Za0 cap) (hp : ∀ x ∈ l, Zak Tryz.prog f ((PV.str x) :: cap) (.bool (p x))) :
  Zak Tryz.prog 177 [.sl 1 (l.map fun x=>[PV.str x]),.fn (.func f) [] cap] (.bool (l.any p)):=by
 have H:=sp_IndexFunc_string l f cap p hl hc hp;refine Zad ?_ (cB _) (by intro x hx;simp only [List.mem_cons,List.not_mem_nil,or_false] at hx;rcases hx with rfl|rfl;exact Zaj (fun a _ x hx=>by simp only [List.mem_cons,List.not_mem_nil,or_false] at hx;subst hx;exact Closed.of_scalar (by first|exact Zcv _ _|exact scalar_str _));exact Zbt hc);refine Gn (vc:=Zca) [.t 4] Tryz.func177 ?_;unfold Zca;try dsimp only [ZM,ZO,ZN,ZG,ZR,ZU]
 refine Rp0 [0,1] ?_;refine Rp0 [4] ?_;refine Ap0 H ?_;refine Tp0 ?_;rw [idxF_any];exact View.refl _ _
theorem sp_ContainsFunc_byte (l : List UInt8) (f : FuncId) (cap : List PV) (p : UInt8 → Bool) (hl : l.length ≤ 1000000) (hc : Za0 cap) (hp : ∀ x ∈ l, Zak Tryz.prog f ((PV.int .u8 (x.toNat : Int)) :: cap) (.bool (p x))) :
  Zak Tryz.prog 271 [.sl 1 (l.map fun x=>[PV.int .u8 (x.toNat:Int)]),.fn (.func f) [] cap] (.bool (l.any p)):=by
 have H:=sp_IndexFunc_byte l f cap p hl hc hp;refine Zad ?_ (cB _) (by intro x hx;simp only [List.mem_cons,List.not_mem_nil,or_false] at hx;rcases hx with rfl|rfl;exact Zaj (fun a _ x hx=>by simp only [List.mem_cons,List.not_mem_nil,or_false] at hx;subst hx;exact Closed.of_scalar (by first|exact Zcv _ _|exact scalar_str _));exact Zbt hc);refine Gn (vc:=Zcl) [.t 4] Tryz.func271 ?_;unfold Zcl;try dsimp only [ZM,ZO,ZN,ZG,ZR,ZU]
 refine Rp0 [0,1] ?_;refine Rp0 [4] ?_;refine Ap0 H ?_;refine Tp0 ?_;rw [idxF_any];exact View.refl _ _
theorem sp_ContainsFunc_Id (l : List Idt) (f : FuncId) (cap : List PV) (p : Idt → Bool) (hl : l.length ≤ 1000000) (hc : Za0 cap) (hp : ∀ x ∈ l, Zak Tryz.prog f ((PV.agg x.enc) :: cap) (.bool (p x))) :
  Zak Tryz.prog 165 [.sl 3 (l.map fun x=>x.enc),.fn (.func f) [] cap] (.bool (l.any p)):=by
 have H:=sp_IndexFunc_Id l f cap p hl hc hp;refine Zad ?_ (cB _) (by intro x hx;simp only [List.mem_cons,List.not_mem_nil,or_false] at hx;rcases hx with rfl|rfl;exact Zaj (fun a _ x hx=>by exact Idt.closed a x hx);exact Zbt hc);refine Gn (vc:=Zcy) [.t 4] Tryz.func165 ?_;unfold Zcy;try dsimp only [ZM,ZO,ZN,ZG,ZR,ZU]
 refine Rp0 [0,1] ?_;refine Rp0 [4] ?_;refine Ap0 H ?_;refine Tp0 ?_;rw [idxF_any];exact View.refl _ _
end Go.Proofs.YtcgdjembdjdlhaaGreatDoor.w
namespace Go.VM
open Go
def unfitB (w:Int) (s:Str):Bool:=decide ((s.length:Int)<1)||decide (w<(s.length:Int))
def Zbu (w:Int) (l:List Str):Int:=if w<1∨200<w then 3 else if 1024<l.length then 6 else if l.any (unfitB w)=true then 1 else 0
def risesF (n:Nat):Int→List Int→Bool
 | a,[]=>(a==(n:Int))
 | a,e::r=>!(decide (e≤a)||decide ((n:Int)<e))&&risesF n e r
end Go.VM
namespace Go.Proofs.YtcgdjembdjdlhaaGreatDoor.w
open Go Go.VM
def c_linebreak_wrong:VC:=(ZR [ZO 2 (.box 1 (.t 0)),ZO 4 (.mv (.c (.int .i64 0)))] (ZR [ZO 6 (.mkfn (.func 176) [] [.t 2]),ZM 5 6] (.seq (.block 0 (ZR [ZO 8 (.load false 1 (.t 2)),ZO 9 (.bin .lss (.t 8) (.c (.int .i64 1))),ZM 10 9,ZG 11 (.load false 1 (.t 2)) 10 false,ZG 12 (.bin .gtr (.t 11) (.c (.int .i64 200))) 10 false,ZO 13 (.pick (.t 10) (.c (.bool true)) (.t 12)),ZM 7 13] (.cond (.t 7) (ZR [ZO 4 (.mv (.c (.int .i64 3)))] .ret) (ZR [ZM 15 1,ZO 16 (.len false (.t 15)),ZO 17 (.bin .gtr (.t 16) (.c (.int .i64 1024))),ZM 14 17] (.cond (.t 14) (ZR [ZO 4 (.mv (.c (.int .i64 6)))] .ret) (ZR [ZM 19 1,ZM 20 5,ZO 21 (.call 177 [.t 19,.t 20]),ZM 18 21] (.cond (.t 18) (ZR [ZO 4 (.mv (.c (.int .i64 1)))] .ret) .skip))))))) (ZR [ZO 4 (.mv (.c (.int .i64 0)))] .ret))))
def c_linebreak_wrong_1:VC:=(ZR [ZO 3 (.mv (.c (.bool false)))] (ZR [ZM 4 0,ZO 5 (.len true (.t 4)),ZO 6 (.bin .lss (.t 5) (.c (.int .i64 1))),ZM 7 6,ZG 8 (.mv (.t 0)) 7 false,ZG 9 (.len true (.t 8)) 7 false,ZG 10 (.load false 1 (.t 1)) 7 false,ZG 11 (.bin .gtr (.t 9) (.t 10)) 7 false,ZO 12 (.pick (.t 7) (.c (.bool true)) (.t 11)),ZM 3 12] .ret))
def c_linebreak_are:VC:=(ZR [ZO 4 (.mv (.c (.bool false)))] (ZR [ZO 5 (.mv (.c (.int .i64 0)))] (.seq (ZR [ZM 8 0,ZO 9 (.len false (.t 8)),ZO 10 (.mv (.c (.int .i64 0)))] (.block 0 (.loop (ZR [ZO 11 (.bin .lss (.t 10) (.t 9))] (.seq (.cond (.t 11) .skip (.exit 0)) (.seq (.block 1 (ZR [ZO 12 (.iaddr 1 (.t 8) (.t 10)),ZO 13 (.load false 1 (.t 12)),ZM 7 13] (.seq (ZR [ZM 14 7,ZM 15 5,ZO 16 (.bin .leq (.t 14) (.t 15)),ZM 17 16,ZG 18 (.mv (.t 7)) 17 false,ZG 19 (.mv (.t 1)) 17 false,ZG 20 (.len false (.t 19)) 17 false,ZG 21 (.bin .gtr (.t 18) (.t 20)) 17 false,ZO 22 (.pick (.t 17) (.c (.bool true)) (.t 21))] (.cond (.t 22) (ZR [ZO 4 (.mv (.c (.bool false)))] .ret) .skip)) (.region [ZM 23 7,ZM 5 23] false)))) (.region [ZO 24 (.bin .add (.t 10) (.c (.int .i64 1))),ZM 10 24] false))))))) (ZR [ZM 25 5,ZM 26 1,ZO 27 (.len false (.t 26)),ZO 28 (.bin .eql (.t 25) (.t 27)),ZM 4 28] .ret))))
def c_pandectref54_Wrong:VC:=(ZR [ZO 4 (.mv (.c (.int .i64 0)))] (.seq (ZR [ZM 6 0,ZO 7 (.bin .lss (.t 6) (.c (.int .i64 1))),ZM 8 7,ZG 9 (.mv (.t 0)) 8 false,ZG 10 (.bin .gtr (.t 9) (.c (.int .i64 200))) 8 false,ZO 11 (.pick (.t 8) (.c (.bool true)) (.t 10))] (.cond (.t 11) (ZR [ZO 4 (.mv (.c (.int .i64 3)))] .ret) .skip)) (.seq (ZR [ZM 12 1,ZO 13 (.len false (.t 12)),ZO 14 (.bin .gtr (.t 13) (.c (.int .i64 1024)))] (.cond (.t 14) (ZR [ZO 4 (.mv (.c (.int .i64 6)))] .ret) .skip)) (.seq (ZR [ZO 5 (.mv (.c (.int .i64 0)))] (.block 0 (.loop (.seq (ZR [ZM 15 5,ZM 16 1,ZO 17 (.len false (.t 16)),ZO 18 (.bin .lss (.t 15) (.t 17))] (.cond (.t 18) .skip (.exit 0))) (.seq (.block 1 (ZR [ZM 21 1,ZM 22 5,ZO 23 (.iaddr 1 (.t 21) (.t 22)),ZO 24 (.load false 1 (.t 23)),ZO 25 (.len true (.t 24)),ZO 26 (.bin .lss (.t 25) (.c (.int .i64 1))),ZM 27 26,ZG 28 (.mv (.t 1)) 27 false,ZG 29 (.mv (.t 5)) 27 false,ZG 30 (.iaddr 1 (.t 28) (.t 29)) 27 false,ZG 31 (.load false 1 (.t 30)) 27 false,ZG 32 (.len true (.t 31)) 27 false,ZG 33 (.mv (.t 0)) 27 false,ZG 34 (.bin .gtr (.t 32) (.t 33)) 27 false,ZO 35 (.pick (.t 27) (.c (.bool true)) (.t 34))] (.cond (.t 35) (ZR [ZO 4 (.mv (.c (.int .i64 1)))] .ret) .skip))) (.region [ZM 19 5,ZO 20 (.bin .add (.t 19) (.c (.int .i64 1))),ZM 5 20] false)))))) (ZR [ZO 4 (.mv (.c (.int .i64 0)))] .ret)))))
def c_pandectref54_Rises:VC:=(ZR [ZO 4 (.mv (.c (.bool false)))] (ZR [ZO 5 (.mv (.c (.int .i64 0)))] (.seq (ZR [ZO 6 (.mv (.c (.int .i64 0)))] (.block 0 (.loop (.seq (ZR [ZM 7 6,ZM 8 0,ZO 9 (.len false (.t 8)),ZO 10 (.bin .lss (.t 7) (.t 9))] (.cond (.t 10) .skip (.exit 0))) (.seq (.block 1 (.seq (ZR [ZM 13 0,ZM 14 6,ZO 15 (.iaddr 1 (.t 13) (.t 14)),ZO 16 (.load false 1 (.t 15)),ZM 17 5,ZO 18 (.bin .leq (.t 16) (.t 17)),ZM 19 18,ZG 20 (.mv (.t 0)) 19 false,ZG 21 (.mv (.t 6)) 19 false,ZG 22 (.iaddr 1 (.t 20) (.t 21)) 19 false,ZG 23 (.load false 1 (.t 22)) 19 false,ZG 24 (.mv (.t 1)) 19 false,ZG 25 (.bin .gtr (.t 23) (.t 24)) 19 false,ZO 26 (.pick (.t 19) (.c (.bool true)) (.t 25))] (.cond (.t 26) (ZR [ZO 4 (.mv (.c (.bool false)))] .ret) .skip)) (.region [ZM 27 0,ZM 28 6,ZO 29 (.iaddr 1 (.t 27) (.t 28)),ZO 30 (.load false 1 (.t 29)),ZM 5 30] false))) (.region [ZM 11 6,ZO 12 (.bin .add (.t 11) (.c (.int .i64 1))),ZM 6 12] false)))))) (ZR [ZM 31 5,ZM 32 1,ZO 33 (.bin .eql (.t 31) (.t 32)),ZM 4 33] .ret))))
theorem sp_lb_wrong_1 (w:Int) (s:Str):Zak Tryz.prog 176 [.str s,.ro [pI w]] (.bool (unfitB w s)):=by
 refine Zad ?_ (cB _) (by intro y hy;simp only [List.mem_cons,List.not_mem_nil,or_false] at hy;rcases hy with rfl|rfl;exact cS _;exact Zbg (by intro z hz;rw [List.mem_singleton] at hz;subst hz;exact cI _));refine Gn (vc:=c_linebreak_wrong_1) [.t 3] Tryz.func176 ?_;unfold c_linebreak_wrong_1;try dsimp only [ZM,ZO,ZN,ZG,ZR,ZU]
 refine Rp0 [0,1] ?_;unfold unfitB;cases d1:decide ((s.length:Int)<1) with
 | true =>
  refine Zaa (Zae [3] ?_);simp only [vmL,Nat.reduceEqDiff,reduceCtorEq,d1];exact Tv0
 | false =>
  refine Zaa (Zae [3] ?_);simp only [vmL,Nat.reduceEqDiff,reduceCtorEq,d1];exact Tv0
theorem sp_lb_wrong (w:Int) (l:List Str) (hl:l.length≤1000000):Zak Tryz.prog 134 [pI w,It.strs l] (pI (Zbu w l)):=by
 have CF:=sp_ContainsFunc_string l 176 [.ro [pI w]] (unfitB w) hl (by intro y hy;rw [List.mem_singleton] at hy;subst hy;exact Zbg (by intro z hz;rw [List.mem_singleton] at hz;subst hz;exact cI _)) (fun s _=>sp_lb_wrong_1 w s);unfold Zbu It.strs;refine Gp (vc:=c_linebreak_wrong) [.t 4] (cI _) Tryz.func134 ?_;unfold c_linebreak_wrong;try dsimp only [ZM,ZO,ZN,ZG,ZR,ZU]
 refine Rp0 [1,2] ?_;refine Zat [(1,.sl 1 (l.map fun x=>[PV.str x])),(2,.ro [pI w])] ⟨View.refl _ _,View.loc (z:=1) (fz:=false) (es:=[[pI w]]) rfl (by simp) rfl (by simp),trivial⟩ ?_;refine Rp0 [1,2,5] ?_;refine Zaa ?_;refine Zab ?_;by_cases h1:w<1
 ·rw [if_pos (.inl h1)];have e1:decide (w<1)=true:=decide_eq_true h1;refine Rp1 [1,2,5,7] e1 ?_;refine Ct ?_;exact Rv0 [4]
 have e1:decide (w<1)=false:=decide_eq_false h1;by_cases h2:200<w
 ·rw [if_pos (.inr h2)];have e2:decide (200<w)=true:=decide_eq_true h2;refine Rp1 [1,2,5,7] (x2 e1 e2) ?_;refine Ct ?_;exact Rv0 [4]
 have e2:decide (200<w)=false:=decide_eq_false h2;rw [if_neg (by omega)];refine Rp1 [1,2,5,7] (x2 e1 e2) ?_;refine Cf ?_;refine Rp1 [1,2,5,14] @xlm ?_;by_cases h3:1024<l.length
 ·rw [if_pos h3];refine Zac rfl (fun _=>?_) (fun h=>by simp at h;omega);exact Rv0 [4]
 rw [if_neg h3];refine Zac rfl (fun h=>by simp at h;omega) (fun _=>?_);refine Rp0 [18] ?_;refine Zao CF ?_;cases hq:l.any (unfitB w) with
 | true =>
  refine Ct ?_;exact Rv0 [4]
 | false =>
  refine Fp0 ?_;exact Rv0 [4]
theorem sp_ref54_Wrong (w:Int) (l:List Str) (hl:l.length≤1000000):Zak Tryz.prog 129 [pI w,It.strs l] (pI (Zbu w l)):=by
 unfold Zbu It.strs;refine Gp (vc:=c_pandectref54_Wrong) [.t 4] (cI _) Tryz.func129 ?_;unfold c_pandectref54_Wrong;try dsimp only [ZM,ZO,ZN,ZG,ZR,ZU]
 refine Rp0 [0,1] ?_;refine Zaa ?_;by_cases h1:w<1
 ·rw [if_pos (.inl h1)];have e1:decide (w<1)=true:=decide_eq_true h1;refine Rp1 [0,1,11] e1 ?_;refine Ct ?_;exact Rv0 [4]
 have e1:decide (w<1)=false:=decide_eq_false h1;by_cases h2:200<w
 ·rw [if_pos (.inr h2)];have e2:decide (200<w)=true:=decide_eq_true h2;refine Rp1 [0,1,11] (x2 e1 e2) ?_;refine Ct ?_;exact Rv0 [4]
 have e2:decide (200<w)=false:=decide_eq_false h2;rw [if_neg (by omega)];refine Rp1 [0,1,11] (x2 e1 e2) ?_;refine Fp0 ?_;refine Zaa ?_;refine Rp1 [0,1,14] @xlm ?_;by_cases h3:1024<l.length
 ·rw [if_pos h3];refine Zac rfl (fun _=>?_) (fun h=>by simp at h;omega);exact Rv0 [4]
 rw [if_neg h3];refine Zac rfl (fun h=>by simp at h;omega) (fun _=>?_);refine Kp0 ?_;refine Zaa ?_;refine Rp0 [0,1,5] ?_;refine Zab ?_;refine Zah (σ:={ k:Nat//k≤l.length∧l.any (unfitB w)=(l.drop k).any (unfitB w) }) (fun x=>([(0,pI w),(1,.sl 1 (l.map fun s=>[PV.str s])),(5,pI x.1)],⟨[],0⟩)) (fun x=>l.length-x.1) ⟨0,Nat.zero_le _,rfl⟩ ?_ ?_ ?_
 ·refine Sp0 ?_;rfl
 ·exact Sc0
 rintro ⟨k,hk,hpre⟩;simp only [];refine Zaa ?_;refine Rp1 [0,1,5,18] @xlm ?_;refine Zac rfl (fun h4=>?_) (fun h4=>?_)
 ·have ka:k<l.length:=by simp only [decide_eq_true_eq] at h4;omega
  have hd:l.drop k=l[k]::l.drop (k+1):=List.drop_eq_getElem_cons ka;rw [hd,List.any_cons] at hpre;have hrow:(l.map fun s=>[PV.str s]).getD k []=[PV.str l[k]]:=rowm ka;generalize l[k]=s at hpre hrow;refine Kp0 ?_;refine Zaa ?_;refine Zab ?_;refine Zaa (Zbl (σ:=Unit) (fun _=>([(0,pI w),(1,.sl 1 (l.map fun s=>[PV.str s])),(5,pI k),(35,.bool (unfitB w s))],⟨[],0⟩)) ?_ (fun _=>?_))
  ·unfold unfitB;cases d1:decide ((s.length:Int)<1) with
   | true =>
    refine Zae [0,1,5,35] ?_;simp only [vmL,Nat.reduceEqDiff,reduceCtorEq,List.length_map,hrow,d1];refine ⟨⟨by omega,by omega⟩,?_⟩;exact ⟨(),by first|trivial|rfl⟩
   | false =>
    refine rp1 [0,1,5,35] (x3 @xlm hrow d1) ?_;refine ⟨⟨by omega,by omega⟩,⟨by omega,by omega⟩,?_⟩;exact ⟨(),by first|trivial|rfl⟩
  cases hq:unfitB w s with
  | true =>
   refine Ct ?_;refine Rp0 [4] ?_;refine Tp0 ?_;rw [hpre,hq];exact View.refl _ _
  | false =>
   rw [hq,Bool.false_or] at hpre;refine Fp0 ?_;refine rp1 [0,1,5] (w64 (n:=(k:Int)+1) (by omega) (by omega)) ?_;refine ⟨⟨k+1,ka,hpre⟩,?_,?_⟩
   ·rfl
   ·simp only [];omega
 ·have ka:k=l.length:=by simp only [decide_eq_false_iff_not] at h4;omega
  subst ka;rw [List.drop_length] at hpre;refine Ep0 ?_;refine Rp0 [4] ?_;refine Tp0 ?_;rw [hpre];exact View.refl _ _
theorem sp_lb_are (ends:List Int) (l:List Str) (hl:l.length≤1000000) (he:ends.length≤1000000):Zak Tryz.prog 137 [.sl 1 (ends.map fun x=>[pI x]),It.strs l] (.bool (risesF l.length 0 ends)):=by
 unfold It.strs;refine Gp (vc:=c_linebreak_are) [.t 4] (cB _) Tryz.func137 ?_;unfold c_linebreak_are;try dsimp only [ZM,ZO,ZN,ZG,ZR,ZU]
 refine Rp0 [0,1] ?_;refine Rp0 [0,1,5] ?_;refine Zaa ?_;refine Rp1 [1,5,8,9,10] @xlm ?_;refine Zab ?_;refine Zah (σ:={ x:Nat×Int//x.1≤ends.length∧risesF l.length 0 ends=risesF l.length x.2 (ends.drop x.1) }) (fun x=>([(1,.sl 1 (l.map fun s=>[PV.str s])),(5,pI x.1.2),(8,.sl 1 (ends.map fun x=>[pI x])),(9,pI ends.length),(10,pI x.1.1)],⟨[],0⟩)) (fun x=>ends.length-x.1.1) ⟨(0,0),Nat.zero_le _,rfl⟩ ?_ ?_ ?_
 ·refine Sp0 ?_;rfl
 ·exact Sc0
 rintro ⟨⟨k,a⟩,hk,hpre⟩;simp only [] at hk hpre ⊢;refine Rp0 [1,5,8,9,10,11] ?_;refine Zaa ?_;refine Zac rfl (fun h4=>?_) (fun h4=>?_)
 ·have ka:k<ends.length:=by simp only [decide_eq_true_eq] at h4;omega
  have hd:ends.drop k=ends[k]::ends.drop (k+1):=List.drop_eq_getElem_cons ka;rw [hd,risesF] at hpre;have hrow:(ends.map fun x=>[pI x]).getD k []=[pI ends[k]]:=rowm ka;generalize ends[k]=e at hpre hrow;refine Kp0 ?_;refine Zaa ?_;refine Zab ?_;refine Rp1 [1,5,7,8,9,10] (x2 @xlm hrow) ?_;refine Ok ?_;refine Zaa ?_;cases d1:decide (e≤a) with
  | true =>
   rw [d1] at hpre;refine Zaa (Zae [1,5,7,8,9,10,22] ?_);simp only [vmL,Nat.reduceEqDiff,d1];refine Ct ?_;refine Rp0 [4] ?_;refine Tp0 ?_;rw [hpre];exact View.refl _ _
  | false =>
  rw [d1] at hpre;refine Zaa (Zae [1,5,7,8,9,10,22] ?_);simp only [vmL,Nat.reduceEqDiff,d1,List.length_map];cases d2:decide ((l.length:Int)<e) with
  | true =>
   rw [d2] at hpre;refine Ct ?_;refine Rp0 [4] ?_;refine Tp0 ?_;rw [hpre];exact View.refl _ _
  | false =>
  rw [d2,Bool.false_or,Bool.not_false,Bool.true_and] at hpre;refine Fp0 ?_;refine rp0 [1,5,8,9,10] ?_;refine rp1 [1,5,8,9,10] (w64 (n:=(k:Int)+1) (by omega) (by omega)) ?_;refine ⟨⟨(k+1,e),ka,hpre⟩,?_⟩;exact Fn0
 ·have ka:k=ends.length:=by simp only [decide_eq_false_iff_not] at h4;omega
  subst ka;rw [List.drop_length,risesF] at hpre;refine Ep0 ?_;refine Rp1 [4] @xlm ?_;refine Tp0 ?_;rw [hpre];exact View.refl _ _
end Go.Proofs.YtcgdjembdjdlhaaGreatDoor.w
