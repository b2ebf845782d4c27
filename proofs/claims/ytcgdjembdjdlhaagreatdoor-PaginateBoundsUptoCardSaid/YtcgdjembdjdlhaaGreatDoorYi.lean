import Derived.Test.YtcgdjembdjdlhaaGreatDoorY4
import Derived.Test.YtcgdjembdjdlhaaGreatDoorVmPk
import Derived.Test.YtcgdjembdjdlhaaGreatDoorVmBd
import Derived.Test.YtcgdjembdjdlhaaGreatDoorVmC
import Derived.Shelf.RegionOpenPlain
import Derived.WalkKit
import Derived.Deep.LoopGhost
import Derived.Deep.RegionLaw
import Derived.Lib.Walk
import Derived.Sort.WalkB12
import Derived.Lib.SliceRun
import Derived.Lib.ReflectliteSwap
import Derived.Test.YtcgdjembdjdlhaaGreatDoorChecked
import Derived.Test.YtcgdjembdjdlhaaGreatDoorW6
import Derived.Test.YtcgdjembdjdlhaaGreatDoorV0
import Derived.Test.YtcgdjembdjdlhaaGreatDoorGc
import Derived.Test.YtcgdjembdjdlhaaGreatDoorYa
import Derived.Test.YtcgdjembdjdlhaaGreatDoorY1
import Derived.Test.YtcgdjembdjdlhaaGreatDoorC0
set_option linter.all false
set_option maxRecDepth 20000
set_option maxHeartbeats 0
namespace Go.Proofs.YtcgdjembdjdlhaaGreatDoor.w
open Go Go.VM
def c_treeedit_copied:VC:=(ZR [ZO 1 (.box 8 (.t 0)),ZO 2 (.alloc ZU)] (.seq (.draw2 [ZO 5 (.faddr 5 (.t 1)),ZO 6 (.load false 1 (.t 5)),ZO 7 (.call 170 [.t 6]),ZO 8 (.faddr 6 (.t 1)),ZO 9 (.load false 1 (.t 8)),ZO 10 (.call 170 [.t 9]),ZO 11 (.faddr 7 (.t 1)),ZO 12 (.load false 1 (.t 11)),ZO 13 (.call 117 [.t 12]),ZO 14 (.faddr 5 (.t 1)),ZN (.store 1 (.t 14) (.t 7)),ZO 15 (.faddr 6 (.t 1)),ZN (.store 1 (.t 15) (.t 10)),ZO 16 (.faddr 7 (.t 1)),ZN (.store 1 (.t 16) (.t 13))] [true,true,true,true,true,true,true,true,true,true,false,false,false,false,false]) (.seq (ZR [ZO 17 (.faddr 7 (.t 1)),ZO 18 (.load false 1 (.t 17)),ZO 19 (.len false (.t 18)),ZO 20 (.mv (.c (.int .i64 0)))] (.block 0 (.loop (ZR [ZO 21 (.bin .lss (.t 20) (.t 19))] (.seq (.cond (.t 21) .skip (.exit 0)) (.seq (.block 1 (ZR [ZM 22 20,ZO 23 (.iaddr 8 (.t 18) (.t 20)),ZO 24 (.load true 8 (.t 23)),ZO 4 (.alloc ZU),ZM 3 22,ZN (.store 8 (.t 4) (.t 24))] (.draw2 [ZO 25 (.faddr 7 (.t 1)),ZO 26 (.load false 1 (.t 25)),ZM 27 3,ZO 28 (.load true 8 (.t 4)),ZO 29 (.call 113 [.t 28]),ZO 30 (.iaddr 8 (.t 26) (.t 27)),ZN (.store 8 (.t 30) (.t 29))] [true,true,true,true,true,true,false]))) (.region [ZO 31 (.bin .add (.t 20) (.c (.int .i64 1))),ZM 20 31] false))))))) (ZR [ZO 32 (.load true 8 (.t 1)),ZN (.store 8 (.t 2) (.t 32))] .ret))))
def zeroRow0:List PV:=[pI 0,pI 0,pI 0,pI 0,.str [],.nilsl,.nilsl,.nilsl]
theorem clone_ownL {L:List (Nat×AB)} {t:Nat} (hd:HL.dec L t) (l:List Un) (hl:l.length≤1048576):Zal Tryz.prog 117 [.sl 8 (l.map Un.enc)] ⟨L,t⟩ (fun p h'=>p=.own (t+1) 0 l.length∧h'=⟨(t+1,.arr false 8 (l.map Un.enc))::L,t+2⟩):=by
 have hHL:∀ x y p,HL.le L (Heap.get ⟨(t+1,x)::(t,y)::L,p⟩):=fun x y p=>HL.le_self hd fun k hk=>.inl (by show _=HL.get ((t+1,x)::(t,y)::L) k;rw [HL.get,if_neg (by omega),HL.get,if_neg (by omega)]);have d0:HL.del L t=L:=HL.del_ge hd (Nat.le_refl t);have d1:HL.del L (t+1)=L:=HL.del_ge hd (Nat.le_succ t);refine Zal.own0 8 ?_;refine Zal.drop ?_;have qq:=N2 t (t+1);refine Gn (vc:=Zb2) [.t 2] Tryz.func117 ?_;unfold Zb2;try dsimp only [ZM,ZO,ZN,ZG,ZR,ZU]
 refine Rp0 [0] ?_;refine Zaa ?_;refine Rp0 [0,4] ?_;intro b hb1 hb2;cases b with
 | true =>
  skip
  refine Zac rfl (fun h1=>?_) (fun h1=>by cases h1);refine Rp0 [2] ?_;refine Tp0 ?_;cases l with
  | nil =>
   exact ⟨⟨L,t⟩,HOk.le_refl (h:=⟨L,t⟩) hd,.inl ⟨⟨L,t+1⟩,⟨Nat.le_succ _,(HOk.le_refl (h:=⟨L,t⟩) hd).2⟩,rfl,rfl⟩⟩
  | cons a r=>simp at hb2
 | false =>
  skip
  refine Zac rfl (fun h1=>by cases h1) (fun h1=>?_);refine Kp0 ?_;refine Rp1 [2] (x4 @xlm d0 d1 qq) ?_;refine Ok ?_;refine Tp0 ?_;refine ⟨⟨(t+1,.arr false 8 (l.map Un.enc))::L,t+2⟩,⟨Nat.le_refl _,?_⟩,.inr rfl⟩;exact (HOk.le_refl (h:=⟨(t+1,.arr false 8 (l.map Un.enc))::L,t+2⟩) ⟨Nat.lt_succ_self (t+1),HL.dec_mono hd (by omega)⟩).2
theorem sp_tree_copied {u:Un} (hu:SmT u):Zak Tryz.prog 113 [.agg u.enc] (.agg u.enc):=by
 induction hu with
 | mk u h hk hs ih =>
  have hHl:=h.head.1;have hWl:=h.words.1;have CH:=sp_Clone_Word u.head (by omega);have CW:=sp_Clone_Word u.words (by omega);refine Zad ?_ (Zap u) (by intro y hy;rw [List.mem_singleton] at hy;subst hy;exact Zap u);refine Gn (vc:=c_treeedit_copied) [.c 2 true 8] Tryz.func113 ?_;unfold c_treeedit_copied;try dsimp only [ZM,ZO,ZN,ZG,ZR,ZU]
  have hue:=Un.Zaf u;rw [hue];have CK:=clone_ownL (L:=[(1,.arr false 8 [zeroRow0]),(0,.arr false 8 [[pI u.act,pI u.item,pI u.n,pI u.kind,.str u.label,.sl 4 (u.head.map Wd.enc),.sl 4 (u.words.map Wd.enc),.sl 8 (u.kids.map Un.enc)]])]) (t:=2) ⟨by omega,by omega,trivial⟩ u.kids (by omega);unfold zeroRow0 at CK;generalize hEH:u.head.map Wd.enc=EH at *;generalize hEW:u.words.map Wd.enc=EW at *;generalize u.kids=KL at *;refine Rp0 [1,2] ?_;refine Zaa (VW_draw2Y [8] [1,2] ⟨[(1,.arr false 8 [[pI 0,pI 0,pI 0,pI 0,.str [],.nilsl,.nilsl,.nilsl]]),(0,.arr false 8 [[pI u.act,pI u.item,pI u.n,pI u.kind,.str u.label,.sl 4 EH,.sl 4 EW,.sl 8 (KL.map Un.enc)]])],30⟩ ⟨[],30⟩ rfl (by simp [Heap.le,HL.le,Heap.get,HL.get]) (by simp [Heap.le,HL.le]) ?_);simp only [vmL,Nat.reduceEqDiff,Nat.reduceAdd,Nat.reduceLT,Nat.reduceLeDiff,DrawY_n,DrawY_at,DrawY_nil,List.contains_cons,List.contains_nil,Nat.reduceBEq,Bool.or_false];refine ⟨_,.inl CH,_,.inl CW,_,_,fun K' k=>Zal.mono CK (by rintro p h' ⟨rfl,rfl⟩;exact k),?_⟩;refine Sp0 ?_;refine ⟨fun h=>(by cases h),?_⟩;refine Zaa ?_;refine Rp0 [1,2,18,19,20] ?_;refine Zab ?_;refine Zah (σ:={ x:Nat×Nat//x.1≤KL.length∧4≤x.2 }) (fun x=>([(1,.loc 0 0 0),(2,.loc 1 0 0),(18,.own 3 0 KL.length),(19,pI KL.length),(20,pI x.1.1)],⟨[(3,.arr false 8 (KL.map Un.enc)),(1,.arr false 8 [[pI 0,pI 0,pI 0,pI 0,.str [],.nilsl,.nilsl,.nilsl]]),(0,.arr false 8 [[pI u.act,pI u.item,pI u.n,pI u.kind,.str u.label,.sl 4 EH,.sl 4 EW,.own 3 0 KL.length]])],x.1.2⟩)) (fun x=>KL.length-x.1.1) ⟨(0,4),Nat.zero_le _,Nat.le_refl _⟩ ?_ ?_ ?_
  ·exact Sr0
  ·exact Sr0
  rintro ⟨⟨k,t⟩,hkk,ht⟩;simp only [] at hkk ht ⊢;have qq:=N5 0 1 3 t (t+1);refine Rp1 [1,2,18,19,20,21] qq ?_;refine Zaa ?_;refine Zac rfl (fun h1=>?_) (fun h1=>?_)
  ·have ka:k<KL.length:=by simp only [decide_eq_true_eq] at h1;omega
   have hrow:(KL.map Un.enc).getD k []=KL[k].enc:=rowm ka;have hset:(KL.map Un.enc).set k KL[k].enc=KL.map Un.enc:=by
    rw [← hrow,List.getD_eq_getElem?_getD,List.getElem?_eq_getElem (by simpa using ka)];exact List.set_getElem_self _
   have I:=ih KL[k] (List.getElem_mem ka);generalize KL[k]=v at hrow hset I;rw [Un.Zaf v] at hrow hset I;refine Kp0 ?_;refine Zaa ?_;refine Zab ?_;refine Rp1 [1,2,3,4,18,19,20] (x3 @xlm hrow qq) ?_;refine Ok ?_;refine VW_draw2H [1,2,18,19,20] ?_ ?_
   ·exact Sr1 qq
   refine Sp1 (x2 @xlm qq) ?_;refine ⟨_,.inl I,?_⟩;refine Sp1 (x2 hrow hset) ?_;refine ⟨⟨by omega,by omega⟩,ka,?_⟩;refine rp1 [1,2,18,19,20] (x4 (ad1 (a:=k) (by omega)) hrow hset qq) ?_;refine ⟨⟨(k+1,t+1),ka,by show 4≤t+1;omega⟩,?_⟩;exact Fn1 qq
  ·have ka:k=KL.length:=by simp only [decide_eq_false_iff_not] at h1;omega
   subst ka;refine Ep1 qq ?_;refine Rp1 [2] qq ?_;refine Tp1 qq ?_;exact view_un8 (fz:=false) (R:=KL) (by simp [Heap.get,HL.get]) rfl
end Go.Proofs.YtcgdjembdjdlhaaGreatDoor.w
namespace Go.Proofs.YtcgdjembdjdlhaaGreatDoor.w
open Go Go.RowKit Go.Lib Go.Sort Go.VM Go.Shelf
set_option maxRecDepth 1000000
set_option maxHeartbeats 4000000
theorem infoUn : (Tryz.prog.info? 27).map (fun i => (i.zero, i.size, i.bytes)) = some (some (.agg #[.int .i64 0, .int .i64 0, .int .i64 0, .int .i64 0, .string "".toByteArray, .slice none 0 0, .slice none 0 0, .slice none 0 0]), 8, 120) := by kernel_rfl
def zeroUs:List Value:=[.int .i64 0,.int .i64 0,.int .i64 0,.int .i64 0,.string ByteArray.empty,.slice none 0 0,.slice none 0 0,.slice none 0 0]
theorem clear_world (w : World) (ty : TypeId) (b o c : Nat) (hc : ∀ j, j < 8 → (w.cell? ⟨b, o + j, none⟩).isSome = true) (hf : ∀ j, j < 8 → w.frozen? ⟨b, o + j, none⟩ = false) :
  (Builtin.clear_ #[25] ty #[.slice (some ⟨b,o,none⟩) 1 c]).run Tryz.prog w=.ok (.tuple #[]) (w.setCells b o zeroUs):=by
 obtain ⟨i0,hi0,hz0,hz1,hz2⟩:=info_parts infoUn;have hst:=run_storeCells_cells (P:=Tryz.prog) b o zeroUs 0 w (fun j hj=>by simpa using hc j (by simpa [zeroUs] using hj)) (fun j hj=>by simpa using hf j (by simpa [zeroUs] using hj)) (by decide);have hzc:(Builtin.zeroCells #[.int .i64 0,.int .i64 0,.int .i64 0,.int .i64 0,.string ByteArray.empty,.slice none 0 0,.slice none 0 0,.slice none 0 0] 1).toList=zeroUs:=by kernel_rfl
 have hu:=Tryz.underlying25;have hz0':i0.zero=some (.agg #[.int .i64 0,.int .i64 0,.int .i64 0,.int .i64 0,.string ByteArray.empty,.slice none 0 0,.slice none 0 0,.slice none 0 0]):=by rw [hz0];simp
 rw [Nat.add_zero] at hst;simp [Builtin.clear_,run_underlying hu,run_zero hi0 hz0',Value.cells,hzc,hst]
theorem delete_world (blk off n cap i j : Nat) (w : World) (news : List Value) (hj : j = i + 1) (hi : i < n) (hn : n ≤ cap) (hm : n ≤ 1000000)
  (hnl:news.length=(n-1-i)*8) (hget:∀ t u,news[t]?=some u→w.cell? ⟨blk,off+j*8+t,none⟩=some u) (h1:∀ u∈news,u.oneCell'=true)
  (hsp:∀ t,t<cap*8→(w.cell? ⟨blk,off+t,none⟩).isSome=true∧w.frozen? ⟨blk,off+t,none⟩=false) :
  Calls Tryz.prog 169 #[.slice (some ⟨blk,off,none⟩) n cap,.int .i64 i,.int .i64 j] w fun e w'=>e=.returned (.slice (some ⟨blk,off,none⟩) (n-1) cap)∧w'=(w.drew.setCells blk (off+i*8) news).setCells blk (off+(n-1)*8) zeroUs:=by
 obtain ⟨i0,hi0,hz0,hz1,hz2⟩:=info_parts infoUn;obtain ⟨A,hA,hsrc⟩:∃ A:Addr,(if cap=j then some (⟨blk,off,none⟩:Addr) else some ⟨blk,off+j*8,none⟩)=some A∧Hid (∀ t u,news[t]?=some u→w.drew.cell? (A.add t)=some u):=by
  by_cases h:cap=j
  ·refine ⟨⟨blk,off,none⟩,by simp [h],fun t u hu=>?_⟩;have h0:news.length=0:=by rw [hnl];omega
   rw [List.length_eq_zero_iff.1 h0] at hu;simp at hu
  ·refine ⟨⟨blk,off+j*8,none⟩,by simp [h],fun t u hu=>?_⟩;rw [Addr.add_lit];exact hget t u hu
 have s1:Hid (news.length=(n-j)*8):=by rw [hnl];congr 1;omega
 have s2:Hid (∀ u∈news,u.oneCell'=true):=h1;have s3:Hid (∀ t,t<news.length→(w.drew.cell? ⟨blk,off+i*8+t,none⟩).isSome=true∧w.drew.frozen? ⟨blk,off+i*8+t,none⟩=false):=by
  intro t ht;rw [Nat.add_assoc];exact hsp (i*8+t) (by rw [hnl] at ht;omega)
 obtain ⟨W1,hW1⟩:∃ W1,W1=w.drew.setCells blk (off+i*8) news:=⟨_,rfl⟩;have hcl:∀ ty,(Builtin.clear_ #[25] ty #[.slice (some ⟨blk,off+(i+(n-j))*8,none⟩) (n-(i+(n-j))) (cap-(i+(n-j)))]).run Tryz.prog W1=.ok (.tuple #[]) (W1.setCells blk (off+(i+(n-j))*8) zeroUs):=fun ty=>by
  rw [show i+(n-j)=n-1 by omega,show n-(n-1)=1 by omega];refine clear_world W1 ty blk _ _ (fun j hj=>?_) (fun j hj=>?_)
  ·rw [hW1,Nat.add_assoc];exact isSome_setCells blk news _ _ _ (hsp ((n-1)*8+j) (by omega)).1
  ·rw [hW1,World.frozen?_setCells,Nat.add_assoc];exact (hsp ((n-1)*8+j) (by omega)).2
 have hW:Hid (W1=w.drew.setCells blk (off+i*8) news):=hW1;have hic:i≤cap:=by omega
 have hjc:j≤cap:=by omega
 have mixed:Tryz.prog.follows .mixedOrders=true:=by kernel_rfl
 have hij:i<j:=by omega
 have hjn:j≤n:=by omega
 have hjq:Hid (j=i+1):=hj;clear hW1 hsp hget hj
 go_enter Tryz.func169,Tryz.ntmps169
 go_wp2_with fail
 go_region_law_o (refine step_append_room rfl (.tmp 22) (.tmp 25) 25 rfl 27 i0 8 Tryz.underlying25 hi0 hz1 blk off i cap (by simp [Act.eval,Act.put]) A (n-j) (cap-j) news (by simp [Act.eval,Act.put]) s1.out hsrc.out s2.out (by omega) s3.out ?_;rw [← hW.out])
 go_wp2
 go_ret
 have e1:i+(n-j)=n-1:=by have:=hjq.out;omega
 rw [e1,hW.out];exact ⟨rfl,rfl⟩
theorem setCells_spec (b:Nat):∀ (vs:List Value) (o:Nat) (w:World) (c:Array Value) (tt:TypeId),w.heap[b]?=some (.cells c tt (0,0))→o+vs.length≤c.size→∃ c':Array Value,(w.setCells b o vs).heap[b]?=some (.cells c' tt (0,0))∧c'.size=c.size∧(∀ k,k<vs.length→c'.getD (o+k) Go.undef=vs.getD k Go.undef)∧(∀ k,k<o∨o+vs.length≤k→c'.getD k Go.undef=c.getD k Go.undef)
 | [],o,w,c,tt,h,_=>⟨c,h,rfl,fun k hk=>by simp at hk,fun _ _=>rfl⟩
 | v::r,o,w,c,tt,h,hl=>by
  simp only [List.length_cons] at hl;have h1:=heap_setCell_same w b o c tt v h;obtain ⟨c',k1,k2,k3,k4⟩:=setCells_spec b r (o+1) (w.setCell ⟨b,o,none⟩ v) (c.setIfInBounds o v) tt h1 (by rw [Array.size_setIfInBounds];omega);refine ⟨c',k1,by rw [k2,Array.size_setIfInBounds],fun k hk=>?_,fun k hk=>?_⟩
  ·cases k with
   | zero =>
    rw [Nat.add_zero,k4 o (.inl (by omega))];have:o<c.size:=by omega
    simp [Array.getD_eq_getD_getElem?,this]
   | succ k =>
    have:=k3 k (by simpa using hk);rw [show o+(k+1)=o+1+k by omega,this];rfl
  ·simp only [List.length_cons] at hk;rw [k4 k (by omega)];have hne:o≠k:=by omega
   simp [Array.getD_eq_getD_getElem?,Array.getElem?_setIfInBounds_ne hne]
theorem setCells_rest (b:Nat):∀ (vs:List Value) (o:Nat) (w:World),(∀ k,k≠b→(w.setCells b o vs).heap[k]?=w.heap[k]?)∧(w.setCells b o vs).heap.size=w.heap.size∧(w.setCells b o vs).os=w.os∧(w.setCells b o vs).tape=w.tape∧(w.setCells b o vs).output=w.output
 | [],_,_=>⟨fun _ _=>rfl,rfl,rfl,rfl,rfl⟩
 | v::r,o,w=>by
  obtain ⟨k1,k2,k3,k4,k5⟩:=setCells_rest b r (o+1) (w.setCell ⟨b,o,none⟩ v);refine ⟨fun k hk=>(k1 k hk).trans (heap_setCell_other w _ k v hk),k2.trans (by simp [World.setCell]),k3,k4,k5⟩
theorem setCells_app (b:Nat):∀ (xs ys:List Value) (o:Nat) (w:World),(w.setCells b o xs).setCells b (o+xs.length) ys=w.setCells b o (xs++ys)
 | [],ys,o,w=>rfl
 | x::r,ys,o,w=>by
  have:=setCells_app b r ys (o+1) (w.setCell ⟨b,o,none⟩ x);simp only [List.length_cons,List.cons_append,World.setCells];rw [← this,show o+(r.length+1)=o+1+r.length by omega]
def zeroRow:List PV:=[pI 0,pI 0,pI 0,pI 0,.str [],.nilsl,.nilsl,.nilsl]
theorem zeroUs_one (j:Nat) (hj:j<8):(zeroUs.getD j Go.undef).oneCell'=true:=by
 match j,hj with
 | 0,_|1,_|2,_|3,_|4,_|5,_|6,_|7,_=>rfl
theorem zeroUs_rep (g:Gh) (j:Nat) (hj:j<8):Rep g (zeroUs.getD j Go.undef) (PV.nth zeroRow j):=by
 match j,hj with
 | 0,_|1,_|2,_|3,_=>exact .int _ _
 | 4,_=>exact .str _ _ rfl
 | 5,_|6,_|7,_=>exact .nilsl
theorem args_3 {g:Gh} {vals:Array Value} {p q s:PV} (h:Args g vals [p,q,s]):∃ v u x,vals=#[v,u,x]∧Rep g v p∧Rep g u q∧Rep g x s:=by
 obtain ⟨h1,h2⟩:=h;have a0:=h2 0 (by simp);have a1:=h2 1 (by simp);have a2:=h2 2 (by simp);refine ⟨vals[0]'(by simp [h1]),vals[1]'(by simp [h1]),vals[2]'(by simp [h1]),?_,?_,?_,?_⟩
 ·apply Array.ext
  ·simp [h1]
  ·intro i hi hj;have:i=0∨i=1∨i=2:=by simp at hj;omega
   rcases this with rfl|rfl|rfl<;>rfl
 ·simpa [Array.getD_eq_getD_getElem?,h1,PV.nth] using a0
 ·simpa [Array.getD_eq_getD_getElem?,h1,PV.nth] using a1
 ·simpa [Array.getD_eq_getD_getElem?,h1,PV.nth] using a2
theorem fok_Delete:fnOk Tryz.prog 169=true:=by kernel_rfl
theorem sp_Delete {id i : Nat} {R : List (List PV)} {h : Heap} (hg : h.get id = some (.arr false 8 R)) (hi : i < R.length) (hR : R.length ≤ 1000000) :
  Zal Tryz.prog 169 [.own id 0 R.length,pI i,pI ((i:Int)+1)] h (fun p h'=>p=.own id 0 (R.length-1)∧h'=h.set id (.arr false 8 (R.take i++(R.drop (i+1)++[zeroRow])))):=by
 refine ⟨fok_Delete,fun g w vals r ha=>?_⟩;obtain ⟨v,u,x,rfl,hv,hu,hx⟩:=args_3 ha;cases hu;cases hx;rcases own_seen r hv hg (by omega) with ⟨h0,_⟩|⟨cap,b,o,n2,c,ty,rfl,hβ,hcap,hn,hlt,hb,hcs,hra⟩
 ·omega
 rw [Nat.zero_mul,Nat.add_zero] at hn hra ⊢;rw [List.drop_zero,List.take_length] at hra;have hcell:∀ k,k<c.size→w.cell? ⟨b,k,none⟩=some (c.getD k Go.undef):=fun k hk=>by simp [World.cell?,hb,hk,Array.getD]
 obtain ⟨news,hnews⟩:∃ news:List Value,news=(List.range ((R.length-1-i)*8)).map fun t=>c.getD (o+(i+1)*8+t) Go.undef:=⟨_,rfl⟩;have hnl:news.length=(R.length-1-i)*8:=by rw [hnews];simp
 have hrow:∀ i' j,i'<R.length→j<8→(c.getD (o+i'*8+j) Go.undef).oneCell'=true∧Rep g (c.getD (o+i'*8+j) Go.undef) (PV.nth (PV.row R i') j):=fun i' j h1 h2=>by
  obtain ⟨y,e1,e2,e3⟩:=hra i' j h1 h2;have hlt':o+i'*8+j<c.size:=by omega
  rw [hcell _ hlt'] at e1;simp only [Option.some.injEq] at e1;rw [e1];exact ⟨e2,e3⟩
 have hnget:∀ t,t<(R.length-1-i)*8→news.getD t Go.undef=c.getD (o+(i+1)*8+t) Go.undef:=fun t ht=>by
  rw [hnews,List.getD_eq_getElem?_getD,List.getElem?_map,List.getElem?_range ht];rfl
 refine (delete_world b o R.length cap i (i+1) w news rfl hi hcap hR hnl (fun t y hy=>?_) (fun y hy=>?_) (fun t ht=>?_)).mono ?_
 ·have ht:t<(R.length-1-i)*8:=by rw [← hnl];exact (List.getElem?_eq_some_iff.1 hy).1
  have:=hnget t ht;rw [List.getD_eq_getElem?_getD,hy] at this;rw [hcell _ (by omega),← this];rfl
 ·rw [hnews] at hy;obtain ⟨t,ht,rfl⟩:=List.mem_map.1 hy;rw [List.mem_range] at ht;have:=(hrow (i+1+t / 8) (t % 8) (by omega) (by omega)).1
  rwa [show o+(i+1+t / 8)*8+t % 8=o+(i+1)*8+t by omega] at this
 ·refine ⟨?_,?_⟩
  ·rw [hcell _ (by omega)];rfl
  ·simp [World.frozen?,hb]
 rintro e w' ⟨rfl,rfl⟩;rw [show o+(R.length-1)*8=o+i*8+news.length by rw [hnl];omega,setCells_app];have hcl:(news++zeroUs).length=(R.length-i)*8:=by rw [List.length_append,hnl];simp [zeroUs];omega
 obtain ⟨c',k1,k2,k3,k4⟩:=setCells_spec b (news++zeroUs) (o+i*8) w.drew c ty hb (by rw [hcl];omega);obtain ⟨q1,q2,q3,q4,q5⟩:=setCells_rest b (news++zeroUs) (o+i*8) w.drew;have hnr:(R.drop (i+1)++[zeroRow]).length=R.length-i:=by simp;omega
 have hrowN:∀ i' ,i'<R.length-1-i→PV.row (R.drop (i+1)++[zeroRow]) i'=PV.row R (i+1+i'):=fun i' h1=>by
  unfold PV.row;rw [List.getD_eq_getElem?_getD,List.getElem?_append_left (by simp;omega),List.getElem?_drop,List.getD_eq_getElem?_getD]
 have hrowZ:PV.row (R.drop (i+1)++[zeroRow]) (R.length-1-i)=zeroRow:=by
  unfold PV.row;rw [List.getD_eq_getElem?_getD,List.getElem?_append_right (by simp;omega),List.length_drop,show R.length-1-i-(R.length-(i+1))=0 by omega];rfl
 have hz8:∀ i',i'<R.length→(PV.row R i').length=8:=by
  rcases r.blk id _ hg with ⟨hb0,_⟩|⟨_,_,_,_,_,_,_,hz,h2,_⟩
  ·rw [hβ] at hb0;cases hb0
  ·exact fun i' h1=>by rw [h2 i' h1];exact hz.symm
 have hcells:Go.VM.RowsIn g (news++zeroUs) 8 (R.drop (i+1)++[zeroRow]):=by
  refine ⟨by rw [hcl,hnr],fun i' j h1 h2=>?_⟩;rw [hnr] at h1;by_cases h3:i'<R.length-1-i
  ·have hlt':i'*8+j<(R.length-1-i)*8:=by omega
   rw [List.getD_eq_getElem?_getD,List.getElem?_append_left (by rw [hnl];exact hlt'),← List.getD_eq_getElem?_getD,hnget _ hlt',hrowN i' h3];have:=hrow (i+1+i') j (by omega) h2
   rwa [show o+(i+1+i')*8+j=o+(i+1)*8+(i'*8+j) by omega] at this
  ·have e:i'=R.length-1-i:=by omega
   subst e;rw [List.getD_eq_getElem?_getD,List.getElem?_append_right (by rw [hnl];omega),hnl,show (R.length-1-i)*8+j-(R.length-1-i)*8=j by omega,← List.getD_eq_getElem?_getD,hrowZ];exact ⟨zeroUs_one j h2,zeroUs_rep g j h2⟩
 obtain ⟨R', E'⟩ := rows_write r (off := i) (news := R.drop (i + 1) ++ [zeroRow]) (cs := news ++ zeroUs) hg hβ hcells (fun i' h1 => by
   rw [hnr] at h1;by_cases h3:i'<R.length-1-i
   ·rw [hrowN i' h3];exact hz8 _ (by omega)
   ·have e:i'=R.length-1-i:=by omega
    subst e;rw [hrowZ];rfl) (by rw [hnr];omega) (w.drew.setCells b (o+i*8) (news++zeroUs)) c c' ty hb k1 k2 k3 k4 (fun k _ hk=>q1 k hk) (by rw [q2];exact Nat.le_refl _) q3 q4 q5
 have hdr:R.drop (i+(R.drop (i+1)++[zeroRow]).length)=[]:=List.drop_eq_nil_of_le (by rw [hnr];omega);rw [hdr,List.append_nil] at R' E';exact ⟨_,_,g,_,rfl,⟨rfl,rfl⟩,.own id 0 (R.length-1) cap b o n2 8 _ hβ (by simp) (by omega) (by omega),R',E'⟩
end Go.Proofs.YtcgdjembdjdlhaaGreatDoor.w
namespace Go.Proofs.YtcgdjembdjdlhaaGreatDoor.w
open Go Go.VM
def c_treeedit_without_1:VC:=(ZR [ZO 2 (.box 8 (.t 0)),ZO 3 (.alloc ZU)] (.seq (.draw2 [ZO 4 (.faddr 7 (.t 2)),ZO 5 (.load false 1 (.t 4)),ZO 6 (.call 117 [.t 5]),ZO 7 (.load false 1 (.t 1)),ZO 8 (.load false 1 (.t 1)),ZO 9 (.bin .add (.t 8) (.c (.int .i64 1))),ZO 10 (.call 169 [.t 6,.t 7,.t 9]),ZO 11 (.faddr 7 (.t 2)),ZN (.store 1 (.t 11) (.t 10))] [true,true,true,true,true,true,true,true,false]) (ZR [ZO 12 (.load true 8 (.t 2)),ZN (.store 8 (.t 3) (.t 12))] .ret)))
def c_treeedit_at:VC:=(ZR [ZO 3 (.box 8 (.t 0)),ZO 4 (.box 3 (.t 1)),ZO 6 (.alloc ZU),ZO 7 (.mv (.c (.bool false)))] (.seq (ZR [ZO 12 (.faddr 0 (.t 3)),ZO 13 (.load true 3 (.t 12)),ZO 14 (.load true 3 (.t 4)),ZO 15 (.eqs false [.i,.i,.i] (.t 13) (.t 14))] (.cond (.t 15) (ZR [ZM 16 2,ZO 17 (.load true 8 (.t 3)),ZO 18 (.callv (.t 16) [.t 17]),ZN (.store 8 (.t 6) (.t 18)),ZO 7 (.mv (.c (.bool true)))] .ret) .skip)) (.seq (ZR [ZO 19 (.faddr 7 (.t 3)),ZO 20 (.load false 1 (.t 19)),ZO 21 (.len false (.t 20)),ZO 22 (.mv (.c (.int .i64 0)))] (.block 0 (.loop (ZR [ZO 23 (.bin .lss (.t 22) (.t 21))] (.seq (.cond (.t 23) .skip (.exit 0)) (.seq (.block 1 (ZR [ZM 24 22,ZO 25 (.iaddr 8 (.t 20) (.t 22)),ZO 26 (.load true 8 (.t 25)),ZO 9 (.alloc ZU),ZM 8 24,ZN (.store 8 (.t 9) (.t 26))] (ZR [ZO 28 (.load true 8 (.t 9)),ZO 29 (.load true 3 (.t 4)),ZM 30 2,ZO 31 (.call 208 [.t 28,.t 29,.t 30]),ZM 27 31,ZO 32 (.ext (.t 27) 0),ZO 33 (.ext (.t 27) 1),ZO 10 (.alloc ZU),ZN (.store 8 (.t 10) (.t 32)),ZM 11 33] (ZR [ZM 34 11] (.cond (.t 34) (ZR [ZO 35 (.faddr 7 (.t 3)),ZO 36 (.load false 1 (.t 35)),ZO 37 (.call 117 [.t 36]),ZO 38 (.faddr 7 (.t 3)),ZN (.store 1 (.t 38) (.t 37))] (ZR [ZO 39 (.faddr 7 (.t 3)),ZO 40 (.load false 1 (.t 39)),ZM 41 8,ZO 42 (.load true 8 (.t 10)),ZO 43 (.iaddr 8 (.t 40) (.t 41)),ZN (.store 8 (.t 43) (.t 42))] (ZR [ZO 44 (.load true 8 (.t 3)),ZN (.store 8 (.t 6) (.t 44)),ZO 7 (.mv (.c (.bool true)))] .ret))) .skip))))) (.region [ZO 45 (.bin .add (.t 22) (.c (.int .i64 1))),ZM 22 45] false))))))) (ZR [ZO 46 (.load true 8 (.t 3)),ZN (.store 8 (.t 6) (.t 46)),ZO 7 (.mv (.c (.bool false)))] .ret))))
def c_treeedit_done:VC:=(ZR [ZO 3 (.box 8 (.t 0)),ZO 4 (.box 3 (.t 1)),ZO 6 (.alloc ZU)] (.seq (.draw2 [ZO 10 (.load true 8 (.t 3)),ZO 11 (.call 113 [.t 10]),ZO 12 (.load true 3 (.t 4)),ZM 13 2,ZO 14 (.call 208 [.t 11,.t 12,.t 13]),ZM 9 14,ZO 15 (.ext (.t 9) 0),ZO 16 (.ext (.t 9) 1),ZO 7 (.alloc ZU),ZN (.store 8 (.t 7) (.t 15)),ZM 8 16] [true,true,true,true,true,true,true,false,true,false,false]) (ZR [ZO 17 (.load true 8 (.t 7)),ZN (.store 8 (.t 6) (.t 17))] .ret)))
theorem view_un8s {h:Heap} {a b c d e f g x:PV} {y:PV} (hv:View h x y):View h (.agg [a,b,c,d,e,f,g,x]) (.agg [a,b,c,d,e,f,g,y]):=by
 refine View.agg rfl fun j hj=>?_;have hj':j=0∨j=1∨j=2∨j=3∨j=4∨j=5∨j=6∨j=7:=by simp only [List.length_cons,List.length_nil] at hj;omega
 rcases hj' with rfl|rfl|rfl|rfl|rfl|rfl|rfl|rfl
 ·exact View.refl _ _
 ·exact View.refl _ _
 ·exact View.refl _ _
 ·exact View.refl _ _
 ·exact View.refl _ _
 ·exact View.refl _ _
 ·exact View.refl _ _
 ·exact hv
theorem enc_kidsU (u:Un) (ks:List Un):(kidsU u ks).enc=[pI u.act,pI u.item,pI u.n,pI u.kind,.str u.label,.sl 4 (u.head.map Wd.enc),.sl 4 (u.words.map Wd.enc),.sl 8 (ks.map Un.enc)]:=by
 rw [Un.Zaf];rfl
theorem sp_without_1 (u:Un) (hk:u.kids.length≤1000) (i:Nat) (hi:i<u.kids.length):Zak Tryz.prog 168 [.agg u.enc,.ro [pI i]] (.agg (lessU i u).enc):=by
 have hue:=Un.Zaf u;have hle:(lessU i u).enc=_:=enc_kidsU u (u.kids.take i++u.kids.drop (i+1));refine Zad ?_ (Zap _) (by intro y hy;simp only [List.mem_cons,List.not_mem_nil,or_false] at hy;rcases hy with rfl|rfl;exact Zap u;exact Zbg (by intro z hz;rw [List.mem_singleton] at hz;subst hz;exact cI _));refine Gn (vc:=c_treeedit_without_1) [.c 3 true 8] Tryz.func168 ?_;unfold c_treeedit_without_1;try dsimp only [ZM,ZO,ZN,ZG,ZR,ZU]
 rw [hue,hle];have CK:=clone_ownL (L:=[(1,.arr false 8 [zeroRow0]),(0,.arr false 8 [[pI u.act,pI u.item,pI u.n,pI u.kind,.str u.label,.sl 4 (u.head.map Wd.enc),.sl 4 (u.words.map Wd.enc),.sl 8 (u.kids.map Un.enc)]])]) (t:=2) ⟨by omega,by omega,trivial⟩ u.kids (by omega);have DL:=sp_Delete (id:=3) (i:=i) (R:=u.kids.map Un.enc) (h:=⟨[(3,.arr false 8 (u.kids.map Un.enc)),(1,.arr false 8 [zeroRow0]),(0,.arr false 8 [[pI u.act,pI u.item,pI u.n,pI u.kind,.str u.label,.sl 4 (u.head.map Wd.enc),.sl 4 (u.words.map Wd.enc),.sl 8 (u.kids.map Un.enc)]])],4⟩) (by simp [Heap.get,HL.get]) (by simpa using hi) (by rw [List.length_map];omega);rw [List.length_map] at DL;unfold zeroRow0 at CK DL;generalize hEH:u.head.map Wd.enc=EH at *;generalize hEW:u.words.map Wd.enc=EW at *;generalize u.kids=KL at *;refine Rp0 [1,2,3] ?_;refine Zaa (VW_draw2Y [2,6] [2,3] ⟨[(1,.arr false 8 [[pI 0,pI 0,pI 0,pI 0,.str [],.nilsl,.nilsl,.nilsl]]),(0,.arr false 8 [[pI u.act,pI u.item,pI u.n,pI u.kind,.str u.label,.sl 4 EH,.sl 4 EW,.sl 8 (KL.map Un.enc)]])],30⟩ ⟨[],30⟩ rfl (by simp [Heap.le,HL.le,Heap.get,HL.get]) (by simp [Heap.le,HL.le]) ?_);simp only [vmL,Nat.reduceEqDiff,Nat.reduceAdd,Nat.reduceLT,DrawY_n,DrawY_at,DrawY_nil,List.contains_cons,List.contains_nil,Nat.reduceBEq,Bool.or_false];refine ⟨_,_,fun K' k=>Zal.mono CK (by rintro p h' ⟨rfl,rfl⟩;exact k),?_⟩;try simp only [vmL,Nat.reduceEqDiff,Nat.reduceAdd,Nat.reduceLeDiff,reduceCtorEq,DrawY_n,DrawY_at,DrawY_nil,List.contains_cons,List.contains_nil,Nat.reduceBEq,Bool.or_false,Bool.or_true,Bool.false_or,w64 (n:=(i:Int)+1) (by omega) (by omega)]
 refine ⟨_,_,fun K' k=>Zal.mono DL (by rintro p h' ⟨rfl,rfl⟩;exact k),?_⟩;try simp only [vmL,Nat.reduceEqDiff,Nat.reduceAdd,Nat.reduceLT,Nat.reduceLeDiff,reduceCtorEq,DrawY_n,DrawY_at,DrawY_nil,List.contains_cons,List.contains_nil,Nat.reduceBEq,Bool.or_false,Bool.or_true,Bool.false_or]
 refine ⟨fun h=>(by cases h),?_⟩;refine Rp0 [3] ?_;refine Tp0 ?_;refine view_un8s ?_;have hes:(KL.take i++KL.drop (i+1)).map Un.enc=(((KL.map Un.enc).take i++((KL.map Un.enc).drop (i+1)++[zeroRow])).drop 0).take (KL.length-1):=by
  rw [List.drop_zero,← List.append_assoc,List.take_left' (by simp;omega),List.map_append,List.map_take,List.map_drop]
 rw [hes];exact View.own (fz:=false) (by simp [Heap.get,HL.get]) (by simp;omega)
theorem closed_atA (u:Un) (x:Idt) {f:FuncId} {cap:List PV} (hc:Za0 cap):Za0 [.agg u.enc,.agg x.enc,.fn (.func f) [] cap]:=by
 intro y hy;simp only [List.mem_cons,List.not_mem_nil,or_false] at hy;rcases hy with rfl|rfl|rfl
 ·exact Zap u
 ·exact Zax (Idt.closed x)
 ·exact Zbt hc
theorem closed_atR (u:Un) (b:Bool):Closed (.tup [.agg u.enc,.bool b]):=Zbs (by simp only [List.mem_cons,List.not_mem_nil,or_false,forall_eq_or_imp,forall_eq];exact ⟨Zap _,cB _⟩)
theorem sp_tree_at {fid:FuncId} {cap:List PV} (hc:Za0 cap) {f:Un→Un} {x:Idt} {u:Un} (hu:SmT u):(∀ y∈unitsT u,idU y=x→Zak Tryz.prog fid (.agg y.enc::cap) (.agg (f y).enc))→Zak Tryz.prog 208 [.agg u.enc,.agg x.enc,.fn (.func fid) [] cap] (.tup [.agg ((atT f x u).getD u).enc,.bool (atT f x u).isSome]):=by
 induction hu with
 | mk u h hk hs ih =>
  intro hf;have ih':∀ k∈u.kids,Zak Tryz.prog 208 [.agg k.enc,.agg x.enc,.fn (.func fid) [] cap] (.tup [.agg ((atT f x k).getD k).enc,.bool (atT f x k).isSome]):=fun k hk'=>ih k hk' fun y hy=>hf y (Zb6 hk' hy);clear ih;have hf0:=hf u (Zbb u);have hat:=atT_eq f x u;have hxe:x.enc=[pI x.act,pI x.item,pI x.n]:=rfl;refine Zad ?_ (closed_atR _ _) (closed_atA u x hc);refine Gn (vc:=c_treeedit_at) [.c 6 true 8,.t 7] Tryz.func208 ?_;unfold c_treeedit_at
  try dsimp only [ZM,ZO,ZN,ZG,ZR,ZU]
  have hue:=Un.Zaf u;have hid:=id_eqs (idU u) x;have hiu:(idU u).act=u.act∧(idU u).item=u.item∧(idU u).n=u.n:=⟨rfl,rfl,rfl⟩;rw [hiu.1,hiu.2.1,hiu.2.2] at hid;rw [hue] at hf0;rw [hue,hxe] at *;generalize hEH:u.head.map Wd.enc=EH at *;generalize hEW:u.words.map Wd.enc=EW at *;refine Rp0 [2,3,4,6,7] ?_;refine Zaa ?_;refine Rp1 [2,3,4,6,7,15] hid ?_;by_cases he:idU u=x
  ·rw [if_pos he] at hat
   have H:=hf0 he;rw [hat];generalize f u=fu at H ⊢;have e1:((some fu).getD u)=fu:=rfl;have e2:(some fu).isSome=true:=rfl;rw [e1,e2];rw [Un.Zaf fu] at H ⊢;rw [decide_eq_true he];refine Ct ?_;refine Rp1 [6,7] @xan ?_;refine Ap0 H ?_;exact Tv0
  rw [if_neg he] at hat
  rw [decide_eq_false he];refine Fp0 ?_;clear hf hf0;generalize hKL:u.kids=KL at *;refine Zaa ?_;refine Rp1 [2,3,4,6,20,21,22] @xlm ?_;refine Zab ?_;refine Zah (σ:={ x':Nat×Nat//x'.1≤KL.length∧3≤x'.2∧∀ (j:Nat) (hj:j<KL.length),j<x'.1→atT f x KL[j]=none }) (fun x'=>([(2,.fn (.func fid) [] cap),(3,.loc 0 0 0),(4,.loc 1 0 0),(6,.loc 2 0 0),(20,.sl 8 (KL.map Un.enc)),(21,pI KL.length),(22,pI x'.1.1)],⟨[(2,.arr false 8 [[pI 0,pI 0,pI 0,pI 0,.str [],.nilsl,.nilsl,.nilsl]]),(1,.arr false 3 [[pI x.act,pI x.item,pI x.n]]),(0,.arr false 8 [[pI u.act,pI u.item,pI u.n,pI u.kind,.str u.label,.sl 4 EH,.sl 4 EW,.sl 8 (KL.map Un.enc)]])],x'.1.2⟩)) (fun x'=>KL.length-x'.1.1) ⟨(0,3),Nat.zero_le _,Nat.le_refl _,fun j _ h=>by cases h⟩ ?_ ?_ ?_
  ·exact Sr0
  ·exact Sr0
  rintro ⟨⟨k,t⟩,hkk,ht,hpre⟩;simp only [] at hkk ht hpre ⊢;have qq:=N5 0 1 2 t (t+1);refine Rp1 [2,3,4,6,20,21,22,23] qq ?_;refine Zaa ?_;refine Zac rfl (fun h1=>?_) (fun h1=>?_)
  ·have ka:k<KL.length:=by simp only [decide_eq_true_eq] at h1;omega
   have hrow:(KL.map Un.enc).getD k []=KL[k].enc:=rowm ka;have I:=ih' KL[k] (List.getElem_mem ka);have hhit:=fun y=>atL_hit (f:=f) (x:=x) (y:=y) ka hpre;have hnext:atT f x KL[k]=none→∀ (j:Nat) (hj:j<KL.length),j<k+1→atT f x KL[j]=none:=fun h j hj hjk=>by
    by_cases e:j=k
    ·subst e;exact h
    ·exact hpre j hj (by omega)
   generalize KL[k]=v at hrow I hhit hnext;have hrv:((atT f x v).getD v).enc=_:=Un.Zaf ((atT f x v).getD v);rw [Un.Zaf v] at hrow;rw [Un.Zaf v,hrv] at I;refine Kp0 ?_;refine Zaa ?_;refine Zab ?_;refine Rp1 [2,3,4,6,8,9,20,21,22] (x3 @xlm hrow qq) ?_;refine Ok ?_;refine Rp1 [2,3,4,6,8,10,11,20,21,22] qq ?_;refine Ap1 I qq ?_;refine Rp1 [2,3,4,6,8,10,20,21,22,34] qq ?_;cases ha:atT f x v with
   | none =>
    have e2:(none:Option Un).isSome=false:=rfl;rw [e2];refine Fp0 ?_;refine rp1 [2,3,4,6,20,21,22] (x2 (ad1 (a:=k) (by omega)) qq) ?_;refine ⟨⟨(k+1,t+2),ka,by show 3≤t+2;omega,hnext ha⟩,?_⟩;exact Fn1 qq
   | some y =>
    rw [hhit y ha] at hat
    have e1:((some y).getD v)=y:=rfl;have e2:(some y).isSome=true:=rfl;rw [e1,e2];refine Ct ?_;have hset:(KL.map Un.enc).set k [pI y.act,pI y.item,pI y.n,pI y.kind,.str y.label,.sl 4 (y.head.map Wd.enc),.sl 4 (y.words.map Wd.enc),.sl 8 (y.kids.map Un.enc)]=(KL.set k y).map Un.enc:=by rw [List.map_set,Un.Zaf y]
    have hsl:(KL.set k y).length=KL.length:=List.length_set;have qq:=N6 0 1 2 t (t+1) (t+3);refine Rp1 [3,6,8,10] qq ?_;refine Zal.mono (clone_ownL (t:=t+2) (by refine ⟨?_,?_,?_,?_,?_,trivial⟩<;>omega) KL (by omega)) ?_;rintro p h' ⟨rfl,rfl⟩;refine Sp1 qq ?_;refine Rp1 [3,6] (x4 hrow hset @xlm qq) ?_;refine ⟨⟨by omega,by omega⟩,ka,?_⟩;refine Rp1 [6,7] qq ?_;refine Tp1 qq ?_;rw [hat];have e3:((some (kidsU u (KL.set k y))).getD u)=kidsU u (KL.set k y):=rfl;have e4:(some (kidsU u (KL.set k y))).isSome=true:=rfl;show View _ _ (.tup [.agg ((some (kidsU u (KL.set k y))).getD u).enc,.bool (some (kidsU u (KL.set k y))).isSome]);rw [e3,e4,enc_kidsU,hEH,hEW];refine View.tup2 (view_un8s ?_) (View.refl _ _);exact View.own_all (fz:=false) (by simp [Heap.get,HL.get]) (by rw [List.length_map,hsl])
  ·have ka:k=KL.length:=by simp only [decide_eq_false_iff_not] at h1;omega
   subst ka;rw [atL_miss fun j hj=>hpre j hj hj] at hat
   have qq:=N4 0 1 2 t;refine Ep0 ?_;refine Rp1 [6,7] qq ?_;refine Tp1 qq ?_;rw [hat];show View _ _ (.tup [.agg ((none:Option Un).getD u).enc,.bool false]);rw [show ((none:Option Un).getD u)=u from rfl,Un.Zaf u,hEH,hEW,hKL];exact View.refl _ _
theorem closed_doneA (u:Un) (x:Idt) {f:FuncId} {cap:List PV} (hc:Za0 cap):Za0 [.agg u.enc,.agg x.enc,.fn (.func f) [] cap]:=closed_atA u x hc
theorem sp_tree_done {fid:FuncId} {cap:List PV} (hc:Za0 cap) {f:Un→Un} {x:Idt} {u:Un} (hu:SmT u) (hf:∀ y∈unitsT u,idU y=x→Zak Tryz.prog fid (.agg y.enc::cap) (.agg (f y).enc)):Zak Tryz.prog 167 [.agg u.enc,.agg x.enc,.fn (.func fid) [] cap] (.agg ((atT f x u).getD u).enc):=by
 have A:=sp_tree_at hc hu hf;have C:=sp_tree_copied hu;have hxe:x.enc=[pI x.act,pI x.item,pI x.n]:=rfl;refine Zad ?_ (Zap _) (closed_doneA u x hc);refine Gn (vc:=c_treeedit_done) [.c 6 true 8] Tryz.func167 ?_;unfold c_treeedit_done;try dsimp only [ZM,ZO,ZN,ZG,ZR,ZU]
 have hrv:((atT f x u).getD u).enc=_:=Un.Zaf ((atT f x u).getD u);rw [hrv] at A ⊢;generalize (atT f x u).getD u=r at A ⊢;generalize (atT f x u).isSome=b at A;have hue:=Un.Zaf u;rw [hue] at C A ⊢;rw [hxe] at A ⊢;refine Rp0 [2,3,4,6] ?_;refine Zaa (VW_draw2Y [] [6,7] ⟨[(2,.arr false 8 [[pI 0,pI 0,pI 0,pI 0,.str [],.nilsl,.nilsl,.nilsl]]),(1,.arr false 3 [[pI x.act,pI x.item,pI x.n]]),(0,.arr false 8 [[pI u.act,pI u.item,pI u.n,pI u.kind,.str u.label,.sl 4 (u.head.map Wd.enc),.sl 4 (u.words.map Wd.enc),.sl 8 (u.kids.map Un.enc)]])],30⟩ ⟨[],30⟩ rfl (by simp [Heap.le,HL.le,Heap.get,HL.get]) (by simp [Heap.le,HL.le]) ?_);simp only [vmL,Nat.reduceEqDiff,Nat.reduceAdd,Nat.reduceLT,Nat.reduceLeDiff,reduceCtorEq,DrawY_0,DrawY_nil,VOp.writes];refine ⟨_,.inl C,?_⟩
 skip
 refine ⟨_,.inl A,?_⟩;try simp only [vmL,Nat.reduceAdd,Nat.reduceLT,DrawY_0,DrawY_nil,VOp.writes]
 exact Rv0 [6]
end Go.Proofs.YtcgdjembdjdlhaaGreatDoor.w
namespace Go.VM
open Go
def keyU (x:Un):PV:=.agg [pI x.kind,.str x.label]
def encSib (l:List Un):List (PV×PV):=l.map fun x=>(keyU x,.bool true)
theorem keyEq_u (a b:Un):keyEq (keyU a) (keyU b)=sameB b a:=by
 simp only [keyEq,keyU,PV.cells,Zav,Zbq,sameB,Bool.and_true];rw [Bool.eq_iff_iff];simp only [Bool.and_eq_true,beq_iff_eq];exact ⟨fun h=>⟨h.1.symm,h.2.symm⟩,fun h=>⟨h.1.symm,h.2.symm⟩⟩
theorem encS_find1 (k:Un):∀ l:List Un,(l.any fun x=>sameB x k)=true→Zb0 (keyU k) (encSib l)=some (.bool true)
 | [],h=>by cases h
 | a::r,h=>by
  show (if keyEq (keyU k) (keyU a) then some (.bool true) else Zb0 (keyU k) (encSib r))=_;rw [keyEq_u];by_cases h1:sameB a k=true
  ·rw [if_pos h1]
  ·rw [if_neg h1];have h2:sameB a k=false:=by simpa using h1
   rw [List.any_cons,h2,Bool.false_or] at h;exact encS_find1 k r h
theorem encS_find0 (k:Un):∀ l:List Un,(l.any fun x=>sameB x k)=false→Zb0 (keyU k) (encSib l)=none
 | [],_=>rfl
 | a::r,h=>by
  rw [List.any_cons,Bool.or_eq_false_iff] at h;show (if keyEq (keyU k) (keyU a) then some (.bool true) else Zb0 (keyU k) (encSib r))=_;rw [keyEq_u,h.1,if_neg (by simp)];exact encS_find0 k r h.2
theorem encS_put (k:Un):∀ l:List Un,(l.any fun x=>sameB x k)=false→mapPut (keyU k) (.bool true) (encSib l)=encSib (l++[k])
 | [],_=>rfl
 | a::r,h=>by
  rw [List.any_cons,Bool.or_eq_false_iff] at h;have ih:=encS_put k r h.2;simp only [encSib,List.map_cons,mapPut,List.cons_append,keyEq_u] at ih ⊢;rw [h.1,if_neg (by simp),ih]
theorem encS_keys (k:Un) (l:List Un):keysOk (.st [.i,.s]) (keyU k) (encSib l):=by
 refine ⟨by simp [keyOk,keyOk.isAggP',keyU,PV.cells,eqOk,ekOk],fun p hp=>?_⟩;obtain ⟨x,_,rfl⟩:=List.mem_map.1 hp;simp [keyOk,keyOk.isAggP',keyU,PV.cells,eqOk,ekOk]
def encIdt (l:List Idt):List (PV×PV):=l.map fun x=>(.agg x.enc,.bool true)
def insI (l:List Idt) (x:Idt):List Idt:=if x∈l then l else l++[x]
theorem keyEq_idt (a b:Idt):keyEq (.agg a.enc) (.agg b.enc)=decide (a=b):=by
 cases a;cases b;simp only [keyEq,Idt.enc,PV.cells,Zav,Zbq,Bool.and_true];rw [Bool.eq_iff_iff];simp
theorem encI_find (x:Idt):∀ l:List Idt,Zb0 (.agg x.enc) (encIdt l)=if x∈l then some (.bool true) else none
 | []=>rfl
 | a::r=>by
  have ih:=encI_find x r;simp only [encIdt,List.map_cons,Zb0,keyEq_idt] at ih ⊢;by_cases h:x=a
  ·rw [decide_eq_true h,if_pos rfl,if_pos (by rw [h];exact List.mem_cons_self)]
  ·rw [decide_eq_false h,if_neg (by simp),ih];by_cases hr:x∈r
   ·rw [if_pos hr,if_pos (List.mem_cons_of_mem _ hr)]
   ·rw [if_neg hr,if_neg (fun hm=>by rcases List.mem_cons.1 hm with e|e;exact h e;exact hr e)]
theorem encI_put (x:Idt):∀ l:List Idt,mapPut (.agg x.enc) (.bool true) (encIdt l)=encIdt (insI l x)
 | []=>rfl
 | a::r=>by
  have ih:=encI_put x r;simp only [encIdt,List.map_cons,mapPut,keyEq_idt] at ih ⊢;by_cases h:x=a
  ·subst h;rw [decide_eq_true rfl,if_pos rfl];unfold insI;rw [if_pos List.mem_cons_self];rfl
  ·rw [decide_eq_false h,if_neg (by simp),ih];unfold insI;by_cases hr:x∈r
   ·rw [if_pos hr,if_pos (List.mem_cons_of_mem _ hr)];rfl
   ·rw [if_neg hr,if_neg (fun hm=>by rcases List.mem_cons.1 hm with e|e;exact h e;exact hr e)];rfl
theorem encI_keys (x:Idt) (l:List Idt):keysOk (.st [.i,.i,.i]) (.agg x.enc) (encIdt l):=by
 refine ⟨by simp [keyOk,keyOk.isAggP',Idt.enc,PV.cells,eqOk,ekOk],fun p hp=>?_⟩;obtain ⟨y,_,rfl⟩:=List.mem_map.1 hp;simp [keyOk,keyOk.isAggP',Idt.enc,PV.cells,eqOk,ekOk]
def seenI (l:List Idt):List Idt:=l.foldl insI []
theorem seen_step {l:List Idt} {k:Nat} (h:k<l.length):seenI (l.take (k+1))=insI (seenI (l.take k)) l[k]:=by
 unfold seenI;rw [List.take_add_one,List.getElem?_eq_getElem h,List.foldl_append];rfl
theorem ins_fold:∀ (l acc:List Idt),acc.Nodup→(l.foldl insI acc).Nodup∧(∀ x,x∈l.foldl insI acc↔x∈acc∨x∈l)∧(l.foldl insI acc).length≤acc.length+l.length∧((l.foldl insI acc).length=acc.length+l.length↔(acc++l).Nodup)
 | [],acc,h=>⟨h,fun x=>by simp,by simp,by simp [h]⟩
 | a::r,acc,h=>by
  rw [List.foldl_cons];by_cases ha:a∈acc
  ·have e:insI acc a=acc:=if_pos ha;rw [e];obtain ⟨h1,h2,h3,h4⟩:=ins_fold r acc h;refine ⟨h1,fun x=>?_,by rw [List.length_cons];omega,⟨fun hl=>?_,fun hn=>?_⟩⟩
   ·rw [h2,List.mem_cons];exact ⟨fun hx=>hx.imp id .inr,fun hx=>by rcases hx with h|rfl|h;exact .inl h;exact .inl ha;exact .inr h⟩
   ·rw [List.length_cons] at hl;omega
   ·exfalso
    rw [List.nodup_append] at hn;exact hn.2.2 a ha a List.mem_cons_self rfl
  ·have e:insI acc a=acc++[a]:=if_neg ha;rw [e];have hn':(acc++[a]).Nodup:=by
    rw [List.nodup_append];exact ⟨h,by simp,fun x hx y hy e'=>by rw [List.mem_singleton] at hy;rw [e',hy] at hx;exact ha hx⟩
   obtain ⟨h1,h2,h3,h4⟩:=ins_fold r (acc++[a]) hn';rw [List.length_append,List.length_singleton] at h3 h4;refine ⟨h1,fun x=>?_,by rw [List.length_cons];omega,?_⟩
   ·rw [h2,List.mem_append,List.mem_singleton,List.mem_cons,or_assoc]
   ·rw [List.length_cons];have e2:acc++a::r=acc++[a]++r:=by simp
    rw [e2,← h4];omega
theorem seen_spec (l:List Idt):(seenI l).Nodup∧(∀ x,x∈seenI l↔x∈l)∧(seenI l).length≤l.length∧((seenI l).length=l.length↔l.Nodup):=by
 obtain ⟨h1,h2,h3,h4⟩:=ins_fold l [] (by simp);exact ⟨h1,fun x=>by unfold seenI;rw [h2];simp,by unfold seenI;simpa using h3,by unfold seenI;simpa using h4⟩
def idsP (u:Un):Bool:=(decide (idZ∈seenI (idsT u))&&decide ((seenI (idsT u)).length=1))||(decide ((seenI (idsT u)).length=(idsT u).length)&&((u.kind==0)==decide (idU u=idZ)))
theorem idsP_eq (u:Un):idsP u=idsB u:=by
 unfold idsP idsB;obtain ⟨h1,h2,h3,h4⟩:=seen_spec (idsT u);have ha:(decide (idZ∈seenI (idsT u))&&decide ((seenI (idsT u)).length=1))=(idsT u).all fun x=>decide (x=idZ):=by
  rw [Bool.eq_iff_iff];simp only [Bool.and_eq_true,decide_eq_true_eq,List.all_eq_true];constructor
  ·rintro ⟨hz,hl⟩ x hx;obtain ⟨y,hy⟩:=List.length_eq_one_iff.1 hl;have a:=(h2 x).2 hx;rw [hy,List.mem_singleton] at a hz;rw [a,hz]
  ·intro H;have hz:idZ∈idsT u:=by
    rw [idsT_eq];have:=H (idU u) (by rw [idsT_eq];exact List.mem_cons_self);rw [this];exact List.mem_cons_self
   refine ⟨(h2 _).2 hz,?_⟩;have hall:∀ x∈seenI (idsT u),x=idZ:=fun x hx=>H x ((h2 x).1 hx);have hm:=(h2 idZ).2 hz
   revert h1 hall hm
   generalize seenI (idsT u)=S;intro h1 hall hm
   match S,h1,hall,hm with
   | [a],_,_,_=>rfl
   | a::b::r,h1,hall,_ =>
    have e1:=hall a List.mem_cons_self;have e2:=hall b (List.mem_cons_of_mem _ List.mem_cons_self);rw [List.nodup_cons] at h1;exact absurd (by rw [e1,← e2];exact List.mem_cons_self) h1.1
 have hb:decide ((seenI (idsT u)).length=(idsT u).length)=decide (idsT u).Nodup:=decide_eq_decide.2 h4;rw [ha,hb,Bool.and_comm (decide _) (_==_)]
theorem lenI (l:List Idt):(encIdt l).length=l.length:=List.length_map _
end Go.VM
namespace Go.Proofs.YtcgdjembdjdlhaaGreatDoor.w
open Go Go.VM
def c_unit_alone:VC:=(ZR [ZO 1 (.box 8 (.t 0)),ZO 2 (.mv (.c (.bool false)))] (.seq (ZR [ZO 7 (.faddr 3 (.t 1)),ZO 8 (.load false 1 (.t 7)),ZO 9 (.bin .eql (.t 8) (.c (.int .i64 0)))] (.cond (.t 9) (ZR [ZO 10 (.faddr 4 (.t 1)),ZO 11 (.load false 1 (.t 10)),ZO 12 (.bin .neq (.t 11) (.c (.str []))),ZM 13 12,ZG 14 (.faddr 5 (.t 1)) 13 false,ZG 15 (.load false 1 (.t 14)) 13 false,ZG 16 (.len false (.t 15)) 13 false,ZG 17 (.faddr 6 (.t 1)) 13 false,ZG 18 (.load false 1 (.t 17)) 13 false,ZG 19 (.len false (.t 18)) 13 false,ZG 20 (.bin .add (.t 16) (.t 19)) 13 false,ZG 21 (.bin .gtr (.t 20) (.c (.int .i64 0))) 13 false,ZO 22 (.pick (.t 13) (.c (.bool true)) (.t 21))] (.cond (.t 22) (ZR [ZO 2 (.mv (.c (.bool false)))] .ret) .skip)) (ZR [ZO 23 (.faddr 3 (.t 1)),ZO 24 (.load false 1 (.t 23)),ZO 25 (.call 40 [.t 24]),ZO 26 (.bin .eql (.t 25) (.c (.str []))),ZM 27 26,ZG 28 (.faddr 4 (.t 1)) 27 false,ZG 29 (.load false 1 (.t 28)) 27 false,ZG 30 (.call 172 [.t 29]) 27 false,ZG 31 (.un .not (.t 30)) 27 false,ZO 32 (.pick (.t 27) (.c (.bool true)) (.t 31)),ZM 33 32,ZG 34 (.faddr 5 (.t 1)) 33 false,ZG 35 (.load false 1 (.t 34)) 33 false,ZG 36 (.call 227 [.t 35]) 33 false,ZG 37 (.un .not (.t 36)) 33 false,ZO 38 (.pick (.t 33) (.c (.bool true)) (.t 37)),ZM 39 38,ZG 40 (.faddr 6 (.t 1)) 39 false,ZG 41 (.load false 1 (.t 40)) 39 false,ZG 42 (.call 227 [.t 41]) 39 false,ZG 43 (.un .not (.t 42)) 39 false,ZO 44 (.pick (.t 39) (.c (.bool true)) (.t 43))] (.cond (.t 44) (ZR [ZO 2 (.mv (.c (.bool false)))] .ret) .skip)))) (ZR [ZO 45 .mkmap,ZM 3 45] (.seq (ZR [ZO 46 (.faddr 7 (.t 1)),ZO 47 (.load false 1 (.t 46)),ZO 48 (.len false (.t 47)),ZO 49 (.mv (.c (.int .i64 0)))] (.block 0 (.loop (ZR [ZO 50 (.bin .lss (.t 49) (.t 48))] (.seq (.cond (.t 50) .skip (.exit 0)) (.seq (.block 1 (ZR [ZO 51 (.iaddr 8 (.t 47) (.t 49)),ZO 52 (.load true 8 (.t 51)),ZO 5 (.alloc ZU),ZN (.store 8 (.t 5) (.t 52))] (ZR [ZO 53 (.faddr 3 (.t 5)),ZO 54 (.load false 1 (.t 53)),ZO 55 (.faddr 4 (.t 5)),ZO 56 (.load false 1 (.t 55)),ZO 57 (.build [.int .i64 0,(.str [])] [(0,(1,(.t 54))),(1,(1,(.t 56)))]),ZO 6 (.alloc [.int .i64 0,(.str [])]),ZN (.store 2 (.t 6) (.t 57))] (.seq (ZR [ZO 58 (.faddr 3 (.t 1)),ZO 59 (.load false 1 (.t 58)),ZO 60 (.faddr 3 (.t 5)),ZO 61 (.load false 1 (.t 60)),ZO 62 (.call 228 [.t 59,.t 61]),ZO 63 (.un .not (.t 62)),ZM 64 63,ZG 65 (.mv (.t 3)) 64 false,ZG 66 (.load true 2 (.t 6)) 64 false,ZG 67 (.lookup (.st [.i,.s]) (.bool false) false (.t 65) (.t 66)) 64 false,ZO 68 (.pick (.t 64) (.c (.bool true)) (.t 67))] (.cond (.t 68) (ZR [ZO 2 (.mv (.c (.bool false)))] .ret) .skip)) (.region [ZM 69 3,ZO 70 (.load true 2 (.t 6)),ZN (.mapset (.st [.i,.s]) (.t 69) (.t 70) (.c (.bool true)))] false))))) (.region [ZO 71 (.bin .add (.t 49) (.c (.int .i64 1))),ZM 49 71] false))))))) (ZR [ZO 72 (.faddr 7 (.t 1)),ZO 73 (.load false 1 (.t 72)),ZO 74 (.len false (.t 73)),ZO 75 (.bin .leq (.t 74) (.c (.int .i64 64))),ZM 2 75] .ret)))))
theorem sib_step {p:Int} {L:List Un} {i:Nat} (h:i<L.length):sibB p (L.take i) (L.drop i)=(nestB p L[i].kind&&((!((L.take i).any fun x=>sameB x L[i]))&&sibB p (L.take (i+1)) (L.drop (i+1)))):=by
 have hd:L.drop i=L[i]::L.drop (i+1):=List.drop_eq_getElem_cons h;have ht:L.take i++[L[i]]=L.take (i+1):=by rw [List.take_add_one,List.getElem?_eq_getElem h];rfl
 rw [hd,sibB,ht]
theorem sp_unit_alone {u:Un} (h:SmU u) (hk:u.kids.length≤1000):Zak Tryz.prog 201 [.agg u.enc] (.bool (aloneP u)):=by
 have H:=sp_unit_row u.head (by have:=h.head.1;omega) (fun w hw=>by have:=h.head.2 w hw;omega);have W:=sp_unit_row u.words (by have:=h.words.1;omega) (fun w hw=>by have:=h.words.2 w hw;omega);have M:=sp_label_Valid u.label (by have:=h.label;omega);have KN:=sp_KindName u.kind;have hh:=h.head.1;have hw:=h.words.1;unfold aloneP;refine Gp (vc:=c_unit_alone) [.t 2] (cB _) Tryz.func201 ?_;unfold c_unit_alone;try dsimp only [ZM,ZO,ZN,ZG,ZR,ZU]
 rw [Un.Zaf];refine Rp0 [1] ?_;refine Zat [(1,.ro [pI u.act,pI u.item,pI u.n,pI u.kind,.str u.label,.sl 4 (u.head.map Wd.enc),.sl 4 (u.words.map Wd.enc),.sl 8 (u.kids.map Un.enc)])] ⟨View.loc (z:=8) (fz:=false) (es:=[[pI u.act,pI u.item,pI u.n,pI u.kind,.str u.label,.sl 4 (u.head.map Wd.enc),.sl 4 (u.words.map Wd.enc),.sl 8 (u.kids.map Un.enc)]]) rfl (by simp) rfl (by simp),trivial⟩ ?_;generalize hEH:u.head.map Wd.enc=EH at H ⊢;generalize hEW:u.words.map Wd.enc=EW at W ⊢;have lEH:EH.length=u.head.length:=by rw [← hEH,List.length_map]
 have lEW:EW.length=u.words.length:=by rw [← hEW,List.length_map]
 have hb:headB u=if u.kind=0 then (u.label==[]) && !(decide (0<u.head.length+u.words.length)) else (Zcu u.kind != [])&&(may u.label&&(rowB u.head&&rowB u.words)):=rfl;generalize headB u=hdB at hb ⊢;generalize u.kids=L at hk ⊢;have fin:∀ {h:Heap} (b c:Bool),b=(hdB&&c)→View h (PV.bool b) (.bool (hdB&&c)):=fun b c e=>by rw [e];exact View.refl _ _
 refine Zaa (Zbl (σ:={ x:Unit//hdB=true }) (fun _=>([(1,.ro [pI u.act,pI u.item,pI u.n,pI u.kind,.str u.label,.sl 4 EH,.sl 4 EW,.sl 8 (L.map Un.enc)])],⟨[],1⟩)) ?_ (fun hx=>?_))
 ·refine Rp0 [1,9] ?_;by_cases hk0:u.kind=0
  ·rw [if_pos hk0] at hb;refine Zac rfl (fun _=>?_) (fun h=>by simp [hk0] at h);cases e1:u.label==[] with
   | false =>
    have e1':(u.label != [])=true:=by rw [bne,e1];rfl
    rw [e1] at hb;refine Rp1 [1,22] e1' ?_;refine Ct ?_;refine Rp0 [2] ?_;refine Tp0 ?_;exact fin _ _ (by rw [hb];rfl)
   | true =>
   have e1':(u.label != [])=false:=by rw [bne,e1];rfl
   rw [e1,Bool.true_and] at hb;have e2:decide ((0:Int)<(u.head.length:Int)+(u.words.length:Int))=decide (0<u.head.length+u.words.length):=decide_eq_decide.2 (by omega);refine Rp1 [1,22] (x5 e1' lEH lEW (w64 (n:=(u.head.length:Int)+(u.words.length:Int)) (by omega) (by omega)) e2) ?_;cases e3:decide (0<u.head.length+u.words.length) with
   | true =>
    rw [e3] at hb;refine Ct ?_;refine Rp0 [2] ?_;refine Tp0 ?_;exact fin _ _ (by rw [hb];rfl)
   | false =>
    rw [e3] at hb;refine Fp0 ?_;exact ⟨⟨(),hb⟩,trivial⟩
  ·rw [if_neg hk0] at hb;refine Zac rfl (fun h=>absurd (by simpa using h) hk0) (fun _=>?_);refine Zaa (Zbl (σ:=Unit) (fun _=>([(1,.ro [pI u.act,pI u.item,pI u.n,pI u.kind,.str u.label,.sl 4 EH,.sl 4 EW,.sl 8 (L.map Un.enc)]),(44,.bool (!hdB))],⟨[],1⟩)) ?_ (fun _=>?_))
   ·cases e1:Zcu u.kind==[] with
    | true =>
     have e1':(Zcu u.kind != [])=false:=by rw [bne,e1];rfl
     rw [e1'] at hb;refine rp0 [1,44] ?_;refine Ap1 KN e1 ?_;exact ⟨(),by rw [hb];rfl⟩
    | false =>
    have e1':(Zcu u.kind != [])=true:=by rw [bne,e1];rfl
    rw [e1',Bool.true_and] at hb;cases e2:may u.label with
    | false =>
     rw [e2] at hb M;refine rp0 [1,44] ?_;refine Ap1 KN e1 ?_;refine Ap0 M ?_;exact ⟨(),by rw [hb];rfl⟩
    | true =>
    rw [e2,Bool.true_and] at hb;rw [e2] at M;cases e3:rowB u.head with
    | false =>
     rw [e3] at hb H;refine rp0 [1,44] ?_;refine Ap1 KN e1 ?_;refine Ap0 M ?_;refine Ap0 H ?_;exact ⟨(),by rw [hb];rfl⟩
    | true =>
    rw [e3,Bool.true_and] at hb;rw [e3] at H;refine rp0 [1,44] ?_;refine Ap1 KN e1 ?_;refine Ap0 M ?_;refine Ap0 H ?_;refine Ap0 W ?_;exact ⟨(),by rw [hb]⟩
   cases hdB with
   | false =>
    refine Ct ?_;refine Rp0 [2] ?_;refine Tp0 ?_;exact fin _ _ rfl
   | true =>
    refine Fp0 ?_;exact ⟨⟨(),rfl⟩,trivial⟩
 obtain ⟨_,hx⟩:=hx;subst hx;clear H W M KN hb;refine Rp0 [1,3] ?_;refine Zaa ?_;refine Rp1 [1,3,47,48,49] @xlm ?_;refine Zab ?_;refine Zah (σ:={ x:Nat×Nat//x.1≤L.length∧1<x.2∧sibB u.kind [] L=sibB u.kind (L.take x.1) (L.drop x.1) }) (fun x=>([(1,.ro [pI u.act,pI u.item,pI u.n,pI u.kind,.str u.label,.sl 4 EH,.sl 4 EW,.sl 8 (L.map Un.enc)]),(3,.mp 1),(47,.sl 8 (L.map Un.enc)),(48,pI L.length),(49,pI x.1.1)],⟨[(1,.map (encSib (L.take x.1.1)))],x.1.2⟩)) (fun x=>L.length-x.1.1) ⟨(0,2),Nat.zero_le _,by simp,rfl⟩ ?_ ?_ ?_
 ·exact Sr0
 ·exact Sr0
 rintro ⟨⟨i,t⟩,hii,ht1,hpre⟩;simp only [] at hii ht1 hpre ⊢;have qq:=N4 1 t (t+1) (t+1+1);refine Rp1 [1,3,47,48,49,50] qq ?_;refine Zaa ?_;refine Zac rfl (fun h1=>?_) (fun h1=>?_)
 ·have ia:i<L.length:=by simp only [decide_eq_true_eq] at h1;omega
  rw [sib_step ia] at hpre;have hrow:(L.map Un.enc).getD i []=L[i].enc:=rowm ia;have htk:L.take i++[L[i]]=L.take (i+1):=by rw [List.take_add_one,List.getElem?_eq_getElem ia];rfl
  generalize hv:L[i]=v at hpre hrow htk;rw [Un.Zaf] at hrow;have N:=sp_CanContain u.kind v.kind;have hf1:=encS_find1 v (L.take i);have hf0:=encS_find0 v (L.take i);have hkk:=encS_keys v (L.take i);have hput:=encS_put v (L.take i);rw [htk] at hput;refine Kp1 qq ?_;refine Zaa ?_;refine Zab ?_;refine Rp1 [1,3,5,47,48,49] (x3 @xlm hrow qq) ?_;refine Ok ?_;refine Rp1 [1,3,5,6,47,48,49] qq ?_;refine Zaa ?_;unfold keyU at hf1 hf0 hkk hput;generalize hM:encSib (L.take i)=Mp at hf1 hf0 hkk hput ⊢;cases hnst:nestB u.kind v.kind with
  | false =>
   rw [hnst] at N hpre;refine Rp1 [1,3,5,6,47,48,49,68] qq ?_;refine Ap1 N qq ?_;refine Ct ?_;refine Rp1 [2] qq ?_;refine Tp0 ?_;rw [hpre];exact View.refl _ _
  | true =>
  rw [hnst,Bool.true_and] at hpre;rw [hnst] at N;cases hany:(L.take i).any fun x=>sameB x v with
  | true =>
   have hf:=hf1 hany;rw [hany] at hpre;refine Rp1 [1,3,5,6,47,48,49,68] qq ?_;refine Zao N ?_;try simp only [OpsW_nil,OpsW_n,OpsW_y,Zaq,pok,pval,VA.ev,Env.get,Env.put,pickV,isBool,aggV,Zbh,locOk,PV.nth,PV.row,lookV,Zbd,mapOk,Heap.get,HL.get,Nat.le_refl,Nat.succ_ne_self,List.length,List.getD_cons_zero,List.take,List.drop,List.take_succ_cons,Nat.reduceEqDiff,Nat.reduceAdd,Nat.reduceLT,Bool.false_eq_true,Bool.true_eq_false,ite_true,ite_false,true_and,and_true,Nat.zero_add,List.length_cons,imp_self,Bool.not_true,hf,qq]
   refine ⟨hkk,?_⟩
   skip
   refine Ct ?_;refine Rp1 [2] qq ?_;refine Tp0 ?_;rw [hpre];exact View.refl _ _
  | false =>
  have hf:=hf0 hany;have hp:=hput hany;rw [hany,Bool.not_false,Bool.true_and] at hpre;refine Rp1 [1,3,5,6,47,48,49,68] qq ?_;refine Zao N ?_;try simp only [OpsW_nil,OpsW_n,OpsW_y,Zaq,pok,pval,VA.ev,Env.get,Env.put,pickV,isBool,aggV,Zbh,locOk,PV.nth,PV.row,lookV,Zbd,mapOk,Heap.get,HL.get,Nat.le_refl,Nat.succ_ne_self,List.length,List.getD_cons_zero,List.take,List.drop,List.take_succ_cons,Nat.reduceEqDiff,Nat.reduceAdd,Nat.reduceLT,Bool.false_eq_true,Bool.true_eq_false,ite_true,ite_false,true_and,and_true,Nat.zero_add,List.length_cons,imp_self,Bool.not_true,hf,qq]
  refine ⟨hkk,?_⟩
  skip
  refine Fp1 qq ?_;refine Zae [1,3,47,48,49] ?_;simp only [OpsW_nil,OpsW_n,Zaq,pok,pval,VA.ev,Env.get,Env.put,Env.keep,thenQ,blockQ,aggV,Zbh,locOk,PV.nth,PV.row,Zbd,mapHas,mapsetV,Heap.get,Heap.set,HL.get,HL.set,HL.del,Nat.le_refl,Nat.succ_ne_self,List.length,List.getD_cons_zero,List.take,List.drop,List.take_succ_cons,Nat.reduceEqDiff,Nat.reduceAdd,Nat.reduceLT,Bool.true_eq_false,ite_true,ite_false,true_and,and_true,Nat.zero_add,List.length_cons,imp_self,hp,qq];refine ⟨hkk,?_⟩
  skip
  refine rp1 [1,3,47,48,49] (x2 (ad1 (a:=i) (by omega)) qq) ?_;exact ⟨⟨(i+1,t+2),ia,by show 1<t+2;omega,hpre⟩,rfl,⟨Nat.le_refl _,rfl⟩,by show L.length-(i+1)<L.length-i;omega⟩
 ·have ka:i=L.length:=by simp only [decide_eq_false_iff_not] at h1;omega
  subst ka;rw [List.drop_length,sibB] at hpre;have e64:decide ((L.length:Int)≤64)=decide (L.length≤64):=decide_eq_decide.2 (by omega);rw [hpre];refine Ep1 qq ?_;refine Rp1 [2] (x3 qq @xlm e64) ?_;exact Tv0
end Go.Proofs.YtcgdjembdjdlhaaGreatDoor.w
namespace Go.Proofs.YtcgdjembdjdlhaaGreatDoor.w
open Go Go.VM
def c_unit_Count:VC:=(ZR [ZO 1 (.box 8 (.t 0)),ZO 2 (.mv (.c (.int .i64 0)))] (ZR [ZO 3 (.alloc [.int .i64 0]),ZN (.store 1 (.t 3) (.c (.int .i64 0)))] (ZR [ZO 4 (.load true 8 (.t 1)),ZO 5 (.mkfn (.func 229) [] [.t 3]),ZO 6 (.call 199 [.t 4,.t 5])] (ZR [ZO 7 (.load false 1 (.t 3)),ZM 2 7] .ret))))
def c_unit_Count_1:VC:=(ZR [ZO 2 (.box 8 (.t 0)),ZO 3 (.mv (.c (.bool false)))] (ZR [ZO 4 (.load false 1 (.t 1)),ZO 5 (.bin .add (.t 4) (.c (.int .i64 1))),ZN (.store 1 (.t 1) (.t 5))] (ZR [ZO 3 (.mv (.c (.bool true)))] .ret)))
def c_unit_IDs:VC:=(ZR [ZO 1 (.box 8 (.t 0)),ZO 2 (.mv (.c .nilsl))] (ZR [ZO 3 (.alloc [.nilsl])] (ZR [ZO 4 (.load true 8 (.t 1)),ZO 5 (.mkfn (.func 200) [] [.t 3]),ZO 6 (.call 199 [.t 4,.t 5])] (ZR [ZO 7 (.load false 1 (.t 3)),ZM 2 7] .ret))))
def c_unit_IDs_1:VC:=(ZR [ZO 2 (.box 8 (.t 0)),ZO 3 (.mv (.c (.bool false)))] (ZR [ZO 4 (.load false 1 (.t 1)),ZO 5 (.faddr 0 (.t 2)),ZO 6 (.load true 3 (.t 5)),ZO 7 (.bslice 3 1 [.int .i64 0,.int .i64 0,.int .i64 0] [(0,(.t 6))]),ZO 8 (.app 3 24 [.int .i64 0,.int .i64 0,.int .i64 0] false (.t 4) (.t 7)),ZN (.store 1 (.t 1) (.t 8))] (ZR [ZO 3 (.mv (.c (.bool true)))] .ret)))
def cntS (pre:List Un) (L:List (Nat×AB)):Prop:=L=[(1,.arr false 1 [[pI (pre.length:Nat)]])]
theorem count_1:EvB 229 [.loc 1 0 0] cntS 1000:=by
 intro pre u hpre hu L t hS hlt hnod hlive;cases hS;have ht:1<t:=hlt (1,.arr false 1 [[pI (pre.length:Nat)]]) (List.mem_singleton.2 rfl);have qq:=N2 1 t;refine Zal.drop ?_;refine Gn (vc:=c_unit_Count_1) [.t 3] Tryz.func229 ?_;unfold c_unit_Count_1;try dsimp only [ZM,ZO,ZN,ZG,ZR,ZU]
 rw [Un.Zaf];refine Rp1 [1,2] qq ?_;refine Rp1 [1] (x2 (ad1 (a:=pre.length) (by omega)) qq) ?_;refine Rp1 [3] qq ?_;refine Tp0 ?_;have hne:¬ t=1:=by omega
 refine ⟨⟨[(1,.arr false 1 [[pI (pre.length+1:Nat)]])],t+1⟩,⟨Nat.le_refl _,by simp [HL.le,Heap.get,HL.get,hne]⟩,_,t+1,by omega,rfl,by show _=_;rw [List.length_append];rfl,by simp [Nod],?_,?_,?_⟩
 ·intro q hq;rw [List.mem_singleton] at hq;subst hq;show 1<t+1;omega
 ·intro q hq;rw [List.mem_singleton] at hq;subst hq;exact .inl ⟨_,List.mem_singleton.2 rfl,rfl⟩
 ·intro q hq;rw [List.mem_singleton] at hq;subst hq;rfl
theorem sp_unit_Count {u:Un} (hu:SmT u) (hn:(unitsT u).length≤1000):Zak Tryz.prog 203 [.agg u.enc] (pI (unitsT u).length):=by
 have E:=sp_every_st count_1 (Nat.le_refl _) hu [] (by simpa using hn) [(1,.arr false 1 [[pI (0:Nat)]])] 2 rfl (by simp) (by simp [Nod]) (by simp [AB.live]);refine Gp (vc:=c_unit_Count) [.t 2] (cI _) Tryz.func203 ?_;unfold c_unit_Count;try dsimp only [ZM,ZO,ZN,ZG,ZR,ZU]
 rw [Un.Zaf] at E ⊢;refine Rp0 [1] ?_;refine Rp0 [1,3] ?_;refine Rp0 [3] ?_;refine Zal.weakenL (h0:=⟨[(1,.arr false 1 [[pI (0:Nat)]])],2⟩) (by simp [Heap.le,HL.le,Heap.get,HL.get]) (Zal.mono E ?_);rintro r h' ⟨rfl,L',t',ht,rfl,hS',-,-,-,-⟩;cases hS';refine Sp0 ?_;exact Rv0 [2]
def idsS (pre:List Un) (L:List (Nat×AB)):Prop:=(pre=[]∧L=[(1,.arr false 1 [[.nilsl]])])∨(pre≠[]∧∃ b,b≠1∧L=[(1,.arr false 1 [[.own b 0 pre.length]]),(b,.arr false 3 ((pre.map idU).map Idt.enc))])
theorem ids_aft {L:List (Nat×AB)} {t t' b:Nat} {pre:List Un} {u:Un} (ho:∃ r∈L,r.1=1) (h1:1<t) (hb:t≤b) (hbt:b<t'):Aft L t (idsS (pre++[u])) ⟨[(1,.arr false 1 [[.own b 0 (pre.length+1)]]),(b,.arr false 3 (((pre++[u]).map idU).map Idt.enc))],t'⟩:=by
 refine ⟨_,t',by omega,rfl,.inr ⟨by simp,b,by omega,by rw [List.length_append];rfl⟩,by simp [Nod];omega,?_,?_,?_⟩
 ·intro q hq;simp only [List.mem_cons,List.not_mem_nil,or_false] at hq;rcases hq with rfl|rfl
  ·show 1<t';omega
  ·exact hbt
 ·intro q hq;simp only [List.mem_cons,List.not_mem_nil,or_false] at hq;rcases hq with rfl|rfl
  ·exact .inl ho
  ·exact .inr hb
 ·intro q hq;simp only [List.mem_cons,List.not_mem_nil,or_false] at hq;rcases hq with rfl|rfl
  ·rfl
  ·simp [AB.live]
theorem ids_1:EvB 200 [.loc 1 0 0] idsS 1000:=by
 intro pre u hpre hu L t hS hlt hnod hlive;rcases hS with ⟨rfl,rfl⟩|⟨hne,b,hb1,rfl⟩
 ·have ht:1<t:=hlt (1,.arr false 1 [[.nilsl]]) (by simp);have qq:=N4 1 t (t+1) (t+1+1);have hst:(([]++[u]).map idU).map Idt.enc=[[pI u.act,pI u.item,pI u.n]]:=rfl;refine Zal.drop ?_;refine Gn (vc:=c_unit_IDs_1) [.t 3] Tryz.func200 ?_;unfold c_unit_IDs_1;try dsimp only [ZM,ZO,ZN,ZG,ZR,ZU]
  rw [Un.Zaf];refine Rp1 [1,2] qq ?_;refine Rp1 [1] qq ?_;refine Rp1 [3] qq ?_;refine Tp0 ?_;have hA:=ids_aft (L:=[(1,.arr false 1 [[.nilsl]])]) (t:=t) (t':=t+3) (b:=t+2) (pre:=[]) (u:=u) ⟨_,List.mem_cons_self,rfl⟩ ht (by omega) (by omega);rw [hst] at hA;refine ⟨_,?_,hA⟩;refine ⟨Nat.le_refl _,?_⟩;exact Sc1 qq
 have ht:1<t:=hlt (1,.arr false 1 [[.own b 0 pre.length]]) (by simp);have hb:b<t:=hlt (b,.arr false 3 ((pre.map idU).map Idt.enc)) (by simp);have qq:=N5 1 b t (t+1) (t+1+1);have hst:((pre++[u]).map idU).map Idt.enc=(pre.map idU).map Idt.enc++[[pI u.act,pI u.item,pI u.n]]:=by rw [List.map_append,List.map_append];rfl
 have hB:((pre.map idU).map Idt.enc).length=pre.length:=by simp
 generalize (pre.map idU).map Idt.enc=B at hst hB ⊢;have tk:List.take pre.length B=B:=List.take_of_length_le (by omega);refine Zal.drop ?_;refine Gn (vc:=c_unit_IDs_1) [.t 3] Tryz.func200 ?_;unfold c_unit_IDs_1;try dsimp only [ZM,ZO,ZN,ZG,ZR,ZU]
 rw [Un.Zaf];refine Rp1 [1,2] qq ?_;refine Rp1 [1] (x3 tk hB qq) ?_;refine ⟨by omega,by omega,?_⟩;refine Rp1 [3] qq ?_;refine Tp0 ?_;have hA:=ids_aft (L:=[(1,.arr false 1 [[.own b 0 pre.length]]),(b,.arr false 3 B)]) (t:=t) (t':=t+3) (b:=t+2) (pre:=pre) (u:=u) ⟨_,List.mem_cons_self,rfl⟩ ht (by omega) (by omega);rw [hst] at hA;refine ⟨_,?_,hA⟩;refine ⟨Nat.le_refl _,?_⟩;exact Sc1 qq
theorem sp_unit_IDs {u:Un} (hu:SmT u) (hn:(unitsT u).length≤1000):Zak Tryz.prog 163 [.agg u.enc] (.sl 3 ((idsT u).map Idt.enc)):=by
 have E:=sp_every_st ids_1 (Nat.le_refl _) hu [] (by simpa using hn) [(1,.arr false 1 [[.nilsl]])] 2 (.inl ⟨rfl,rfl⟩) (by simp) (by simp [Nod]) (by simp [AB.live]);refine Gp (vc:=c_unit_IDs) [.t 2] (closed_ids _) Tryz.func163 ?_;unfold c_unit_IDs;try dsimp only [ZM,ZO,ZN,ZG,ZR,ZU]
 rw [Un.Zaf] at E ⊢;refine Rp0 [1] ?_;refine Rp0 [1,3] ?_;refine Rp0 [3] ?_;refine Zal.weakenL (h0:=⟨[(1,.arr false 1 [[.nilsl]])],2⟩) (by simp [Heap.le,HL.le,Heap.get,HL.get]) (Zal.mono E ?_);rintro r h' ⟨rfl,L',t',ht,rfl,hS',-,-,-,-⟩;rw [List.nil_append] at hS';rcases hS' with ⟨h0,-⟩|⟨-,b,hb,rfl⟩
 ·rw [Zan] at h0;cases h0
 have qq:=N2 1 b;refine Rp1 [2] qq ?_;refine Tp0 ?_;have hlen:(unitsT u).length=((idsT u).map Idt.enc).length:=by unfold idsT;simp
 refine View.own_all (fz:=false) (es:=(idsT u).map Idt.enc) ?_ hlen;show (if 1=b then _ else if b=b then some (AB.arr false 3 (((unitsT u).map idU).map Idt.enc)) else none)=_;rw [if_neg (by omega),if_pos rfl];rfl
end Go.Proofs.YtcgdjembdjdlhaaGreatDoor.w
namespace Go.Proofs.YtcgdjembdjdlhaaGreatDoor.w
open Go Go.VM
def c_unit_ids:VC:=(ZR [ZO 1 (.box 8 (.t 0)),ZO 2 (.mv (.c (.bool false)))] (ZR [ZO 8 (.load true 8 (.t 1)),ZO 9 (.call 163 [.t 8]),ZM 3 9] (ZR [ZO 10 .mkmap,ZM 4 10] (.seq (ZR [ZM 11 3,ZO 12 (.len false (.t 11)),ZO 13 (.mv (.c (.int .i64 0)))] (.block 0 (.loop (ZR [ZO 14 (.bin .lss (.t 13) (.t 12))] (.seq (.cond (.t 14) .skip (.exit 0)) (.seq (.block 1 (ZR [ZO 15 (.iaddr 3 (.t 11) (.t 13)),ZO 16 (.load true 3 (.t 15)),ZO 6 (.alloc [.int .i64 0,.int .i64 0,.int .i64 0]),ZN (.store 3 (.t 6) (.t 16))] (.region [ZM 17 4,ZO 18 (.load true 3 (.t 6)),ZN (.mapset (.st [.i,.i,.i]) (.t 17) (.t 18) (.c (.bool true)))] false))) (.region [ZO 19 (.bin .add (.t 13) (.c (.int .i64 1))),ZM 13 19] false))))))) (ZR [ZM 20 4,ZO 21 (.build [.int .i64 0,.int .i64 0,.int .i64 0] []),ZO 22 (.lookup (.st [.i,.i,.i]) (.bool false) false (.t 20) (.t 21)),ZM 7 22] (.seq (.region [ZM 23 7,ZM 24 23,ZG 25 (.mv (.t 4)) 24 true,ZG 26 (.mlen (.t 25)) 24 true,ZG 27 (.bin .eql (.t 26) (.c (.int .i64 1))) 24 true,ZO 28 (.pick (.t 24) (.t 27) (.c (.bool false))),ZM 29 28,ZG 30 (.mv (.t 4)) 29 false,ZG 31 (.mlen (.t 30)) 29 false,ZG 32 (.mv (.t 3)) 29 false,ZG 33 (.len false (.t 32)) 29 false,ZG 34 (.bin .eql (.t 31) (.t 33)) 29 false,ZG 35 (.mv (.t 34)) 29 false,ZG 36 (.faddr 3 (.t 1)) 35 true,ZG 37 (.load false 1 (.t 36)) 35 true,ZG 38 (.bin .eql (.t 37) (.c (.int .i64 0))) 35 true,ZG 39 (.faddr 0 (.t 1)) 35 true,ZG 40 (.load true 3 (.t 39)) 35 true,ZG 41 (.build [.int .i64 0,.int .i64 0,.int .i64 0] []) 35 true,ZG 42 (.eqs false [.i,.i,.i] (.t 40) (.t 41)) 35 true,ZG 43 (.binb .eql (.t 38) (.t 42)) 35 true,ZG 44 (.pick (.t 35) (.t 43) (.c (.bool false))) 29 false,ZO 45 (.pick (.t 29) (.c (.bool true)) (.t 44)),ZM 2 45] true) .ret))))))
def c_unit_Valid:VC:=(ZR [ZO 1 (.box 8 (.t 0)),ZO 2 (.mv (.c (.bool false)))] (ZR [ZO 3 (.load true 8 (.t 1)),ZO 4 (.call 199 [.t 3,(.c (.fn (.func 201) [] []))]),ZM 5 4,ZG 6 (.load true 8 (.t 1)) 5 true,ZG 7 (.call 202 [.t 6]) 5 true,ZG 8 (.bin .leq (.t 7) (.c (.int .i64 8))) 5 true,ZO 9 (.pick (.t 5) (.t 8) (.c (.bool false))),ZM 10 9,ZG 11 (.load true 8 (.t 1)) 10 true,ZG 12 (.call 203 [.t 11]) 10 true,ZG 13 (.bin .leq (.t 12) (.c (.int .i64 1024))) 10 true,ZO 14 (.pick (.t 10) (.t 13) (.c (.bool false))),ZM 15 14,ZG 16 (.load true 8 (.t 1)) 15 true,ZG 17 (.call 204 [.t 16]) 15 true,ZO 18 (.pick (.t 15) (.t 17) (.c (.bool false))),ZM 2 18] .ret))
def c_treeedit_stands_1:VC:=(ZR [ZO 1 (.box 3 (.t 0)),ZO 2 (.mv (.c (.bool false)))] (ZR [ZO 3 (.load true 3 (.t 1)),ZO 4 (.build [.int .i64 0,.int .i64 0,.int .i64 0] []),ZO 5 (.eqs false [.i,.i,.i] (.t 3) (.t 4)),ZM 2 5] .ret))
def c_treeedit_stands:VC:=(ZR [ZO 1 (.box 8 (.t 0)),ZO 2 (.mv (.c (.bool false)))] (ZR [ZO 3 (.mv (.c (.fn (.func 162) [] [])))] (ZR [ZO 5 (.load true 8 (.t 1)),ZO 6 (.call 163 [.t 5]),ZM 4 6] (.seq (ZR [ZO 7 (.faddr 3 (.t 1)),ZO 8 (.load false 1 (.t 7)),ZO 9 (.bin .eql (.t 8) (.c (.int .i64 0)))] (.cond (.t 9) (.region [ZM 10 4,ZO 11 (.slice false 3 (.t 10) (some (.c (.int .i64 1))) none),ZM 4 11] false) .skip)) (ZR [ZO 12 (.load true 8 (.t 1)),ZO 13 (.call 164 [.t 12]),ZM 14 13,ZG 15 (.mv (.t 4)) 14 true,ZG 16 (.mv (.t 3)) 14 true,ZG 17 (.call 165 [.t 15,.t 16]) 14 true,ZG 18 (.un .not (.t 17)) 14 true,ZO 19 (.pick (.t 14) (.t 18) (.c (.bool false))),ZM 2 19] .ret)))))
theorem sp_unit_ids {u:Un} (hu:SmT u) (hn:(unitsT u).length≤1000):Zak Tryz.prog 204 [.agg u.enc] (.bool (idsB u)):=by
 have A:=sp_unit_IDs hu hn;have hil:(idsT u).length=(unitsT u).length:=by unfold idsT;simp
 rw [← idsP_eq];unfold idsP;refine Gp (vc:=c_unit_ids) [.t 2] (cB _) Tryz.func204 ?_;unfold c_unit_ids;try dsimp only [ZM,ZO,ZN,ZG,ZR,ZU]
 rw [Un.Zaf] at A ⊢;refine Rp0 [1] ?_;refine Zat [(1,.ro [pI u.act,pI u.item,pI u.n,pI u.kind,.str u.label,.sl 4 (u.head.map Wd.enc),.sl 4 (u.words.map Wd.enc),.sl 8 (u.kids.map Un.enc)])] ⟨View.loc (z:=8) (fz:=false) (es:=[[pI u.act,pI u.item,pI u.n,pI u.kind,.str u.label,.sl 4 (u.head.map Wd.enc),.sl 4 (u.words.map Wd.enc),.sl 8 (u.kids.map Un.enc)]]) rfl (by simp) rfl (by simp),trivial⟩ ?_;generalize u.head.map Wd.enc=EH at A ⊢;generalize u.words.map Wd.enc=EW at A ⊢;generalize u.kids.map Un.enc=EK at A ⊢;have hsp:=seen_spec (idsT u);generalize idsT u=I at A hil hsp ⊢;refine Rp0 [1,3] ?_;refine Zao A ?_;refine Rp0 [1,3,4] ?_;refine Zaa ?_;refine Rp1 [1,3,4,11,12,13] @xlm ?_;refine Zab ?_;refine Zah (σ:={ x:Nat×Nat//x.1≤I.length∧1<x.2 }) (fun x=>([(1,.ro [pI u.act,pI u.item,pI u.n,pI u.kind,.str u.label,.sl 4 EH,.sl 4 EW,.sl 8 EK]),(3,.sl 3 (I.map Idt.enc)),(4,.mp 1),(11,.sl 3 (I.map Idt.enc)),(12,pI I.length),(13,pI x.1.1)],⟨[(1,.map (encIdt (seenI (I.take x.1.1))))],x.1.2⟩)) (fun x=>I.length-x.1.1) ⟨(0,2),Nat.zero_le _,by simp⟩ ?_ ?_ ?_
 ·exact Sr0
 ·exact Sr0
 rintro ⟨⟨k,t⟩,hk,ht1⟩;simp only [] at hk ht1 ⊢;have qq:=N4 1 t (t+1) (t+1+1);refine Rp1 [1,3,4,11,12,13,14] qq ?_;refine Zaa ?_;refine Zac rfl (fun h1=>?_) (fun h1=>?_)
 ·have ka:k<I.length:=by simp only [decide_eq_true_eq] at h1;omega
  have hrow:(I.map Idt.enc).getD k []=[pI I[k].act,pI I[k].item,pI I[k].n]:=by rw [rowm ka];rfl
  have hst:=seen_step ka;have hkk:=encI_keys I[k] (seenI (I.take k));have hput:=encI_put I[k] (seenI (I.take k));rw [← hst] at hput;generalize I[k]=x at hrow hkk hput;unfold Idt.enc at hkk hput;generalize encIdt (seenI (I.take k))=Mp at hkk hput ⊢;refine Kp1 qq ?_;refine Zaa ?_;refine Zab ?_;refine Rp1 [1,3,4,6,11,12,13] (x3 @xlm hrow qq) ?_;refine Ok ?_;refine Zae [1,3,4,11,12,13] ?_;simp only [OpsW_nil,OpsW_n,Zaq,pok,pval,VA.ev,Env.get,Env.put,Env.keep,thenQ,blockQ,aggV,Zbh,locOk,PV.nth,PV.row,Zbd,mapHas,mapsetV,Heap.get,Heap.set,HL.get,HL.set,HL.del,Nat.le_refl,Nat.succ_ne_self,List.length,List.getD_cons_zero,List.take,List.drop,List.take_succ_cons,Nat.reduceEqDiff,Nat.reduceAdd,Nat.reduceLT,Bool.true_eq_false,ite_true,ite_false,true_and,and_true,Nat.zero_add,List.length_cons,imp_self,hput,qq];refine ⟨hkk,?_⟩
  skip
  refine rp1 [1,3,4,11,12,13] (x2 (ad1 (a:=k) (by omega)) qq) ?_;exact ⟨⟨(k+1,t+1),ka,by show 1<t+1;omega⟩,rfl,⟨Nat.le_refl _,rfl⟩,by show I.length-(k+1)<I.length-k;omega⟩
 ·have ka:k=I.length:=by simp only [decide_eq_false_iff_not] at h1;omega
  subst ka;rw [List.take_length];have hfd:=encI_find idZ (seenI I);have hkk:=encI_keys idZ (seenI I);have hml:=lenI (seenI I);have hez:idZ.enc=[pI 0,pI 0,pI 0]:=rfl;rw [hez] at hfd hkk;generalize encIdt (seenI I)=Mp at hfd hkk hml ⊢;generalize seenI I=S at hfd hml hsp ⊢;refine Ep1 qq ?_;have e1:((S.length:Int)==1)=decide (S.length=1):=by rw [Bool.eq_iff_iff];simp;omega
  have e2:((S.length:Int)==(I.length:Int))=decide (S.length=I.length):=by rw [Bool.eq_iff_iff];simp;omega
  have he:((u.act==0&&(u.item==0&&(u.n==0&&true))) != false)=decide (idU u=idZ):=id_eqs (idU u) idZ;by_cases hz:idZ∈S
  ·rw [if_pos hz] at hfd;rw [decide_eq_true hz,Bool.true_and];refine Zaa (Zae [1,3,4,7] ?_);simp only [OpsW_nil,OpsW_n,Zaq,pok,pval,VA.ev,Env.get,Env.put,Env.keep,thenQ,fillV,fillOk,lookV,Zbd,mapOk,Heap.get,HL.get,Nat.succ_ne_self,Nat.reduceEqDiff,Bool.false_eq_true,ite_true,ite_false,true_and,hfd,qq];refine ⟨hkk,?_⟩
   skip
   cases d1:decide (S.length=1) with
   | true =>
    rw [d1] at e1;refine Zaa (VW_drawS [2] (by simp [Heap.le,Heap.get,HL.le,HL.get]) ?_);refine Sp1 (x3 hml @xlm e1) ?_;refine Tp0 ?_
    (try rw [he])
    exact View.refl _ _
   | false =>
   rw [d1] at e1;cases d2:decide (S.length=I.length) with
   | false =>
    rw [d2] at e2;refine Zaa (VW_drawS [2] (by simp [Heap.le,Heap.get,HL.le,HL.get]) ?_);refine Sp1 (x4 hml @xlm e1 e2) ?_;refine Tp0 ?_
    (try rw [he])
    exact View.refl _ _
   | true =>
    rw [d2] at e2;refine Zaa (VW_drawS [2] (by simp [Heap.le,Heap.get,HL.le,HL.get]) ?_);refine Sp1 (x4 hml @xlm e1 e2) ?_;refine Tp0 ?_
    (try rw [he])
    exact View.refl _ _
  ·rw [if_neg hz] at hfd;rw [decide_eq_false hz,Bool.false_and,Bool.false_or];refine Zaa (Zae [1,3,4,7] ?_);simp only [OpsW_nil,OpsW_n,Zaq,pok,pval,VA.ev,Env.get,Env.put,Env.keep,thenQ,fillV,fillOk,lookV,Zbd,mapOk,Heap.get,HL.get,Nat.succ_ne_self,Nat.reduceEqDiff,Bool.false_eq_true,ite_true,ite_false,true_and,hfd,qq];refine ⟨hkk,?_⟩
   skip
   cases d2:decide (S.length=I.length) with
   | false =>
    rw [d2] at e2;refine Zaa (VW_drawS [2] (by simp [Heap.le,Heap.get,HL.le,HL.get]) ?_);refine Sp1 (x4 hml @xlm e1 e2) ?_;refine Tp0 ?_
    (try rw [he])
    exact View.refl _ _
   | true =>
    rw [d2] at e2;refine Zaa (VW_drawS [2] (by simp [Heap.le,Heap.get,HL.le,HL.get]) ?_);refine Sp1 (x4 hml @xlm e1 e2) ?_;refine Tp0 ?_
    (try rw [he])
    exact View.refl _ _
theorem sp_stands_1 (x:Idt):Zak Tryz.prog 162 [.agg x.enc] (.bool (decide (x=idZ))):=by
 rw [← id_eqs];refine Zad ?_ (cB _) (by intro y hy;rw [List.mem_singleton] at hy;subst hy;exact Zax x.closed);refine Gn (vc:=c_treeedit_stands_1) [.t 2] Tryz.func162 ?_;unfold c_treeedit_stands_1;try dsimp only [ZM,ZO,ZN,ZG,ZR,ZU]
 unfold Idt.enc;refine Rp0 [1] ?_;exact Rv0 [2]
theorem sp_unit_Valid {u:Un} (hu:SmT u) (hn:(unitsT u).length≤1000):Zak Tryz.prog 164 [.agg u.enc] (.bool (validT u)):=by
 have R:=sp_every_pure (f:=201) (p:=aloneP) hu (fun x hx=>by have:=hu.units x hx;exact sp_unit_alone this.u this.kids.1);rw [right_all hu] at R;have D:=sp_unit_Depth hu hn;have C:=sp_unit_Count hu hn;have I:=sp_unit_ids hu hn;have hd:=depth_le hu;have e8:decide ((depthT u:Int)≤8)=decide (depthT u≤8):=decide_eq_decide.2 (by omega);have e1:decide (((unitsT u).length:Int)≤1024)=true:=decide_eq_true (by omega);have e2:decide ((unitsT u).length≤1024)=true:=decide_eq_true (by omega);unfold validT;rw [e2,Bool.true_and];refine Gp (vc:=c_unit_Valid) [.t 2] (cB _) Tryz.func164 ?_;unfold c_unit_Valid;try dsimp only [ZM,ZO,ZN,ZG,ZR,ZU]
 rw [Un.Zaf] at R D C I ⊢;refine Rp0 [1] ?_;refine Zat [(1,.ro [pI u.act,pI u.item,pI u.n,pI u.kind,.str u.label,.sl 4 (u.head.map Wd.enc),.sl 4 (u.words.map Wd.enc),.sl 8 (u.kids.map Un.enc)])] ⟨View.loc (z:=8) (fz:=false) (es:=[[pI u.act,pI u.item,pI u.n,pI u.kind,.str u.label,.sl 4 (u.head.map Wd.enc),.sl 4 (u.words.map Wd.enc),.sl 8 (u.kids.map Un.enc)]]) rfl (by simp) rfl (by simp),trivial⟩ ?_;generalize u.head.map Wd.enc=EH at *;generalize u.words.map Wd.enc=EW at *;generalize u.kids.map Un.enc=EK at *;cases hr:rightT u with
 | false =>
  rw [hr] at R;refine Rp0 [2] ?_;refine Ap0 R ?_;exact Tv0
 | true =>
 rw [hr] at R;cases hd8:decide (depthT u≤8) with
 | false =>
  rw [hd8] at e8;refine Rp0 [2] ?_;refine Ap0 R ?_;refine Ap1 D e8 ?_;exact Tv0
 | true =>
 rw [hd8] at e8;refine Rp0 [2] ?_;refine Ap0 R ?_;refine Ap1 D e8 ?_;refine Ap1 C e1 ?_;refine Zao I ?_;exact Tv0
theorem sp_treeedit_stands {u:Un} (hu:SmT u) (hn:(unitsT u).length≤1000):Zak Tryz.prog 108 [.agg u.enc] (.bool (Zbk u)):=by
 have I:=sp_unit_IDs hu hn;have V:=sp_unit_Valid hu hn;have hil:(idsT u).length=(unitsT u).length:=by unfold idsT;simp
 have hip:=unitsT_pos u;have hcl:(if u.kind=0 then (idsT u).drop 1 else idsT u).length≤1000000:=by
  split
  ·rw [List.length_drop];omega
  ·omega
 have CF:=sp_ContainsFunc_Id (if u.kind=0 then (idsT u).drop 1 else idsT u) 162 [] (fun x=>decide (x=idZ)) hcl (by intro x hx;cases hx) (fun x _=>sp_stands_1 x);rw [← stands_prog hu];refine Gp (vc:=c_treeedit_stands) [.t 2] (cB _) Tryz.func108 ?_;unfold c_treeedit_stands;try dsimp only [ZM,ZO,ZN,ZG,ZR,ZU]
 rw [Un.Zaf] at I V ⊢;refine Rp0 [1] ?_;refine Zat [(1,.ro [pI u.act,pI u.item,pI u.n,pI u.kind,.str u.label,.sl 4 (u.head.map Wd.enc),.sl 4 (u.words.map Wd.enc),.sl 8 (u.kids.map Un.enc)])] ⟨View.loc (z:=8) (fz:=false) (es:=[[pI u.act,pI u.item,pI u.n,pI u.kind,.str u.label,.sl 4 (u.head.map Wd.enc),.sl 4 (u.words.map Wd.enc),.sl 8 (u.kids.map Un.enc)]]) rfl (by simp) rfl (by simp),trivial⟩ ?_;generalize u.head.map Wd.enc=EH at *;generalize u.words.map Wd.enc=EW at *;generalize u.kids.map Un.enc=EK at *;refine Rp0 [1,3] ?_;refine Rp0 [1,3,4] ?_;refine Zao I ?_;refine Zaa (Zbl (σ:=Unit) (fun _=>([(1,.ro [pI u.act,pI u.item,pI u.n,pI u.kind,.str u.label,.sl 4 EH,.sl 4 EW,.sl 8 EK]),(3,.fn (.func 162) [] []),(4,.sl 3 ((if u.kind=0 then (idsT u).drop 1 else idsT u).map Idt.enc))],⟨[],1⟩)) ?_ (fun _=>?_))
 ·refine Rp0 [1,3,4,9] ?_;by_cases hk0:u.kind=0
  ·rw [if_pos hk0];refine Zac rfl (fun _=>?_) (fun h=>by simp [hk0] at h);refine rp1 [1,3,4] @xlm ?_;refine ⟨⟨by omega,by omega⟩,(),?_⟩;rw [List.map_drop,List.take_of_length_le (by rw [List.length_drop,List.length_map];omega)]
  ·rw [if_neg hk0];refine Zac rfl (fun h=>absurd (by simpa using h) hk0) (fun _=>?_);refine Kp0 ?_;exact ⟨(),by first|trivial|rfl⟩
 generalize (if u.kind=0 then (idsT u).drop 1 else idsT u)=J at CF ⊢;cases hv:validT u with
 | false =>
  rw [hv] at V;refine Rp0 [2] ?_;refine Ap0 V ?_;exact Tv0
 | true =>
 rw [hv] at V;refine Rp0 [2] ?_;refine Ap0 V ?_;refine Ap0 CF ?_;exact Tv0
end Go.Proofs.YtcgdjembdjdlhaaGreatDoor.w
namespace Go.Proofs.YtcgdjembdjdlhaaGreatDoor.w
open Go Go.VM
def c_unit_Parent_1:VC:=(ZR [ZO 2 (.box 8 (.t 0)),ZO 3 (.mv (.c (.bool false)))] (ZR [ZO 4 (.load true 8 (.t 2)),ZO 5 (.load true 3 (.t 1)),ZO 6 (.call 125 [.t 4,.t 5]),ZO 7 (.nd true (.t 6)),ZM 3 7] .ret))
def c_unit_Parent:VC:=(ZR [ZO 2 (.box 8 (.t 0)),ZO 3 (.box 3 (.t 1)),ZO 4 (.alloc [.int .i64 0,.int .i64 0,.int .i64 0]),ZO 5 (.mv (.c (.int .i64 0))),ZO 6 (.mv (.c (.bool false)))] (ZR [ZO 10 (.load true 8 (.t 2)),ZO 11 (.load true 3 (.t 3)),ZO 12 (.call 125 [.t 10,.t 11]),ZM 7 12] (.seq (ZR [ZM 13 7,ZO 14 (.len false (.t 13)),ZO 15 (.bin .lss (.t 14) (.c (.int .i64 2)))] (.cond (.t 15) (ZR [ZO 16 (.build [.int .i64 0,.int .i64 0,.int .i64 0] []),ZN (.store 3 (.t 4) (.t 16)),ZO 5 (.mv (.c (.int .i64 (-1)))),ZO 6 (.mv (.c (.bool false)))] .ret) .skip)) (ZR [ZM 17 7,ZM 18 7,ZO 19 (.len false (.t 18)),ZO 20 (.bin .sub (.t 19) (.c (.int .i64 2))),ZO 21 (.iaddr 8 (.t 17) (.t 20)),ZO 22 (.load true 8 (.t 21)),ZO 8 (.alloc ZU),ZN (.store 8 (.t 8) (.t 22))] (ZR [ZO 23 (.faddr 7 (.t 8)),ZO 24 (.load false 1 (.t 23)),ZO 25 (.mkfn (.func 207) [] [.t 3]),ZO 26 (.call 206 [.t 24,.t 25]),ZM 9 26] (ZR [ZO 27 (.faddr 0 (.t 8)),ZO 28 (.load true 3 (.t 27)),ZM 29 9,ZN (.store 3 (.t 4) (.t 28)),ZM 5 29,ZO 6 (.mv (.c (.bool true)))] .ret))))))
def c_treeedit_without:VC:=(ZR [ZO 2 (.box 8 (.t 0)),ZO 3 (.box 3 (.t 1)),ZO 4 (.alloc ZU)] (ZR [ZO 9 (.load true 8 (.t 2)),ZO 10 (.load true 3 (.t 3)),ZO 11 (.call 166 [.t 9,.t 10]),ZM 8 11,ZO 12 (.ext (.t 8) 0),ZO 13 (.ext (.t 8) 1),ZO 14 (.ext (.t 8) 2),ZO 5 (.alloc [.int .i64 0,.int .i64 0,.int .i64 0]),ZO 6 (.alloc [.int .i64 0]),ZN (.store 3 (.t 5) (.t 12)),ZN (.store 1 (.t 6) (.t 13)),ZM 7 14] (ZR [ZO 15 (.load true 8 (.t 2)),ZO 16 (.load true 3 (.t 5)),ZO 17 (.mkfn (.func 168) [] [.t 6]),ZO 18 (.call 167 [.t 15,.t 16,.t 17]),ZN (.store 8 (.t 4) (.t 18))] .ret)))
theorem sp_tree_has {u:Un} (hu:SmT u) (hn:(unitsT u).length≤1000) (x:Idt):Zak Tryz.prog 110 [.agg u.enc,.agg x.enc] (.bool (Zau x u).2):=by
 have F:=sp_unit_Find hu hn x;refine Zad ?_ (cB _) (Zbe u x);refine Gn (vc:=c_treeedit_has) [.t 4] Tryz.func110 ?_;unfold c_treeedit_has;try dsimp only [ZM,ZO,ZN,ZG,ZR,ZU]
 have hxe:x.enc=[pI x.act,pI x.item,pI x.n]:=rfl;rw [Un.Zaf (Zau x u).1] at F;rw [Un.Zaf u,hxe] at F ⊢;generalize (Zau x u).1=r at F;generalize (Zau x u).2=b at F ⊢;refine Rp0 [2,3,4] ?_;refine Rp0 [6] ?_;refine Ap0 F ?_;exact Rv0 [4]
theorem way_nd (w:List Un):(wayV w=.nilsl∧decide (w≠[])=false)∨(∃ a r,w=a::r∧wayV w=.sl 8 ((a::r).map Un.enc)∧decide (w≠[])=true):=by
 cases w with
 | nil=>exact .inl ⟨rfl,rfl⟩
 | cons a r=>exact .inr ⟨a,r,rfl,by unfold wayV;rw [if_neg (by simp)],rfl⟩
theorem closed_roi (x:Idt):Closed (.ro x.enc):=Zbg fun y hy=>Idt.closed x y hy
theorem sp_Parent_1 {u:Un} (hu:SmT u) (hn:(unitsT u).length≤1000) (x:Idt):Zak Tryz.prog 207 [.agg u.enc,.ro x.enc] (.bool (decide (wayT x u≠[]))):=by
 have W:=sp_unit_way hu hn x;refine Zad ?_ (cB _) (by intro y hy;simp only [List.mem_cons,List.not_mem_nil,or_false] at hy;rcases hy with rfl|rfl;exact Zap u;exact closed_roi x);refine Gn (vc:=c_unit_Parent_1) [.t 3] Tryz.func207 ?_;unfold c_unit_Parent_1;try dsimp only [ZM,ZO,ZN,ZG,ZR,ZU]
 have hxe:x.enc=[pI x.act,pI x.item,pI x.n]:=rfl;rw [Un.Zaf u,hxe] at W ⊢;refine Rp0 [1,2,3] ?_;refine Rp0 [3] ?_;refine Zao W ?_;rcases way_nd (wayT x u) with ⟨h1,h2⟩|⟨a,r,h0,h1,h2⟩
 ·rw [h1,h2];refine Sp0 ?_;intro b hb1 hb2;subst hb1;exact Tv0
 ·rw [h1,h2];refine Sp0 ?_;intro b hb1 hb2;subst hb2;exact Tv0
theorem closed_par (x:Idt) (n:Int) (b:Bool):Closed (.tup [.agg x.enc,pI n,.bool b]):=Zbs (by simp only [List.mem_cons,List.not_mem_nil,or_false,forall_eq_or_imp,forall_eq];exact ⟨Zax (Idt.closed x),cI _,cB _⟩)
theorem sp_unit_Parent {u:Un} (hu:SmT u) (hn:(unitsT u).length≤1000) (x:Idt):Zak Tryz.prog 166 [.agg u.enc,.agg x.enc] (.tup [.agg (parT x u).1.enc,pI (parT x u).2.1,.bool (parT x u).2.2]):=by
 have W:=sp_unit_way hu hn x;have hwl:=way_len (x:=x) hu;have hpar:=par_spec (x:=x) hu;refine Zad ?_ (closed_par _ _ _) (Zbe u x);refine Gn (vc:=c_unit_Parent) [.c 4 true 3,.t 5,.t 6] Tryz.func166 ?_;unfold c_unit_Parent;try dsimp only [ZM,ZO,ZN,ZG,ZR,ZU]
 have hxe:x.enc=[pI x.act,pI x.item,pI x.n]:=rfl;have hue:=Un.Zaf u;rw [hue,hxe] at W ⊢;unfold parT;refine Rp0 [2,3,4,5,6] ?_;refine Rp0 [3,4,5,6,7] ?_;refine Zao W ?_;refine Zaa ?_;by_cases hw:(wayT x u).length<2
 ·rw [if_pos hw];have hlt:decide (((wayT x u).length:Int)<2)=true:=decide_eq_true (by omega);have hz:idZ.enc=[pI 0,pI 0,pI 0]:=rfl;rw [hz];rcases way_nd (wayT x u) with ⟨h1,h2⟩|⟨a,r,h0,h1,h2⟩
  ·rw [h1];refine Sp0 ?_;refine Rp0 [4,5,6,15] ?_;refine Ct ?_;exact Rv0 [4,5,6]
  ·rw [h1,← h0];refine Sp0 ?_;refine Rp1 [4,5,6,15] (x2 @xlm hlt) ?_;refine Ct ?_;exact Rv0 [4,5,6]
 ·rw [if_neg hw];have hlt:decide (((wayT x u).length:Int)<2)=false:=decide_eq_false (by omega);obtain ⟨p,p1,p2,k,k1,k2⟩:=hpar (by omega);rw [p2];obtain ⟨m,hm⟩:∃ m,(wayT x u).length=m+2:=⟨(wayT x u).length-2,by omega⟩;have hm2:(((wayT x u).length:Int)-2)=(m:Nat):=by omega
  have hrow:((wayT x u).map Un.enc).getD m []=p.enc:=by
   rw [rowm (by omega),← p2,List.getD_eq_getElem?_getD,show (wayT x u).length-2=m by omega,List.getElem?_eq_getElem (by omega)];rfl
  have hps:=hu.units p p1;have hpk:=hps.kids;have hpn:∀ k∈p.kids,(unitsT k).length≤1000:=fun k hk=>by
   have h1:=Zbc hk;have h2:(unitsT p).length≤(unitsT u).length:=units_le hu p p1;rw [Zan,List.length_cons] at h2;omega
  have IX:=sp_IndexFunc_Unit p.kids 207 [.ro x.enc] (fun k=>decide (wayT x k≠[])) (by omega) (by intro y hy;rw [List.mem_singleton] at hy;subst hy;exact closed_roi x) (fun k hk=>sp_Parent_1 (hpk.2 k hk) (hpn k hk) x);rcases way_nd (wayT x u) with ⟨h1,h2⟩|⟨a,r,h0,h1,h2⟩
  ·have:wayT x u=[]:=by simpa using h2
   rw [this] at hm;simp at hm
  rw [h1,← h0];have hWl:((wayT x u).map Un.enc).length=(wayT x u).length:=List.length_map _;generalize (wayT x u).map Un.enc=WE at hrow hWl ⊢;have hpe:=Un.Zaf p;rw [hpe] at hrow;rw [hxe] at IX;refine Sp0 ?_;refine Rp1 [3,4,5,6,7,15] (x2 hWl hlt) ?_;refine Fp0 ?_;refine Rp1 [3,4,8] (x4 hWl hm2 (w64 (n:=(m:Nat)) (by omega) (by omega)) hrow) ?_;refine Ok ?_;refine Rp0 [4,8,9] ?_;refine Zal.weakenL (h0:=⟨[(1,.arr false 3 [[pI x.act,pI x.item,pI x.n]])]++[(3,.arr false 8 [[pI p.act,pI p.item,pI p.n,pI p.kind,.str p.label,.sl 4 (p.head.map Wd.enc),.sl 4 (p.words.map Wd.enc),.sl 8 (p.kids.map Un.enc)]]),(2,.arr false 3 [[pI 0,pI 0,pI 0]])],4⟩) (by simp [Heap.le,Heap.get,HL.le,HL.get]) (Zal.frameL (by simp) (by simp) (ACall_f [.sl 8 (p.kids.map Un.enc),.fn (.func 207) [] [.ro [pI x.act,pI x.item,pI x.n]]] ⟨View.refl _ _,View.fn rfl rfl (fun j hj=>absurd hj (Nat.not_lt_zero _)) (fun j hj=>?_),trivial⟩ (Zao IX ?_)))
  ·obtain rfl:j=0:=by simp at hj;omega
   exact View.loc (z:=3) (fz:=false) (es:=[[pI x.act,pI x.item,pI x.n]]) rfl (by simp) rfl (by simp)
  refine ⟨Nat.le_refl _,(fun _ _ q hq=>by cases hq),(fun q hq=>by cases hq),?_⟩;refine Sp0 ?_;refine Rp0 [4,5,6] ?_;refine Tp0 ?_;have hp3:(idU p).enc=[pI p.act,pI p.item,pI p.n]:=rfl;rw [hp3];exact View.refl _ _
theorem closed_rop (i:Int):Za0 [.ro [pI i]]:=by
 intro y hy;rw [List.mem_singleton] at hy;subst hy;exact Zbg (by intro z hz;rw [List.mem_singleton] at hz;subst hz;exact cI _)
theorem sp_tree_without {u:Un} (hu:SmT u) (hn:(unitsT u).length≤1000) (x:Idt) (hd:(idsT u).Nodup) (hw:2≤(wayT x u).length):∃ r:Un,Zak Tryz.prog 112 [.agg u.enc,.agg x.enc] (.agg r.enc):=by
 have PR:=sp_unit_Parent hu hn x;obtain ⟨p,p1,p2,k,k1,k2⟩:=par_spec (x:=x) hu hw;have hps:=hu.units p p1;obtain ⟨i,hi,hidx⟩:=idxF_some (p:=fun k=>decide (wayT x k≠[])) k1 (decide_eq_true k2);have hpt:parT x u=(idU p,(i:Int),true):=by
  unfold parT;rw [if_neg (by omega),p2,hidx]
 rw [hpt] at PR;have D:=sp_tree_done (fid:=168) (cap:=[.ro [pI i]]) (closed_rop _) (f:=lessU i) (x:=idU p) hu (fun y hy hid=>by
  have:y=p:=ids_inj hd hy p1 hid;subst this;exact sp_without_1 y hps.kids.1 i hi)
 refine ⟨_,Zad ?_ (Zap ((atT (lessU i) (idU p) u).getD u)) (Zbe u x)⟩;refine Gn (vc:=c_treeedit_without) [.c 4 true 8] Tryz.func112 ?_;unfold c_treeedit_without;try dsimp only [ZM,ZO,ZN,ZG,ZR,ZU]
 have hxe:x.enc=[pI x.act,pI x.item,pI x.n]:=rfl;have hp3:(idU p).enc=[pI p.act,pI p.item,pI p.n]:=rfl;have hrv:((atT (lessU i) (idU p) u).getD u).enc=_:=Un.Zaf ((atT (lessU i) (idU p) u).getD u);rw [hrv] at D ⊢;generalize (atT (lessU i) (idU p) u).getD u=r at D ⊢;have hue:=Un.Zaf u;rw [hue,hp3] at PR D;rw [hue,hxe];rw [hxe] at PR;refine Rp0 [2,3,4] ?_;refine Rp0 [2,4,5,6] ?_;refine Ap0 PR ?_;refine Rp0 [4] ?_;refine Zal.weakenL (h0:=⟨[(4,.arr false 1 [[pI i]])]++[(2,.arr false 8 [[pI 0,pI 0,pI 0,pI 0,.str [],.nilsl,.nilsl,.nilsl]])],5⟩) (by simp [Heap.le,Heap.get,HL.le,HL.get]) (Zal.frameL (by simp) (by simp) (ACall_f [.agg [pI u.act,pI u.item,pI u.n,pI u.kind,.str u.label,.sl 4 (u.head.map Wd.enc),.sl 4 (u.words.map Wd.enc),.sl 8 (u.kids.map Un.enc)],.agg [pI p.act,pI p.item,pI p.n],.fn (.func 168) [] [.ro [pI i]]] ⟨View.refl _ _,View.refl _ _,View.fn rfl rfl (fun j hj=>absurd hj (Nat.not_lt_zero _)) (fun j hj=>?_),trivial⟩ (Zao D ?_)))
 ·obtain rfl:j=0:=by simp at hj;omega
  exact View.loc (z:=1) (fz:=false) (es:=[[pI i]]) rfl (by simp) rfl (by simp)
 refine ⟨Nat.le_refl _,(fun _ _ q hq=>by cases hq),(fun q hq=>by cases hq),?_⟩;refine Sp0 ?_;exact Tv0
end Go.Proofs.YtcgdjembdjdlhaaGreatDoor.w
