import Derived.Test.YtcgdjembdjdlhaaGreatDoorYi
import Derived.Test.YtcgdjembdjdlhaaGreatDoorVmPk
import Derived.Test.YtcgdjembdjdlhaaGreatDoorVmBe
import Derived.Test.YtcgdjembdjdlhaaGreatDoorVmBd
import Derived.Test.YtcgdjembdjdlhaaGreatDoorYa
import Derived.Test.YtcgdjembdjdlhaaGreatDoorGd
import Derived.Test.YtcgdjembdjdlhaaGreatDoorX2
set_option linter.all false
set_option maxRecDepth 20000
set_option maxHeartbeats 0
namespace Go.Proofs.w
open Go Go.VM
def c_treeedit_Remove_1:VC:=(ZR [ZO 1 (.mv (.c (.bool false)))] (ZR [ZO 2 (.load true 8 (.t 0)),ZO 3 (.call 108 [.t 2]),ZO 4 (.un .not (.t 3)),ZM 1 4] .ret))
def c_treeedit_Remove_2:VC:=(ZR [ZO 2 (.mv (.c (.bool false)))] (ZR [ZO 3 (.load true 8 (.t 0)),ZO 4 (.load true 3 (.t 1)),ZO 5 (.call 110 [.t 3,.t 4]),ZO 6 (.un .not (.t 5)),ZM 2 6] .ret))
def c_treeedit_Remove_3:VC:=(ZR [ZO 2 (.mv (.c (.bool false)))] (ZR [ZO 3 (.faddr 0 (.t 0)),ZO 4 (.load true 3 (.t 3)),ZO 5 (.load true 3 (.t 1)),ZO 6 (.eqs false [.i,.i,.i] (.t 4) (.t 5)),ZM 2 6] .ret))
def c_treeedit_first:VC:=(ZR [ZO 2 (.mv (.c (.int .i64 0)))] (.seq (ZR [ZM 5 0,ZO 6 (.len false (.t 5)),ZO 7 (.mv (.c (.int .i64 0)))] (.block 0 (.loop (ZR [ZO 8 (.bin .lss (.t 7) (.t 6))] (.seq (.cond (.t 8) .skip (.exit 0)) (.seq (.block 1 (ZR [ZO 9 (.iaddr 2 (.t 5) (.t 7)),ZO 10 (.load true 2 (.t 9)),ZO 4 (.alloc [.nilfn,.int .i64 0]),ZN (.store 2 (.t 4) (.t 10))] (ZR [ZO 11 (.faddr 0 (.t 4)),ZO 12 (.load false 1 (.t 11)),ZO 13 (.callv (.t 12) [])] (.cond (.t 13) (ZR [ZO 14 (.faddr 1 (.t 4)),ZO 15 (.load false 1 (.t 14)),ZM 2 15] .ret) .skip)))) (.region [ZO 16 (.bin .add (.t 7) (.c (.int .i64 1))),ZM 7 16] false))))))) (ZR [ZO 2 (.mv (.c (.int .i64 0)))] .ret)))
def Zco:VC:=(ZR [ZO 2 (.box 8 (.t 0)),ZO 3 (.box 3 (.t 1)),ZO 4 (.alloc ZU),ZO 5 (.alloc ZU),ZO 6 (.mv (.c (.int .i64 0)))] (ZR [ZO 10 (.mkfn (.func 107) [] [.t 2]),ZO 11 (.build [.nilfn,.int .i64 0] [(0,(1,(.t 10))),(1,(1,(.c (.int .i64 1))))]),ZO 12 (.mkfn (.func 109) [] [.t 2,.t 3]),ZO 13 (.build [.nilfn,.int .i64 0] [(0,(1,(.t 12))),(1,(1,(.c (.int .i64 4))))]),ZO 14 (.mkfn (.func 111) [] [.t 2,.t 3]),ZO 15 (.build [.nilfn,.int .i64 0] [(0,(1,(.t 14))),(1,(1,(.c (.int .i64 9))))]),ZO 16 (.bslice 2 3 [.nilfn,.int .i64 0] [(0,(.t 11)),(1,(.t 13)),(2,(.t 15))]),ZO 17 (.call 106 [.t 16]),ZM 7 17] (.seq (ZR [ZM 18 7,ZO 19 (.bin .neq (.t 18) (.c (.int .i64 0)))] (.cond (.t 19) (ZR [ZO 20 (.build ZU []),ZO 21 (.build ZU []),ZM 22 7,ZN (.store 8 (.t 4) (.t 20)),ZN (.store 8 (.t 5) (.t 21)),ZM 6 22] .ret) .skip)) (ZR [ZO 24 (.load true 8 (.t 2)),ZO 25 (.load true 3 (.t 3)),ZO 26 (.call 68 [.t 24,.t 25]),ZM 23 26,ZO 27 (.ext (.t 23) 0),ZO 28 (.ext (.t 23) 1),ZO 8 (.alloc ZU),ZN (.store 8 (.t 8) (.t 27)),ZM 9 28] (.seq (.draw2 [ZO 29 (.load true 8 (.t 2)),ZO 30 (.load true 3 (.t 3)),ZO 31 (.call 112 [.t 29,.t 30]),ZO 32 (.load true 8 (.t 8)),ZO 33 (.call 113 [.t 32]),ZN (.store 8 (.t 4) (.t 31)),ZN (.store 8 (.t 5) (.t 33)),ZO 6 (.mv (.c (.int .i64 0)))] [true,true,true,true,true,false,false,false]) .ret)))))
def c_paginate_wrong:VC:=(ZR [ZO 2 (.box 8 (.t 0)),ZO 4 (.mv (.c (.int .i64 0)))] (.seq (ZR [ZO 9 (.load true 8 (.t 2)),ZO 10 (.build [.int .i64 0,.int .i64 0,.int .i64 0] [(0,(1,(.c (.int .i64 (-1)))))]),ZO 11 (.call 61 [.t 9,.t 10]),ZM 8 11,ZO 12 (.ext (.t 8) 0),ZO 13 (.ext (.t 8) 1),ZO 14 (.ext (.t 8) 2),ZO 5 (.alloc ZU),ZO 6 (.alloc ZU),ZN (.store 8 (.t 5) (.t 12)),ZN (.store 8 (.t 6) (.t 13)),ZM 7 14] (ZR [ZM 15 7,ZO 16 (.bin .eql (.t 15) (.c (.int .i64 1)))] (.cond (.t 16) (ZR [ZO 4 (.mv (.c (.int .i64 1)))] .ret) .skip))) (.seq (ZR [ZM 17 1,ZO 18 (.bin .lss (.t 17) (.c (.int .i64 24))),ZM 19 18,ZG 20 (.mv (.t 1)) 19 false,ZG 21 (.bin .gtr (.t 20) (.c (.int .i64 200))) 19 false,ZO 22 (.pick (.t 19) (.c (.bool true)) (.t 21))] (.cond (.t 22) (ZR [ZO 4 (.mv (.c (.int .i64 3)))] .ret) .skip)) (ZR [ZO 4 (.mv (.c (.int .i64 0)))] .ret))))
theorem closed_row (u:Un):Closed (.ro u.enc):=Zbc fun y hy=>Un.closed u y hy
theorem sp_Remove_1 {u:Un} (hu:SmT u) (hn:(unitsT u).length≤1000):Zam Tryz.prog 107 [.ro u.enc] (.bool (!(Zch u))):=by
 have W:=sp_treeedit_stands hu hn;refine Zad ?_ (cB _) (by intro y hy;simp only [List.mem_cons,List.not_mem_nil,or_false] at hy;rcases hy with rfl;exact closed_row u);refine Gn (vc:=c_treeedit_Remove_1) [.t 1] Tryz.func107 ?_;unfold c_treeedit_Remove_1;try dsimp only [ZM,ZO,ZN,ZG,ZR,ZU]
 rw [Un.Zaf u] at W ⊢;refine Rp0 [0,1] ?_;refine Rp0 [1] ?_;refine Ap0 W ?_;exact Tv0
theorem sp_Remove_2 {u:Un} (hu:SmT u) (hn:(unitsT u).length≤1000) (x:Idt):Zam Tryz.prog 109 [.ro u.enc,.ro x.enc] (.bool (!(Zb6 x u).2)):=by
 have W:=sp_tree_has hu hn x;refine Zad ?_ (cB _) (by intro y hy;simp only [List.mem_cons,List.not_mem_nil,or_false] at hy;rcases hy with rfl|rfl;exact closed_row u;exact closed_roi x);refine Gn (vc:=c_treeedit_Remove_2) [.t 2] Tryz.func109 ?_;unfold c_treeedit_Remove_2;try dsimp only [ZM,ZO,ZN,ZG,ZR,ZU]
 have hxe:x.enc=[pI x.act,pI x.item,pI x.n]:=rfl;rw [Un.Zaf u,hxe] at W ⊢;refine Rp0 [0,1,2] ?_;refine Rp0 [2] ?_;refine Ap0 W ?_;exact Tv0
theorem sp_Remove_3 (u:Un) (x:Idt):Zam Tryz.prog 111 [.ro u.enc,.ro x.enc] (.bool (decide (idU u=x))):=by
 refine Zad ?_ (cB _) (by intro y hy;simp only [List.mem_cons,List.not_mem_nil,or_false] at hy;rcases hy with rfl|rfl;exact closed_row u;exact closed_roi x);refine Gn (vc:=c_treeedit_Remove_3) [.t 2] Tryz.func111 ?_;unfold c_treeedit_Remove_3;try dsimp only [ZM,ZO,ZN,ZG,ZR,ZU]
 have hxe:x.enc=[pI x.act,pI x.item,pI x.n]:=rfl;have hid:=id_eqs (idU u) x;have hiu:(idU u).act=u.act∧(idU u).item=u.item∧(idU u).n=u.n:=⟨rfl,rfl,rfl⟩;rw [hiu.1,hiu.2.1,hiu.2.2] at hid;rw [Un.Zaf u,hxe];refine Rp0 [0,1,2] ?_;refine Rp1 [2] hid ?_;exact Tv0
structure Ck where
 f : FuncId
 cap : List PV
 b : Bool
 e : Int
def Ck.row (c:Ck):List PV:=[.fn (.func c.f) [] c.cap,pI c.e]
def firstE:List Ck→Int
 | []=>0
 | c::r=>if c.b=true then c.e else firstE r
theorem firstE_at {L:List Ck}:∀ {k:Nat} (hk:k<L.length),(∀ (j:Nat) (hj:j<L.length),j<k→L[j].b=false)→L[k].b=true→firstE L=L[k].e:=by
 induction L with
 | nil=>intro k hk;cases hk
 | cons c r ih =>
  intro k hk hp hb;cases k with
  | zero=>rw [firstE,if_pos (by simpa using hb)];rfl
  | succ k =>
   have h0:c.b=false:=hp 0 (by simp) (by omega);rw [firstE,if_neg (by rw [h0];simp),ih (k:=k) (by simpa using hk) (fun j hj hjk=>hp (j+1) (by simpa using hj) (by omega)) hb];rfl
theorem firstE_no {L:List Ck}:(∀ (j:Nat) (hj:j<L.length),L[j].b=false)→firstE L=0:=by
 induction L with
 | nil=>intro _;rfl
 | cons c r ih =>
  intro h;have h0:c.b=false:=h 0 (by simp);rw [firstE,if_neg (by rw [h0];simp),ih (fun j hj=>h (j+1) (by simpa using hj))]
theorem sp_first (L:List Ck) (hl:L.length≤1000) (hc:∀ c∈L,Zax c.cap) (hp:∀ c∈L,Zam Tryz.prog c.f c.cap (.bool c.b)):Zam Tryz.prog 106 [.sl 2 (L.map Ck.row)] (pI (firstE L)):=by
 refine Zad ?_ (cI _) (by intro x hx;simp only [List.mem_cons,List.not_mem_nil,or_false] at hx;subst hx;exact Zai (fun a ha x hx=>by
  simp only [Ck.row,List.mem_cons,List.not_mem_nil,or_false] at hx;rcases hx with rfl|rfl
  ·exact Zbx (hc a ha)
  ·exact cI _))
 refine Gn (vc:=c_treeedit_first) [.t 2] Tryz.func106 ?_;unfold c_treeedit_first;try dsimp only [ZM,ZO,ZN,ZG,ZR,ZU]
 refine Rp0 [0] ?_;refine Zaa ?_;refine Rp1 [5,6,7] @xlm ?_;refine Zab ?_;refine Zak (σ:={ x':Nat×Nat//x'.1≤L.length∧∀ (j:Nat) (hj:j<L.length),j<x'.1→L[j].b=false }) (fun x'=>([(5,.sl 2 (L.map Ck.row)),(6,pI L.length),(7,pI x'.1.1)],⟨[],x'.1.2⟩)) (fun x'=>L.length-x'.1.1) ⟨(0,0),Nat.zero_le _,fun j _ h=>by cases h⟩ ?_ ?_ ?_
 ·exact Sr0
 ·exact Sr0
 rintro ⟨⟨k,t⟩,hkk,hpre⟩;simp only [] at hkk hpre ⊢;have qq:=N2 t (t+1);refine Rp1 [5,6,7,8] qq ?_;refine Zaa ?_;refine Zac rfl (fun h1=>?_) (fun h1=>?_)
 ·have ka:k<L.length:=by simp only [Zx3] at h1;omega
  have hrow:(L.map Ck.row).getD k []=L[k].row:=rowm ka;have I:=hp L[k] (List.getElem_mem ka);have hat:=firstE_at ka hpre;have hnext:L[k].b=false→∀ (j:Nat) (hj:j<L.length),j<k+1→L[j].b=false:=fun h j hj hjk=>by
   by_cases e:j=k
   ·subst e;exact h
   ·exact hpre j hj (by omega)
  generalize L[k]=v at hrow I hat hnext;rw [show v.row=[.fn (.func v.f) [] v.cap,pI v.e] from rfl] at hrow;refine Kp0 ?_;refine Zaa ?_;refine Zab ?_;refine Rp1 [4,5,6,7] (x3 @xlm hrow qq) ?_;refine Ok ?_;refine Rp1 [4,5,6,7,13] qq ?_;refine Zaq I ?_;cases ha:v.b with
  | false =>
   refine Fp0 ?_;refine rp1 [5,6,7] (x2 (ad1 (a:=k) (by omega)) qq) ?_;refine ⟨⟨(k+1,t+1),ka,hnext ha⟩,?_⟩;exact Fn1 qq
  | true =>
   refine Ct ?_;refine Rp1 [2] qq ?_;refine Tp0 ?_;rw [hat ha];exact View.refl _ _
 ·have ka:k=L.length:=by simp only [Zx2] at h1;omega
  subst ka;refine Ep0 ?_;refine Rp1 [2] qq ?_;refine Tp1 qq ?_;rw [firstE_no fun j hj=>hpre j hj hj];exact View.refl _ _
theorem way_two {u:Un} {x:Idt} (h:(wayT x u)≠[]) (hx:idU u≠x):2≤(wayT x u).length:=by
 have hw:=wayT_eq x u;rw [if_neg hx] at hw;cases hl:wayL x u.kids with
 | nil=>rw [hl] at hw;exact absurd hw h
 | cons b q=>rw [hl] at hw;rw [hw];simp
theorem find_way {u:Un} {x:Idt} (h:(Zb6 x u).2=true):wayT x u≠[]:=by
 intro e;unfold Zb6 at h;rw [e] at h;cases h
theorem ids_nodup {u:Un} {x:Idt} (hu:SmT u) (hs:Zch u=true) (hx:x≠idZ) (h:wayT x u≠[]):(idsT u).Nodup:=by
 unfold Zch validT at hs;simp only [Zx4] at hs;have hi:=hs.1.2.2.2;unfold idsB at hi;rw [Bool.or_eq_true] at hi;rcases hi with hi|hi
 ·exfalso
  have hl:=List.getLast?_eq_some_getLast h;have hid:=way_id hu _ hl;have hm:=way_mem (x:=x) hu _ (List.getLast_mem h);rw [List.all_eq_true] at hi;have:=hi _ (List.mem_map_of_mem (f:=idU) hm);simp only [Zx3] at this;exact hx (by rw [← hid,this])
 ·simp only [Zx4,Zx3] at hi;exact hi.2
def remE (u:Un) (x:Idt):Int:=firstE [⟨107,[.ro u.enc],!(Zch u),1⟩,⟨109,[.ro u.enc,.ro x.enc],!(Zb6 x u).2,4⟩,⟨111,[.ro u.enc,.ro x.enc],decide (idU u=x),9⟩]
theorem remE_eq (u:Un) (x:Idt):remE u x=if Zch u=true then (if (Zb6 x u).2=true then (if idU u=x then 9 else 0) else 4) else 1:=by
 unfold remE firstE firstE firstE firstE;cases Zch u<;>cases (Zb6 x u).2<;>by_cases h:idU u=x<;>simp [h]
theorem View.tup3 {h:Heap} {a b c x y z:PV} (h1:View h a x) (h2:View h b y) (h3:View h c z):View h (.tup [a,b,c]) (.tup [x,y,z]):=by
 refine View.tup rfl fun j hj=>?_;have hj':j=0∨j=1∨j=2:=by simp only [List.length_cons,List.length_nil] at hj;omega
 rcases hj' with rfl|rfl|rfl
 ·exact h1
 ·exact h2
 ·exact h3
theorem closed_remR (r s:Un) (e:Int):Closed (.tup [.agg r.enc,.agg s.enc,pI e]):=Zbl (by simp only [List.mem_cons,List.not_mem_nil,or_false,forall_eq_or_imp,forall_eq];exact ⟨Zao _,Zao _,cI _⟩)
theorem sp_Remove {u:Un} (hu:SmT u) (hn:(unitsT u).length≤1000) (x:Idt) (hx:x≠idZ):∃ r s:Un,Zam Tryz.prog 61 [.agg u.enc,.agg x.enc] (.tup [.agg r.enc,.agg s.enc,pI (remE u x)]):=by
 have F:=sp_first [⟨107,[.ro u.enc],!(Zch u),1⟩,⟨109,[.ro u.enc,.ro x.enc],!(Zb6 x u).2,4⟩,⟨111,[.ro u.enc,.ro x.enc],decide (idU u=x),9⟩] (by simp) (by
  intro c hc y hy;simp only [List.mem_cons,List.not_mem_nil,or_false] at hc;rcases hc with rfl|rfl|rfl<;>simp only [List.mem_cons,List.not_mem_nil,or_false] at hy
  ·subst hy;exact closed_row u
  ·rcases hy with rfl|rfl;exact closed_row u;exact closed_roi x
  ·rcases hy with rfl|rfl;exact closed_row u;exact closed_roi x) (by
  intro c hc;simp only [List.mem_cons,List.not_mem_nil,or_false] at hc;rcases hc with rfl|rfl|rfl
  ·exact sp_Remove_1 hu hn
  ·exact sp_Remove_2 hu hn x
  ·exact sp_Remove_3 u x)
 rw [show firstE _=remE u x from rfl] at F;by_cases he:remE u x=0
 ·have hh:=he;rw [remE_eq] at hh;have hs:Zch u=true:=by
   cases h:Zch u with
   | true=>rfl
   | false=>rw [h] at hh;simp at hh
  rw [if_pos hs] at hh;have hf:(Zb6 x u).2=true:=by
   cases h:(Zb6 x u).2 with
   | true=>rfl
   | false=>rw [h] at hh;simp at hh
  rw [if_pos hf] at hh;have hid:idU u≠x:=by
   intro h;rw [if_pos h] at hh;simp at hh
  have hw:=find_way hf;obtain ⟨r,W⟩:=sp_tree_without hu hn x (ids_nodup hu hs hx hw) (way_two hw hid);have FN:=sp_unit_Find hu hn x;have hfs:SmT (Zb6 x u).1:=by
   unfold Zb6;have hl:=List.getLast?_eq_some_getLast hw;rw [hl];exact hu.units _ (way_mem (x:=x) hu _ (List.getLast_mem hw))
  generalize (Zb6 x u).1=v at FN hfs;rw [hf] at FN;have C:=sp_tree_copied hfs;rw [he] at F;refine ⟨r,v,?_⟩;rw [he];refine Zad ?_ (closed_remR _ _ _) (Zcn u x);refine Gn (vc:=Zco) [.c 4 true 8,.c 5 true 8,.t 6] Tryz.func61 ?_;unfold Zco;try dsimp only [ZM,ZO,ZN,ZG,ZR,ZU]
  have hxe:x.enc=[pI x.act,pI x.item,pI x.n]:=rfl;rw [Un.Zaf u,hxe] at FN W F ⊢;rw [Un.Zaf r] at W ⊢;rw [Un.Zaf v] at FN C ⊢;refine Rp0 [2,3,4,5,6] ?_;refine VW_freezeP (l1:=[(1,.arr false 3 [[pI x.act,pI x.item,pI x.n]]),(0,.arr false 8 [[pI u.act,pI u.item,pI u.n,pI u.kind,.str u.label,.sl 4 (u.head.map Wd.enc),.sl 4 (u.words.map Wd.enc),.sl 8 (u.kids.map Un.enc)]])] ) (l2:=[(3,.arr false 8 [[pI 0,pI 0,pI 0,pI 0,.str [],.nilsl,.nilsl,.nilsl]]),(2,.arr false 8 [[pI 0,pI 0,pI 0,pI 0,.str [],.nilsl,.nilsl,.nilsl]])]) (t:=4)
   [(2,.ro [pI u.act,pI u.item,pI u.n,pI u.kind,.str u.label,.sl 4 (u.head.map Wd.enc),.sl 4 (u.words.map Wd.enc),.sl 8 (u.kids.map Un.enc)]),(3,.ro [pI x.act,pI x.item,pI x.n]),(4,.loc 2 0 0),(5,.loc 3 0 0),(6,pI 0)] (by simp [Heap.le,Heap.get,HL.le,HL.get]) (by simp) (by simp)
   ⟨View.loc (z:=8) (fz:=false) (es:=[[pI u.act,pI u.item,pI u.n,pI u.kind,.str u.label,.sl 4 (u.head.map Wd.enc),.sl 4 (u.words.map Wd.enc),.sl 8 (u.kids.map Un.enc)]]) rfl (by simp) rfl (by simp),View.loc (z:=3) (fz:=false) (es:=[[pI x.act,pI x.item,pI x.n]]) rfl (by simp) rfl (by simp),View.refl _ _,View.refl _ _,View.refl _ _,trivial⟩ ?_
  refine Rp0 [2,3,4,5,6,7] ?_;refine Zal.frameL (l1:=[(4,.arr false 2 [[.fn (.func 107) [] [.ro [pI u.act,pI u.item,pI u.n,pI u.kind,.str u.label,.sl 4 (u.head.map Wd.enc),.sl 4 (u.words.map Wd.enc),.sl 8 (u.kids.map Un.enc)]],pI 1],[.fn (.func 109) [] [.ro [pI u.act,pI u.item,pI u.n,pI u.kind,.str u.label,.sl 4 (u.head.map Wd.enc),.sl 4 (u.words.map Wd.enc),.sl 8 (u.kids.map Un.enc)],.ro [pI x.act,pI x.item,pI x.n]],pI 4],[.fn (.func 111) [] [.ro [pI u.act,pI u.item,pI u.n,pI u.kind,.str u.label,.sl 4 (u.head.map Wd.enc),.sl 4 (u.words.map Wd.enc),.sl 8 (u.kids.map Un.enc)],.ro [pI x.act,pI x.item,pI x.n]],pI 9]])]) (l2:=[(3,.arr false 8 [[pI 0,pI 0,pI 0,pI 0,.str [],.nilsl,.nilsl,.nilsl]]),(2,.arr false 8 [[pI 0,pI 0,pI 0,pI 0,.str [],.nilsl,.nilsl,.nilsl]])]) (by simp) (by simp) (ACall_f [_] ⟨View.own_all (fz:=false) rfl rfl,trivial⟩ (Zaq F ?_));refine ⟨Nat.le_refl _,(fun _ _ q hq=>by cases hq),(fun q hq=>by cases hq),?_⟩;refine Sp0 ?_;refine Zaa ?_;refine Rp0 [2,3,4,5,6,7,19] ?_;refine Fp0 ?_;refine Rp0 [2,3,4,5,6,8] ?_;refine Ap0 FN ?_;refine Zaa (VW_draw2H [4,5,6] (by simp [Heap.le,Heap.get,HL.le,HL.get]) ?_);refine Sp0 ?_;refine ⟨_,.inl W,_,.inl C,?_⟩;refine Sp0 ?_;exact Tv0
 ·refine ⟨zeroU,zeroU,?_⟩;refine Zad ?_ (closed_remR _ _ _) (Zcn u x);refine Gn (vc:=Zco) [.c 4 true 8,.c 5 true 8,.t 6] Tryz.func61 ?_;unfold Zco;try dsimp only [ZM,ZO,ZN,ZG,ZR,ZU]
  have hxe:x.enc=[pI x.act,pI x.item,pI x.n]:=rfl;rw [Un.Zaf u,hxe] at F ⊢;generalize remE u x=E at F he ⊢;refine Rp0 [2,3,4,5,6] ?_;refine VW_freezeP (l1:=[(1,.arr false 3 [[pI x.act,pI x.item,pI x.n]]),(0,.arr false 8 [[pI u.act,pI u.item,pI u.n,pI u.kind,.str u.label,.sl 4 (u.head.map Wd.enc),.sl 4 (u.words.map Wd.enc),.sl 8 (u.kids.map Un.enc)]])] ) (l2:=[(3,.arr false 8 [[pI 0,pI 0,pI 0,pI 0,.str [],.nilsl,.nilsl,.nilsl]]),(2,.arr false 8 [[pI 0,pI 0,pI 0,pI 0,.str [],.nilsl,.nilsl,.nilsl]])]) (t:=4)
   [(2,.ro [pI u.act,pI u.item,pI u.n,pI u.kind,.str u.label,.sl 4 (u.head.map Wd.enc),.sl 4 (u.words.map Wd.enc),.sl 8 (u.kids.map Un.enc)]),(3,.ro [pI x.act,pI x.item,pI x.n]),(4,.loc 2 0 0),(5,.loc 3 0 0),(6,pI 0)] (by simp [Heap.le,Heap.get,HL.le,HL.get]) (by simp) (by simp)
   ⟨View.loc (z:=8) (fz:=false) (es:=[[pI u.act,pI u.item,pI u.n,pI u.kind,.str u.label,.sl 4 (u.head.map Wd.enc),.sl 4 (u.words.map Wd.enc),.sl 8 (u.kids.map Un.enc)]]) rfl (by simp) rfl (by simp),View.loc (z:=3) (fz:=false) (es:=[[pI x.act,pI x.item,pI x.n]]) rfl (by simp) rfl (by simp),View.refl _ _,View.refl _ _,View.refl _ _,trivial⟩ ?_
  refine Rp0 [2,3,4,5,6,7] ?_;refine Zal.frameL (l1:=[(4,.arr false 2 [[.fn (.func 107) [] [.ro [pI u.act,pI u.item,pI u.n,pI u.kind,.str u.label,.sl 4 (u.head.map Wd.enc),.sl 4 (u.words.map Wd.enc),.sl 8 (u.kids.map Un.enc)]],pI 1],[.fn (.func 109) [] [.ro [pI u.act,pI u.item,pI u.n,pI u.kind,.str u.label,.sl 4 (u.head.map Wd.enc),.sl 4 (u.words.map Wd.enc),.sl 8 (u.kids.map Un.enc)],.ro [pI x.act,pI x.item,pI x.n]],pI 4],[.fn (.func 111) [] [.ro [pI u.act,pI u.item,pI u.n,pI u.kind,.str u.label,.sl 4 (u.head.map Wd.enc),.sl 4 (u.words.map Wd.enc),.sl 8 (u.kids.map Un.enc)],.ro [pI x.act,pI x.item,pI x.n]],pI 9]])]) (l2:=[(3,.arr false 8 [[pI 0,pI 0,pI 0,pI 0,.str [],.nilsl,.nilsl,.nilsl]]),(2,.arr false 8 [[pI 0,pI 0,pI 0,pI 0,.str [],.nilsl,.nilsl,.nilsl]])]) (by simp) (by simp) (ACall_f [_] ⟨View.own_all (fz:=false) rfl rfl,trivial⟩ (Zaq F ?_));refine ⟨Nat.le_refl _,(fun _ _ q hq=>by cases hq),(fun q hq=>by cases hq),?_⟩;refine Sp0 ?_;refine Zaa ?_;refine Rp0 [2,3,4,5,6,7,19] ?_;refine Zac rfl (fun _=>?_) (fun h=>absurd (by simpa using h) he);refine Rp0 [4,5,6] ?_;refine Tp0 ?_;exact View.tup3 (view_zero _) (view_zero _) (View.refl _ _)
theorem ne_idZ:(⟨-1,0,0⟩:Idt)≠idZ:=by intro h;injection h with h1;cases h1
def wrongP (u:Un) (w:Int):Int:=if Zch u=true then (if w<24∨200<w then 3 else 0) else 1
theorem remE_one (u:Un) (x:Idt):(remE u x==1) = !(Zch u):=by
 rw [remE_eq];cases Zch u<;>cases (Zb6 x u).2<;>by_cases h:idU u=x<;>simp [h]
theorem sp_pag_wrong {u:Un} (hu:SmT u) (hn:(unitsT u).length≤1000) (w:Int):Zam Tryz.prog 30 [.agg u.enc,pI w] (pI (wrongP u w)):=by
 obtain ⟨r,s,R⟩:=sp_Remove hu hn ⟨-1,0,0⟩ ne_idZ;have h1:=remE_one u ⟨-1,0,0⟩;refine Zad ?_ (cI _) (by intro y hy;simp only [List.mem_cons,List.not_mem_nil,or_false] at hy;rcases hy with rfl|rfl;exact Zao u;exact cI _);refine Gn (vc:=c_paginate_wrong) [.t 4] Tryz.func30 ?_;unfold c_paginate_wrong;try dsimp only [ZM,ZO,ZN,ZG,ZR,ZU]
 rw [show (⟨-1,0,0⟩:Idt).enc=[pI (-1),pI 0,pI 0] from rfl,Un.Zaf u,Un.Zaf r,Un.Zaf s] at R;rw [Un.Zaf u];generalize remE u ⟨-1,0,0⟩=E at R h1;unfold wrongP;refine Rp0 [1,2,4] ?_;refine Zaa ?_;refine Rp0 [1,4,7] ?_;refine Ap0 R ?_;refine Rp1 [1,4,7,16] h1 ?_;cases hs:Zch u with
 | false =>
  rw [if_neg (by simp)];refine Ct ?_;exact Rv0 [4]
 | true =>
  rw [if_pos rfl];refine Fp0 ?_;by_cases c1:w<24
  ·rw [if_pos (.inl c1)];have e1:=decide_eq_true c1;refine Zaa (Zaa (Zae [4,22] ?_));refine Sp1 e1 ?_;refine Ct ?_;exact Rv0 [4]
  ·have e1:=decide_eq_false c1;by_cases c2:200<w
   ·rw [if_pos (.inr c2)];have e2:decide (w>200)=true:=decide_eq_true c2;refine Zaa (Zaa (Zae [4,22] ?_));refine Sp1 (x2 e1 e2) ?_;refine Ct ?_;exact Rv0 [4]
   ·rw [if_neg (by omega)];have e2:decide (w>200)=false:=decide_eq_false c2;refine Zaa (Zaa (Zae [4,22] ?_));refine Sp1 (x2 e1 e2) ?_;refine Fp0 ?_;exact Rv0 [4]
def linesA (w:Int) (L:List Un):List Str:=L.flatMap (Zaz w)
end Go.Proofs.w
namespace Go.VM
open Go
theorem sibB_pair (p:Int):∀ (l pre:List Un),sibB p pre l=true→l.Pairwise (fun a b=>sameB a b=false)∧∀ a∈pre,∀ b∈l,sameB a b=false
 | [],_,_=>⟨.nil,fun _ _ b hb=>by cases hb⟩
 | k::r,pre,h=>by
  rw [sibB] at h;simp only [Zx4,Bool.not_eq_true'] at h;obtain ⟨_,h1,h2⟩:=h;obtain ⟨i1,i2⟩:=sibB_pair p r (pre++[k]) h2;refine ⟨List.pairwise_cons.2 ⟨fun b hb=>i2 k (by simp) b hb,i1⟩,fun a ha b hb=>?_⟩;rcases List.mem_cons.1 hb with rfl|hb
  ·rw [List.any_eq_false] at h1
   simpa using h1 a ha
  ·exact i2 a (by simp [ha]) b hb
theorem idxF_spec {α:Type} {p:α→Bool} {l:List α} (h:0≤idxF p l):∃ (j:Nat) (hj:j<l.length),idxF p l=(j:Int)∧p l[j]=true:=by
 unfold idxF at h ⊢;split at h
 ·rename_i ha;rw [if_pos ha];obtain ⟨x,hx,hp⟩:=List.any_eq_true.1 ha;have hl:l.findIdx p<l.length:=List.findIdx_lt_length_of_exists ⟨x,hx,hp⟩;exact ⟨l.findIdx p,hl,rfl,List.findIdx_getElem (w:=hl)⟩
 ·omega
theorem key_of_right {u:Un} (h:rightT u=true):KeyU u:=by
 rw [rightT_eq,rightL_eq] at h;simp only [Zx4] at h;refine (sibB_pair _ _ _ h.2.1).1.imp fun {a b} hab h0 he=>?_;have h0b:0≤Zag u b:=by rw [← he];exact h0
 unfold Zag at h0 h0b he;split at h0
 ·rename_i ka;split at h0b
  ·rename_i kb;rw [if_pos ka,if_pos kb] at he;obtain ⟨i,hi,e1,p1⟩:=idxF_spec h0;obtain ⟨j,hj,e2,p2⟩:=idxF_spec h0b;have hij:i=j:=by
    have:(i:Int)=(j:Int):=by rw [← e1,he,e2]
    exact Int.ofNat_inj.1 this
   subst hij;unfold callsB at p1 p2;simp only [Zx4,beq_iff_eq] at p1 p2;have:sameB a b=true:=by
    unfold sameB;rw [Zx4,beq_iff_eq,beq_iff_eq];exact ⟨ka.trans kb.symm,p1.2.symm.trans p2.2⟩
   rw [this] at hab;cases hab
  ·omega
 ·omega
theorem may_len {s:Str} (h:may s=true):1≤s.length∧s.length≤7:=by
 unfold may at h;simp only [Zx4,Zx3] at h;have:=dgs_len s;omega
theorem nameK_pos {k:Int} (h0:0≤k) (h1:k≤7):1≤(Zcm k).length:=by
 unfold Zcm;rw [if_pos ⟨h0,by omega⟩];obtain ⟨i,rfl⟩:∃ i:Nat,k=(i:Int):=⟨k.toNat,by omega⟩;have hi:i<8:=by omega
 rw [Int.toNat_natCast];exact (by decide:∀ i,i<8→1≤(Zbe.getD i []).length) i hi
theorem rowB_mem {l:List Wd} (h:rowB l=true):l.length≤256∧∀ x∈l,1≤x.text.length∧x.text.length≤24:=by
 unfold rowB textsV at h;simp only [Zx4,Zx3,List.length_map,List.all_eq_true] at h;refine ⟨h.1,fun x hx=>?_⟩;have:=h.2 _ (List.mem_map_of_mem hx);unfold wordB at this;simp only [Zx4,Zx3] at this;exact ⟨this.1,this.2.1⟩
theorem fit_of_right {u:Un} {w:Int} (h:rightT u=true) (hk:u.kind≠0) (h1:24≤w) (h2:w≤200):Zcr w (rowT u)=0:=by
 rw [rightT_eq] at h;have ha:=(Bool.and_eq_true_iff.1 h).1;unfold aloneR at ha;rw [if_neg hk] at ha;simp only [Zx4,Zx3] at ha;obtain ⟨⟨k0,k7⟩,_,hh,hw,hm⟩:=ha;obtain ⟨hh1,hh2⟩:=rowB_mem hh;obtain ⟨hw1,hw2⟩:=rowB_mem hw;have hl:=rowT_len u;refine wrongL_zero ⟨by omega,by omega,fun s hs=>?_⟩ (by omega);unfold rowT at hs;rcases List.mem_cons.1 hs with rfl|hs
 ·have:=nameK_pos k0 k7;have:=nameK_len u.kind;omega
 rcases List.mem_cons.1 hs with rfl|hs
 ·have:=may_len hm;omega
 obtain ⟨x,hx,rfl⟩:=List.mem_map.1 hs;rcases List.mem_append.1 hx with hx|hx
 ·have:=hh2 x hx;omega
 ·have:=hw2 x hx;omega
theorem right_sub {u:Un} (h:SmT u):rightT u=true→∀ x∈unitsT u,rightT x=true:=by
 induction h with
 | mk u h hk hs ih =>
  intro H x hx;rw [Zaj] at hx;rcases List.mem_cons.1 hx with rfl|hx
  ·exact H
  rw [rightT_eq,rightL_eq] at H;simp only [Zx4,List.all_eq_true] at H;rw [Zat] at hx;obtain ⟨k,h1,h2⟩:=List.mem_flatMap.1 hx;exact ih k h1 (H.2.2 k h1) x h2
def GoodU (w:Int) (x:Un):Prop:=Zcr w (rowT x)=0∧KeyU x
theorem good_all {u:Un} {w:Int} (h:SmT u) (hr:rightT u=true) (h1:24≤w) (h2:w≤200):∀ x∈unitsL u.kids,GoodU w x:=fun x hx =>
 have hx':=right_sub h hr x (by rw [Zaj];exact Zx7 _ hx)
 ⟨fit_of_right hx' (right_kinds h hr x hx) h1 h2,key_of_right hx'⟩
end Go.VM
namespace Go.Proofs.w
open Go Go.VM
def c_paginate_body:VC:=(ZR [ZO 3 (.box 8 (.t 0)),ZO 6 (.mv (.c .nilsl))] (ZR [ZO 7 (.mv (.c .nilsl))] (.seq (ZR [ZO 10 (.faddr 7 (.t 3)),ZO 11 (.load false 1 (.t 10)),ZO 12 (.len false (.t 11)),ZO 13 (.mv (.c (.int .i64 0)))] (.block 0 (.loop (ZR [ZO 14 (.bin .lss (.t 13) (.t 12))] (.seq (.cond (.t 14) .skip (.exit 0)) (.seq (.block 1 (ZR [ZO 15 (.iaddr 8 (.t 11) (.t 13)),ZO 16 (.load true 8 (.t 15)),ZO 9 (.alloc ZU),ZN (.store 8 (.t 9) (.t 16))] (.seq (ZR [ZM 17 2,ZO 18 (.un .not (.t 17)),ZM 19 18,ZG 20 (.load true 8 (.t 3)) 19 true,ZG 21 (.load true 8 (.t 9)) 19 true,ZG 22 (.call 63 [.t 20,.t 21]) 19 true,ZG 23 (.bin .geq (.t 22) (.c (.int .i64 0))) 19 true,ZO 24 (.pick (.t 19) (.t 23) (.c (.bool false)))] (.cond (.t 24) (.exit 1) .skip)) (.draw2 [ZM 25 7,ZO 26 (.load true 8 (.t 9)),ZM 27 1,ZO 28 (.call 64 [.t 26,.t 27]),ZO 29 (.app 6 72 [(.str []),.int .i64 0,.int .i64 0,.int .i64 0,(.bool false),.nilsl] false (.t 25) (.t 28)),ZO 30 (.load true 8 (.t 9)),ZM 31 1,ZO 32 (.call 32 [.t 30,.t 31,(.c (.bool false))]),ZO 33 (.app 6 72 [(.str []),.int .i64 0,.int .i64 0,.int .i64 0,(.bool false),.nilsl] false (.t 29) (.t 32)),ZM 7 33] [true,true,true,true,false,false,false,false,false,false])))) (.region [ZO 34 (.bin .add (.t 13) (.c (.int .i64 1))),ZM 13 34] false))))))) (ZR [ZM 35 7,ZM 6 35] .ret))))
theorem closed_uwb (u:Un) (w:Int) (b:Bool):Zax [.agg u.enc,pI w,.bool b]:=by
 intro y hy;simp only [List.mem_cons,List.not_mem_nil,or_false] at hy;rcases hy with rfl|rfl|rfl
 ·exact Zao _
 ·exact cI _
 ·exact cB _
theorem sp_pag_body {u:Un} (hu:SmT u) (hn:(unitsT u).length≤1000) (w:Int):(∀ x∈unitsL u.kids,GoodU w x)→∀ root:Bool,Zam Tryz.prog 32 [.agg u.enc,pI w,.bool root] (.sl 6 ((kidsB w root u u.kids).map Ln.encP)):=by
 induction hu with
 | mk u h hk hs ih =>
  intro hg root;have hu:SmT u:=.mk u h hk hs;rw [Zaj,List.length_cons] at hn;have hgk:∀ k∈u.kids,GoodU w k∧∀ x∈unitsL k.kids,GoodU w x:=fun k hk'=>by
   refine ⟨hg k ?_,fun x hx=>hg x ?_⟩
   ·rw [Zat];exact List.mem_flatMap.2 ⟨k,hk',Zau k⟩
   ·rw [Zat];exact List.mem_flatMap.2 ⟨k,hk',by rw [Zaj];exact Zx7 _ hx⟩
  have ih':∀ k∈u.kids,Zam Tryz.prog 32 [.agg k.enc,pI w,.bool false] (.sl 6 ((bodyL w k k.kids).map Ln.encP)):=fun k hk'=>ih k hk' (by have:=Zbn hk';omega) (hgk k hk').2 false;clear ih;have OW:∀ k∈u.kids,Zam Tryz.prog 64 [.agg k.enc,pI w] (.sl 6 ((ownL w k).map Ln.encP)):=fun k hk'=>sp_pag_own (hs k hk') w (hgk k hk').1.1 (hgk k hk').1.2;have CL:=fun k=>sp_called h k;have hkl:=kidsB_le hu w root;have hks:=fun k (hk:k<u.kids.length)=>kidsB_step (w:=w) (r:=root) (p:=u) hk;have hbq:=fun (k:Un) (hk':k∈u.kids)=>bodyT_le (hs k hk') w;have hum:=fun (k:Un) (hk':k∈u.kids)=>Zbn hk';refine Zad ?_ (closed_lnsP _) (closed_uwb _ _ _);refine Gn (vc:=c_paginate_body) [.t 6] Tryz.func32 ?_;unfold c_paginate_body;try dsimp only [ZM,ZO,ZN,ZG,ZR,ZU]
  rw [Un.Zaf] at CL ⊢;have hk0:kidsB w root u []=[]:=by unfold kidsB;cases root<;>rfl
  have hkf:kidsB w root u (u.kids.take u.kids.length)=kidsB w root u u.kids:=by rw [List.take_length]
  generalize u.kids=KL at *;refine Rp0 [1,2,3] ?_;refine Zaw [(1,pI w),(2,.bool root),(3,.ro [pI u.act,pI u.item,pI u.n,pI u.kind,.str u.label,.sl 4 (u.head.map Wd.enc),.sl 4 (u.words.map Wd.enc),.sl 8 (KL.map Un.enc)])] ⟨View.refl _ _,View.refl _ _,View.loc (z:=8) (fz:=false) (es:=[[pI u.act,pI u.item,pI u.n,pI u.kind,.str u.label,.sl 4 (u.head.map Wd.enc),.sl 4 (u.words.map Wd.enc),.sl 8 (KL.map Un.enc)]]) rfl (by simp) rfl (by simp),trivial⟩ ?_;refine Rp0 [1,2,3,7] ?_;refine Zcx 7 6 rfl ?_;refine Sp0 ?_;refine Zaa ?_;refine Rp1 [1,2,3,7,11,12,13] @xlm ?_;refine Zab ?_;refine Zak (σ:={ x:Nat×Nat×Nat//x.1≤KL.length∧x.2.1<x.2.2 }) (fun x=>([(1,pI w),(2,.bool root),(3,.ro [pI u.act,pI u.item,pI u.n,pI u.kind,.str u.label,.sl 4 (u.head.map Wd.enc),.sl 4 (u.words.map Wd.enc),.sl 8 (KL.map Un.enc)]),(7,.own x.1.2.1 0 (kidsB w root u (KL.take x.1.1)).length),(11,.sl 8 (KL.map Un.enc)),(12,pI KL.length),(13,pI x.1.1)],⟨[(x.1.2.1,.arr false 6 ((kidsB w root u (KL.take x.1.1)).map Ln.encP))],x.1.2.2⟩)) (fun x=>KL.length-x.1.1) ⟨(0,1,2),Nat.zero_le _,by simp⟩ ?_ ?_ ?_
  ·simp only [vmL,Nat.reduceEqDiff,hk0]
   first|done|rfl|exact ⟨rfl,rfl⟩
  ·simp only [vmL,hk0]
   first|done|rfl|exact ⟨rfl,rfl⟩
  rintro ⟨⟨k,id,t⟩,hkk,hid⟩;simp only [] at hkk hid ⊢;have qq:=N4 id t (t+1) (t+1+1);refine Rp1 [1,2,3,7,11,12,13,14] qq ?_;refine Zaa ?_;refine Zac rfl (fun h1=>?_) (fun h1=>?_)
  ·have ka:k<KL.length:=by simp only [Zx3] at h1;omega
   have hrow:(KL.map Un.enc).getD k []=KL[k].enc:=rowm ka;have hmem:=List.getElem_mem ka;have C:=CL KL[k];have O:=OW _ hmem;have R:=ih' _ hmem;have hst:=hks k ka;have hle2:=hkl k;have hbl:=hbq _ hmem;have hul:=hum _ hmem;rw [bodyT_eq] at hst hbl;rw [Zx5] at hbl;generalize KL[k]=v at hrow C O R hst hbl hul;rw [Un.Zaf v] at hrow C O R;generalize hcv:Zag u v=cv at C hst;generalize hB:kidsB w root u (KL.take k)=B at *;have hBl:B.length≤700000:=by omega
   generalize ownL w v=LO at O hbl hst;generalize bodyL w v v.kids=LB at R hbl hst;refine Kp0 ?_;refine Zaa ?_;refine Zab ?_;refine Rp1 [1,2,3,7,9,11,12,13] (x3 @xlm hrow qq) ?_;refine Ok ?_;refine Zaa ?_;refine Zaa (Zc1 (σ:=Unit) (fun _=>([(1,pI w),(2,.bool root),(3,.ro [pI u.act,pI u.item,pI u.n,pI u.kind,.str u.label,.sl 4 (u.head.map Wd.enc),.sl 4 (u.words.map Wd.enc),.sl 8 (KL.map Un.enc)]),(7,.own id 0 B.length),(9,.loc t 0 0),(11,.sl 8 (KL.map Un.enc)),(12,pI KL.length),(13,pI k),(24,.bool (!(root||decide (cv<0))))],⟨[(t,.arr false 8 [[pI v.act,pI v.item,pI v.n,pI v.kind,.str v.label,.sl 4 (v.head.map Wd.enc),.sl 4 (v.words.map Wd.enc),.sl 8 (v.kids.map Un.enc)]]),(id,.arr false 6 (B.map Ln.encP))],t+1⟩)) ?_ (fun _=>?_))
   ·cases root with
    | true =>
     refine rp1 [1,2,3,7,9,11,12,13,24] qq ?_;refine ⟨(),?_⟩;exact Fn1 qq
    | false =>
     refine rp1 [1,2,3,7,9,11,12,13,24] qq ?_;refine Ap1 C qq ?_;refine ⟨(),?_⟩;have hge:decide ((0:Int)≤cv) = !(false||decide (cv<0)):=by
      rw [Bool.false_or,Bool.eq_iff_iff,Bool.not_eq_true',Zx3,Zx2];omega
     rw [← hge]
     all_goals exact Fn1 qq
   have hale:(B.map Ln.encP).length=B.length:=List.length_map _;have hatk:List.take B.length (B.map Ln.encP)=B.map Ln.encP:=List.take_of_length_le (by omega);cases hq:(root||decide (cv<0)) with
   | true =>
    rw [hq,if_pos rfl] at hst;refine Fp0 ?_;refine VW_draw2Q [1,2,3,7,11,12,13] ⟨[(t,.arr false 8 [[pI v.act,pI v.item,pI v.n,pI v.kind,.str v.label,.sl 4 (v.head.map Wd.enc),.sl 4 (v.words.map Wd.enc),.sl 8 (v.kids.map Un.enc)]])],t+30⟩ (by simp [Heap.le,Heap.get,HL.le,HL.get]) ?_;refine Sp1 qq ?_;refine ⟨_,.inl O,?_⟩;refine Sp1 (x4 hale hatk @xlm qq) ?_;refine ⟨by omega,by omega,by omega,_,.inl R,?_⟩;have hal2:(B.map Ln.encP++LO.map Ln.encP).length=B.length+LO.length:=by rw [Zx5,List.length_map,List.length_map]
    have hat2:List.take (B.length+LO.length) (B.map Ln.encP++LO.map Ln.encP)=B.map Ln.encP++LO.map Ln.encP:=List.take_of_length_le (by omega);refine Sp1 (x4 hal2 hat2 @xlm qq) ?_;refine ⟨by omega,by omega,by omega,?_⟩;refine rp1 [1,2,3,7,11,12,13] (x2 (ad1 (a:=k) (by omega)) qq) ?_;refine ⟨⟨(k+1,t+2,t+3),ka,by simp⟩,?_⟩;simp only [hst,Zx5,List.map_append,List.append_assoc,Nat.add_assoc]
    all_goals exact Fn1 qq
   | false =>
    rw [hq,if_neg Bool.false_ne_true,List.append_nil] at hst;refine Ct ?_;refine Ep0 ?_;refine rp1 [1,2,3,7,11,12,13] (x2 (ad1 (a:=k) (by omega)) qq) ?_;refine ⟨⟨(k+1,id,t+1),ka,by show id<t+1;omega⟩,?_⟩;simp only [hst]
    all_goals exact Fn1 qq
  ·have ka:k=KL.length:=by simp only [Zx2] at h1;omega
   subst ka;rw [hkf];refine Ep0 ?_;refine Rp0 [6] ?_;refine Tp0 ?_;exact View.own_all (fz:=false) (by simp [Heap.get,HL.get]) (by rw [List.length_map])
def c_paginate_high:VC:=(ZR [ZO 2 (.mv (.c (.int .i64 0)))] (ZR [ZM 7 0,ZO 8 (.len false (.t 7)),ZO 9 (.bin .add (.c (.int .i64 1)) (.t 8)),ZM 3 9,ZO 4 (.mv (.c (.int .i64 0)))] (.seq (ZR [ZM 10 0,ZO 11 (.len false (.t 10)),ZO 12 (.mv (.c (.int .i64 0)))] (.block 0 (.loop (ZR [ZO 13 (.bin .lss (.t 12) (.t 11))] (.seq (.cond (.t 13) .skip (.exit 0)) (.seq (.block 1 (ZR [ZO 14 (.iaddr 6 (.t 10) (.t 12)),ZO 15 (.load true 6 (.t 14)),ZO 6 (.alloc [(.str []),.int .i64 0,.int .i64 0,.int .i64 0,(.bool false),.nilsl]),ZN (.store 6 (.t 6) (.t 15))] (.region [ZM 16 4,ZO 17 (.faddr 5 (.t 6)),ZO 18 (.load false 1 (.t 17)),ZO 19 (.len false (.t 18)),ZO 20 (.bin .add (.t 16) (.t 19)),ZM 4 20] false))) (.region [ZO 21 (.bin .add (.t 12) (.c (.int .i64 1))),ZM 12 21] false))))))) (.seq (ZR [ZM 22 4,ZO 23 (.bin .gtr (.t 22) (.c (.int .i64 0)))] (.cond (.t 23) (.region [ZM 24 4,ZO 25 (.bin .add (.t 24) (.c (.int .i64 1))),ZM 4 25] false) .skip)) (ZR [ZM 26 3,ZM 27 4,ZO 28 (.bin .add (.t 26) (.t 27)),ZM 2 28] .ret)))))
def c_paginate_groups:VC:=(ZR [ZO 1 (.box 1 (.t 0)),ZO 2 (.mv (.c .nilfn))] (ZR [ZO 3 (.mkfn (.func 62) [] [.t 1]),ZM 2 3] .ret))
theorem sp_high (l:List Ln) (hl:l.length≤1000000) (hn:Za0 l≤900000000):Zam Tryz.prog 33 [.sl 6 (l.map Ln.encP)] (pI (Zda l)):=by
 refine Zad ?_ (cI _) (by intro y hy;rw [List.mem_singleton] at hy;subst hy;exact closed_lnsP l);refine Gn (vc:=c_paginate_high) [.t 2] Tryz.func33 ?_;unfold c_paginate_high;try dsimp only [ZM,ZO,ZN,ZG,ZR,ZU]
 unfold Zda;refine Rp0 [0] ?_;refine Rp1 [0,3,4] (x2 @xlm (w64 (n:=1+(l.length:Int)) (by omega) (by omega))) ?_;refine Zaa ?_;refine Rp1 [3,4,10,11,12] @xlm ?_;refine Zab ?_;refine Zak (σ:={ x:Nat×Nat//x.1≤l.length }) (fun x=>([(3,pI (1+(l.length:Int))),(4,pI (Za0 (l.take x.1.1))),(10,.sl 6 (l.map Ln.encP)),(11,pI l.length),(12,pI x.1.1)],⟨[],x.1.2⟩)) (fun x=>l.length-x.1.1) ⟨(0,0),Nat.zero_le _⟩ ?_ ?_ ?_
 ·simp only [vmL,Nat.reduceEqDiff]
  try trivial
 ·simp only [vmL]
  try trivial
 rintro ⟨⟨k,t⟩,hk⟩;simp only [] at hk ⊢;have qq:=N2 t (t+1);refine Rp1 [3,4,10,11,12,13] qq ?_;refine Zaa ?_;refine Zac rfl (fun h1=>?_) (fun h1=>?_)
 ·have ka:k<l.length:=by simp only [Zx3] at h1;omega
  have hst:=notesN_step ka;have htk:=notesN_take l k;have htk2:=notesN_take l (k+1);have hrow:(l.map Ln.encP).getD k []=l[k].encP:=rowm ka;generalize l[k]=x at hst hrow;have hx:x.encP=[.str x.text,pI x.id.act,pI x.id.item,pI x.id.n,.bool x.tied,It.strs x.notes]:=rfl;rw [hx] at hrow;have hnl:(x.notes.map fun s=>[PV.str s]).length=x.notes.length:=List.length_map _;unfold It.strs at hrow;generalize (x.notes.map fun s=>[PV.str s])=NE at hrow hnl;refine Kp0 ?_;refine Zaa ?_;refine Zab ?_;refine Rp1 [3,4,6,10,11,12] (x3 @xlm hrow qq) ?_;refine Ok ?_;refine rp1 [3,4,10,11,12] (x3 hnl (w64 (n:=(Za0 (l.take k):Int)+(x.notes.length:Int)) (by omega) (by omega)) qq) ?_;refine rp1 [3,4,10,11,12] (x2 (ad1 (a:=k) (by omega)) qq) ?_;refine ⟨⟨(k+1,t+1),ka⟩,?_⟩;have e:(Za0 (l.take k):Int)+(x.notes.length:Int)=(Za0 (l.take (k+1)):Nat):=by omega
  exact Fn1 (x2 e qq)
 ·have ka:k=l.length:=by simp only [Zx2] at h1;omega
  subst ka;rw [List.take_length];refine Ep0 ?_;generalize Za0 l=n at hn ⊢;refine Zaa ?_;refine Rp0 [3,4,23] ?_;by_cases h0:0<n
  ·have e1:decide ((n:Int)>0)=true:=decide_eq_true (by omega);refine Zac rfl (fun _=>?_) (fun h=>by rw [e1] at h;cases h);refine rp1 [3,4] (ad1 (a:=n) (by omega)) ?_;refine Rp1 [2] (w64 (n:=1+(l.length:Int)+((n+1:Nat):Int)) (by omega) (by omega)) ?_;refine Tp0 ?_;rw [show ((1+l.length+up1 n:Nat):Int)=1+(l.length:Int)+((n+1:Nat):Int) by unfold up1;rw [if_pos h0];omega];exact View.refl _ _
  ·have e1:decide ((n:Int)>0)=false:=decide_eq_false (by omega);refine Zac rfl (fun h=>by rw [e1] at h;cases h) (fun _=>?_);refine Kp0 ?_;refine Rp1 [2] (w64 (n:=1+(l.length:Int)+(n:Int)) (by omega) (by omega)) ?_;refine Tp0 ?_;rw [show ((1+l.length+up1 n:Nat):Int)=1+(l.length:Int)+(n:Int) by unfold up1;rw [if_neg h0];omega];exact View.refl _ _
theorem closed_grp (l:List Ln):Closed (.fn (.func 62) [] [.ro [.sl 6 (l.map Ln.encP)]]):=Zbx (by
 intro y hy;rw [List.mem_singleton] at hy;subst hy;exact Zbc fun z hz=>by rw [List.mem_singleton] at hz;subst hz;exact closed_lnsP l)
theorem sp_groups (l:List Ln):Zam Tryz.prog 31 [.sl 6 (l.map Ln.encP)] (.fn (.func 62) [] [.ro [.sl 6 (l.map Ln.encP)]]):=by
 refine Zad ?_ (closed_grp l) (by intro y hy;rw [List.mem_singleton] at hy;subst hy;exact closed_lnsP l);refine Gn (vc:=c_paginate_groups) [.t 2] Tryz.func31 ?_;unfold c_paginate_groups;try dsimp only [ZM,ZO,ZN,ZG,ZR,ZU]
 generalize l.map Ln.encP=E;refine Rp0 [1,2] ?_;refine Rp0 [2] ?_;refine Tp0 ?_;refine View.fn rfl rfl (fun j hj=>absurd hj (Nat.not_lt_zero _)) (fun j hj=>?_);obtain rfl:j=0:=by simp at hj;omega
 exact View.loc (z:=1) (fz:=false) (es:=[[.sl 6 E]]) rfl (by simp) rfl (by simp)
def Zc6:VC:=(ZR [ZO 1 (.box 8 (.t 0)),ZO 2 (.mv (.c (.str [])))] (.seq (.region [ZO 3 (.faddr 3 (.t 1)),ZO 4 (.load false 1 (.t 3)),ZO 5 (.call 40 [.t 4]),ZO 6 (.bin .add (.t 5) (.c (.str [32]))),ZO 7 (.faddr 4 (.t 1)),ZO 8 (.load false 1 (.t 7)),ZO 9 (.bin .add (.t 6) (.t 8)),ZM 2 9] true) .ret))
def ancT (x:Idt) (u:Un):List Idt:=((wayT x u).dropLast.reverse).map idU
def placeT (u:Un) (x:Idt):Un×Bool :=
 if (Zb6 x u).2=true∧x≠idU u then match (x::ancT x u).find? (fun a=>decide ((Zb6 a u).1.kind=2)) with
  | some a=>((Zb6 a u).1,true)
  | none=>((Zb6 x u).1,true)
 else ((Zb6 x u).1,false)
def nameU (x:Un):Str:=Zcm x.kind++[32]++x.label
def headT (u:Un) (a b:Idt):Str :=
 if (placeT u a).2=true∧(placeT u b).2=true then (if idU (placeT u a).1=idU (placeT u b).1 then nameU (placeT u a).1 else nameU (placeT u a).1++[32,116,111,32]++nameU (placeT u b).1) else []
theorem anc_step {x:Idt} {u:Un} {k:Nat} (hk:k<(wayT x u).length-1):(((wayT x u).dropLast.reverse).take (k+1)).map idU=(((wayT x u).dropLast.reverse).take k).map idU++[idU ((wayT x u).getD ((wayT x u).length-2-k) zeroU)]:=by
 have hl:k<(wayT x u).dropLast.reverse.length:=by simp;omega
 rw [List.take_succ_eq_append_getElem hl,List.map_append]
 congr 1
 rw [List.map_singleton,List.getElem_reverse,List.getElem_dropLast]
 congr 2
 rw [Zx1,List.getElem?_eq_getElem (by omega),Option.getD_some]
 congr 1
 simp;omega
theorem sp_Ancestors {u:Un} (hu:SmT u) (hn:(unitsT u).length≤1000) (x:Idt):Zam Tryz.prog 69 [.agg u.enc,.agg x.enc] (.sl 3 ((ancT x u).map Idt.enc)):=by
 have W:=sp_unit_way hu hn x;have hwl:=way_len (x:=x) hu;refine Zad ?_ (closed_ids _) (Zcn u x);refine Gn (vc:=c_unit_Ancestors) [.t 4] Tryz.func69 ?_;unfold c_unit_Ancestors;try dsimp only [ZM,ZO,ZN,ZG,ZR,ZU]
 have hxe:x.enc=[pI x.act,pI x.item,pI x.n]:=rfl;have hst:=fun k=>anc_step (x:=x) (u:=u) (k:=k);unfold ancT;rw [Un.Zaf u,hxe] at W ⊢;refine Rp0 [2,3,4] ?_;refine Rp0 [2,3,5] ?_;refine Rp0 [5,6] ?_;refine Zaq W ?_;have hL:(wayT x u).dropLast.reverse.length=(wayT x u).length-1:=by simp
 rcases way_nd (wayT x u) with ⟨h1,h2⟩|⟨a,r,h0,h1,h2⟩
 ·have hwe:wayT x u=[]:=by simpa using h2
  rw [h1,hwe]
  skip
  refine Zaa ?_;refine Rp0 [5,6,7] ?_;refine Zab ?_;refine Zak (σ:=Unit) (fun _=>([(5,.nilsl),(7,pI (-2))],⟨[],2⟩)) (fun _=>0) () ?_ ?_ ?_
  ·simp only [vmL,Nat.reduceEqDiff]
   first|done|rfl|decide
  ·exact Sc0
  rintro ⟨⟩;simp only [];refine Zaa ?_;refine Rp0 [5,15] ?_;refine Cf ?_;refine Ep0 ?_;refine Rp0 [4] ?_;refine Tp0 ?_;exact View.nil _ _
 rw [h1,← h0];have hwl1:1≤(wayT x u).length:=by rw [h0];simp
 have hWl:((wayT x u).map Un.enc).length=(wayT x u).length:=List.length_map _;have hrow:∀ (k:Nat),k<(wayT x u).length→((wayT x u).map Un.enc).getD k []=((wayT x u).getD k zeroU).enc:=fun k hk=>by
  rw [rowm hk,Zx1,List.getElem?_eq_getElem hk];rfl
 generalize (wayT x u).map Un.enc=WE at hWl hrow ⊢;generalize (wayT x u).dropLast.reverse=DR at hst hL ⊢
 skip
 refine Zcx 5 3 rfl ?_;refine Sp0 ?_;refine Zaa ?_;refine Rp1 [5,6,7] (x2 hWl (w64 (n:=((wayT x u).length:Int)-2) (by omega) (by omega))) ?_;refine Zab ?_;refine Zak (σ:={ y:Nat×Nat×Nat//y.1≤(wayT x u).length-1∧y.2.1<y.2.2 }) (fun y=>([(5,.own y.1.2.1 0 ((DR.take y.1.1).map idU).length),(6,.sl 8 WE),(7,pI (((wayT x u).length:Int)-2-(y.1.1:Int)))],⟨[(y.1.2.1,.arr false 3 (((DR.take y.1.1).map idU).map Idt.enc))],y.1.2.2⟩)) (fun y=>(wayT x u).length-1-y.1.1) ⟨(0,2,3),Nat.zero_le _,by simp⟩ ?_ ?_ ?_
 ·simp only [vmL,Nat.reduceEqDiff,List.take_zero,List.map_nil,List.length_nil]
  first|done|(show pI _=pI _;congr 1;omega)
 ·simp only [vmL,Nat.reduceEqDiff,reduceCtorEq,List.take_zero,List.map_nil]
  try trivial
 rintro ⟨⟨k,id,t⟩,hk,hid⟩;simp only [] at hk hid ⊢;have qq:=N4 id t (t+1) (t+1+1);refine Zaa ?_;refine Rp1 [5,6,7,15] qq ?_;refine Zac rfl (fun h1=>?_) (fun h1=>?_)
 ·have ka:k<(wayT x u).length-1:=by simp only [Zx3] at h1;omega
  have e:=hst k ka;have hr:=hrow ((wayT x u).length-2-k) (by omega);generalize (wayT x u).getD ((wayT x u).length-2-k) zeroU=v at e hr;have hve:(idU v).enc=[pI v.act,pI v.item,pI v.n]:=rfl;have e':((DR.take (k+1)).map idU).map Idt.enc=((DR.take k).map idU).map Idt.enc++[[pI v.act,pI v.item,pI v.n]]:=by rw [e,List.map_append,List.map_singleton,hve]
  have el:((DR.take (k+1)).map idU).length=((DR.take k).map idU).length+1:=by rw [e];simp
  have hAl:((DR.take k).map idU).length≤1000:=by rw [List.length_map,List.length_take];omega
  rw [Un.Zaf v] at hr;generalize (DR.take k).map idU=A at e' el hAl ⊢;have hale:(A.map Idt.enc).length=A.length:=List.length_map _;have hatk:List.take A.length (A.map Idt.enc)=A.map Idt.enc:=List.take_of_length_le (by omega);have hix:(((wayT x u).length:Int)-2-(k:Int))=(((wayT x u).length-2-k:Nat):Int):=by omega
  have hix2:(((wayT x u).length:Int)-2-(k:Int))-1=((wayT x u).length:Int)-2-((k+1:Nat):Int):=by omega
  refine Kp0 ?_;refine Zaa ?_;refine Zab ?_;refine Zae [5,6,7] ?_;simp only [vmL,Nat.reduceEqDiff,Nat.reduceAdd,Nat.reduceLT,Nat.reduceLeDiff,hix,hWl,hr,hale,hatk,qq];refine ⟨by omega,?_⟩;refine Ok ?_;have hix3:IntKind.i64.wrap ((((wayT x u).length-2-k:Nat):Int)-1)=((wayT x u).length:Int)-2-((k+1:Nat):Int):=by rw [w64 (by omega) (by omega)];omega
  refine rp1 [5,6,7] hix3 ?_;refine ⟨⟨(k+1,t+1,t+2),by omega,by simp⟩,?_⟩;simp only [el,e']
  all_goals exact Fn1 qq
 ·have ka:k=(wayT x u).length-1:=by simp only [Zx2] at h1;omega
  have hfull:DR.take k=DR:=List.take_of_length_le (by omega);rw [hfull];refine Ep0 ?_;refine Rp1 [4] qq ?_;refine Tp0 ?_;exact View.own_all (fz:=false) (by simp [Heap.get,HL.get]) (by simp)
theorem sp_RunningHead_1 {u:Un} (hl:u.label.length≤1000):Zam Tryz.prog 39 [.agg u.enc] (.str (nameU u)):=by
 have KN:=sp_KindName u.kind;refine Zad ?_ (cS _) (by intro y hy;rw [List.mem_singleton] at hy;subst hy;exact Zao u);refine Gn (vc:=Zc6) [.t 2] Tryz.func39 ?_;unfold Zc6;try dsimp only [ZM,ZO,ZN,ZG,ZR,ZU]
 unfold nameU;rw [Un.Zaf u];refine Rp0 [1,2] ?_;refine Zaw [(1,.ro [pI u.act,pI u.item,pI u.n,pI u.kind,.str u.label,.sl 4 (u.head.map Wd.enc),.sl 4 (u.words.map Wd.enc),.sl 8 (u.kids.map Un.enc)]),(2,.str [])] ⟨View.loc (z:=8) (fz:=false) (es:=[[pI u.act,pI u.item,pI u.n,pI u.kind,.str u.label,.sl 4 (u.head.map Wd.enc),.sl 4 (u.words.map Wd.enc),.sl 8 (u.kids.map Un.enc)]]) rfl (by simp) rfl (by simp),View.refl _ _,trivial⟩ ?_;refine Zaa (VW_drawE 10 [2] (by simp) ?_);refine Sp0 ?_;refine ⟨_,.inl KN,?_⟩;have hkn:=nameK_len u.kind;refine Sp0 ?_;refine ⟨by omega,by rw [Zx5,List.length_singleton];omega,?_⟩;exact Tv0
def c_paginate_place:VC:=(ZR [ZO 2 (.box 8 (.t 0)),ZO 3 (.box 3 (.t 1)),ZO 4 (.alloc ZU),ZO 5 (.mv (.c (.bool false)))] (ZR [ZO 13 (.load true 8 (.t 2)),ZO 14 (.load true 3 (.t 3)),ZO 15 (.call 68 [.t 13,.t 14]),ZM 12 15,ZO 16 (.ext (.t 12) 0),ZO 17 (.ext (.t 12) 1),ZO 6 (.alloc ZU),ZN (.store 8 (.t 6) (.t 16)),ZM 7 17] (.seq (ZR [ZM 18 7,ZO 19 (.un .not (.t 18)),ZM 20 19,ZG 21 (.load true 3 (.t 3)) 20 false,ZG 22 (.faddr 0 (.t 2)) 20 false,ZG 23 (.load true 3 (.t 22)) 20 false,ZG 24 (.eqs false [.i,.i,.i] (.t 21) (.t 23)) 20 false,ZO 25 (.pick (.t 20) (.c (.bool true)) (.t 24))] (.cond (.t 25) (ZR [ZO 26 (.load true 8 (.t 6)),ZN (.store 8 (.t 4) (.t 26)),ZO 5 (.mv (.c (.bool false)))] .ret) .skip)) (.seq (.seq (.draw2 [ZO 27 (.load true 3 (.t 3)),ZO 28 (.bslice 3 1 [.int .i64 0,.int .i64 0,.int .i64 0] [(0,(.t 27))]),ZO 29 (.load true 8 (.t 2)),ZO 30 (.load true 3 (.t 3)),ZO 31 (.call 69 [.t 29,.t 30]),ZO 32 (.app 3 24 [.int .i64 0,.int .i64 0,.int .i64 0] false (.t 28) (.t 31)),ZO 33 (.len false (.t 32)),ZO 34 (.mv (.c (.int .i64 0)))] [true,true,true,true,true,false,false,false]) (.block 0 (.loop (ZR [ZO 35 (.bin .lss (.t 34) (.t 33))] (.seq (.cond (.t 35) .skip (.exit 0)) (.seq (.block 1 (ZR [ZO 36 (.iaddr 3 (.t 32) (.t 34)),ZO 37 (.load true 3 (.t 36)),ZO 9 (.alloc [.int .i64 0,.int .i64 0,.int .i64 0]),ZN (.store 3 (.t 9) (.t 37))] (ZR [ZO 39 (.load true 8 (.t 2)),ZO 40 (.load true 3 (.t 9)),ZO 41 (.call 68 [.t 39,.t 40]),ZM 38 41,ZO 42 (.ext (.t 38) 0),ZO 43 (.ext (.t 38) 1),ZO 10 (.alloc ZU),ZN (.store 8 (.t 10) (.t 42)),ZM 11 43] (ZR [ZO 44 (.faddr 3 (.t 10)),ZO 45 (.load false 1 (.t 44)),ZO 46 (.bin .eql (.t 45) (.c (.int .i64 2)))] (.cond (.t 46) (ZR [ZO 47 (.load true 8 (.t 10)),ZN (.store 8 (.t 4) (.t 47)),ZO 5 (.mv (.c (.bool true)))] .ret) .skip))))) (.region [ZO 48 (.bin .add (.t 34) (.c (.int .i64 1))),ZM 34 48] false))))))) (ZR [ZO 49 (.load true 8 (.t 6)),ZN (.store 8 (.t 4) (.t 49)),ZO 5 (.mv (.c (.bool true)))] .ret)))))
theorem closed_unb (v:Un) (b:Bool):Closed (.tup [.agg v.enc,.bool b]):=Zbl (by simp only [List.mem_cons,List.not_mem_nil,or_false,forall_eq_or_imp,forall_eq];exact ⟨Zao _,cB _⟩)
theorem find?_at {α:Type} {p:α→Bool}:∀ {l:List α} {k:Nat} (hk:k<l.length),(∀ (j:Nat) (hj:j<l.length),j<k→p l[j]=false)→p l[k]=true→l.find? p=some l[k]
 | a::r,0,_,_,h=>by simp only [List.getElem_cons_zero] at h;simp [h]
 | a::r,k+1,hk,hp,h=>by
  have h0:p a=false:=hp 0 (by simp) (by omega);rw [List.find?_cons,h0]
  simpa using find?_at (l:=r) (k:=k) (by simpa using hk) (fun j hj hjk=>hp (j+1) (by simpa using hj) (by omega)) h
theorem find?_no {α:Type} {p:α→Bool} {l:List α} (h:∀ (j:Nat) (hj:j<l.length),p l[j]=false):l.find? p=none:=by
 rw [List.find?_eq_none];intro x hx;obtain ⟨j,hj,rfl⟩:=List.getElem_of_mem hx;rw [h j hj];simp
theorem sp_place {u:Un} (hu:SmT u) (hn:(unitsT u).length≤1000) (x:Idt):Zam Tryz.prog 38 [.agg u.enc,.agg x.enc] (.tup [.agg (placeT u x).1.enc,.bool (placeT u x).2]):=by
 have FN:=fun y=>sp_unit_Find hu hn y;have AN:=sp_Ancestors hu hn x;have hal:(ancT x u).length≤1000:=by
  have:=way_len (x:=x) hu;unfold ancT;simp;omega
 refine Zad ?_ (closed_unb _ _) (Zcn u x);refine Gn (vc:=c_paginate_place) [.c 4 true 8,.t 5] Tryz.func38 ?_;unfold c_paginate_place;try dsimp only [ZM,ZO,ZN,ZG,ZR,ZU]
 have hxe:x.enc=[pI x.act,pI x.item,pI x.n]:=rfl;unfold placeT;have hid:=id_eqs x (idU u);have hiu:(idU u).act=u.act∧(idU u).item=u.item∧(idU u).n=u.n:=⟨rfl,rfl,rfl⟩;rw [hiu.1,hiu.2.1,hiu.2.2] at hid;have FX:=FN x;rw [hxe,Un.Zaf u] at FX;rw [hxe,Un.Zaf u] at AN ⊢;rw [Un.Zaf u] at FN;refine Rp0 [2,3,4,5] ?_;refine VW_freezeP (l1:=[(1,.arr false 3 [[pI x.act,pI x.item,pI x.n]]),(0,.arr false 8 [[pI u.act,pI u.item,pI u.n,pI u.kind,.str u.label,.sl 4 (u.head.map Wd.enc),.sl 4 (u.words.map Wd.enc),.sl 8 (u.kids.map Un.enc)]])] ) (l2:=[(2,.arr false 8 [[pI 0,pI 0,pI 0,pI 0,.str [],.nilsl,.nilsl,.nilsl]])]) (t:=3)
  [(2,.ro [pI u.act,pI u.item,pI u.n,pI u.kind,.str u.label,.sl 4 (u.head.map Wd.enc),.sl 4 (u.words.map Wd.enc),.sl 8 (u.kids.map Un.enc)]),(3,.ro [pI x.act,pI x.item,pI x.n]),(4,.loc 2 0 0),(5,.bool false)] (by simp [Heap.le,Heap.get,HL.le,HL.get]) (by simp) (by simp)
  ⟨View.loc (z:=8) (fz:=false) (es:=[[pI u.act,pI u.item,pI u.n,pI u.kind,.str u.label,.sl 4 (u.head.map Wd.enc),.sl 4 (u.words.map Wd.enc),.sl 8 (u.kids.map Un.enc)]]) rfl (by simp) rfl (by simp),View.loc (z:=3) (fz:=false) (es:=[[pI x.act,pI x.item,pI x.n]]) rfl (by simp) rfl (by simp),View.refl _ _,View.refl _ _,trivial⟩ ?_
 generalize u.head.map Wd.enc=EH at *;generalize u.words.map Wd.enc=EW at *;generalize u.kids.map Un.enc=EK at *;generalize hfx:(Zb6 x u).1=v at FX;rw [Un.Zaf v] at FX;refine Rp0 [2,3,4,5,6,7] ?_;refine Ap0 FX ?_;refine Zaa ?_;by_cases hc:(Zb6 x u).2=true∧x≠idU u
 ·rw [if_pos hc];have e1:decide (x=idU u)=false:=decide_eq_false hc.2;rw [e1] at hid;refine Rp1 [2,3,4,5,6,25] (x2 hid hc.1) ?_;refine Fp0 ?_;refine Zaa ?_;refine Zaa (VW_draw2O 1 ⟨[(3,.arr false 8 [[pI v.act,pI v.item,pI v.n,pI v.kind,.str v.label,.sl 4 (v.head.map Wd.enc),.sl 4 (v.words.map Wd.enc),.sl 8 (v.kids.map Un.enc)]])],24⟩ [2,4,6,32,33,34] rfl (by simp [Heap.le,Heap.get,HL.le,HL.get]) ?_);simp only [vmL,Nat.reduceEqDiff,Nat.reduceAdd,Nat.reduceLT,Nat.reduceLeDiff,DrawC_nil,DrawC_at,DrawC_n,Nat.reduceBEq];refine ⟨_,.inl AN,?_⟩;try simp only [vmL,DrawC_nil,DrawC_at,DrawC_n,Nat.reduceBEq]
  have hAl:((ancT x u).map Idt.enc).length=(ancT x u).length:=List.length_map _;refine ⟨by omega,by omega,?_⟩;have hLl:(x::ancT x u).length=1+(ancT x u).length:=by rw [List.length_cons];omega
  have hLm:(x::ancT x u).map Idt.enc=[pI x.act,pI x.item,pI x.n]::(ancT x u).map Idt.enc:=by rw [List.map_cons,hxe]
  rw [hAl,← hLl,← hLm];have hLb:(x::ancT x u).length≤1001:=by rw [hLl];omega
  generalize x::ancT x u=AL at *;have hRl:(AL.map Idt.enc).length=AL.length:=List.length_map _;refine VW_freezeP (l1:=[(5,.arr false 3 (AL.map Idt.enc)),(3,.arr false 8 [[pI v.act,pI v.item,pI v.n,pI v.kind,.str v.label,.sl 4 (v.head.map Wd.enc),.sl 4 (v.words.map Wd.enc),.sl 8 (v.kids.map Un.enc)]])] ) (l2:=[(2,.arr false 8 [[pI 0,pI 0,pI 0,pI 0,.str [],.nilsl,.nilsl,.nilsl]])]) (t:=6)
   [(2,.ro [pI u.act,pI u.item,pI u.n,pI u.kind,.str u.label,.sl 4 EH,.sl 4 EW,.sl 8 EK]),(4,.loc 2 0 0),(6,.ro [pI v.act,pI v.item,pI v.n,pI v.kind,.str v.label,.sl 4 (v.head.map Wd.enc),.sl 4 (v.words.map Wd.enc),.sl 8 (v.kids.map Un.enc)]),(32,.sl 3 (AL.map Idt.enc)),(33,pI AL.length),(34,pI 0)] (by simp [Heap.le,Heap.get,HL.le,HL.get]) (by simp) (by simp)
   ⟨View.refl _ _,View.refl _ _,View.loc (z:=8) (fz:=false) (es:=[[pI v.act,pI v.item,pI v.n,pI v.kind,.str v.label,.sl 4 (v.head.map Wd.enc),.sl 4 (v.words.map Wd.enc),.sl 8 (v.kids.map Un.enc)]]) rfl (by simp) rfl (by simp),View.own_all (fz:=false) rfl hRl.symm,View.refl _ _,View.refl _ _,trivial⟩ ?_
  refine Zab ?_;refine Zak (σ:={ y:Nat×Nat//y.1≤AL.length∧6≤y.2∧∀ (j:Nat) (hj:j<AL.length),j<y.1→decide ((Zb6 AL[j] u).1.kind=2)=false }) (fun y=>([(2,.ro [pI u.act,pI u.item,pI u.n,pI u.kind,.str u.label,.sl 4 EH,.sl 4 EW,.sl 8 EK]),(4,.loc 2 0 0),(6,.ro [pI v.act,pI v.item,pI v.n,pI v.kind,.str v.label,.sl 4 (v.head.map Wd.enc),.sl 4 (v.words.map Wd.enc),.sl 8 (v.kids.map Un.enc)]),(32,.sl 3 (AL.map Idt.enc)),(33,pI AL.length),(34,pI y.1.1)],⟨[(2,.arr false 8 [[pI 0,pI 0,pI 0,pI 0,.str [],.nilsl,.nilsl,.nilsl]])],y.1.2⟩)) (fun y=>AL.length-y.1.1) ⟨(0,6),Nat.zero_le _,Nat.le_refl _,fun j _ h=>by cases h⟩ ?_ ?_ ?_
  ·exact Sr0
  ·exact Sc0
  rintro ⟨⟨k,t⟩,hkk,ht,hpre⟩;simp only [] at hkk ht hpre ⊢;have qq:=N4 2 t (t+1) (t+1+1);refine Rp1 [2,4,6,32,33,34,35] qq ?_;refine Zaa ?_;refine Zac rfl (fun h1=>?_) (fun h1=>?_)
  ·have ka:k<AL.length:=by simp only [Zx3] at h1;omega
   have hrow:(AL.map Idt.enc).getD k []=AL[k].enc:=rowm ka;have F:=FN AL[k];have hhit:=find?_at (p:=fun a=>decide ((Zb6 a u).1.kind=2)) ka hpre;have hnext:decide ((Zb6 AL[k] u).1.kind=2)=false→∀ (j:Nat) (hj:j<AL.length),j<k+1→decide ((Zb6 AL[j] u).1.kind=2)=false:=fun h j hj hjk=>by
    by_cases e:j=k
    ·subst e;exact h
    ·exact hpre j hj (by omega)
   generalize AL[k]=a at hrow F hhit hnext;have hae:a.enc=[pI a.act,pI a.item,pI a.n]:=rfl;rw [hae] at hrow F;generalize hy:(Zb6 a u).1=y at F;rw [Un.Zaf y] at F;refine Kp0 ?_;refine Zaa ?_;refine Zab ?_;refine Rp1 [2,4,6,9,32,33,34] (x3 hRl hrow qq) ?_;refine Ok ?_;refine Rp1 [2,4,6,10,32,33,34] qq ?_;refine Ap1 F qq ?_;refine Rp1 [2,4,6,10,32,33,34,46] qq ?_;by_cases hk2:y.kind=2
   ·have e2:(y.kind==2)=true:=by simpa using hk2
    rw [hhit (by show decide ((Zb6 a u).1.kind=2)=true;rw [hy];exact decide_eq_true hk2)];refine Zac rfl (fun _=>?_) (fun h=>by rw [e2] at h;cases h);refine Rp1 [4,5] qq ?_;refine Tp1 qq ?_;show View _ _ (.tup [.agg (Zb6 a u).1.enc,.bool true]);rw [hy,Un.Zaf y];exact View.refl _ _
   ·have e2:(y.kind==2)=false:=by simpa using hk2
    refine Zac rfl (fun h=>by rw [e2] at h;cases h) (fun _=>?_);refine Kp0 ?_;refine rp1 [2,4,6,32,33,34] (x2 (ad1 (a:=k) (by omega)) qq) ?_;refine ⟨⟨(k+1,t+2),ka,by show 6≤t+2;omega,hnext (by rw [hy];exact decide_eq_false hk2)⟩,?_⟩;exact Fn1 qq
  ·have ka:k=AL.length:=by simp only [Zx2] at h1;omega
   subst ka;rw [find?_no fun j hj=>hpre j hj hj];refine Ep0 ?_;refine Rp0 [4,5] ?_;refine Tp0 ?_;show View _ _ (.tup [.agg v.enc,.bool true]);rw [Un.Zaf v];exact View.refl _ _
 ·rw [if_neg hc];by_cases hf:(Zb6 x u).2=true
  ·have e1 : decide (x = idU u) = true := decide_eq_true (by
    by_cases hxx:x=idU u
    ·exact hxx
    ·exact absurd ⟨hf,hxx⟩ hc)
   rw [e1] at hid;refine Rp1 [2,3,4,5,6,25] (x2 hid hf) ?_;refine Ct ?_;refine Rp0 [4,5] ?_;refine Tp0 ?_;show View _ _ (.tup [.agg v.enc,.bool false]);rw [Un.Zaf v];exact View.refl _ _
  ·have hf':(Zb6 x u).2=false:=by simpa using hf
   refine Rp1 [2,3,4,5,6,25] hf' ?_;refine Ct ?_;refine Rp0 [4,5] ?_;refine Tp0 ?_;show View _ _ (.tup [.agg v.enc,.bool false]);rw [Un.Zaf v];exact View.refl _ _
def c_paginate_RunningHead:VC:=(ZR [ZO 3 (.box 8 (.t 0)),ZO 4 (.box 3 (.t 1)),ZO 5 (.box 3 (.t 2)),ZO 6 (.mv (.c (.str [])))] (ZR [ZO 13 (.load true 8 (.t 3)),ZO 14 (.load true 3 (.t 4)),ZO 15 (.call 38 [.t 13,.t 14]),ZM 12 15,ZO 16 (.ext (.t 12) 0),ZO 17 (.ext (.t 12) 1),ZO 7 (.alloc ZU),ZN (.store 8 (.t 7) (.t 16)),ZM 8 17] (ZR [ZO 19 (.load true 8 (.t 3)),ZO 20 (.load true 3 (.t 5)),ZO 21 (.call 38 [.t 19,.t 20]),ZM 18 21,ZO 22 (.ext (.t 18) 0),ZO 23 (.ext (.t 18) 1),ZO 9 (.alloc ZU),ZN (.store 8 (.t 9) (.t 22)),ZM 10 23] (.seq (ZR [ZM 24 8,ZO 25 (.un .not (.t 24)),ZM 26 25,ZG 27 (.mv (.t 10)) 26 false,ZG 28 (.un .not (.t 27)) 26 false,ZO 29 (.pick (.t 26) (.c (.bool true)) (.t 28))] (.cond (.t 29) (ZR [ZO 6 (.mv (.c (.str [])))] .ret) .skip)) (ZR [ZO 11 (.mv (.c (.fn (.func 39) [] [])))] (.seq (ZR [ZO 30 (.faddr 0 (.t 7)),ZO 31 (.load true 3 (.t 30)),ZO 32 (.faddr 0 (.t 9)),ZO 33 (.load true 3 (.t 32)),ZO 34 (.eqs false [.i,.i,.i] (.t 31) (.t 33))] (.cond (.t 34) (ZR [ZM 35 11,ZO 36 (.load true 8 (.t 7)),ZO 37 (.callv (.t 35) [.t 36]),ZM 6 37] .ret) .skip)) (.seq (.region [ZM 38 11,ZO 39 (.load true 8 (.t 7)),ZO 40 (.callv (.t 38) [.t 39]),ZO 41 (.bin .add (.t 40) (.c (.str [32,116,111,32]))),ZM 42 11,ZO 43 (.load true 8 (.t 9)),ZO 44 (.callv (.t 42) [.t 43]),ZO 45 (.bin .add (.t 41) (.t 44)),ZM 6 45] true) .ret)))))))
theorem find_lab {u:Un} (hu:SmT u) (x:Idt):(Zb6 x u).1.label.length≤30:=by
 unfold Zb6;cases h:(wayT x u).getLast? with
 | none=>simp [zeroU,Un.label]
 | some v =>
  have:=hu.units v (way_mem (x:=x) hu v (List.mem_of_getLast? h));exact this.u.label
theorem place_lab {u:Un} (hu:SmT u) (x:Idt):(placeT u x).1.label.length≤30:=by
 unfold placeT;split
 ·split
  ·exact find_lab hu _
  ·exact find_lab hu _
 ·exact find_lab hu _
theorem nameU_len (v:Un) (h:v.label.length≤30):(nameU v).length≤40:=by
 have:=nameK_len v.kind;unfold nameU;rw [Zx5,Zx5,List.length_singleton];omega
theorem closed_head (u:Un) (a b:Idt):Zax [.agg u.enc,.agg a.enc,.agg b.enc]:=by
 intro y hy;simp only [List.mem_cons,List.not_mem_nil,or_false] at hy;rcases hy with rfl|rfl|rfl;exact Zao u;exact Zay (Idt.closed a);exact Zay (Idt.closed b)
theorem sp_RunningHead {u:Un} (hu:SmT u) (hn:(unitsT u).length≤1000) (a b:Idt):Zam Tryz.prog 13 [.agg u.enc,.agg a.enc,.agg b.enc] (.str (headT u a b)):=by
 have PA:=sp_place hu hn a;have PB:=sp_place hu hn b;have la:=place_lab hu a;have lb:=place_lab hu b;refine Zad ?_ (cS _) (closed_head u a b);refine Gn (vc:=c_paginate_RunningHead) [.t 6] Tryz.func13 ?_;unfold c_paginate_RunningHead;try dsimp only [ZM,ZO,ZN,ZG,ZR,ZU]
 unfold headT;have hae:a.enc=[pI a.act,pI a.item,pI a.n]:=rfl;have hbe:b.enc=[pI b.act,pI b.item,pI b.n]:=rfl;generalize (placeT u a).1=x at PA la ⊢;generalize (placeT u b).1=y at PB lb ⊢;generalize (placeT u a).2=p at PA ⊢;generalize (placeT u b).2=q at PB ⊢;have NX:=sp_RunningHead_1 (u:=x) (by omega);have NY:=sp_RunningHead_1 (u:=y) (by omega);have lx:=nameU_len x la;have ly:=nameU_len y lb;have hid:=id_eqs (idU x) (idU y);have hix:(idU x).act=x.act∧(idU x).item=x.item∧(idU x).n=x.n:=⟨rfl,rfl,rfl⟩;have hiy:(idU y).act=y.act∧(idU y).item=y.item∧(idU y).n=y.n:=⟨rfl,rfl,rfl⟩;rw [hix.1,hix.2.1,hix.2.2,hiy.1,hiy.2.1,hiy.2.2] at hid;rw [Un.Zaf u,hae,Un.Zaf x] at PA;rw [Un.Zaf u,hbe,Un.Zaf y] at PB;rw [Un.Zaf x] at NX;rw [Un.Zaf y] at NY;rw [Un.Zaf u,hae,hbe];generalize u.head.map Wd.enc=EH at *;generalize u.words.map Wd.enc=EW at *;generalize u.kids.map Un.enc=EK at *;generalize x.head.map Wd.enc=XH at *;generalize x.words.map Wd.enc=XW at *;generalize x.kids.map Un.enc=XK at *;generalize y.head.map Wd.enc=YH at *;generalize y.words.map Wd.enc=YW at *;generalize y.kids.map Un.enc=YK at *;refine Rp0 [3,4,5,6] ?_;refine Rp0 [3,5,7,8] ?_;refine Ap0 PA ?_;refine Rp0 [7,8,9,10] ?_;refine Ap0 PB ?_;refine Zaw [(7,.ro [pI x.act,pI x.item,pI x.n,pI x.kind,.str x.label,.sl 4 XH,.sl 4 XW,.sl 8 XK]),(8,.bool p),(9,.ro [pI y.act,pI y.item,pI y.n,pI y.kind,.str y.label,.sl 4 YH,.sl 4 YW,.sl 8 YK]),(10,.bool q)] ⟨View.loc (z:=8) (fz:=false) (es:=[[pI x.act,pI x.item,pI x.n,pI x.kind,.str x.label,.sl 4 XH,.sl 4 XW,.sl 8 XK]]) rfl (by simp) rfl (by simp),View.refl _ _,View.loc (z:=8) (fz:=false) (es:=[[pI y.act,pI y.item,pI y.n,pI y.kind,.str y.label,.sl 4 YH,.sl 4 YW,.sl 8 YK]]) rfl (by simp) rfl (by simp),View.refl _ _,trivial⟩ ?_;cases p with
 | false =>
  rw [if_neg (by simp)];refine Zaa (Zaa (Zae [29] ?_));refine Sp0 ?_;refine Ct ?_;exact Rv0 [6]
 | true =>
 cases q with
 | false =>
  rw [if_neg (by simp)];refine Zaa (Zaa (Zae [29] ?_));refine Sp0 ?_;refine Ct ?_;exact Rv0 [6]
 | true =>
  rw [if_pos ⟨rfl,rfl⟩];refine Zaa (Zaa (Zae [7,9,29] ?_));refine Sp0 ?_;refine Fp0 ?_;refine Rp0 [7,9,11] ?_;refine Zaa (Zaa (Zae [7,9,11,34] ?_));refine Sp1 hid ?_;by_cases he:idU x=idU y
  ·rw [if_pos he,decide_eq_true he];refine Ct ?_;refine Rp1 [6] @xan ?_;refine Zaq NX ?_;exact Tv0
  ·rw [if_neg he,decide_eq_false he];refine Fp0 ?_;refine Zaa (VW_drawE 10 [6] (by simp) ?_);refine Sp0 ?_;refine ⟨.str (nameU x),(.inl NX),?_⟩;refine Sp0 ?_;refine ⟨by omega,.str (nameU y),(.inl NY),?_⟩;refine Sp0 ?_;refine ⟨by rw [Zx5];simp only [List.length_cons,List.length_nil];omega,?_⟩;exact Tv0
def c_paginate_page:VC:=(ZR [ZO 3 (.box 8 (.t 0)),ZO 6 (.alloc [.int .i64 0,(.str []),.nilsl,.nilsl])] (.seq (.draw2 [ZM 10 1,ZO 11 (.load true 8 (.t 3)),ZM 12 2,ZO 13 (.iaddr 6 (.t 12) (.c (.int .i64 0))),ZO 14 (.faddr 1 (.t 13)),ZO 15 (.load true 3 (.t 14)),ZM 16 2,ZM 17 2,ZO 18 (.len false (.t 17)),ZO 19 (.bin .sub (.t 18) (.c (.int .i64 1))),ZO 20 (.iaddr 6 (.t 16) (.t 19)),ZO 21 (.faddr 1 (.t 20)),ZO 22 (.load true 3 (.t 21)),ZO 23 (.call 13 [.t 11,.t 15,.t 22]),ZO 24 (.build [.int .i64 0,(.str []),.nilsl,.nilsl] [(0,(1,(.t 10))),(1,(1,(.t 23)))]),ZO 7 (.alloc [.int .i64 0,(.str []),.nilsl,.nilsl]),ZN (.store 4 (.t 7) (.t 24))] [true,true,true,true,true,true,true,true,true,true,true,true,true,true,true,true,false]) (.seq (ZR [ZM 25 2,ZO 26 (.len false (.t 25)),ZO 27 (.mv (.c (.int .i64 0)))] (.block 0 (.loop (ZR [ZO 28 (.bin .lss (.t 27) (.t 26))] (.seq (.cond (.t 28) .skip (.exit 0)) (.seq (.block 1 (ZR [ZO 29 (.iaddr 6 (.t 25) (.t 27)),ZO 30 (.load true 6 (.t 29)),ZO 9 (.alloc [(.str []),.int .i64 0,.int .i64 0,.int .i64 0,(.bool false),.nilsl]),ZN (.store 6 (.t 9) (.t 30))] (ZR [ZO 31 (.faddr 2 (.t 7)),ZO 32 (.load false 1 (.t 31)),ZO 33 (.faddr 0 (.t 9)),ZO 34 (.load false 1 (.t 33)),ZO 35 (.bslice 1 1 [(.str [])] [(0,(.t 34))]),ZO 36 (.app 1 16 [(.str [])] false (.t 32) (.t 35)),ZO 37 (.faddr 2 (.t 7)),ZN (.store 1 (.t 37) (.t 36))] (.region [ZO 38 (.faddr 3 (.t 7)),ZO 39 (.load false 1 (.t 38)),ZO 40 (.faddr 5 (.t 9)),ZO 41 (.load false 1 (.t 40)),ZO 42 (.app 1 16 [(.str [])] false (.t 39) (.t 41)),ZO 43 (.faddr 3 (.t 7)),ZN (.store 1 (.t 43) (.t 42))] false)))) (.region [ZO 44 (.bin .add (.t 27) (.c (.int .i64 1))),ZM 27 44] false))))))) (ZR [ZO 45 (.load true 4 (.t 7)),ZN (.store 4 (.t 6) (.t 45))] .ret))))
structure Pg where
 number : Int
 head : Str
 lines : List Str
 notes : List Str
 deriving DecidableEq, Inhabited
def Pg.enc (p:Pg):List PV:=[pI p.number,.str p.head,.sl 1 (p.lines.map fun s=>[PV.str s]),.sl 1 (p.notes.map fun s=>[PV.str s])]
theorem Pg.closed (p:Pg):∀ x∈p.enc,Closed x:=by
 intro x hx;simp only [Pg.enc,List.mem_cons,List.not_mem_nil,or_false] at hx;rcases hx with rfl|rfl|rfl|rfl
 ·exact cI _
 ·exact cS _
 ·exact Zbd _
 ·exact Zbd _
def lnZ:Ln:=⟨idZ,[],[],false⟩
def pageP (u:Un) (n:Int) (l:List Ln):Pg:=⟨n,headT u (l.getD 0 lnZ).id (l.getD (l.length-1) lnZ).id,l.map Ln.text,l.flatMap Ln.notes⟩
theorem fn_step {l:List Ln} {k:Nat} (h:k<l.length):(l.take (k+1)).flatMap Ln.notes=(l.take k).flatMap Ln.notes++l[k].notes:=by
 rw [List.take_succ_eq_append_getElem h,List.flatMap_append];simp
theorem tx_step {l:List Ln} {k:Nat} (h:k<l.length):(l.take (k+1)).map Ln.text=(l.take k).map Ln.text++[l[k].text]:=by
 rw [List.take_succ_eq_append_getElem h,List.map_append];rfl
theorem fn_len (l:List Ln):(l.flatMap Ln.notes).length=Za0 l:=by
 unfold Za0;rw [List.length_flatMap]
theorem sp_page {u:Un} (hu:SmT u) (hn:(unitsT u).length≤1000) (n:Int) (l:List Ln) (h0:l≠[]) (hl:l.length≤1000000) (hm:Za0 l≤1000000):Zam Tryz.prog 35 [.agg u.enc,pI n,.sl 6 (l.map Ln.encP)] (.agg (pageP u n l).enc):=by
 have RH:=sp_RunningHead hu hn (l.getD 0 lnZ).id (l.getD (l.length-1) lnZ).id;refine Zad ?_ (Zay (Pg.closed _)) (by intro y hy;simp only [List.mem_cons,List.not_mem_nil,or_false] at hy;rcases hy with rfl|rfl|rfl;exact Zao u;exact cI _;exact closed_lnsP l);refine Gn (vc:=c_paginate_page) [.c 6 true 4] Tryz.func35 ?_;unfold c_paginate_page;try dsimp only [ZM,ZO,ZN,ZG,ZR,ZU]
 have hpos:0<l.length:=List.length_pos_iff.2 h0;have hrow:∀ (k:Nat),k<l.length→(l.map Ln.encP).getD k []=(l.getD k lnZ).encP:=fun k hk=>by
  rw [rowm hk,Zx1,List.getElem?_eq_getElem hk];rfl
 have r0:=hrow 0 hpos;have r1:=hrow (l.length-1) (by omega);unfold pageP Pg.enc;generalize (l.getD 0 lnZ)=a at RH r0 ⊢;generalize (l.getD (l.length-1) lnZ)=b at RH r1 ⊢;have hx:∀ x:Ln,x.encP=[.str x.text,pI x.id.act,pI x.id.item,pI x.id.n,.bool x.tied,.sl 1 (x.notes.map fun s=>[PV.str s])]:=fun x=>rfl;have hae:a.id.enc=[pI a.id.act,pI a.id.item,pI a.id.n]:=rfl;have hbe:b.id.enc=[pI b.id.act,pI b.id.item,pI b.id.n]:=rfl;rw [hx] at r0 r1;rw [hae,hbe,Un.Zaf u] at RH;rw [Un.Zaf u];generalize u.head.map Wd.enc=EH at *;generalize u.words.map Wd.enc=EW at *;generalize u.kids.map Un.enc=EK at *;generalize headT u a.id b.id=H at *;have hLl:(l.map Ln.encP).length=l.length:=List.length_map _;have hlast:IntKind.i64.wrap ((l.length:Int)-1)=((l.length-1:Nat):Int):=by rw [w64 (by omega) (by omega)];omega
 refine Rp0 [1,2,3,6] ?_;refine VW_freezeP (l1:=[(0,.arr false 8 [[pI u.act,pI u.item,pI u.n,pI u.kind,.str u.label,.sl 4 EH,.sl 4 EW,.sl 8 EK]])]) (l2:=[(1,.arr false 4 [[pI 0,.str [],.nilsl,.nilsl]])]) (t:=2)
  [(1,pI n),(2,.sl 6 (l.map Ln.encP)),(3,.ro [pI u.act,pI u.item,pI u.n,pI u.kind,.str u.label,.sl 4 EH,.sl 4 EW,.sl 8 EK]),(6,.loc 1 0 0)] (by simp [Heap.le,Heap.get,HL.le,HL.get]) (by simp) (by simp)
  ⟨View.refl _ _,View.refl _ _,View.loc (z:=8) (fz:=false) (es:=[[pI u.act,pI u.item,pI u.n,pI u.kind,.str u.label,.sl 4 EH,.sl 4 EW,.sl 8 EK]]) rfl (by simp) rfl (by simp),View.refl _ _,trivial⟩ ?_
 refine Zaa (VW_draw2E 12 [2,6,7] (by simp) ?_);refine Sp1 (x4 hLl r0 r1 hlast) ?_;refine ⟨⟨by omega,by omega⟩,⟨by omega,by omega⟩,_,.inl RH,?_⟩;refine Sp0 ?_;refine VW_own0f 2 1 4 2 [pI n,.str H,.nilsl,.nilsl] rfl rfl ?_;refine Sp0 ?_;refine VW_own0f 2 1 4 3 [pI n,.str H,.own 3 0 0,.nilsl] rfl rfl ?_;refine Sp0 ?_;refine Zaa ?_;refine Rp1 [6,7,25,26,27] hLl ?_;refine Zab ?_;refine Zak (σ:={ x:Nat×Nat×Nat×Nat//x.1≤l.length∧2<x.2.1∧2<x.2.2.1∧x.2.1≠x.2.2.1∧x.2.1<x.2.2.2∧x.2.2.1<x.2.2.2 }) (fun x=>([(6,.loc 1 0 0),(7,.loc 2 0 0),(25,.sl 6 (l.map Ln.encP)),(26,pI l.length),(27,pI x.1.1)],⟨[(x.1.2.1,.arr false 1 (((l.take x.1.1).map Ln.text).map fun s=>[PV.str s])),(x.1.2.2.1,.arr false 1 (((l.take x.1.1).flatMap Ln.notes).map fun s=>[PV.str s])),(2,.arr false 4 [[pI n,.str H,.own x.1.2.1 0 ((l.take x.1.1).map Ln.text).length,.own x.1.2.2.1 0 ((l.take x.1.1).flatMap Ln.notes).length]]),(1,.arr false 4 [[pI 0,.str [],.nilsl,.nilsl]])],x.1.2.2.2⟩)) (fun x=>l.length-x.1.1) ⟨(0,3,4,5),Nat.zero_le _,by simp⟩ ?_ ?_ ?_
 ·exact Sr0
 ·simp only [vmL,Nat.reduceEqDiff,List.take_zero,List.map_nil,List.flatMap_nil]
  try trivial
 rintro ⟨⟨k,i2,i3,t⟩,hk,h2,h3,h23,h2t,h3t⟩;simp only [] at hk h2 h3 h23 h2t h3t ⊢;have qq:=N8 1 2 i2 i3 t (t+1) (t+2) (t+3);refine Rp1 [6,7,25,26,27,28] qq ?_;refine Zaa ?_;refine Zac rfl (fun h1=>?_) (fun h1=>?_)
 ·have ka:k<l.length:=by simp only [Zx3] at h1;omega
  have hst:=tx_step ka;have hst2:=fn_step ka;have hr:(l.map Ln.encP).getD k []=l[k].encP:=rowm ka;have hb1:((l.take k).map Ln.text).length≤1000000:=by simp;omega
  have hb2:((l.take (k+1)).flatMap Ln.notes).length≤1000000:=by rw [fn_len];exact Nat.le_trans (notesN_take l (k+1)) hm
  rw [hst2,Zx5] at hb2;generalize l[k]=x at hst hst2 hr hb2;rw [hx] at hr;have hs1:((l.take (k+1)).map Ln.text).map (fun s=>[PV.str s])=((l.take k).map Ln.text).map (fun s=>[PV.str s])++[[PV.str x.text]]:=by rw [hst,List.map_append];rfl
  have hs1l:((l.take (k+1)).map Ln.text).length=((l.take k).map Ln.text).length+1:=by rw [hst,Zx5];rfl
  have hs2:((l.take (k+1)).flatMap Ln.notes).map (fun s=>[PV.str s])=((l.take k).flatMap Ln.notes).map (fun s=>[PV.str s])++x.notes.map (fun s=>[PV.str s]):=by rw [hst2,List.map_append]
  have hs2l:((l.take (k+1)).flatMap Ln.notes).length=((l.take k).flatMap Ln.notes).length+x.notes.length:=by rw [hst2,Zx5]
  generalize (l.take k).map Ln.text=A at hs1 hs1l hb1 ⊢;generalize (l.take k).flatMap Ln.notes=B at hs2 hs2l hb2 ⊢;have hAl:(A.map fun s=>[PV.str s]).length=A.length:=List.length_map _;have hBl:(B.map fun s=>[PV.str s]).length=B.length:=List.length_map _;have hNl:(x.notes.map fun s=>[PV.str s]).length=x.notes.length:=List.length_map _;generalize (A.map fun s=>[PV.str s])=AE at hs1 hAl ⊢;generalize (B.map fun s=>[PV.str s])=BE at hs2 hBl ⊢;generalize (x.notes.map fun s=>[PV.str s])=NE at *;have hAt:AE.take A.length=AE:=List.take_of_length_le (by omega);have hBt:BE.take B.length=BE:=List.take_of_length_le (by omega);refine Kp0 ?_;refine Zaa ?_;refine Zab ?_;refine Rp1 [6,7,9,25,26,27] (x3 hLl hr qq) ?_;refine Ok ?_;refine Rp1 [6,7,9,25,26,27] (x3 hAl hAt qq) ?_;refine ⟨by omega,by omega,?_⟩;refine rp1 [6,7,25,26,27] (x4 hBl hBt hNl qq) ?_;refine ⟨by omega,by omega,?_⟩;refine rp1 [6,7,25,26,27] (x2 (ad1 (a:=k) (by omega)) qq) ?_;refine ⟨⟨(k+1,t+2,t+3,t+4),ka,by show 2<t+2;omega,by show 2<t+3;omega,by show t+2≠t+3;omega,by show t+2<t+4;omega,by show t+3<t+4;omega⟩,?_⟩;simp only [hs1,hs1l,hs2,hs2l]
  all_goals exact Fn1 qq
 ·have ka:k=l.length:=by simp only [Zx2] at h1;omega
  subst ka;rw [List.take_length];refine Ep0 ?_;refine Rp1 [6] qq ?_;refine Tp1 qq ?_;refine View.agg rfl fun j hj=>?_;have hj':j=0∨j=1∨j=2∨j=3:=by simp only [List.length_cons,List.length_nil] at hj;omega
  rcases hj' with rfl|rfl|rfl|rfl
  ·exact View.refl _ _
  ·exact View.refl _ _
  ·exact View.own_all (fz:=false) (by simp [Heap.get,HL.get,h23]) (by simp)
  ·exact View.own_all (fz:=false) (by simp [Heap.get,HL.get,h23]) (by simp)
end Go.Proofs.w
