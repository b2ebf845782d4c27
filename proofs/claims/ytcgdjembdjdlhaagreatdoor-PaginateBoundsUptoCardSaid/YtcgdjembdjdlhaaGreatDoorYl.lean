import Derived.Test.YtcgdjembdjdlhaaGreatDoorYi
import Derived.Test.YtcgdjembdjdlhaaGreatDoorVmPk
import Derived.Test.YtcgdjembdjdlhaaGreatDoorVmBe
import Derived.Test.YtcgdjembdjdlhaaGreatDoorVmBd
import Derived.Test.YtcgdjembdjdlhaaGreatDoorW6
set_option linter.all false
set_option maxRecDepth 20000
set_option maxHeartbeats 0
namespace Go.Proofs.YtcgdjembdjdlhaaGreatDoor.w
open Go Go.VM
def c_treeedit_Remove_1:VC:=(ZR [ZO 1 (.mv (.c (.bool false)))] (ZR [ZO 2 (.load true 8 (.t 0)),ZO 3 (.call 108 [.t 2]),ZO 4 (.un .not (.t 3)),ZM 1 4] .ret))
def c_treeedit_Remove_2:VC:=(ZR [ZO 2 (.mv (.c (.bool false)))] (ZR [ZO 3 (.load true 8 (.t 0)),ZO 4 (.load true 3 (.t 1)),ZO 5 (.call 110 [.t 3,.t 4]),ZO 6 (.un .not (.t 5)),ZM 2 6] .ret))
def c_treeedit_Remove_3:VC:=(ZR [ZO 2 (.mv (.c (.bool false)))] (ZR [ZO 3 (.faddr 0 (.t 0)),ZO 4 (.load true 3 (.t 3)),ZO 5 (.load true 3 (.t 1)),ZO 6 (.eqs false [.i,.i,.i] (.t 4) (.t 5)),ZM 2 6] .ret))
def c_treeedit_first:VC:=(ZR [ZO 2 (.mv (.c (.int .i64 0)))] (.seq (ZR [ZM 5 0,ZO 6 (.len false (.t 5)),ZO 7 (.mv (.c (.int .i64 0)))] (.block 0 (.loop (ZR [ZO 8 (.bin .lss (.t 7) (.t 6))] (.seq (.cond (.t 8) .skip (.exit 0)) (.seq (.block 1 (ZR [ZO 9 (.iaddr 2 (.t 5) (.t 7)),ZO 10 (.load true 2 (.t 9)),ZO 4 (.alloc [.nilfn,.int .i64 0]),ZN (.store 2 (.t 4) (.t 10))] (ZR [ZO 11 (.faddr 0 (.t 4)),ZO 12 (.load false 1 (.t 11)),ZO 13 (.callv (.t 12) [])] (.cond (.t 13) (ZR [ZO 14 (.faddr 1 (.t 4)),ZO 15 (.load false 1 (.t 14)),ZM 2 15] .ret) .skip)))) (.region [ZO 16 (.bin .add (.t 7) (.c (.int .i64 1))),ZM 7 16] false))))))) (ZR [ZO 2 (.mv (.c (.int .i64 0)))] .ret)))
def Zcj:VC:=(ZR [ZO 2 (.box 8 (.t 0)),ZO 3 (.box 3 (.t 1)),ZO 4 (.alloc ZU),ZO 5 (.alloc ZU),ZO 6 (.mv (.c (.int .i64 0)))] (ZR [ZO 10 (.mkfn (.func 107) [] [.t 2]),ZO 11 (.build [.nilfn,.int .i64 0] [(0,(1,(.t 10))),(1,(1,(.c (.int .i64 1))))]),ZO 12 (.mkfn (.func 109) [] [.t 2,.t 3]),ZO 13 (.build [.nilfn,.int .i64 0] [(0,(1,(.t 12))),(1,(1,(.c (.int .i64 4))))]),ZO 14 (.mkfn (.func 111) [] [.t 2,.t 3]),ZO 15 (.build [.nilfn,.int .i64 0] [(0,(1,(.t 14))),(1,(1,(.c (.int .i64 9))))]),ZO 16 (.bslice 2 3 [.nilfn,.int .i64 0] [(0,(.t 11)),(1,(.t 13)),(2,(.t 15))]),ZO 17 (.call 106 [.t 16]),ZM 7 17] (.seq (ZR [ZM 18 7,ZO 19 (.bin .neq (.t 18) (.c (.int .i64 0)))] (.cond (.t 19) (ZR [ZO 20 (.build ZU []),ZO 21 (.build ZU []),ZM 22 7,ZN (.store 8 (.t 4) (.t 20)),ZN (.store 8 (.t 5) (.t 21)),ZM 6 22] .ret) .skip)) (ZR [ZO 24 (.load true 8 (.t 2)),ZO 25 (.load true 3 (.t 3)),ZO 26 (.call 68 [.t 24,.t 25]),ZM 23 26,ZO 27 (.ext (.t 23) 0),ZO 28 (.ext (.t 23) 1),ZO 8 (.alloc ZU),ZN (.store 8 (.t 8) (.t 27)),ZM 9 28] (.seq (.draw2 [ZO 29 (.load true 8 (.t 2)),ZO 30 (.load true 3 (.t 3)),ZO 31 (.call 112 [.t 29,.t 30]),ZO 32 (.load true 8 (.t 8)),ZO 33 (.call 113 [.t 32]),ZN (.store 8 (.t 4) (.t 31)),ZN (.store 8 (.t 5) (.t 33)),ZO 6 (.mv (.c (.int .i64 0)))] [true,true,true,true,true,false,false,false]) .ret)))))
def c_paginate_wrong:VC:=(ZR [ZO 2 (.box 8 (.t 0)),ZO 4 (.mv (.c (.int .i64 0)))] (.seq (ZR [ZO 9 (.load true 8 (.t 2)),ZO 10 (.build [.int .i64 0,.int .i64 0,.int .i64 0] [(0,(1,(.c (.int .i64 (-1)))))]),ZO 11 (.call 61 [.t 9,.t 10]),ZM 8 11,ZO 12 (.ext (.t 8) 0),ZO 13 (.ext (.t 8) 1),ZO 14 (.ext (.t 8) 2),ZO 5 (.alloc ZU),ZO 6 (.alloc ZU),ZN (.store 8 (.t 5) (.t 12)),ZN (.store 8 (.t 6) (.t 13)),ZM 7 14] (ZR [ZM 15 7,ZO 16 (.bin .eql (.t 15) (.c (.int .i64 1)))] (.cond (.t 16) (ZR [ZO 4 (.mv (.c (.int .i64 1)))] .ret) .skip))) (.seq (ZR [ZM 17 1,ZO 18 (.bin .lss (.t 17) (.c (.int .i64 24))),ZM 19 18,ZG 20 (.mv (.t 1)) 19 false,ZG 21 (.bin .gtr (.t 20) (.c (.int .i64 200))) 19 false,ZO 22 (.pick (.t 19) (.c (.bool true)) (.t 21))] (.cond (.t 22) (ZR [ZO 4 (.mv (.c (.int .i64 3)))] .ret) .skip)) (ZR [ZO 4 (.mv (.c (.int .i64 0)))] .ret))))
theorem closed_row (u:Un):Closed (.ro u.enc):=Zbg fun y hy=>Un.closed u y hy
theorem sp_Remove_1 {u:Un} (hu:SmT u) (hn:(unitsT u).length≤1000):Zak Tryz.prog 107 [.ro u.enc] (.bool (!(Zbk u))):=by
 have W:=sp_treeedit_stands hu hn;refine Zad ?_ (cB _) (by intro y hy;simp only [List.mem_cons,List.not_mem_nil,or_false] at hy;rcases hy with rfl;exact closed_row u);refine Gn (vc:=c_treeedit_Remove_1) [.t 1] Tryz.func107 ?_;unfold c_treeedit_Remove_1;try dsimp only [ZM,ZO,ZN,ZG,ZR,ZU]
 rw [Un.Zaf u] at W ⊢;refine Rp0 [0,1] ?_;refine Rp0 [1] ?_;refine Ap0 W ?_;exact Tv0
theorem sp_Remove_2 {u:Un} (hu:SmT u) (hn:(unitsT u).length≤1000) (x:Idt):Zak Tryz.prog 109 [.ro u.enc,.ro x.enc] (.bool (!(Zau x u).2)):=by
 have W:=sp_tree_has hu hn x;refine Zad ?_ (cB _) (by intro y hy;simp only [List.mem_cons,List.not_mem_nil,or_false] at hy;rcases hy with rfl|rfl;exact closed_row u;exact closed_roi x);refine Gn (vc:=c_treeedit_Remove_2) [.t 2] Tryz.func109 ?_;unfold c_treeedit_Remove_2;try dsimp only [ZM,ZO,ZN,ZG,ZR,ZU]
 have hxe:x.enc=[pI x.act,pI x.item,pI x.n]:=rfl;rw [Un.Zaf u,hxe] at W ⊢;refine Rp0 [0,1,2] ?_;refine Rp0 [2] ?_;refine Ap0 W ?_;exact Tv0
theorem sp_Remove_3 (u:Un) (x:Idt):Zak Tryz.prog 111 [.ro u.enc,.ro x.enc] (.bool (decide (idU u=x))):=by
 refine Zad ?_ (cB _) (by intro y hy;simp only [List.mem_cons,List.not_mem_nil,or_false] at hy;rcases hy with rfl|rfl;exact closed_row u;exact closed_roi x);refine Gn (vc:=c_treeedit_Remove_3) [.t 2] Tryz.func111 ?_;unfold c_treeedit_Remove_3;try dsimp only [ZM,ZO,ZN,ZG,ZR,ZU]
 have hxe:x.enc=[pI x.act,pI x.item,pI x.n]:=rfl;have hid:=id_eqs (idU u) x;have hiu:(idU u).act=u.act∧(idU u).item=u.item∧(idU u).n=u.n:=⟨rfl,rfl,rfl⟩;rw [hiu.1,hiu.2.1,hiu.2.2] at hid;rw [Un.Zaf u,hxe];refine Rp0 [0,1,2] ?_;refine Rp1 [2] hid ?_;exact Tv0
structure Ck where
 f : FuncId
 cap : List PV
 b : Bool
 e : Int
def Ck.row (c:Ck):List PV:=[.fn (.func c.f) [] c.cap,pI c.e]
def firstE:List Ck→Int
 | []=>0
 | c::r=>if c.b=true then c.e else firstE r
theorem firstE_at {L:List Ck}:∀ {k:Nat} (hk:k<L.length),(∀ (j:Nat) (hj:j<L.length),j<k→L[j].b=false)→L[k].b=true→firstE L=L[k].e:=by
 induction L with
 | nil=>intro k hk;cases hk
 | cons c r ih =>
  intro k hk hp hb;cases k with
  | zero=>rw [firstE,if_pos (by simpa using hb)];rfl
  | succ k =>
   have h0:c.b=false:=hp 0 (by simp) (by omega);rw [firstE,if_neg (by rw [h0];simp),ih (k:=k) (by simpa using hk) (fun j hj hjk=>hp (j+1) (by simpa using hj) (by omega)) hb];rfl
theorem firstE_no {L:List Ck}:(∀ (j:Nat) (hj:j<L.length),L[j].b=false)→firstE L=0:=by
 induction L with
 | nil=>intro _;rfl
 | cons c r ih =>
  intro h;have h0:c.b=false:=h 0 (by simp);rw [firstE,if_neg (by rw [h0];simp),ih (fun j hj=>h (j+1) (by simpa using hj))]
theorem sp_first (L:List Ck) (hl:L.length≤1000) (hc:∀ c∈L,Za0 c.cap) (hp:∀ c∈L,Zak Tryz.prog c.f c.cap (.bool c.b)):Zak Tryz.prog 106 [.sl 2 (L.map Ck.row)] (pI (firstE L)):=by
 refine Zad ?_ (cI _) (by intro x hx;simp only [List.mem_cons,List.not_mem_nil,or_false] at hx;subst hx;exact Zaj (fun a ha x hx=>by
  simp only [Ck.row,List.mem_cons,List.not_mem_nil,or_false] at hx;rcases hx with rfl|rfl
  ·exact Zbt (hc a ha)
  ·exact cI _))
 refine Gn (vc:=c_treeedit_first) [.t 2] Tryz.func106 ?_;unfold c_treeedit_first;try dsimp only [ZM,ZO,ZN,ZG,ZR,ZU]
 refine Rp0 [0] ?_;refine Zaa ?_;refine Rp1 [5,6,7] @xlm ?_;refine Zab ?_;refine Zah (σ:={ x':Nat×Nat//x'.1≤L.length∧∀ (j:Nat) (hj:j<L.length),j<x'.1→L[j].b=false }) (fun x'=>([(5,.sl 2 (L.map Ck.row)),(6,pI L.length),(7,pI x'.1.1)],⟨[],x'.1.2⟩)) (fun x'=>L.length-x'.1.1) ⟨(0,0),Nat.zero_le _,fun j _ h=>by cases h⟩ ?_ ?_ ?_
 ·exact Sr0
 ·exact Sr0
 rintro ⟨⟨k,t⟩,hkk,hpre⟩;simp only [] at hkk hpre ⊢;have qq:=N2 t (t+1);refine Rp1 [5,6,7,8] qq ?_;refine Zaa ?_;refine Zac rfl (fun h1=>?_) (fun h1=>?_)
 ·have ka:k<L.length:=by simp only [decide_eq_true_eq] at h1;omega
  have hrow:(L.map Ck.row).getD k []=L[k].row:=rowm ka;have I:=hp L[k] (List.getElem_mem ka);have hat:=firstE_at ka hpre;have hnext:L[k].b=false→∀ (j:Nat) (hj:j<L.length),j<k+1→L[j].b=false:=fun h j hj hjk=>by
   by_cases e:j=k
   ·subst e;exact h
   ·exact hpre j hj (by omega)
  generalize L[k]=v at hrow I hat hnext;rw [show v.row=[.fn (.func v.f) [] v.cap,pI v.e] from rfl] at hrow;refine Kp0 ?_;refine Zaa ?_;refine Zab ?_;refine Rp1 [4,5,6,7] (x3 @xlm hrow qq) ?_;refine Ok ?_;refine Rp1 [4,5,6,7,13] qq ?_;refine Zao I ?_;cases ha:v.b with
  | false =>
   refine Fp0 ?_;refine rp1 [5,6,7] (x2 (ad1 (a:=k) (by omega)) qq) ?_;refine ⟨⟨(k+1,t+1),ka,hnext ha⟩,?_⟩;exact Fn1 qq
  | true =>
   refine Ct ?_;refine Rp1 [2] qq ?_;refine Tp0 ?_;rw [hat ha];exact View.refl _ _
 ·have ka:k=L.length:=by simp only [decide_eq_false_iff_not] at h1;omega
  subst ka;refine Ep0 ?_;refine Rp1 [2] qq ?_;refine Tp1 qq ?_;rw [firstE_no fun j hj=>hpre j hj hj];exact View.refl _ _
theorem way_two {u:Un} {x:Idt} (h:(wayT x u)≠[]) (hx:idU u≠x):2≤(wayT x u).length:=by
 have hw:=wayT_eq x u;rw [if_neg hx] at hw;cases hl:wayL x u.kids with
 | nil=>rw [hl] at hw;exact absurd hw h
 | cons b q=>rw [hl] at hw;rw [hw];simp
theorem find_way {u:Un} {x:Idt} (h:(Zau x u).2=true):wayT x u≠[]:=by
 intro e;unfold Zau at h;rw [e] at h;cases h
theorem ids_nodup {u:Un} {x:Idt} (hu:SmT u) (hs:Zbk u=true) (hx:x≠idZ) (h:wayT x u≠[]):(idsT u).Nodup:=by
 unfold Zbk validT at hs;simp only [Bool.and_eq_true] at hs;have hi:=hs.1.2.2.2;unfold idsB at hi;rw [Bool.or_eq_true] at hi;rcases hi with hi|hi
 ·exfalso
  have hl:=List.getLast?_eq_some_getLast h;have hid:=way_id hu _ hl;have hm:=way_mem (x:=x) hu _ (List.getLast_mem h);rw [List.all_eq_true] at hi;have:=hi _ (List.mem_map_of_mem (f:=idU) hm);simp only [decide_eq_true_eq] at this;exact hx (by rw [← hid,this])
 ·simp only [Bool.and_eq_true,decide_eq_true_eq] at hi;exact hi.2
def remE (u:Un) (x:Idt):Int:=firstE [⟨107,[.ro u.enc],!(Zbk u),1⟩,⟨109,[.ro u.enc,.ro x.enc],!(Zau x u).2,4⟩,⟨111,[.ro u.enc,.ro x.enc],decide (idU u=x),9⟩]
theorem remE_eq (u:Un) (x:Idt):remE u x=if Zbk u=true then (if (Zau x u).2=true then (if idU u=x then 9 else 0) else 4) else 1:=by
 unfold remE firstE firstE firstE firstE;cases Zbk u<;>cases (Zau x u).2<;>by_cases h:idU u=x<;>simp [h]
theorem View.tup3 {h:Heap} {a b c x y z:PV} (h1:View h a x) (h2:View h b y) (h3:View h c z):View h (.tup [a,b,c]) (.tup [x,y,z]):=by
 refine View.tup rfl fun j hj=>?_;have hj':j=0∨j=1∨j=2:=by simp only [List.length_cons,List.length_nil] at hj;omega
 rcases hj' with rfl|rfl|rfl
 ·exact h1
 ·exact h2
 ·exact h3
theorem closed_remR (r s:Un) (e:Int):Closed (.tup [.agg r.enc,.agg s.enc,pI e]):=Zbs (by simp only [List.mem_cons,List.not_mem_nil,or_false,forall_eq_or_imp,forall_eq];exact ⟨Zap _,Zap _,cI _⟩)
theorem sp_Remove {u:Un} (hu:SmT u) (hn:(unitsT u).length≤1000) (x:Idt) (hx:x≠idZ):∃ r s:Un,Zak Tryz.prog 61 [.agg u.enc,.agg x.enc] (.tup [.agg r.enc,.agg s.enc,pI (remE u x)]):=by
 have F:=sp_first [⟨107,[.ro u.enc],!(Zbk u),1⟩,⟨109,[.ro u.enc,.ro x.enc],!(Zau x u).2,4⟩,⟨111,[.ro u.enc,.ro x.enc],decide (idU u=x),9⟩] (by simp) (by
  intro c hc y hy;simp only [List.mem_cons,List.not_mem_nil,or_false] at hc;rcases hc with rfl|rfl|rfl<;>simp only [List.mem_cons,List.not_mem_nil,or_false] at hy
  ·subst hy;exact closed_row u
  ·rcases hy with rfl|rfl;exact closed_row u;exact closed_roi x
  ·rcases hy with rfl|rfl;exact closed_row u;exact closed_roi x) (by
  intro c hc;simp only [List.mem_cons,List.not_mem_nil,or_false] at hc;rcases hc with rfl|rfl|rfl
  ·exact sp_Remove_1 hu hn
  ·exact sp_Remove_2 hu hn x
  ·exact sp_Remove_3 u x)
 rw [show firstE _=remE u x from rfl] at F;by_cases he:remE u x=0
 ·have hh:=he;rw [remE_eq] at hh;have hs:Zbk u=true:=by
   cases h:Zbk u with
   | true=>rfl
   | false=>rw [h] at hh;simp at hh
  rw [if_pos hs] at hh;have hf:(Zau x u).2=true:=by
   cases h:(Zau x u).2 with
   | true=>rfl
   | false=>rw [h] at hh;simp at hh
  rw [if_pos hf] at hh;have hid:idU u≠x:=by
   intro h;rw [if_pos h] at hh;simp at hh
  have hw:=find_way hf;obtain ⟨r,W⟩:=sp_tree_without hu hn x (ids_nodup hu hs hx hw) (way_two hw hid);have FN:=sp_unit_Find hu hn x;have hfs:SmT (Zau x u).1:=by
   unfold Zau;have hl:=List.getLast?_eq_some_getLast hw;rw [hl];exact hu.units _ (way_mem (x:=x) hu _ (List.getLast_mem hw))
  generalize (Zau x u).1=v at FN hfs;rw [hf] at FN;have C:=sp_tree_copied hfs;rw [he] at F;refine ⟨r,v,?_⟩;rw [he];refine Zad ?_ (closed_remR _ _ _) (Zbe u x);refine Gn (vc:=Zcj) [.c 4 true 8,.c 5 true 8,.t 6] Tryz.func61 ?_;unfold Zcj;try dsimp only [ZM,ZO,ZN,ZG,ZR,ZU]
  have hxe:x.enc=[pI x.act,pI x.item,pI x.n]:=rfl;rw [Un.Zaf u,hxe] at FN W F ⊢;rw [Un.Zaf r] at W ⊢;rw [Un.Zaf v] at FN C ⊢;refine Rp0 [2,3,4,5,6] ?_;refine Zb7 (l1:=[(1,.arr false 3 [[pI x.act,pI x.item,pI x.n]]),(0,.arr false 8 [[pI u.act,pI u.item,pI u.n,pI u.kind,.str u.label,.sl 4 (u.head.map Wd.enc),.sl 4 (u.words.map Wd.enc),.sl 8 (u.kids.map Un.enc)]])] ) (l2:=[(3,.arr false 8 [[pI 0,pI 0,pI 0,pI 0,.str [],.nilsl,.nilsl,.nilsl]]),(2,.arr false 8 [[pI 0,pI 0,pI 0,pI 0,.str [],.nilsl,.nilsl,.nilsl]])]) (t:=4)
   [(2,.ro [pI u.act,pI u.item,pI u.n,pI u.kind,.str u.label,.sl 4 (u.head.map Wd.enc),.sl 4 (u.words.map Wd.enc),.sl 8 (u.kids.map Un.enc)]),(3,.ro [pI x.act,pI x.item,pI x.n]),(4,.loc 2 0 0),(5,.loc 3 0 0),(6,pI 0)] (by simp [Heap.le,Heap.get,HL.le,HL.get]) (by simp) (by simp)
   ⟨View.loc (z:=8) (fz:=false) (es:=[[pI u.act,pI u.item,pI u.n,pI u.kind,.str u.label,.sl 4 (u.head.map Wd.enc),.sl 4 (u.words.map Wd.enc),.sl 8 (u.kids.map Un.enc)]]) rfl (by simp) rfl (by simp),View.loc (z:=3) (fz:=false) (es:=[[pI x.act,pI x.item,pI x.n]]) rfl (by simp) rfl (by simp),View.refl _ _,View.refl _ _,View.refl _ _,trivial⟩ ?_
  refine Rp0 [2,3,4,5,6,7] ?_;refine Zal.frameL (l1:=[(4,.arr false 2 [[.fn (.func 107) [] [.ro [pI u.act,pI u.item,pI u.n,pI u.kind,.str u.label,.sl 4 (u.head.map Wd.enc),.sl 4 (u.words.map Wd.enc),.sl 8 (u.kids.map Un.enc)]],pI 1],[.fn (.func 109) [] [.ro [pI u.act,pI u.item,pI u.n,pI u.kind,.str u.label,.sl 4 (u.head.map Wd.enc),.sl 4 (u.words.map Wd.enc),.sl 8 (u.kids.map Un.enc)],.ro [pI x.act,pI x.item,pI x.n]],pI 4],[.fn (.func 111) [] [.ro [pI u.act,pI u.item,pI u.n,pI u.kind,.str u.label,.sl 4 (u.head.map Wd.enc),.sl 4 (u.words.map Wd.enc),.sl 8 (u.kids.map Un.enc)],.ro [pI x.act,pI x.item,pI x.n]],pI 9]])]) (l2:=[(3,.arr false 8 [[pI 0,pI 0,pI 0,pI 0,.str [],.nilsl,.nilsl,.nilsl]]),(2,.arr false 8 [[pI 0,pI 0,pI 0,pI 0,.str [],.nilsl,.nilsl,.nilsl]])]) (by simp) (by simp) (ACall_f [_] ⟨View.own_all (fz:=false) rfl rfl,trivial⟩ (Zao F ?_));refine ⟨Nat.le_refl _,(fun _ _ q hq=>by cases hq),(fun q hq=>by cases hq),?_⟩;refine Sp0 ?_;refine Zaa ?_;refine Rp0 [2,3,4,5,6,7,19] ?_;refine Fp0 ?_;refine Rp0 [2,3,4,5,6,8] ?_;refine Ap0 FN ?_;refine Zaa (VW_draw2H [4,5,6] (by simp [Heap.le,Heap.get,HL.le,HL.get]) ?_);refine Sp0 ?_;refine ⟨_,.inl W,_,.inl C,?_⟩;refine Sp0 ?_;exact Tv0
 ·refine ⟨zeroU,zeroU,?_⟩;refine Zad ?_ (closed_remR _ _ _) (Zbe u x);refine Gn (vc:=Zcj) [.c 4 true 8,.c 5 true 8,.t 6] Tryz.func61 ?_;unfold Zcj;try dsimp only [ZM,ZO,ZN,ZG,ZR,ZU]
  have hxe:x.enc=[pI x.act,pI x.item,pI x.n]:=rfl;rw [Un.Zaf u,hxe] at F ⊢;generalize remE u x=E at F he ⊢;refine Rp0 [2,3,4,5,6] ?_;refine Zb7 (l1:=[(1,.arr false 3 [[pI x.act,pI x.item,pI x.n]]),(0,.arr false 8 [[pI u.act,pI u.item,pI u.n,pI u.kind,.str u.label,.sl 4 (u.head.map Wd.enc),.sl 4 (u.words.map Wd.enc),.sl 8 (u.kids.map Un.enc)]])] ) (l2:=[(3,.arr false 8 [[pI 0,pI 0,pI 0,pI 0,.str [],.nilsl,.nilsl,.nilsl]]),(2,.arr false 8 [[pI 0,pI 0,pI 0,pI 0,.str [],.nilsl,.nilsl,.nilsl]])]) (t:=4)
   [(2,.ro [pI u.act,pI u.item,pI u.n,pI u.kind,.str u.label,.sl 4 (u.head.map Wd.enc),.sl 4 (u.words.map Wd.enc),.sl 8 (u.kids.map Un.enc)]),(3,.ro [pI x.act,pI x.item,pI x.n]),(4,.loc 2 0 0),(5,.loc 3 0 0),(6,pI 0)] (by simp [Heap.le,Heap.get,HL.le,HL.get]) (by simp) (by simp)
   ⟨View.loc (z:=8) (fz:=false) (es:=[[pI u.act,pI u.item,pI u.n,pI u.kind,.str u.label,.sl 4 (u.head.map Wd.enc),.sl 4 (u.words.map Wd.enc),.sl 8 (u.kids.map Un.enc)]]) rfl (by simp) rfl (by simp),View.loc (z:=3) (fz:=false) (es:=[[pI x.act,pI x.item,pI x.n]]) rfl (by simp) rfl (by simp),View.refl _ _,View.refl _ _,View.refl _ _,trivial⟩ ?_
  refine Rp0 [2,3,4,5,6,7] ?_;refine Zal.frameL (l1:=[(4,.arr false 2 [[.fn (.func 107) [] [.ro [pI u.act,pI u.item,pI u.n,pI u.kind,.str u.label,.sl 4 (u.head.map Wd.enc),.sl 4 (u.words.map Wd.enc),.sl 8 (u.kids.map Un.enc)]],pI 1],[.fn (.func 109) [] [.ro [pI u.act,pI u.item,pI u.n,pI u.kind,.str u.label,.sl 4 (u.head.map Wd.enc),.sl 4 (u.words.map Wd.enc),.sl 8 (u.kids.map Un.enc)],.ro [pI x.act,pI x.item,pI x.n]],pI 4],[.fn (.func 111) [] [.ro [pI u.act,pI u.item,pI u.n,pI u.kind,.str u.label,.sl 4 (u.head.map Wd.enc),.sl 4 (u.words.map Wd.enc),.sl 8 (u.kids.map Un.enc)],.ro [pI x.act,pI x.item,pI x.n]],pI 9]])]) (l2:=[(3,.arr false 8 [[pI 0,pI 0,pI 0,pI 0,.str [],.nilsl,.nilsl,.nilsl]]),(2,.arr false 8 [[pI 0,pI 0,pI 0,pI 0,.str [],.nilsl,.nilsl,.nilsl]])]) (by simp) (by simp) (ACall_f [_] ⟨View.own_all (fz:=false) rfl rfl,trivial⟩ (Zao F ?_));refine ⟨Nat.le_refl _,(fun _ _ q hq=>by cases hq),(fun q hq=>by cases hq),?_⟩;refine Sp0 ?_;refine Zaa ?_;refine Rp0 [2,3,4,5,6,7,19] ?_;refine Zac rfl (fun _=>?_) (fun h=>absurd (by simpa using h) he);refine Rp0 [4,5,6] ?_;refine Tp0 ?_;exact View.tup3 (view_zero _) (view_zero _) (View.refl _ _)
theorem ne_idZ:(⟨-1,0,0⟩:Idt)≠idZ:=by intro h;injection h with h1;cases h1
def wrongP (u:Un) (w:Int):Int:=if Zbk u=true then (if w<24∨200<w then 3 else 0) else 1
theorem remE_one (u:Un) (x:Idt):(remE u x==1) = !(Zbk u):=by
 rw [remE_eq];cases Zbk u<;>cases (Zau x u).2<;>by_cases h:idU u=x<;>simp [h]
theorem sp_pag_wrong {u:Un} (hu:SmT u) (hn:(unitsT u).length≤1000) (w:Int):Zak Tryz.prog 30 [.agg u.enc,pI w] (pI (wrongP u w)):=by
 obtain ⟨r,s,R⟩:=sp_Remove hu hn ⟨-1,0,0⟩ ne_idZ;have h1:=remE_one u ⟨-1,0,0⟩;refine Zad ?_ (cI _) (by intro y hy;simp only [List.mem_cons,List.not_mem_nil,or_false] at hy;rcases hy with rfl|rfl;exact Zap u;exact cI _);refine Gn (vc:=c_paginate_wrong) [.t 4] Tryz.func30 ?_;unfold c_paginate_wrong;try dsimp only [ZM,ZO,ZN,ZG,ZR,ZU]
 rw [show (⟨-1,0,0⟩:Idt).enc=[pI (-1),pI 0,pI 0] from rfl,Un.Zaf u,Un.Zaf r,Un.Zaf s] at R;rw [Un.Zaf u];generalize remE u ⟨-1,0,0⟩=E at R h1;unfold wrongP;refine Rp0 [1,2,4] ?_;refine Zaa ?_;refine Rp0 [1,4,7] ?_;refine Ap0 R ?_;refine Rp1 [1,4,7,16] h1 ?_;cases hs:Zbk u with
 | false =>
  rw [if_neg (by simp)];refine Ct ?_;exact Rv0 [4]
 | true =>
  rw [if_pos rfl];refine Fp0 ?_;by_cases c1:w<24
  ·rw [if_pos (.inl c1)];have e1:=decide_eq_true c1;refine Zaa (Zaa (Zae [4,22] ?_));refine Sp1 e1 ?_;refine Ct ?_;exact Rv0 [4]
  ·have e1:=decide_eq_false c1;by_cases c2:200<w
   ·rw [if_pos (.inr c2)];have e2:decide (w>200)=true:=decide_eq_true c2;refine Zaa (Zaa (Zae [4,22] ?_));refine Sp1 (x2 e1 e2) ?_;refine Ct ?_;exact Rv0 [4]
   ·rw [if_neg (by omega)];have e2:decide (w>200)=false:=decide_eq_false c2;refine Zaa (Zaa (Zae [4,22] ?_));refine Sp1 (x2 e1 e2) ?_;refine Fp0 ?_;exact Rv0 [4]
end Go.Proofs.YtcgdjembdjdlhaaGreatDoor.w
namespace Go.Proofs.YtcgdjembdjdlhaaGreatDoor.w
open Go Go.VM
def Zcz:VC:=(ZR [ZO 1 (.box 8 (.t 0)),ZO 2 (.mv (.c (.str [])))] (.seq (.region [ZO 3 (.faddr 3 (.t 1)),ZO 4 (.load false 1 (.t 3)),ZO 5 (.call 40 [.t 4]),ZO 6 (.bin .add (.t 5) (.c (.str [32]))),ZO 7 (.faddr 4 (.t 1)),ZO 8 (.load false 1 (.t 7)),ZO 9 (.bin .add (.t 6) (.t 8)),ZM 2 9] true) .ret))
def ancT (x:Idt) (u:Un):List Idt:=((wayT x u).dropLast.reverse).map idU
def Zct (u:Un) (x:Idt):Un×Bool :=
 if (Zau x u).2=true∧x≠idU u then match (x::ancT x u).find? (fun a=>decide ((Zau a u).1.kind=2)) with
  | some a=>((Zau a u).1,true)
  | none=>((Zau x u).1,true)
 else ((Zau x u).1,false)
def nameU (x:Un):Str:=Zcu x.kind++[32]++x.label
def headT (u:Un) (a b:Idt):Str :=
 if (Zct u a).2=true∧(Zct u b).2=true then (if idU (Zct u a).1=idU (Zct u b).1 then nameU (Zct u a).1 else nameU (Zct u a).1++[32,116,111,32]++nameU (Zct u b).1) else []
theorem anc_step {x:Idt} {u:Un} {k:Nat} (hk:k<(wayT x u).length-1):(((wayT x u).dropLast.reverse).take (k+1)).map idU=(((wayT x u).dropLast.reverse).take k).map idU++[idU ((wayT x u).getD ((wayT x u).length-2-k) zeroU)]:=by
 have hl:k<(wayT x u).dropLast.reverse.length:=by simp;omega
 rw [List.take_succ_eq_append_getElem hl,List.map_append]
 congr 1
 rw [List.map_singleton,List.getElem_reverse,List.getElem_dropLast]
 congr 2
 rw [List.getD_eq_getElem?_getD,List.getElem?_eq_getElem (by omega),Option.getD_some]
 congr 1
 simp;omega
theorem sp_Ancestors {u:Un} (hu:SmT u) (hn:(unitsT u).length≤1000) (x:Idt):Zak Tryz.prog 69 [.agg u.enc,.agg x.enc] (.sl 3 ((ancT x u).map Idt.enc)):=by
 have W:=sp_unit_way hu hn x;have hwl:=way_len (x:=x) hu;refine Zad ?_ (closed_ids _) (Zbe u x);refine Gn (vc:=c_unit_Ancestors) [.t 4] Tryz.func69 ?_;unfold c_unit_Ancestors;try dsimp only [ZM,ZO,ZN,ZG,ZR,ZU]
 have hxe:x.enc=[pI x.act,pI x.item,pI x.n]:=rfl;have hst:=fun k=>anc_step (x:=x) (u:=u) (k:=k);unfold ancT;rw [Un.Zaf u,hxe] at W ⊢;refine Rp0 [2,3,4] ?_;refine Rp0 [2,3,5] ?_;refine Rp0 [5,6] ?_;refine Zao W ?_;have hL:(wayT x u).dropLast.reverse.length=(wayT x u).length-1:=by simp
 rcases way_nd (wayT x u) with ⟨h1,h2⟩|⟨a,r,h0,h1,h2⟩
 ·have hwe:wayT x u=[]:=by simpa using h2
  rw [h1,hwe]
  skip
  refine Zaa ?_;refine Rp0 [5,6,7] ?_;refine Zab ?_;refine Zah (σ:=Unit) (fun _=>([(5,.nilsl),(7,pI (-2))],⟨[],2⟩)) (fun _=>0) () ?_ ?_ ?_
  ·simp only [vmL,Nat.reduceEqDiff]
   first|done|rfl|decide
  ·exact Sc0
  rintro ⟨⟩;simp only [];refine Zaa ?_;refine Rp0 [5,15] ?_;refine Cf ?_;refine Ep0 ?_;refine Rp0 [4] ?_;refine Tp0 ?_;exact View.nil _ _
 rw [h1,← h0];have hwl1:1≤(wayT x u).length:=by rw [h0];simp
 have hWl:((wayT x u).map Un.enc).length=(wayT x u).length:=List.length_map _;have hrow:∀ (k:Nat),k<(wayT x u).length→((wayT x u).map Un.enc).getD k []=((wayT x u).getD k zeroU).enc:=fun k hk=>by
  rw [rowm hk,List.getD_eq_getElem?_getD,List.getElem?_eq_getElem hk];rfl
 generalize (wayT x u).map Un.enc=WE at hWl hrow ⊢;generalize (wayT x u).dropLast.reverse=DR at hst hL ⊢
 skip
 refine VW_own0 5 3 rfl ?_;refine Sp0 ?_;refine Zaa ?_;refine Rp1 [5,6,7] (x2 hWl (w64 (n:=((wayT x u).length:Int)-2) (by omega) (by omega))) ?_;refine Zab ?_;refine Zah (σ:={ y:Nat×Nat×Nat//y.1≤(wayT x u).length-1∧y.2.1<y.2.2 }) (fun y=>([(5,.own y.1.2.1 0 ((DR.take y.1.1).map idU).length),(6,.sl 8 WE),(7,pI (((wayT x u).length:Int)-2-(y.1.1:Int)))],⟨[(y.1.2.1,.arr false 3 (((DR.take y.1.1).map idU).map Idt.enc))],y.1.2.2⟩)) (fun y=>(wayT x u).length-1-y.1.1) ⟨(0,2,3),Nat.zero_le _,by simp⟩ ?_ ?_ ?_
 ·simp only [vmL,Nat.reduceEqDiff,List.take_zero,List.map_nil,List.length_nil]
  first|done|(show pI _=pI _;congr 1;omega)
 ·simp only [vmL,Nat.reduceEqDiff,reduceCtorEq,List.take_zero,List.map_nil]
  try trivial
 rintro ⟨⟨k,id,t⟩,hk,hid⟩;simp only [] at hk hid ⊢;have qq:=N4 id t (t+1) (t+1+1);refine Zaa ?_;refine Rp1 [5,6,7,15] qq ?_;refine Zac rfl (fun h1=>?_) (fun h1=>?_)
 ·have ka:k<(wayT x u).length-1:=by simp only [decide_eq_true_eq] at h1;omega
  have e:=hst k ka;have hr:=hrow ((wayT x u).length-2-k) (by omega);generalize (wayT x u).getD ((wayT x u).length-2-k) zeroU=v at e hr;have hve:(idU v).enc=[pI v.act,pI v.item,pI v.n]:=rfl;have e':((DR.take (k+1)).map idU).map Idt.enc=((DR.take k).map idU).map Idt.enc++[[pI v.act,pI v.item,pI v.n]]:=by rw [e,List.map_append,List.map_singleton,hve]
  have el:((DR.take (k+1)).map idU).length=((DR.take k).map idU).length+1:=by rw [e];simp
  have hAl:((DR.take k).map idU).length≤1000:=by rw [List.length_map,List.length_take];omega
  rw [Un.Zaf v] at hr;generalize (DR.take k).map idU=A at e' el hAl ⊢;have hale:(A.map Idt.enc).length=A.length:=List.length_map _;have hatk:List.take A.length (A.map Idt.enc)=A.map Idt.enc:=List.take_of_length_le (by omega);have hix:(((wayT x u).length:Int)-2-(k:Int))=(((wayT x u).length-2-k:Nat):Int):=by omega
  have hix2:(((wayT x u).length:Int)-2-(k:Int))-1=((wayT x u).length:Int)-2-((k+1:Nat):Int):=by omega
  refine Kp0 ?_;refine Zaa ?_;refine Zab ?_;refine Zae [5,6,7] ?_;simp only [vmL,Nat.reduceEqDiff,Nat.reduceAdd,Nat.reduceLT,Nat.reduceLeDiff,hix,hWl,hr,hale,hatk,qq];refine ⟨by omega,?_⟩;refine Ok ?_;have hix3:IntKind.i64.wrap ((((wayT x u).length-2-k:Nat):Int)-1)=((wayT x u).length:Int)-2-((k+1:Nat):Int):=by rw [w64 (by omega) (by omega)];omega
  refine rp1 [5,6,7] hix3 ?_;refine ⟨⟨(k+1,t+1,t+2),by omega,by simp⟩,?_⟩;simp only [el,e']
  all_goals exact Fn1 qq
 ·have ka:k=(wayT x u).length-1:=by simp only [decide_eq_false_iff_not] at h1;omega
  have hfull:DR.take k=DR:=List.take_of_length_le (by omega);rw [hfull];refine Ep0 ?_;refine Rp1 [4] qq ?_;refine Tp0 ?_;exact View.own_all (fz:=false) (by simp [Heap.get,HL.get]) (by simp)
theorem sp_RunningHead_1 {u:Un} (hl:u.label.length≤1000):Zak Tryz.prog 39 [.agg u.enc] (.str (nameU u)):=by
 have KN:=sp_KindName u.kind;refine Zad ?_ (cS _) (by intro y hy;rw [List.mem_singleton] at hy;subst hy;exact Zap u);refine Gn (vc:=Zcz) [.t 2] Tryz.func39 ?_;unfold Zcz;try dsimp only [ZM,ZO,ZN,ZG,ZR,ZU]
 unfold nameU;rw [Un.Zaf u];refine Rp0 [1,2] ?_;refine Zat [(1,.ro [pI u.act,pI u.item,pI u.n,pI u.kind,.str u.label,.sl 4 (u.head.map Wd.enc),.sl 4 (u.words.map Wd.enc),.sl 8 (u.kids.map Un.enc)]),(2,.str [])] ⟨View.loc (z:=8) (fz:=false) (es:=[[pI u.act,pI u.item,pI u.n,pI u.kind,.str u.label,.sl 4 (u.head.map Wd.enc),.sl 4 (u.words.map Wd.enc),.sl 8 (u.kids.map Un.enc)]]) rfl (by simp) rfl (by simp),View.refl _ _,trivial⟩ ?_;refine Zaa (Zb9 10 [2] (by simp) ?_);refine Sp0 ?_;refine ⟨_,.inl KN,?_⟩;have hkn:=nameK_len u.kind;refine Sp0 ?_;refine ⟨by omega,by rw [List.length_append,List.length_singleton];omega,?_⟩;exact Tv0
end Go.Proofs.YtcgdjembdjdlhaaGreatDoor.w
namespace Go.Proofs.YtcgdjembdjdlhaaGreatDoor.w
open Go Go.VM
def c_paginate_place:VC:=(ZR [ZO 2 (.box 8 (.t 0)),ZO 3 (.box 3 (.t 1)),ZO 4 (.alloc ZU),ZO 5 (.mv (.c (.bool false)))] (ZR [ZO 13 (.load true 8 (.t 2)),ZO 14 (.load true 3 (.t 3)),ZO 15 (.call 68 [.t 13,.t 14]),ZM 12 15,ZO 16 (.ext (.t 12) 0),ZO 17 (.ext (.t 12) 1),ZO 6 (.alloc ZU),ZN (.store 8 (.t 6) (.t 16)),ZM 7 17] (.seq (ZR [ZM 18 7,ZO 19 (.un .not (.t 18)),ZM 20 19,ZG 21 (.load true 3 (.t 3)) 20 false,ZG 22 (.faddr 0 (.t 2)) 20 false,ZG 23 (.load true 3 (.t 22)) 20 false,ZG 24 (.eqs false [.i,.i,.i] (.t 21) (.t 23)) 20 false,ZO 25 (.pick (.t 20) (.c (.bool true)) (.t 24))] (.cond (.t 25) (ZR [ZO 26 (.load true 8 (.t 6)),ZN (.store 8 (.t 4) (.t 26)),ZO 5 (.mv (.c (.bool false)))] .ret) .skip)) (.seq (.seq (.draw2 [ZO 27 (.load true 3 (.t 3)),ZO 28 (.bslice 3 1 [.int .i64 0,.int .i64 0,.int .i64 0] [(0,(.t 27))]),ZO 29 (.load true 8 (.t 2)),ZO 30 (.load true 3 (.t 3)),ZO 31 (.call 69 [.t 29,.t 30]),ZO 32 (.app 3 24 [.int .i64 0,.int .i64 0,.int .i64 0] false (.t 28) (.t 31)),ZO 33 (.len false (.t 32)),ZO 34 (.mv (.c (.int .i64 0)))] [true,true,true,true,true,false,false,false]) (.block 0 (.loop (ZR [ZO 35 (.bin .lss (.t 34) (.t 33))] (.seq (.cond (.t 35) .skip (.exit 0)) (.seq (.block 1 (ZR [ZO 36 (.iaddr 3 (.t 32) (.t 34)),ZO 37 (.load true 3 (.t 36)),ZO 9 (.alloc [.int .i64 0,.int .i64 0,.int .i64 0]),ZN (.store 3 (.t 9) (.t 37))] (ZR [ZO 39 (.load true 8 (.t 2)),ZO 40 (.load true 3 (.t 9)),ZO 41 (.call 68 [.t 39,.t 40]),ZM 38 41,ZO 42 (.ext (.t 38) 0),ZO 43 (.ext (.t 38) 1),ZO 10 (.alloc ZU),ZN (.store 8 (.t 10) (.t 42)),ZM 11 43] (ZR [ZO 44 (.faddr 3 (.t 10)),ZO 45 (.load false 1 (.t 44)),ZO 46 (.bin .eql (.t 45) (.c (.int .i64 2)))] (.cond (.t 46) (ZR [ZO 47 (.load true 8 (.t 10)),ZN (.store 8 (.t 4) (.t 47)),ZO 5 (.mv (.c (.bool true)))] .ret) .skip))))) (.region [ZO 48 (.bin .add (.t 34) (.c (.int .i64 1))),ZM 34 48] false))))))) (ZR [ZO 49 (.load true 8 (.t 6)),ZN (.store 8 (.t 4) (.t 49)),ZO 5 (.mv (.c (.bool true)))] .ret)))))
theorem closed_unb (v:Un) (b:Bool):Closed (.tup [.agg v.enc,.bool b]):=Zbs (by simp only [List.mem_cons,List.not_mem_nil,or_false,forall_eq_or_imp,forall_eq];exact ⟨Zap _,cB _⟩)
theorem find?_at {α:Type} {p:α→Bool}:∀ {l:List α} {k:Nat} (hk:k<l.length),(∀ (j:Nat) (hj:j<l.length),j<k→p l[j]=false)→p l[k]=true→l.find? p=some l[k]
 | a::r,0,_,_,h=>by simp only [List.getElem_cons_zero] at h;simp [h]
 | a::r,k+1,hk,hp,h=>by
  have h0:p a=false:=hp 0 (by simp) (by omega);rw [List.find?_cons,h0]
  simpa using find?_at (l:=r) (k:=k) (by simpa using hk) (fun j hj hjk=>hp (j+1) (by simpa using hj) (by omega)) h
theorem find?_no {α:Type} {p:α→Bool} {l:List α} (h:∀ (j:Nat) (hj:j<l.length),p l[j]=false):l.find? p=none:=by
 rw [List.find?_eq_none];intro x hx;obtain ⟨j,hj,rfl⟩:=List.getElem_of_mem hx;rw [h j hj];simp
theorem sp_place {u:Un} (hu:SmT u) (hn:(unitsT u).length≤1000) (x:Idt):Zak Tryz.prog 38 [.agg u.enc,.agg x.enc] (.tup [.agg (Zct u x).1.enc,.bool (Zct u x).2]):=by
 have FN:=fun y=>sp_unit_Find hu hn y;have AN:=sp_Ancestors hu hn x;have hal:(ancT x u).length≤1000:=by
  have:=way_len (x:=x) hu;unfold ancT;simp;omega
 refine Zad ?_ (closed_unb _ _) (Zbe u x);refine Gn (vc:=c_paginate_place) [.c 4 true 8,.t 5] Tryz.func38 ?_;unfold c_paginate_place;try dsimp only [ZM,ZO,ZN,ZG,ZR,ZU]
 have hxe:x.enc=[pI x.act,pI x.item,pI x.n]:=rfl;unfold Zct;have hid:=id_eqs x (idU u);have hiu:(idU u).act=u.act∧(idU u).item=u.item∧(idU u).n=u.n:=⟨rfl,rfl,rfl⟩;rw [hiu.1,hiu.2.1,hiu.2.2] at hid;have FX:=FN x;rw [hxe,Un.Zaf u] at FX;rw [hxe,Un.Zaf u] at AN ⊢;rw [Un.Zaf u] at FN;refine Rp0 [2,3,4,5] ?_;refine Zb7 (l1:=[(1,.arr false 3 [[pI x.act,pI x.item,pI x.n]]),(0,.arr false 8 [[pI u.act,pI u.item,pI u.n,pI u.kind,.str u.label,.sl 4 (u.head.map Wd.enc),.sl 4 (u.words.map Wd.enc),.sl 8 (u.kids.map Un.enc)]])] ) (l2:=[(2,.arr false 8 [[pI 0,pI 0,pI 0,pI 0,.str [],.nilsl,.nilsl,.nilsl]])]) (t:=3)
  [(2,.ro [pI u.act,pI u.item,pI u.n,pI u.kind,.str u.label,.sl 4 (u.head.map Wd.enc),.sl 4 (u.words.map Wd.enc),.sl 8 (u.kids.map Un.enc)]),(3,.ro [pI x.act,pI x.item,pI x.n]),(4,.loc 2 0 0),(5,.bool false)] (by simp [Heap.le,Heap.get,HL.le,HL.get]) (by simp) (by simp)
  ⟨View.loc (z:=8) (fz:=false) (es:=[[pI u.act,pI u.item,pI u.n,pI u.kind,.str u.label,.sl 4 (u.head.map Wd.enc),.sl 4 (u.words.map Wd.enc),.sl 8 (u.kids.map Un.enc)]]) rfl (by simp) rfl (by simp),View.loc (z:=3) (fz:=false) (es:=[[pI x.act,pI x.item,pI x.n]]) rfl (by simp) rfl (by simp),View.refl _ _,View.refl _ _,trivial⟩ ?_
 generalize u.head.map Wd.enc=EH at *;generalize u.words.map Wd.enc=EW at *;generalize u.kids.map Un.enc=EK at *;generalize hfx:(Zau x u).1=v at FX;rw [Un.Zaf v] at FX;refine Rp0 [2,3,4,5,6,7] ?_;refine Ap0 FX ?_;refine Zaa ?_;by_cases hc:(Zau x u).2=true∧x≠idU u
 ·rw [if_pos hc];have e1:decide (x=idU u)=false:=decide_eq_false hc.2;rw [e1] at hid;refine Rp1 [2,3,4,5,6,25] (x2 hid hc.1) ?_;refine Fp0 ?_;refine Zaa ?_;refine Zaa (VW_draw2O 1 ⟨[(3,.arr false 8 [[pI v.act,pI v.item,pI v.n,pI v.kind,.str v.label,.sl 4 (v.head.map Wd.enc),.sl 4 (v.words.map Wd.enc),.sl 8 (v.kids.map Un.enc)]])],24⟩ [2,4,6,32,33,34] rfl (by simp [Heap.le,Heap.get,HL.le,HL.get]) ?_);simp only [vmL,Nat.reduceEqDiff,Nat.reduceAdd,Nat.reduceLT,Nat.reduceLeDiff,Zcp,DrawC_at,DrawC_n,Nat.reduceBEq];refine ⟨_,.inl AN,?_⟩;try simp only [vmL,Zcp,DrawC_at,DrawC_n,Nat.reduceBEq]
  have hAl:((ancT x u).map Idt.enc).length=(ancT x u).length:=List.length_map _;refine ⟨by omega,by omega,?_⟩;have hLl:(x::ancT x u).length=1+(ancT x u).length:=by rw [List.length_cons];omega
  have hLm:(x::ancT x u).map Idt.enc=[pI x.act,pI x.item,pI x.n]::(ancT x u).map Idt.enc:=by rw [List.map_cons,hxe]
  rw [hAl,← hLl,← hLm];have hLb:(x::ancT x u).length≤1001:=by rw [hLl];omega
  generalize x::ancT x u=AL at *;have hRl:(AL.map Idt.enc).length=AL.length:=List.length_map _;refine Zb7 (l1:=[(5,.arr false 3 (AL.map Idt.enc)),(3,.arr false 8 [[pI v.act,pI v.item,pI v.n,pI v.kind,.str v.label,.sl 4 (v.head.map Wd.enc),.sl 4 (v.words.map Wd.enc),.sl 8 (v.kids.map Un.enc)]])] ) (l2:=[(2,.arr false 8 [[pI 0,pI 0,pI 0,pI 0,.str [],.nilsl,.nilsl,.nilsl]])]) (t:=6)
   [(2,.ro [pI u.act,pI u.item,pI u.n,pI u.kind,.str u.label,.sl 4 EH,.sl 4 EW,.sl 8 EK]),(4,.loc 2 0 0),(6,.ro [pI v.act,pI v.item,pI v.n,pI v.kind,.str v.label,.sl 4 (v.head.map Wd.enc),.sl 4 (v.words.map Wd.enc),.sl 8 (v.kids.map Un.enc)]),(32,.sl 3 (AL.map Idt.enc)),(33,pI AL.length),(34,pI 0)] (by simp [Heap.le,Heap.get,HL.le,HL.get]) (by simp) (by simp)
   ⟨View.refl _ _,View.refl _ _,View.loc (z:=8) (fz:=false) (es:=[[pI v.act,pI v.item,pI v.n,pI v.kind,.str v.label,.sl 4 (v.head.map Wd.enc),.sl 4 (v.words.map Wd.enc),.sl 8 (v.kids.map Un.enc)]]) rfl (by simp) rfl (by simp),View.own_all (fz:=false) rfl hRl.symm,View.refl _ _,View.refl _ _,trivial⟩ ?_
  refine Zab ?_;refine Zah (σ:={ y:Nat×Nat//y.1≤AL.length∧6≤y.2∧∀ (j:Nat) (hj:j<AL.length),j<y.1→decide ((Zau AL[j] u).1.kind=2)=false }) (fun y=>([(2,.ro [pI u.act,pI u.item,pI u.n,pI u.kind,.str u.label,.sl 4 EH,.sl 4 EW,.sl 8 EK]),(4,.loc 2 0 0),(6,.ro [pI v.act,pI v.item,pI v.n,pI v.kind,.str v.label,.sl 4 (v.head.map Wd.enc),.sl 4 (v.words.map Wd.enc),.sl 8 (v.kids.map Un.enc)]),(32,.sl 3 (AL.map Idt.enc)),(33,pI AL.length),(34,pI y.1.1)],⟨[(2,.arr false 8 [[pI 0,pI 0,pI 0,pI 0,.str [],.nilsl,.nilsl,.nilsl]])],y.1.2⟩)) (fun y=>AL.length-y.1.1) ⟨(0,6),Nat.zero_le _,Nat.le_refl _,fun j _ h=>by cases h⟩ ?_ ?_ ?_
  ·exact Sr0
  ·exact Sc0
  rintro ⟨⟨k,t⟩,hkk,ht,hpre⟩;simp only [] at hkk ht hpre ⊢;have qq:=N4 2 t (t+1) (t+1+1);refine Rp1 [2,4,6,32,33,34,35] qq ?_;refine Zaa ?_;refine Zac rfl (fun h1=>?_) (fun h1=>?_)
  ·have ka:k<AL.length:=by simp only [decide_eq_true_eq] at h1;omega
   have hrow:(AL.map Idt.enc).getD k []=AL[k].enc:=rowm ka;have F:=FN AL[k];have hhit:=find?_at (p:=fun a=>decide ((Zau a u).1.kind=2)) ka hpre;have hnext:decide ((Zau AL[k] u).1.kind=2)=false→∀ (j:Nat) (hj:j<AL.length),j<k+1→decide ((Zau AL[j] u).1.kind=2)=false:=fun h j hj hjk=>by
    by_cases e:j=k
    ·subst e;exact h
    ·exact hpre j hj (by omega)
   generalize AL[k]=a at hrow F hhit hnext;have hae:a.enc=[pI a.act,pI a.item,pI a.n]:=rfl;rw [hae] at hrow F;generalize hy:(Zau a u).1=y at F;rw [Un.Zaf y] at F;refine Kp0 ?_;refine Zaa ?_;refine Zab ?_;refine Rp1 [2,4,6,9,32,33,34] (x3 hRl hrow qq) ?_;refine Ok ?_;refine Rp1 [2,4,6,10,32,33,34] qq ?_;refine Ap1 F qq ?_;refine Rp1 [2,4,6,10,32,33,34,46] qq ?_;by_cases hk2:y.kind=2
   ·have e2:(y.kind==2)=true:=by simpa using hk2
    rw [hhit (by show decide ((Zau a u).1.kind=2)=true;rw [hy];exact decide_eq_true hk2)];refine Zac rfl (fun _=>?_) (fun h=>by rw [e2] at h;cases h);refine Rp1 [4,5] qq ?_;refine Tp1 qq ?_;show View _ _ (.tup [.agg (Zau a u).1.enc,.bool true]);rw [hy,Un.Zaf y];exact View.refl _ _
   ·have e2:(y.kind==2)=false:=by simpa using hk2
    refine Zac rfl (fun h=>by rw [e2] at h;cases h) (fun _=>?_);refine Kp0 ?_;refine rp1 [2,4,6,32,33,34] (x2 (ad1 (a:=k) (by omega)) qq) ?_;refine ⟨⟨(k+1,t+2),ka,by show 6≤t+2;omega,hnext (by rw [hy];exact decide_eq_false hk2)⟩,?_⟩;exact Fn1 qq
  ·have ka:k=AL.length:=by simp only [decide_eq_false_iff_not] at h1;omega
   subst ka;rw [find?_no fun j hj=>hpre j hj hj];refine Ep0 ?_;refine Rp0 [4,5] ?_;refine Tp0 ?_;show View _ _ (.tup [.agg v.enc,.bool true]);rw [Un.Zaf v];exact View.refl _ _
 ·rw [if_neg hc];by_cases hf:(Zau x u).2=true
  ·have e1 : decide (x = idU u) = true := decide_eq_true (by
    by_cases hxx:x=idU u
    ·exact hxx
    ·exact absurd ⟨hf,hxx⟩ hc)
   rw [e1] at hid;refine Rp1 [2,3,4,5,6,25] (x2 hid hf) ?_;refine Ct ?_;refine Rp0 [4,5] ?_;refine Tp0 ?_;show View _ _ (.tup [.agg v.enc,.bool false]);rw [Un.Zaf v];exact View.refl _ _
  ·have hf':(Zau x u).2=false:=by simpa using hf
   refine Rp1 [2,3,4,5,6,25] hf' ?_;refine Ct ?_;refine Rp0 [4,5] ?_;refine Tp0 ?_;show View _ _ (.tup [.agg v.enc,.bool false]);rw [Un.Zaf v];exact View.refl _ _
end Go.Proofs.YtcgdjembdjdlhaaGreatDoor.w
namespace Go.Proofs.YtcgdjembdjdlhaaGreatDoor.w
open Go Go.VM
def c_pandectref06_Find:VC:=(ZR [ZO 2 (.box 8 (.t 0)),ZO 3 (.box 3 (.t 1)),ZO 4 (.alloc ZU),ZO 5 (.mv (.c (.bool false)))] (.seq (ZR [ZO 9 (.faddr 0 (.t 2)),ZO 10 (.load true 3 (.t 9)),ZO 11 (.load true 3 (.t 3)),ZO 12 (.eqs false [.i,.i,.i] (.t 10) (.t 11))] (.cond (.t 12) (ZR [ZO 13 (.load true 8 (.t 2)),ZN (.store 8 (.t 4) (.t 13)),ZO 5 (.mv (.c (.bool true)))] .ret) .skip)) (.seq (ZR [ZO 6 (.mv (.c (.int .i64 0)))] (.block 0 (.loop (.seq (ZR [ZM 14 6,ZO 15 (.faddr 7 (.t 2)),ZO 16 (.load false 1 (.t 15)),ZO 17 (.len false (.t 16)),ZO 18 (.bin .lss (.t 14) (.t 17))] (.cond (.t 18) .skip (.exit 0))) (.seq (.block 1 (.seq (.draw2 [ZO 22 (.faddr 7 (.t 2)),ZO 23 (.load false 1 (.t 22)),ZM 24 6,ZO 25 (.iaddr 8 (.t 23) (.t 24)),ZO 26 (.load true 8 (.t 25)),ZO 27 (.load true 3 (.t 3)),ZO 28 (.call 122 [.t 26,.t 27]),ZM 21 28,ZO 29 (.ext (.t 21) 0),ZO 30 (.ext (.t 21) 1),ZO 7 (.alloc ZU),ZN (.store 8 (.t 7) (.t 29)),ZM 8 30] [true,true,true,true,true,true,true,true,true,false,true,false,false]) (ZR [ZM 31 8] (.cond (.t 31) (ZR [ZO 32 (.load true 8 (.t 7)),ZN (.store 8 (.t 4) (.t 32)),ZO 5 (.mv (.c (.bool true)))] .ret) .skip)))) (.region [ZM 19 6,ZO 20 (.bin .add (.t 19) (.c (.int .i64 1))),ZM 6 20] false)))))) (ZR [ZO 33 (.build ZU []),ZN (.store 8 (.t 4) (.t 33)),ZO 5 (.mv (.c (.bool false)))] .ret))))
def c_pandectref06_Above:VC:=(ZR [ZO 2 (.box 8 (.t 0)),ZO 3 (.box 3 (.t 1)),ZO 4 (.mv (.c .nilsl))] (.seq (ZR [ZO 8 (.faddr 0 (.t 2)),ZO 9 (.load true 3 (.t 8)),ZO 10 (.load true 3 (.t 3)),ZO 11 (.eqs false [.i,.i,.i] (.t 9) (.t 10))] (.cond (.t 11) (ZR [ZO 4 (.mv (.c .nilsl))] .ret) .skip)) (.seq (ZR [ZO 5 (.mv (.c (.int .i64 0)))] (.block 0 (.loop (.seq (ZR [ZM 12 5,ZO 13 (.faddr 7 (.t 2)),ZO 14 (.load false 1 (.t 13)),ZO 15 (.len false (.t 14)),ZO 16 (.bin .lss (.t 12) (.t 15))] (.cond (.t 16) .skip (.exit 0))) (.seq (.block 1 (.seq (.draw2 [ZO 20 (.faddr 7 (.t 2)),ZO 21 (.load false 1 (.t 20)),ZM 22 5,ZO 23 (.iaddr 8 (.t 21) (.t 22)),ZO 24 (.load true 8 (.t 23)),ZO 25 (.load true 3 (.t 3)),ZO 26 (.call 122 [.t 24,.t 25]),ZM 19 26,ZO 27 (.ext (.t 19) 0),ZO 28 (.ext (.t 19) 1),ZO 6 (.alloc ZU),ZN (.store 8 (.t 6) (.t 27)),ZM 7 28] [true,true,true,true,true,true,true,true,true,false,true,false,false]) (ZR [ZM 29 7] (.cond (.t 29) (.seq (.draw2 [ZO 30 (.faddr 7 (.t 2)),ZO 31 (.load false 1 (.t 30)),ZM 32 5,ZO 33 (.iaddr 8 (.t 31) (.t 32)),ZO 34 (.load true 8 (.t 33)),ZO 35 (.load true 3 (.t 3)),ZO 36 (.call 123 [.t 34,.t 35]),ZO 37 (.faddr 0 (.t 2)),ZO 38 (.load true 3 (.t 37)),ZO 39 (.bslice 3 1 [.int .i64 0,.int .i64 0,.int .i64 0] [(0,(.t 38))]),ZO 40 (.app 3 24 [.int .i64 0,.int .i64 0,.int .i64 0] false (.t 36) (.t 39)),ZM 4 40] [true,true,true,true,true,true,true,true,true,true,false,false]) .ret) .skip)))) (.region [ZM 17 5,ZO 18 (.bin .add (.t 17) (.c (.int .i64 1))),ZM 5 18] false)))))) (ZR [ZO 4 (.mv (.c .nilsl))] .ret))))
theorem findT_no {x:Idt} {u:Un} (h:wayT x u=[]):Zau x u=(zeroU,false):=by unfold Zau;rw [h];rfl
theorem findT_2 {x:Idt} {u:Un}:(Zau x u).2=decide (wayT x u≠[]):=by
 cases h:wayT x u with
 | nil=>rw [findT_no h];rfl
 | cons a q=>unfold Zau;rw [h,List.getLast?_cons];rfl
theorem findT_self {x:Idt} {u:Un} (h:idU u=x):Zau x u=(u,true):=by
 unfold Zau;rw [wayT_eq,if_pos h];rfl
theorem way_kid {x:Idt} {u:Un} (h:idU u≠x) {k:Nat} (hk:k<u.kids.length) (hpre:∀ (j:Nat) (hj:j<u.kids.length),j<k→(Zau x u.kids[j]).2=false) (hit:(Zau x u.kids[k]).2=true):wayT x u=u::wayT x u.kids[k]∧wayT x u.kids[k]≠[]:=by
 have h1:wayT x u.kids[k]≠[]:=by rw [findT_2] at hit;simpa using hit
 have h2:=wayL_hit hk (fun j hj hjk=>by have:=hpre j hj hjk;rw [findT_2] at this;simpa using this) h1;rw [wayT_eq,if_neg h,h2];cases hw:wayT x u.kids[k] with
 | nil=>exact absurd hw h1
 | cons a q=>exact ⟨rfl,by simp⟩
theorem way_none {x:Idt} {u:Un} (h:idU u≠x) (hpre:∀ (j:Nat) (hj:j<u.kids.length),(Zau x u.kids[j]).2=false):wayT x u=[]:=by
 rw [wayT_eq,if_neg h,wayL_miss fun j hj=>by have:=hpre j hj;rw [findT_2] at this;simpa using this]
theorem findT_kid {x:Idt} {u v:Un} (h:wayT x u=u::wayT x v∧wayT x v≠[]):Zau x u=Zau x v:=by
 unfold Zau;rw [h.1];cases hw:wayT x v with
 | nil=>exact absurd hw h.2
 | cons a q=>rw [List.getLast?_cons_cons]
theorem ancT_kid {x:Idt} {u v:Un} (h:wayT x u=u::wayT x v∧wayT x v≠[]):ancT x u=ancT x v++[idU u]:=by
 unfold ancT;rw [h.1];cases hw:wayT x v with
 | nil=>exact absurd hw h.2
 | cons a q=>rw [List.dropLast_cons_of_ne_nil (by simp),List.reverse_cons,List.map_append];rfl
theorem closed_fnd (v:Un) (b:Bool):Closed (.tup [.agg v.enc,.bool b]):=closed_unb v b
theorem sp_ref06_Find {u:Un} (hu:SmT u) (x:Idt):Zak Tryz.prog 122 [.agg u.enc,.agg x.enc] (.tup [.agg (Zau x u).1.enc,.bool (Zau x u).2]):=by
 induction hu with
 | mk u h hkl hs ih =>
  have ih':∀ k∈u.kids,Zak Tryz.prog 122 [.agg k.enc,.agg x.enc] (.tup [.agg (Zau x k).1.enc,.bool (Zau x k).2]):=ih;have he:=id_eqs (idU u) x;have hxe:x.enc=[pI x.act,pI x.item,pI x.n]:=rfl;refine Zad ?_ (closed_fnd _ _) (Zbe u x);refine Gn (vc:=c_pandectref06_Find) [.c 4 true 8,.t 5] Tryz.func122 ?_;unfold c_pandectref06_Find;try dsimp only [ZM,ZO,ZN,ZG,ZR,ZU]
  have hue:=Un.Zaf u;rw [hue,hxe];refine Rp0 [2,3,4] ?_;refine Zb7 (l1:=[(1,.arr false 3 [[pI x.act,pI x.item,pI x.n]]),(0,.arr false 8 [[pI u.act,pI u.item,pI u.n,pI u.kind,.str u.label,.sl 4 (u.head.map Wd.enc),.sl 4 (u.words.map Wd.enc),.sl 8 (u.kids.map Un.enc)]])]) (l2:=[(2,.arr false 8 [[pI 0,pI 0,pI 0,pI 0,.str [],.nilsl,.nilsl,.nilsl]])]) (t:=3)
   [(2,.ro [pI u.act,pI u.item,pI u.n,pI u.kind,.str u.label,.sl 4 (u.head.map Wd.enc),.sl 4 (u.words.map Wd.enc),.sl 8 (u.kids.map Un.enc)]),(3,.ro [pI x.act,pI x.item,pI x.n]),(4,.loc 2 0 0)] (by simp [Heap.le,Heap.get,HL.le,HL.get]) (by simp) (by simp)
   ⟨View.loc (z:=8) (fz:=false) (es:=[[pI u.act,pI u.item,pI u.n,pI u.kind,.str u.label,.sl 4 (u.head.map Wd.enc),.sl 4 (u.words.map Wd.enc),.sl 8 (u.kids.map Un.enc)]]) rfl (by simp) rfl (by simp),View.loc (z:=3) (fz:=false) (es:=[[pI x.act,pI x.item,pI x.n]]) rfl (by simp) rfl (by simp),View.refl _ _,trivial⟩ ?_
  generalize hEH:u.head.map Wd.enc=EH at *;generalize hEW:u.words.map Wd.enc=EW at *;refine Zaa ?_;refine Rp0 [2,3,4,12] ?_;have he':((u.act==x.act&&(u.item==x.item&&(u.n==x.n&&true))) != false)=decide (idU u=x):=he;rw [he'];by_cases hid:idU u=x
  ·rw [findT_self hid,decide_eq_true hid];refine Ct ?_;refine Rp0 [4,5] ?_;refine Tp0 ?_;show View _ _ (.tup [.agg u.enc,.bool true]);rw [hue];exact View.refl _ _
  have hkid:=fun (k:Nat) (hk:k<u.kids.length) hp hi=>findT_kid (way_kid (x:=x) hid hk hp hi);have hnone:=fun hp=>findT_no (way_none (x:=x) hid hp);rw [decide_eq_false hid];refine Fp0 ?_;generalize Zau x u=r at hkid hnone ⊢;clear he he' hid ih;generalize u.kids=L at *;refine Zaa ?_;refine Rp0 [2,3,4,6] ?_;refine Zab ?_;refine Zah (σ:={ y:Nat×Nat//y.1≤L.length∧2<y.2∧∀ (j:Nat) (hj:j<L.length),j<y.1→(Zau x L[j]).2=false }) (fun y=>([(2,.ro [pI u.act,pI u.item,pI u.n,pI u.kind,.str u.label,.sl 4 EH,.sl 4 EW,.sl 8 (L.map Un.enc)]),(3,.ro [pI x.act,pI x.item,pI x.n]),(4,.loc 2 0 0),(6,pI y.1.1)],⟨[(2,.arr false 8 [[pI 0,pI 0,pI 0,pI 0,.str [],.nilsl,.nilsl,.nilsl]])],y.1.2⟩)) (fun y=>L.length-y.1.1) ⟨(0,3),Nat.zero_le _,by show 2<3;omega,fun j _ h=>by cases h⟩ ?_ ?_ ?_
  ·simp only [vmL,Nat.reduceEqDiff,Nat.reduceAdd,Nat.reduceLT,Nat.reduceLeDiff,Nat.reduceSub,Nat.reduceMul,reduceIte,reduceCtorEq,Int.reduceToNat]
   first|done|rfl
  ·exact Sc0
  rintro ⟨⟨k,t⟩,hk,ht,hpre⟩;simp only [] at hk ht hpre ⊢;have qq:=N4 2 t (t+1) (t+2);refine Zaa ?_;refine Rp1 [2,3,4,6,18] (x2 @xlm qq) ?_;refine Zac rfl (fun h1=>?_) (fun h1=>?_)
  ·have ka:k<L.length:=by simp only [decide_eq_true_eq] at h1;omega
   have hrow:(L.map Un.enc).getD k []=L[k].enc:=rowm ka;have hnx:=hkid k ka (fun j hj hjk=>hpre j hj hjk);have F:=ih' _ (List.getElem_mem ka);have hpre2:(Zau x L[k]).2=false→∀ (j:Nat) (hj:j<L.length),j<k+1→(Zau x L[j]).2=false:=fun h j hj hjk=>by
    by_cases e:j=k
    ·subst e;exact h
    ·exact hpre j hj (by omega)
   generalize hfv:Zau x L[k]=fv at F hpre2 hnx;generalize L[k]=v at hrow F;obtain ⟨y,b⟩:=fv;simp only [] at F hpre2 hnx;rw [Un.Zaf v] at hrow F;rw [Un.Zaf y,hxe] at F;refine Kp0 ?_;refine Zaa ?_;refine Zab ?_;refine Zaa (VW_draw2E (t+20) [2,3,4,6,7,8] (by simp) ?_);refine Sp1 (x3 @xlm hrow qq) ?_;refine ⟨⟨by omega,by omega⟩,_,.inl F,?_⟩;refine Sp1 qq ?_;refine ⟨by omega,by omega,?_⟩;refine Rp1 [2,3,4,6,7,31] qq ?_;cases b with
   | true =>
    rw [hnx rfl];refine Ct ?_;refine Rp1 [4,5] qq ?_;refine Tp1 qq ?_;show View _ _ (.tup [.agg y.enc,.bool true]);rw [Un.Zaf y];exact View.refl _ _
   | false =>
    refine Fp0 ?_;refine rp1 [2,3,4,6] (x2 (ad1 (a:=k) (by omega)) qq) ?_;refine ⟨⟨(k+1,t+1),ka,by show 2<t+1;omega,hpre2 rfl⟩,?_⟩;exact Fn1 qq
  ·have ka:k=L.length:=by simp only [decide_eq_false_iff_not] at h1;omega
   subst ka;rw [hnone fun j hj=>hpre j hj hj];refine Ep0 ?_;refine Rp1 [4,5] qq ?_;refine Tp1 qq ?_;exact View.tup2 (view_zero _) (View.refl _ _)
end Go.Proofs.YtcgdjembdjdlhaaGreatDoor.w
