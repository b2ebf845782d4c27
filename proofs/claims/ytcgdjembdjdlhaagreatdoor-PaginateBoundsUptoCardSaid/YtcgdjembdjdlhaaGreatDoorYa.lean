import Derived.Test.YtcgdjembdjdlhaaGreatDoorC0
import Derived.Test.YtcgdjembdjdlhaaGreatDoorVmPk
import Derived.Test.YtcgdjembdjdlhaaGreatDoorJn
import Derived.Test.YtcgdjembdjdlhaaGreatDoorY4
import Derived.Test.YtcgdjembdjdlhaaGreatDoorY1
import Derived.Test.YtcgdjembdjdlhaaGreatDoorVmAu
import Derived.Test.YtcgdjembdjdlhaaGreatDoorVmC
import Derived.Lib.ItoaNum
import Derived.Lib.Atoi
import Derived.Sort.Walk0
import Derived.Shelf.GgClosure.StringsIndexFunc
import Derived.Lib.Repeat
import Derived.Test.YtcgdjembdjdlhaaGreatDoorV0
import Derived.Test.YtcgdjembdjdlhaaGreatDoorShAll
set_option linter.all false
set_option maxRecDepth 20000
set_option maxHeartbeats 0
namespace Go.VM
open Go
def rowT (u:Un):List Str:=Zcu u.kind::u.label::(u.head++u.words).map fun w=>w.text
theorem nameK_len (k:Int):(Zcu k).length≤9:=by
 unfold Zcu;split
 rotate_left
 ·simp
 ·rw [List.getD_eq_getElem?_getD];cases h:Za3[k.toNat]? with
  | none=>simp
  | some x=>exact (by decide:∀ y∈Za3,y.length≤9) x (List.mem_of_getElem? h)
theorem rowT_len (u:Un):(rowT u).length=u.head.length+u.words.length+2:=by unfold rowT;simp
theorem rowT_mem {u:Un} (h:SmU u):∀ s∈rowT u,s.length≤1000:=by
 intro s hs;unfold rowT at hs;rcases List.mem_cons.1 hs with rfl|hs
 ·have:=nameK_len u.kind;omega
 rcases List.mem_cons.1 hs with rfl|hs
 ·have:=h.label;omega
 obtain ⟨w,hw,rfl⟩:=List.mem_map.1 hs;rcases List.mem_append.1 hw with hw|hw
 ·have:=h.head.2 w hw;omega
 ·have:=h.words.2 w hw;omega
def Za1 (w:Int) (u:Un):List Str:=linesT (rowT u) (Za9 w (rowT u))
end Go.VM
namespace Go.Proofs.YtcgdjembdjdlhaaGreatDoor.w
open Go Go.VM
def c_paginate_row:VC:=(ZR [ZO 1 (.box 8 (.t 0)),ZO 2 (.mv (.c .nilsl))] (.seq (.region [ZO 6 (.faddr 3 (.t 1)),ZO 7 (.load false 1 (.t 6)),ZO 8 (.call 40 [.t 7]),ZO 9 (.faddr 4 (.t 1)),ZO 10 (.load false 1 (.t 9)),ZO 11 (.bslice 1 2 [(.str [])] [(0,(.t 8)),(1,(.t 10))]),ZM 3 11] true) (.seq (ZR [ZO 12 (.faddr 5 (.t 1)),ZO 13 (.load false 1 (.t 12)),ZO 14 (.faddr 6 (.t 1)),ZO 15 (.load false 1 (.t 14)),ZO 16 (.bslice 1 2 [.nilsl] [(0,(.t 13)),(1,(.t 15))]),ZO 17 (.call 133 [.t 16]),ZO 18 (.len false (.t 17)),ZO 19 (.mv (.c (.int .i64 0)))] (.block 0 (.loop (ZR [ZO 20 (.bin .lss (.t 19) (.t 18))] (.seq (.cond (.t 20) .skip (.exit 0)) (.seq (.block 1 (ZR [ZO 21 (.iaddr 4 (.t 17) (.t 19)),ZO 22 (.load true 4 (.t 21)),ZO 5 (.alloc [(.str []),.int .i64 0,.int .i64 0,.int .i64 0]),ZN (.store 4 (.t 5) (.t 22))] (.region [ZM 23 3,ZO 24 (.faddr 0 (.t 5)),ZO 25 (.load false 1 (.t 24)),ZO 26 (.bslice 1 1 [(.str [])] [(0,(.t 25))]),ZO 27 (.app 1 16 [(.str [])] false (.t 23) (.t 26)),ZM 3 27] false))) (.region [ZO 28 (.bin .add (.t 19) (.c (.int .i64 1))),ZM 19 28] false))))))) (ZR [ZM 29 3,ZM 2 29] .ret))))
def c_paginate_broken:VC:=(ZR [ZO 2 (.box 8 (.t 0)),ZO 4 (.mv (.c .nilsl)),ZO 5 (.mv (.c .nilsl))] (ZR [ZO 9 (.load true 8 (.t 2)),ZO 10 (.call 74 [.t 9]),ZM 6 10] (ZR [ZM 12 1,ZM 13 6,ZO 14 (.call 75 [.t 12,.t 13]),ZM 11 14,ZO 15 (.ext (.t 11) 0),ZO 16 (.ext (.t 11) 1),ZM 7 15,ZM 8 16] (ZR [ZM 17 7,ZM 18 6,ZO 19 (.call 76 [.t 17,.t 18]),ZM 20 7,ZM 4 19,ZM 5 20] .ret))))
def c_pandectref55_row:VC:=(ZR [ZO 1 (.box 8 (.t 0)),ZO 2 (.mv (.c .nilsl))] (.seq (.region [ZO 4 (.faddr 3 (.t 1)),ZO 5 (.load false 1 (.t 4)),ZO 6 (.call 124 [.t 5]),ZO 7 (.faddr 4 (.t 1)),ZO 8 (.load false 1 (.t 7)),ZO 9 (.bslice 1 2 [(.str [])] [(0,(.t 6)),(1,(.t 8))]),ZM 3 9] true) (ZR [ZM 10 3,ZO 11 (.faddr 5 (.t 1)),ZO 12 (.load false 1 (.t 11)),ZO 13 (.call 128 [.t 12]),ZO 14 (.app 1 16 [(.str [])] false (.t 10) (.t 13)),ZM 3 14] (ZR [ZM 15 3,ZO 16 (.faddr 6 (.t 1)),ZO 17 (.load false 1 (.t 16)),ZO 18 (.call 128 [.t 17]),ZO 19 (.app 1 16 [(.str [])] false (.t 15) (.t 18)),ZM 2 19] .ret))))
def c_pandectref55_own:VC:=(ZR [ZO 2 (.box 8 (.t 0)),ZO 4 (.mv (.c .nilsl)),ZO 5 (.mv (.c .nilsl))] (ZR [ZO 9 (.load true 8 (.t 2)),ZO 10 (.call 71 [.t 9]),ZM 6 10] (ZR [ZM 12 1,ZM 13 6,ZO 14 (.call 72 [.t 12,.t 13]),ZM 11 14,ZO 15 (.ext (.t 11) 0),ZO 16 (.ext (.t 11) 1),ZM 7 15,ZM 8 16] (ZR [ZM 17 7,ZM 18 6,ZO 19 (.call 73 [.t 17,.t 18]),ZM 20 7,ZM 4 19,ZM 5 20] .ret))))
theorem sp_pag_row (u:Un) (hh:u.head.length≤300) (hw:u.words.length≤300):Zak Tryz.prog 74 [.agg u.enc] (It.strs (rowT u)):=by
 have NK:=sp_KindName u.kind;refine Zad ?_ (Zay _) (by intro y hy;rw [List.mem_singleton] at hy;subst hy;exact Zap _);refine Gn (vc:=c_paginate_row) [.t 2] Tryz.func74 ?_;unfold c_paginate_row;try dsimp only [ZM,ZO,ZN,ZG,ZR,ZU]
 have hue:=Un.Zaf u;rw [hue];have hWl:((u.head++u.words).map Wd.enc)=u.head.map Wd.enc++u.words.map Wd.enc:=List.map_append;have hT:rowT u=Zcu u.kind::u.label::(u.head++u.words).map fun w=>w.text:=rfl;generalize rowT u=T at hT ⊢;unfold It.strs;refine Rp0 [1,2] ?_;refine Zat [(1,.ro [pI u.act,pI u.item,pI u.n,pI u.kind,.str u.label,.sl 4 (u.head.map Wd.enc),.sl 4 (u.words.map Wd.enc),.sl 8 (u.kids.map Un.enc)])] ⟨View.loc (z:=8) (fz:=false) (es:=[[pI u.act,pI u.item,pI u.n,pI u.kind,.str u.label,.sl 4 (u.head.map Wd.enc),.sl 4 (u.words.map Wd.enc),.sl 8 (u.kids.map Un.enc)]]) rfl (by simp) rfl (by simp),trivial⟩ ?_;refine Zaa (VW_drawO 5 ⟨[],20⟩ [1,3] rfl (by simp [Heap.le,HL.le]) ?_);simp only [vmL,Nat.reduceEqDiff,Nat.reduceAdd,Nat.reduceLT,Nat.reduceLeDiff,Zcp,DrawC_at,DrawC_n,Nat.reduceBEq];refine ⟨_,.inl NK,?_⟩;try simp only [vmL,Zcp,DrawC_at,DrawC_n,Nat.reduceBEq]
 generalize Zcu u.kind=nm at hT ⊢;generalize u.label=lb at hT ⊢;have CC:=fun id t L2 h1 h2 h3 h4=>sp_Concat_Word id t L2 h1 h2 h3 h4 [u.head.map Wd.enc,u.words.map Wd.enc] (by simp) (by simp [Zc2];omega);have hRl:(u.head.map Wd.enc++u.words.map Wd.enc).length≤600:=by rw [List.length_append,List.length_map,List.length_map];omega
 simp only [List.map_cons,List.map_nil,enW,List.flatten_cons,List.flatten_nil,List.append_nil,List.length_cons,List.length_nil] at CC;refine Zaa ?_;refine Rp0 [3,17,18,19] ?_;refine Zal.mono (CC 2 3 [(1,.arr false 1 [[.str nm],[.str lb]])] (by omega) (by simp) (by simp [Nod]) (by simp [Off])) ?_;rintro p h' ⟨i2,t0,hi2,hi2t,h3i,rfl,rfl⟩;rw [← hWl] at hRl ⊢;generalize u.head++u.words=W at hRl hT ⊢;rw [List.length_map] at hRl;have qq:=N4 1 2 i2 t0;refine Sp1 @xlm ?_;refine Zab ?_;refine Zah (σ:={ x:Nat×List Str×Nat×Nat//x.1≤W.length∧x.2.1.length≤x.1+2∧(x.2.2.1<x.2.2.2∧i2<x.2.2.2∧x.2.2.1≠i2)∧T=x.2.1++(W.drop x.1).map fun w=>w.text }) (fun x=>([(3,.own x.1.2.2.1 0 x.1.2.1.length),(17,.own i2 0 W.length),(18,pI W.length),(19,pI x.1.1)],⟨[(x.1.2.2.1,.arr false 1 (x.1.2.1.map fun s=>[PV.str s])),(i2,.arr false 4 (W.map Wd.enc))],x.1.2.2.2⟩)) (fun x=>W.length-x.1.1) ⟨(0,[nm,lb],1,t0),Nat.zero_le _,by simp,by simp only [];omega,hT⟩ ?_ ?_ ?_
 ·exact Fn1 qq
 ·exact Sr1 qq
 rintro ⟨⟨k,acc,id,t⟩,hk,hac,hid,hen⟩;simp only [] at hk hac hid hen ⊢;have qq:=N5 id i2 t (t+1) (t+1+1);refine Rp1 [3,17,18,19,20] qq ?_;refine Zaa ?_;refine Zac rfl (fun h1=>?_) (fun h1=>?_)
 ·have ka:k<W.length:=by simp only [decide_eq_true_eq] at h1;omega
  have hrow:(W.map Wd.enc).getD k []=W[k].enc:=rowm ka;have hd:W.drop k=W[k]::W.drop (k+1):=List.drop_eq_getElem_cons ka;rw [hd,List.map_cons] at hen;generalize W[k]=v at hrow hen;have hve:v.enc=[.str v.text,pI v.act,pI v.item,pI v.at']:=rfl;rw [hve] at hrow;generalize v.text=s at hrow hen;refine Kp0 ?_;refine Zaa ?_;refine Zab ?_;refine Rp1 [3,5,17,18,19] (x3 @xlm hrow qq) ?_;refine Ok ?_;have hale:(acc.map fun s=>[PV.str s]).length=acc.length:=List.length_map _;have hatk:List.take acc.length (acc.map fun s=>[PV.str s])=acc.map fun s=>[PV.str s]:=List.take_of_length_le (by omega);have haccE:(acc++[s]).map (fun s=>[PV.str s])=acc.map (fun s=>[PV.str s])++[[PV.str s]]:=by rw [List.map_append];rfl
  have haccL:(acc++[s]).length=acc.length+1:=by simp
  refine rp1 [3,17,18,19] (x3 hale hatk qq) ?_;refine ⟨by omega,by omega,?_⟩;refine rp1 [3,17,18,19] (x2 (ad1 (a:=k) (by omega)) qq) ?_;refine ⟨⟨(k+1,acc++[s],t+2,t+3),ka,by show (acc++[s]).length≤k+1+2;omega,by simp only [];omega,by show T=acc++[s]++_;rw [hen];simp⟩,?_⟩;simp only [haccE,haccL]
  all_goals exact Fn1 qq
 ·have ka:k=W.length:=by simp only [decide_eq_false_iff_not] at h1;omega
  subst ka;rw [List.drop_length,List.map_nil,List.append_nil] at hen;subst hen;refine Ep1 qq ?_;refine Rp1 [2] qq ?_;refine Tp0 ?_;exact View.own_all (fz:=false) (by simp [Heap.get,HL.get]) (by rw [List.length_map])
theorem closed_lne (l:List Str) (E:List Nat):Closed (.tup [It.strs l,endsV E]):=Zbs (by simp only [List.mem_cons,List.not_mem_nil,or_false,forall_eq_or_imp,forall_eq];exact ⟨Zay _,closed_ends _⟩)
theorem closed_uw (u:Un) (w:Int):Za0 [.agg u.enc,pI w]:=by
 intro y hy;simp only [List.mem_cons,List.not_mem_nil,or_false] at hy;rcases hy with rfl|rfl
 ·exact Zap _
 ·exact cI _
theorem sp_pag_broken {u:Un} (h:SmU u) (w:Int):Zak Tryz.prog 45 [.agg u.enc,pI w] (.tup [It.strs (Za1 w u),endsV (Za9 w (rowT u))]):=by
 have hl:=rowT_len u;have h1:=h.head.1;have h2:=h.words.1;have R:=sp_pag_row u h1 h2;have B:=sp_lb_Break w (rowT u) (by omega);have hbl:=breakE_len (w:=w) (l:=rowT u);have LN:=sp_lb_Lines (rowT u) (Za9 w (rowT u)) (by omega) (rowT_mem h) (by omega);refine Zad ?_ (closed_lne _ _) (closed_uw _ _);refine Gn (vc:=c_paginate_broken) [.t 4,.t 5] Tryz.func45 ?_;unfold c_paginate_broken;try dsimp only [ZM,ZO,ZN,ZG,ZR,ZU]
 unfold Za1;generalize hE:Za9 w (rowT u)=E at B LN hbl ⊢;generalize linesT (rowT u) E=LT at LN ⊢;generalize rowT u=T at R B LN ⊢;unfold It.strs endsV at *;rw [Un.Zaf] at R ⊢;refine Rp0 [1,2] ?_;refine Rp0 [1,6] ?_;refine Zao R ?_;refine Rp0 [6,7] ?_;refine Ap0 B ?_;refine Rp0 [4,5] ?_;refine Zao LN ?_;exact Tv0
theorem sp_ref55_row (u:Un) (hh:u.head.length≤300) (hw:u.words.length≤300):Zak Tryz.prog 71 [.agg u.enc] (It.strs (rowT u)):=by
 have NK:=sp_ref06_Name u.kind;have T1:=sp_ref06_Texts u.head (by omega);have T2:=sp_ref06_Texts u.words (by omega);have hT:(It.strs (rowT u))=.sl 1 ([[.str (Zcu u.kind)],[.str u.label]]++u.head.map (fun w=>[.str w.text])++u.words.map fun w=>[.str w.text]):=by
  unfold It.strs rowT;simp;rfl
 rw [hT];refine Zad ?_ (by rw [← hT];exact Zay _) (by intro y hy;rw [List.mem_singleton] at hy;subst hy;exact Zap _);refine Gn (vc:=c_pandectref55_row) [.t 2] Tryz.func71 ?_;unfold c_pandectref55_row;try dsimp only [ZM,ZO,ZN,ZG,ZR,ZU]
 have hue:=Un.Zaf u;rw [hue];refine Rp0 [1,2] ?_;refine Zat [(1,.ro [pI u.act,pI u.item,pI u.n,pI u.kind,.str u.label,.sl 4 (u.head.map Wd.enc),.sl 4 (u.words.map Wd.enc),.sl 8 (u.kids.map Un.enc)])] ⟨View.loc (z:=8) (fz:=false) (es:=[[pI u.act,pI u.item,pI u.n,pI u.kind,.str u.label,.sl 4 (u.head.map Wd.enc),.sl 4 (u.words.map Wd.enc),.sl 8 (u.kids.map Un.enc)]]) rfl (by simp) rfl (by simp),trivial⟩ ?_;have h1:(u.head.map fun w=>[PV.str w.text]).length≤300:=by rw [List.length_map];exact hh
 have h2:(u.words.map fun w=>[PV.str w.text]).length≤300:=by rw [List.length_map];exact hw
 generalize (u.head.map fun w=>[PV.str w.text])=A at T1 h1 ⊢;generalize (u.words.map fun w=>[PV.str w.text])=B at T2 h2 ⊢;refine Zaa (VW_drawO 5 ⟨[],20⟩ [1,3] rfl (by simp [Heap.le,HL.le]) ?_);simp only [vmL,Nat.reduceEqDiff,Nat.reduceAdd,Nat.reduceLT,Nat.reduceLeDiff,Zcp,DrawC_at,DrawC_n,Nat.reduceBEq];refine ⟨_,.inl NK,?_⟩;try simp only [vmL,Zcp,DrawC_at,DrawC_n,Nat.reduceBEq]
 generalize Zcu u.kind=nm;generalize u.label=lb;refine Rp0 [1,3] ?_;refine Ap0 T1 ?_;refine ⟨by omega,by omega,?_⟩;have tA:List.take (2+A.length) ([PV.str nm]::[PV.str lb]::A)=[PV.str nm]::[PV.str lb]::A:=List.take_of_length_le (by simp;omega);have lA:([PV.str nm]::[PV.str lb]::A).length=2+A.length:=by simp;omega
 have hCB:([PV.str nm]::[PV.str lb]::(A++B))=([PV.str nm]::[PV.str lb]::A)++B:=rfl;rw [hCB];generalize ([PV.str nm]::[PV.str lb]::A)=C at *;refine Rp0 [2] ?_;refine Zao T2 ?_;try simp only [vmL,Nat.reduceAdd,tA,lA]
 first|(refine ⟨by omega,by omega,by omega,?_⟩)|(refine ⟨by omega,by omega,?_⟩)|skip
 refine Tp0 ?_;exact View.own_all (fz:=false) (by simp [Heap.get,HL.get]) (by rw [List.length_append];omega)
theorem sp_ref55_own {u:Un} (h:SmU u) (w:Int):Zak Tryz.prog 42 [.agg u.enc,pI w] (.tup [It.strs (Za1 w u),endsV (Za9 w (rowT u))]):=by
 have hl:=rowT_len u;have h1:=h.head.1;have h2:=h.words.1;have R:=sp_ref55_row u h1 h2;have B:=sp_ref54_Break w (rowT u) (by omega);have hbl:=breakE_len (w:=w) (l:=rowT u);have LN:=sp_ref54_Text (rowT u) (Za9 w (rowT u)) (by omega) (rowT_mem h) (by omega);refine Zad ?_ (closed_lne _ _) (closed_uw _ _);refine Gn (vc:=c_pandectref55_own) [.t 4,.t 5] Tryz.func42 ?_;unfold c_pandectref55_own;try dsimp only [ZM,ZO,ZN,ZG,ZR,ZU]
 unfold Za1;generalize hE:Za9 w (rowT u)=E at B LN hbl ⊢;generalize linesT (rowT u) E=LT at LN ⊢;generalize rowT u=T at R B LN ⊢;unfold It.strs endsV at *;rw [Un.Zaf] at R ⊢;refine Rp0 [1,2] ?_;refine Rp0 [1,6] ?_;refine Zao R ?_;refine Rp0 [6,7] ?_;refine Ap0 B ?_;refine Rp0 [4,5] ?_;refine Zao LN ?_;exact Tv0
end Go.Proofs.YtcgdjembdjdlhaaGreatDoor.w
namespace Go.VM
open Go
def isD (b:UInt8):Bool:=decide (48≤b.toNat)&&decide (b.toNat≤57)
def isU (b:UInt8):Bool:=decide (65≤b.toNat)&&decide (b.toNat≤90)
def dgs (s:Str):Str:=s.takeWhile isD
def caps (s:Str):Str:=s.dropWhile isD
def may (s:Str):Bool:=decide (1≤(dgs s).length)&&decide ((dgs s).length≤4)&&(s.head? != some 48)&&decide ((caps s).length≤3)&&(caps s).all isU
theorem dgs_caps (s:Str):dgs s++caps s=s:=List.takeWhile_append_dropWhile
theorem dgs_len (s:Str):(dgs s).length+(caps s).length=s.length:=by rw [← List.length_append,dgs_caps]
theorem caps_drop (s:Str):caps s=s.drop (dgs s).length:=by
 have h:(dgs s++caps s).drop (dgs s).length=caps s:=List.drop_left;rw [dgs_caps] at h;exact h.symm
theorem dgs_take (s:Str):dgs s=s.take (dgs s).length:=by
 have h:(dgs s++caps s).take (dgs s).length=dgs s:=List.take_left;rw [dgs_caps] at h;exact h.symm
theorem ofNat_toNat {k:Nat} (h:k<256):(UInt8.ofNat k).toNat=k:=by simp [UInt8.toNat_ofNat'];omega
theorem tw_at {q:UInt8→Bool}:∀ {s:Str} {k:Nat},k<(s.takeWhile q).length→q (s.getD k 0)=true
 | [],k,h=>by simp at h
 | a::r,k,h=>by
  rw [List.takeWhile_cons] at h;split at h
  ·cases k with
   | zero=>simpa
   | succ k=>simpa using tw_at (s:=r) (k:=k) (by simpa using h)
  ·simp at h
theorem tw_end {q:UInt8→Bool}:∀ {s:Str},(s.takeWhile q).length<s.length→q (s.getD (s.takeWhile q).length 0)=false
 | [],h=>by simp at h
 | a::r,h=>by
  rw [List.takeWhile_cons] at h ⊢;split at h
  ·rename_i e;rw [if_pos e,List.length_cons,List.getD_cons_succ];exact tw_end (by simpa using h)
  ·rename_i e;rw [if_neg e];simpa using e
theorem dgs_at {s:Str} {k:Nat} (h:k<(dgs s).length):48≤(s.getD k 0).toNat∧(s.getD k 0).toNat≤57:=by
 have:=tw_at (q:=isD) h;simpa [isD] using this
theorem dgs_end {s:Str} (h:(dgs s).length<s.length):¬ (48≤(s.getD (dgs s).length 0).toNat∧(s.getD (dgs s).length 0).toNat≤57):=by
 have:=tw_end (q:=isD) h;intro k;have e:isD (s.getD (dgs s).length 0)=true:=by unfold isD;rw [decide_eq_true k.1,decide_eq_true k.2];rfl
 rw [show (s.takeWhile isD).length=(dgs s).length from rfl,e] at this;cases this
theorem dgs_le (s:Str):(dgs s).length≤s.length:=by rw [← dgs_len s];omega
theorem getD_caps (s:Str) (i:Nat):(caps s).getD i 0=s.getD ((dgs s).length+i) 0:=by
 rw [caps_drop,List.getD_eq_getElem?_getD,List.getElem?_drop,← List.getD_eq_getElem?_getD]
theorem all_at {l:Str}:l.all isU=true↔∀ i,i<l.length→isU (l.getD i 0)=true:=by
 rw [List.all_eq_true];constructor
 ·intro h i hi;rw [List.getD_eq_getElem?_getD,List.getElem?_eq_getElem hi];exact h _ (List.getElem_mem hi)
 ·intro h b hb;obtain ⟨i,hi,rfl⟩:=List.mem_iff_getElem.1 hb;have:=h i hi;rw [List.getD_eq_getElem?_getD,List.getElem?_eq_getElem hi] at this;exact this
theorem u8_inj {a b:UInt8} (h:a.toNat=b.toNat):a=b:=UInt8.toNat_inj.1 h
theorem head_getD {s:Str} (h:s≠[]):(s.head? != some 48) = !decide ((s.getD 0 0).toNat=48):=by
 cases s with
 | nil=>exact absurd rfl h
 | cons b r =>
  simp only [List.head?_cons,List.getD_cons_zero];by_cases e:b=48
  ·subst e;rfl
  ·have:b.toNat≠48:=fun h=>e (u8_inj h);simp [e,this]
theorem decode_low (s:ByteArray) (i:Nat) (h:(s.get! i).toNat<128):Utf8.decode s i=((s.get! i).toNat,1):=by
 simp [Utf8.decode,h]
theorem decode_high (s:ByteArray) (i:Nat) (h:¬ (s.get! i).toNat<128):128≤(Utf8.decode s i).1:=by
 have h':¬ (s.get! (i+0)).toNat<0x80:=h;unfold Utf8.decode;simp only [h',if_false,Utf8.runeError]
 repeat' split
 all_goals first|omega|(simp only [];omega)|(simp_all;omega)|skip
def onRune (q:UInt8→Bool) (x:Nat):Bool:=decide (x<128)&&q (UInt8.ofNat x)
theorem get!_at (s:ByteArray) (i:Nat) (h:i<s.size):s.get! i=s.data.toList[i]'(by simpa using h):=by
 have h2:i<s.data.size:=h;have:s.get! i=s.data[i]!:=rfl;rw [this,getElem!_pos s.data i h2,Array.getElem_toList]
theorem idx_from (q : UInt8 → Bool) (hq : ∀ b, q b = true → b.toNat < 128) (s : ByteArray) : ∀ (f pos : Nat), s.size ≤ pos + f → pos ≤ s.size →
  Lib.idxFuncFrom (fun x=>!(onRune q x)) true s f pos=(let k:=pos+((s.data.toList.drop pos).takeWhile q).length;if k<s.size then (k:Int) else -1)
 | f,pos,hf,hp=>by
  by_cases hlt:pos<s.size
  ·obtain ⟨f',rfl⟩:∃ f',f=f'+1:=⟨f-1,by omega⟩;have hl:pos<s.data.toList.length:=by simpa using hlt
   rw [List.drop_eq_getElem_cons hl,List.takeWhile_cons];have hg:=get!_at s pos hlt;rw [← hg];simp only [Lib.idxFuncFrom,hlt,if_true];by_cases h1:(s.get! pos).toNat<128
   ·rw [decode_low s pos h1];have e1:onRune q (s.get! pos).toNat=q (s.get! pos):=by simp [onRune,h1]
    simp only [e1];by_cases h2:q (s.get! pos)=true
    ·rw [h2];simp only [Bool.not_true,Bool.false_eq_true,if_false,if_true];rw [idx_from q hq s f' (pos+1) (by omega) (by omega)];simp only [List.length_cons];rw [show pos+1+((s.data.toList.drop (pos+1)).takeWhile q).length=pos+(((s.data.toList.drop (pos+1)).takeWhile q).length+1) by omega]
    ·rw [Bool.not_eq_true] at h2;rw [h2];simp [hlt]
   ·have h2:=decode_high s pos h1;have e1:onRune q (Utf8.decode s pos).1=false:=by simp [onRune];omega
    have e2:q (s.get! pos)=false:=by
     cases e:q (s.get! pos) with
     | false=>rfl
     | true=>exact absurd (hq _ e) h1
    simp [e1,e2,hlt]
  ·have e1:s.data.toList.drop pos=[]:=List.drop_eq_nil_of_le (by simp;exact Nat.le_of_not_lt hlt);rw [Lib.idxFuncFrom_end _ _ _ _ _ hlt,e1];exact (if_neg (by simpa using hlt)).symm
theorem idx_bytes (q:UInt8→Bool) (hq:∀ b,q b=true→b.toNat<128) (l:Str):Lib.idxFunc (fun x=>!(onRune q x)) true ⟨l.toArray⟩=if (l.takeWhile q).length<l.length then ((l.takeWhile q).length:Int) else -1:=by
 have e0:(⟨l.toArray⟩:ByteArray).size=l.length:=by show l.toArray.size=_;simp
 have:=idx_from q hq ⟨l.toArray⟩ l.length 0 (by rw [e0];omega) (by omega);unfold Lib.idxFunc;rw [e0,this,e0];simp
theorem isD_low (b:UInt8) (h:isD b=true):b.toNat<128:=by simp [isD] at h;omega
theorem isU_low (b:UInt8) (h:isU b=true):b.toNat<128:=by simp [isU] at h;omega
theorem idx_digits (s:Str):Lib.idxFunc (fun x=>!(onRune isD x)) true ⟨s.toArray⟩=if (dgs s).length<s.length then ((dgs s).length:Int) else -1:=idx_bytes isD isD_low s
theorem takeWhile_all {q:UInt8→Bool}:∀ {l:Str},(l.takeWhile q).length<l.length↔l.all q=false
 | []=>by simp
 | a::r=>by
  rw [List.takeWhile_cons];by_cases h:q a=true
  ·rw [if_pos h,List.length_cons,List.length_cons,Nat.succ_lt_succ_iff,takeWhile_all,List.all_cons,h,Bool.true_and]
  ·rw [Bool.not_eq_true] at h;simp [h]
theorem idx_caps (s:Str):decide (0≤Lib.idxFunc (fun x=>!(onRune isU x)) true ⟨s.toArray⟩) = !(s.all isU):=by
 rw [idx_bytes isU isU_low];by_cases h:(s.takeWhile isU).length<s.length
 ·rw [if_pos h,takeWhile_all.1 h];simp
 ·rw [if_neg h];have:s.all isU=true:=by
   cases e:s.all isU with
   | true=>rfl
   | false=>exact absurd (takeWhile_all.2 e) h
  rw [this];simp
end Go.VM
namespace Go.Proofs.YtcgdjembdjdlhaaGreatDoor.w
open Go Go.VM
def c_label_parted_1:VC:=(ZR [ZO 2 (.mv (.c (.bool false)))] (ZR [ZM 3 0,ZO 4 (.bin .lss (.t 3) (.c (.int .i32 48))),ZM 5 4,ZG 6 (.mv (.t 0)) 5 false,ZG 7 (.bin .gtr (.t 6) (.c (.int .i32 57))) 5 false,ZO 8 (.pick (.t 5) (.c (.bool true)) (.t 7)),ZM 2 8] .ret))
def c_label_Valid_1:VC:=(ZR [ZO 2 (.mv (.c (.bool false)))] (ZR [ZM 3 0,ZO 4 (.bin .lss (.t 3) (.c (.int .i32 65))),ZM 5 4,ZG 6 (.mv (.t 0)) 5 false,ZG 7 (.bin .gtr (.t 6) (.c (.int .i32 90))) 5 false,ZO 8 (.pick (.t 5) (.c (.bool true)) (.t 7)),ZM 2 8] .ret))
def c_label_parted:VC:=(ZR [ZO 2 (.mv (.c (.str []))),ZO 3 (.mv (.c (.str [])))] (ZR [ZM 5 0,ZO 6 (.call 230 [.t 5,(.c (.fn (.func 231) [] []))]),ZM 4 6] (.seq (ZR [ZM 7 4,ZO 8 (.bin .lss (.t 7) (.c (.int .i64 0)))] (.cond (.t 8) (ZR [ZM 9 0,ZM 2 9,ZO 3 (.mv (.c (.str [])))] .ret) .skip)) (.seq (.region [ZM 10 0,ZM 11 4,ZO 12 (.slice true 0 (.t 10) none (some (.t 11))),ZM 13 0,ZM 14 4,ZO 15 (.slice true 0 (.t 13) (some (.t 14)) none),ZM 2 12,ZM 3 15] true) .ret))))
def c_label_Valid:VC:=(ZR [ZO 2 (.mv (.c (.bool false)))] (ZR [ZM 7 0,ZO 8 (.call 210 [.t 7]),ZM 6 8,ZO 9 (.ext (.t 6) 0),ZO 10 (.ext (.t 6) 1),ZM 3 9,ZM 4 10] (ZR [ZO 5 (.mv (.c (.fn (.func 211) [] [])))] (ZR [ZM 11 3,ZO 12 (.len true (.t 11)),ZO 13 (.bin .geq (.t 12) (.c (.int .i64 1))),ZM 14 13,ZG 15 (.mv (.t 3)) 14 true,ZG 16 (.len true (.t 15)) 14 true,ZG 17 (.bin .leq (.t 16) (.c (.int .i64 4))) 14 true,ZO 18 (.pick (.t 14) (.t 17) (.c (.bool false))),ZM 19 18,ZG 20 (.mv (.t 3)) 19 true,ZG 21 (.idx (.t 20) (.c (.int .i64 0))) 19 true,ZG 22 (.bin .neq (.t 21) (.c (.int .u8 48))) 19 true,ZO 23 (.pick (.t 19) (.t 22) (.c (.bool false))),ZM 24 23,ZG 25 (.mv (.t 4)) 24 true,ZG 26 (.len true (.t 25)) 24 true,ZG 27 (.bin .leq (.t 26) (.c (.int .i64 3))) 24 true,ZO 28 (.pick (.t 24) (.t 27) (.c (.bool false))),ZM 29 28,ZG 30 (.mv (.t 4)) 29 true,ZG 31 (.mv (.t 5)) 29 true,ZG 32 (.call 212 [.t 30,.t 31]) 29 true,ZG 33 (.un .not (.t 32)) 29 true,ZO 34 (.pick (.t 29) (.t 33) (.c (.bool false))),ZM 2 34] .ret))))
def c_pandectref03_digits:VC:=(ZR [ZO 2 (.mv (.c (.int .i64 0)))] (ZR [ZO 3 (.mv (.c (.int .i64 0)))] (.seq (.block 0 (.loop (.seq (ZR [ZM 4 3,ZM 5 0,ZO 6 (.len true (.t 5)),ZO 7 (.bin .lss (.t 4) (.t 6)),ZM 8 7,ZG 9 (.mv (.t 0)) 8 true,ZG 10 (.mv (.t 3)) 8 true,ZG 11 (.idx (.t 9) (.t 10)) 8 true,ZG 12 (.bin .geq (.t 11) (.c (.int .u8 48))) 8 true,ZO 13 (.pick (.t 8) (.t 12) (.c (.bool false))),ZM 14 13,ZG 15 (.mv (.t 0)) 14 true,ZG 16 (.mv (.t 3)) 14 true,ZG 17 (.idx (.t 15) (.t 16)) 14 true,ZG 18 (.bin .leq (.t 17) (.c (.int .u8 57))) 14 true,ZO 19 (.pick (.t 14) (.t 18) (.c (.bool false)))] (.cond (.t 19) .skip (.exit 0))) (.block 1 (.region [ZM 20 3,ZO 21 (.bin .add (.t 20) (.c (.int .i64 1))),ZM 3 21] false))))) (ZR [ZM 22 3,ZM 2 22] .ret))))
def c_pandectref03_May:VC:=(ZR [ZO 2 (.mv (.c (.bool false)))] (ZR [ZM 5 0,ZO 6 (.call 174 [.t 5]),ZM 3 6] (.seq (ZR [ZM 7 3,ZO 8 (.bin .lss (.t 7) (.c (.int .i64 1))),ZM 9 8,ZG 10 (.mv (.t 3)) 9 false,ZG 11 (.bin .gtr (.t 10) (.c (.int .i64 4))) 9 false,ZO 12 (.pick (.t 9) (.c (.bool true)) (.t 11)),ZM 13 12,ZG 14 (.mv (.t 0)) 13 false,ZG 15 (.idx (.t 14) (.c (.int .i64 0))) 13 false,ZG 16 (.bin .eql (.t 15) (.c (.int .u8 48))) 13 false,ZO 17 (.pick (.t 13) (.c (.bool true)) (.t 16)),ZM 18 17,ZG 19 (.mv (.t 0)) 18 false,ZG 20 (.len true (.t 19)) 18 false,ZG 21 (.mv (.t 3)) 18 false,ZG 22 (.bin .sub (.t 20) (.t 21)) 18 false,ZG 23 (.bin .gtr (.t 22) (.c (.int .i64 3))) 18 false,ZO 24 (.pick (.t 18) (.c (.bool true)) (.t 23))] (.cond (.t 24) (ZR [ZO 2 (.mv (.c (.bool false)))] .ret) .skip)) (.seq (ZR [ZM 25 3,ZM 4 25] (.block 0 (.loop (.seq (ZR [ZM 26 4,ZM 27 0,ZO 28 (.len true (.t 27)),ZO 29 (.bin .lss (.t 26) (.t 28))] (.cond (.t 29) .skip (.exit 0))) (.seq (.block 1 (ZR [ZM 32 0,ZM 33 4,ZO 34 (.idx (.t 32) (.t 33)),ZO 35 (.bin .lss (.t 34) (.c (.int .u8 65))),ZM 36 35,ZG 37 (.mv (.t 0)) 36 false,ZG 38 (.mv (.t 4)) 36 false,ZG 39 (.idx (.t 37) (.t 38)) 36 false,ZG 40 (.bin .gtr (.t 39) (.c (.int .u8 90))) 36 false,ZO 41 (.pick (.t 36) (.c (.bool true)) (.t 40))] (.cond (.t 41) (ZR [ZO 2 (.mv (.c (.bool false)))] .ret) .skip))) (.region [ZM 30 4,ZO 31 (.bin .add (.t 30) (.c (.int .i64 1))),ZM 4 31] false)))))) (ZR [ZO 2 (.mv (.c (.bool true)))] .ret)))))
theorem onRune_D (x:Nat):(!(onRune isD x))=(decide ((x:Int)<48)||decide ((57:Int)<x)):=by
 by_cases h:x<128
 ·have:(UInt8.ofNat x).toNat=x:=ofNat_toNat (by omega);simp only [onRune,isD,this,h,decide_true,Bool.true_and,Bool.not_and];by_cases h1:48≤x<;>by_cases h2:x≤57<;>simp [h1,h2]<;>omega
 ·simp only [onRune,h,decide_false,Bool.false_and,Bool.not_false]
  symm;simp;omega
theorem onRune_U (x:Nat):(!(onRune isU x))=(decide ((x:Int)<65)||decide ((90:Int)<x)):=by
 by_cases h:x<128
 ·have:(UInt8.ofNat x).toNat=x:=ofNat_toNat (by omega);simp only [onRune,isU,this,h,decide_true,Bool.true_and,Bool.not_and];by_cases h1:65≤x<;>by_cases h2:x≤90<;>simp [h1,h2]<;>omega
 ·simp only [onRune,h,decide_false,Bool.false_and,Bool.not_false]
  symm;simp;omega
theorem sp_label_parted_1 (x:Nat):Zak Tryz.prog 231 [.int .i32 x] (.bool (!(onRune isD x))):=by
 rw [onRune_D];refine Gp (vc:=c_label_parted_1) [.t 2] (cB _) Tryz.func231 ?_;unfold c_label_parted_1;try dsimp only [ZM,ZO,ZN,ZG,ZR,ZU]
 refine Rp0 [0] ?_;refine Rp0 [2] ?_;refine OpsW_split rfl (fun g=>?_) (fun g=>?_)
 ·refine Sp1 g ?_;refine Tp0 ?_;rw [Bool.false_or];exact View.refl _ _
 ·refine Sp1 g ?_;refine Tp0 ?_;rw [Bool.true_or];exact View.refl _ _
theorem sp_label_Valid_1 (x:Nat):Zak Tryz.prog 211 [.int .i32 x] (.bool (!(onRune isU x))):=by
 rw [onRune_U];refine Gp (vc:=c_label_Valid_1) [.t 2] (cB _) Tryz.func211 ?_;unfold c_label_Valid_1;try dsimp only [ZM,ZO,ZN,ZG,ZR,ZU]
 refine Rp0 [0] ?_;refine Rp0 [2] ?_;refine OpsW_split rfl (fun g=>?_) (fun g=>?_)
 ·refine Sp1 g ?_;refine Tp0 ?_;rw [Bool.false_or];exact View.refl _ _
 ·refine Sp1 g ?_;refine Tp0 ?_;rw [Bool.true_or];exact View.refl _ _
theorem grows_of {P:Program} {f:FuncId} {p:Nat→Bool} (H:∀ x:Nat,Zak P f [.int .i32 x] (.bool (p x))) {g:Gh} {w:World} (r:Rel g w Heap.nil):PredGrows P f #[] p w:=by
 intro W x _ hb;obtain ⟨r',_⟩:=r.below (memExt_below r hb) hb;refine ((H x).2.2 _ W (#[encR x]++#[]) r' ⟨rfl,fun j hj=>?_⟩).mono ?_
 ·obtain rfl:j=0:=by simp at hj;omega
  exact .int .i32 x
 ·rintro e w' ⟨v,m',rfl,hv,_,hb'⟩;obtain rfl:=hv.bool_inv;exact ⟨rfl,hb'⟩
theorem fn0_inv {g:Gh} {u:Value} {f:FuncId} (h:Rep g u (.fn (.func f) [] [])):u=.func (.func f) #[] #[]:=by
 obtain ⟨fs,cs,rfl,h1,h2⟩:=h.fn_inv;have e1:fs=#[]:=Array.eq_empty_of_size_eq_zero h1.1;have e2:cs=#[]:=Array.eq_empty_of_size_eq_zero h2.1;rw [e1,e2]
theorem sp_IndexFunc (s:Str):Zak Tryz.prog 230 [.str s,.fn (.func 231) [] []] (pI (if (dgs s).length<s.length then ((dgs s).length:Int) else -1)):=by
 refine PCall_of (by kernel_rfl) (by intro x hx;simp only [List.mem_cons,List.not_mem_nil,or_false] at hx;rcases hx with rfl|rfl;exact cS _;exact closed_fn0 _) fun g w vals r ha=>?_;obtain ⟨v,u,rfl,hv,hu⟩:=args_2 ha;obtain ⟨z,rfl,hs⟩:=hv.str_inv;obtain rfl:=fn0_inv hu;rw [str_eq hs];refine (Tryz.strings_IndexFunc_grows _ #[] (enters_of Tryz.func231 (by kernel_rfl) rfl) (fun x=>!(onRune isD x)) _ w (grows_of sp_label_parted_1 r)).mono ?_;rintro e w' ⟨rfl,hb⟩;rw [idx_digits];exact ⟨_,rfl,fun g=>.int _ _,hb⟩
theorem sp_ContainsFunc (s:Str):Zak Tryz.prog 212 [.str s,.fn (.func 211) [] []] (.bool (!(s.all isU))):=by
 refine PCall_of (by kernel_rfl) (by intro x hx;simp only [List.mem_cons,List.not_mem_nil,or_false] at hx;rcases hx with rfl|rfl;exact cS _;exact closed_fn0 _) fun g w vals r ha=>?_;obtain ⟨v,u,rfl,hv,hu⟩:=args_2 ha;obtain ⟨z,rfl,hs⟩:=hv.str_inv;obtain rfl:=fn0_inv hu;rw [str_eq hs];refine (Tryz.strings_ContainsFunc_grows _ #[] (enters_of Tryz.func211 (by kernel_rfl) rfl) (fun x=>!(onRune isU x)) _ w (grows_of sp_label_Valid_1 r)).mono ?_;rintro e w' ⟨rfl,hb⟩;rw [idx_caps];exact ⟨_,rfl,fun g=>.bool _,hb⟩
theorem sp_pandectref03_digits (s:Str) (hl:s.length≤1000000):Zak Tryz.prog 174 [.str s] (pI (dgs s).length):=by
 have hdl:=dgs_le s;refine Gp (vc:=c_pandectref03_digits) [.t 2] (cI _) Tryz.func174 ?_;unfold c_pandectref03_digits;try dsimp only [ZM,ZO,ZN,ZG,ZR,ZU]
 refine Rp0 [0] ?_;refine Rp0 [0,3] ?_;refine Zaa ?_;refine Zab ?_;refine Zah (σ:={ k:Nat//k≤(dgs s).length }) (fun x=>([(0,.str s),(3,pI x.1)],⟨[],0⟩)) (fun x=>s.length-x.1) ⟨0,Nat.zero_le _⟩ ?_ ?_ ?_
 ·refine Sp0 ?_;rfl
 ·exact Sc0
 rintro ⟨k,hk⟩;simp only [];refine Zaa ?_;refine VW_seqE (σ:={ b:Bool//b=decide (k<(dgs s).length) }) [0,3,19] (fun b=>[(0,.str s),(3,pI k),(19,.bool b.1)]) ?_ ?_
 ·by_cases c1:k<s.length
  ·have e1:decide ((k:Int)<(s.length:Int))=true:=by simp;omega
   by_cases c2:48≤(s.getD k 0).toNat
   ·have e2:decide ((48:Int)≤((s.getD k 0).toNat:Int))=true:=by simp only [decide_eq_true_eq];omega
    refine Sp1 (x2 e1 e2) ?_;refine Ok ?_;refine ⟨⟨decide (((s.getD k 0).toNat:Int)≤57),?_⟩,rfl⟩
    ·by_cases c:k<(dgs s).length
     ·have:=dgs_at c;rw [decide_eq_true c,decide_eq_true_eq];omega
     ·obtain rfl:k=(dgs s).length:=by omega
      have:=dgs_end c1;rw [decide_eq_false c,decide_eq_false_iff_not];omega
   ·have e2:decide ((48:Int)≤((s.getD k 0).toNat:Int))=false:=by simp only [decide_eq_false_iff_not];omega
    have c:¬ k<(dgs s).length:=fun c=>c2 (dgs_at c).1;refine Sp1 (x2 e1 e2) ?_;refine Ok ?_;exact ⟨⟨false,(decide_eq_false c).symm⟩,rfl⟩
  ·have e1:decide ((k:Int)<(s.length:Int))=false:=by simp;omega
   refine Sp1 e1 ?_;exact ⟨⟨false,(decide_eq_false (by omega)).symm⟩,rfl⟩
 rintro ⟨b,hb⟩;simp only [];refine Zac rfl (fun h1=>?_) (fun h1=>?_)
 ·have c:k<(dgs s).length:=by rw [h1] at hb;exact of_decide_eq_true hb.symm
  refine Kp0 ?_;refine Zab ?_;refine rp1 [0,3] (w64 (n:=(k:Int)+1) (by omega) (by omega)) ?_;refine ⟨⟨k+1,c⟩,?_,?_⟩
  ·simp
  ·simp only [];omega
 ·have c:¬ k<(dgs s).length:=by rw [h1] at hb;exact of_decide_eq_false hb.symm
  obtain rfl:k=(dgs s).length:=by omega
  refine Ep0 ?_;exact Rv0 [2]
theorem caps_len' (s:Str):(caps s).length=s.length-(dgs s).length:=by have:=dgs_len s;omega
def mayA (s:Str):Bool:=decide (1≤(dgs s).length)&&decide ((dgs s).length≤4)&&(s.head? != some 48)&&decide ((caps s).length≤3)
theorem may_A (s:Str):may s=(mayA s&&(caps s).all isU):=rfl
theorem sp_pandectref03_May (s:Str) (hl:s.length≤1000000):Zak Tryz.prog 127 [.str s] (.bool (may s)):=by
 have hdl:=dgs_le s;have hcl:=caps_len' s;refine Gp (vc:=c_pandectref03_May) [.t 2] (cB _) Tryz.func127 ?_;unfold c_pandectref03_May;try dsimp only [ZM,ZO,ZN,ZG,ZR,ZU]
 refine Rp0 [0] ?_;refine Rp0 [0,3] ?_;refine Zao (sp_pandectref03_digits s hl) ?_;refine Zaa ?_;refine VW_seqE (σ:={ b:Bool//b = !(mayA s) }) [0,3,24] (fun b=>[(0,.str s),(3,pI (dgs s).length),(24,.bool b.1)]) ?_ ?_
 ·by_cases c1:(dgs s).length<1
  ·have e1:decide (((dgs s).length:Int)<1)=true:=by simp only [decide_eq_true_eq];omega
   refine Sp1 e1 ?_;exact ⟨⟨true,by unfold mayA;rw [decide_eq_false (show ¬ 1≤(dgs s).length by omega)];rfl⟩,rfl⟩
  have e1:decide (((dgs s).length:Int)<1)=false:=by simp only [decide_eq_false_iff_not];omega
  by_cases c2:(dgs s).length>4
  ·have e2:decide ((4:Int)<((dgs s).length:Int))=true:=by simp only [decide_eq_true_eq];omega
   refine Sp1 (x2 e1 e2) ?_;exact ⟨⟨true,by unfold mayA;rw [decide_eq_false (show ¬ (dgs s).length≤4 by omega),Bool.and_false];rfl⟩,rfl⟩
  have e2:decide ((4:Int)<((dgs s).length:Int))=false:=by simp only [decide_eq_false_iff_not];omega
  have hne:s≠[]:=by intro e;subst e;exact c1 (by simp [dgs])
  have hh:=head_getD hne;have hp:0<s.length:=by cases s with|nil=>exact absurd rfl hne|cons=>simp
  by_cases c3:(s.getD 0 0).toNat=48
  ·have e3:(((s.getD 0 0).toNat:Int)==48)=true:=by simp only [beq_iff_eq];omega
   simp only [vmL,Nat.reduceEqDiff,reduceCtorEq,e1,e2,e3,Int.toNat_zero];refine Ok ?_;refine ⟨⟨true,?_⟩,rfl⟩;rw [decide_eq_true c3] at hh;simp only [mayA,hh];simp
  have e3:(((s.getD 0 0).toNat:Int)==48)=false:=by rw [beq_eq_false_iff_ne];omega
  simp only [vmL,Nat.reduceEqDiff,reduceCtorEq,e1,e2,e3,Int.toNat_zero,w64 (n:=(s.length:Int)-(dgs s).length) (by omega) (by omega)];refine Ok ?_;refine ⟨⟨decide ((3:Int)<(s.length:Int)-(dgs s).length),?_⟩,rfl⟩;rw [decide_eq_false c3] at hh;simp only [mayA,hh,hcl];rw [decide_eq_true (show 1≤(dgs s).length by omega),decide_eq_true (show (dgs s).length≤4 by omega)];simp only [Bool.true_and,Bool.not_false];by_cases c4:s.length-(dgs s).length≤3
  ·rw [decide_eq_true c4];simp only [Bool.not_true,decide_eq_false_iff_not];omega
  ·rw [decide_eq_false c4];simp only [Bool.not_false,decide_eq_true_eq];omega
 rintro ⟨b,hb⟩;simp only [];refine Zac rfl (fun h1=>?_) (fun h1=>?_)
 ·rw [h1] at hb;refine Rp0 [2] ?_;refine Tp0 ?_;have e:may s=false:=by rw [may_A,show mayA s=false by cases h:mayA s;rfl;rw [h] at hb;cases hb];rfl
  rw [e];exact View.refl _ _
 rw [h1] at hb;have hA:mayA s=true:=by cases h:mayA s;rw [h] at hb;cases hb;rfl
 refine Kp0 ?_;refine Zaa ?_;refine Rp0 [0,4] ?_;refine Zab ?_;refine Zah (σ:={ k:Nat//k≤(caps s).length∧∀ j,j<k→isU ((caps s).getD j 0)=true }) (fun x=>([(0,.str s),(4,pI ((dgs s).length+x.1:Nat))],⟨[],0⟩)) (fun x=>(caps s).length-x.1) ⟨0,Nat.zero_le _,fun j h=>by cases h⟩ ?_ ?_ ?_
 ·exact Sc0
 ·exact Sc0
 rintro ⟨k,hk,hall⟩;simp only [];have hgd:=getD_caps s k;refine Zaa ?_;refine Rp0 [0,4,29] ?_;refine Zac rfl (fun h2=>?_) (fun h2=>?_)
 ·have hk':k<(caps s).length:=by simp only [decide_eq_true_eq] at h2;omega
  refine Kp0 ?_;refine Zaa ?_;refine Zab ?_;have hsk:(dgs s).length+k<s.length:=by omega
  refine VW_seqE (σ:={ b:Bool//b = !(isU ((caps s).getD k 0)) }) [0,4,41] (fun b=>[(0,.str s),(4,pI ((dgs s).length+k:Nat)),(41,.bool b.1)]) ?_ ?_
  ·rw [hgd];by_cases c1:(s.getD ((dgs s).length+k) 0).toNat<65
   ·have e1:decide (((s.getD ((dgs s).length+k) 0).toNat:Int)<65)=true:=by simp only [decide_eq_true_eq];omega
    refine Sp1 e1 ?_;refine Ok ?_;exact ⟨⟨true,by simp only [isU];rw [decide_eq_false (show ¬ 65≤(s.getD ((dgs s).length+k) 0).toNat by omega)];rfl⟩,rfl⟩
   ·have e1:decide (((s.getD ((dgs s).length+k) 0).toNat:Int)<65)=false:=by simp only [decide_eq_false_iff_not];omega
    refine Sp1 e1 ?_;refine Ok ?_;refine ⟨⟨decide ((90:Int)<((s.getD ((dgs s).length+k) 0).toNat:Int)),?_⟩,rfl⟩;simp only [isU];rw [decide_eq_true (show 65≤(s.getD ((dgs s).length+k) 0).toNat by omega),Bool.true_and];by_cases c2:(s.getD ((dgs s).length+k) 0).toNat≤90
    ·rw [decide_eq_true c2,decide_eq_false (by omega)];rfl
    ·rw [decide_eq_false c2,decide_eq_true (by omega)];rfl
  rintro ⟨b,hb2⟩;simp only [];refine Zac rfl (fun h3=>?_) (fun h3=>?_)
  ·rw [h3] at hb2;refine Rp0 [2] ?_;refine Tp0 ?_;have e:may s=false:=by
    rw [may_A,hA,Bool.true_and];cases h:(caps s).all isU with
    | false=>rfl
    | true=>rw [all_at.1 h k hk'] at hb2;cases hb2
   rw [e];exact View.refl _ _
  rw [h3] at hb2;refine Kp0 ?_;refine rp1 [0,4] (w64 (n:=(((dgs s).length+k:Nat):Int)+1) (by omega) (by omega)) ?_;refine ⟨⟨k+1,hk',fun j hj=>?_⟩,?_,?_⟩
  ·by_cases e:j=k
   ·subst e;cases h:isU ((caps s).getD j 0);rw [h] at hb2;cases hb2;rfl
   ·exact hall j (by omega)
  ·simp only [pI,PV.int.injEq,true_and];omega
  ·simp only [];omega
 ·have hk':k=(caps s).length:=by simp only [decide_eq_false_iff_not] at h2;omega
  refine Ep0 ?_;refine Rp0 [2] ?_;refine Tp0 ?_;have e:may s=true:=by
   rw [may_A,hA,Bool.true_and,all_at];rw [← hk'];exact hall
  rw [e];exact View.refl _ _
theorem closed_ss (a b:Str):Closed (.tup [.str a,.str b]):=Zbs (by simp only [List.mem_cons,List.not_mem_nil,or_false,forall_eq_or_imp,forall_eq];exact ⟨cS _,cS _⟩)
theorem closed_sb (a:Str) (b:Bool):Closed (.tup [.str a,.bool b]):=Zbs (by simp only [List.mem_cons,List.not_mem_nil,or_false,forall_eq_or_imp,forall_eq];exact ⟨cS _,cB _⟩)
theorem sp_label_parted (s:Str) (hl:s.length≤1000000):Zak Tryz.prog 210 [.str s] (.tup [.str (dgs s),.str (caps s)]):=by
 have hdl:=dgs_le s;have hcl:=caps_len' s;have A:=sp_IndexFunc s;refine Gp (vc:=c_label_parted) [.t 2,.t 3] (closed_ss _ _) Tryz.func210 ?_;unfold c_label_parted;try dsimp only [ZM,ZO,ZN,ZG,ZR,ZU]
 refine Rp0 [0] ?_;refine Rp0 [0,4] ?_;refine Zao A ?_;refine Zaa ?_;rcases Nat.lt_or_ge (dgs s).length s.length with c|c
 ·rw [if_pos c];refine Rp0 [0,4,8] ?_;refine Zac rfl (fun h1=>by simp at h1;omega) (fun h1=>?_);refine Kp0 ?_;refine Zaa (VW_drawS [2,3] (by simp [Heap.le,Heap.get,HL.le,HL.get]) ?_);simp only [vmL,Nat.reduceEqDiff,reduceCtorEq,Nat.sub_zero];refine Ok ?_;refine Tp0 ?_;have e2:List.take (s.length-(dgs s).length) (List.drop (dgs s).length s)=caps s:=by
   rw [caps_drop,List.take_of_length_le (by simp)]
  rw [← dgs_take,e2];exact View.refl _ _
 ·rw [if_neg (by omega)];have e0:caps s=[]:=List.eq_nil_of_length_eq_zero (by omega);have e1:dgs s=s:=by have:=dgs_caps s;rw [e0,List.append_nil] at this;exact this
  refine Rp0 [0,4,8] ?_;refine Zac rfl (fun h1=>?_) (fun h1=>by simp at h1);refine Rp0 [2,3] ?_;refine Tp0 ?_;rw [e0,e1];exact View.refl _ _
theorem sp_label_Valid (s:Str) (hl:s.length≤1000000):Zak Tryz.prog 172 [.str s] (.bool (may s)):=by
 have hdl:=dgs_le s;have hcl:=caps_len' s;refine Gp (vc:=c_label_Valid) [.t 2] (cB _) Tryz.func172 ?_;unfold c_label_Valid;try dsimp only [ZM,ZO,ZN,ZG,ZR,ZU]
 refine Rp0 [0] ?_;refine Rp0 [3,4] ?_;refine Ap0 (sp_label_parted s hl) ?_;refine Rp0 [3,4,5] ?_;have A:=sp_ContainsFunc (caps s);have fin:∀ b,b=may s→View ⟨[],0⟩ (PV.bool b) (.bool (may s)):=fun b e=>by rw [e];exact View.refl _ _
 refine Zaa (Zae [2] ?_);by_cases c1:(dgs s).length<1
 ·have e1:decide ((1:Int)≤((dgs s).length:Int))=false:=by simp only [decide_eq_false_iff_not];omega
  refine Sp1 e1 ?_;refine Tp0 ?_;refine fin _ ?_;unfold may;rw [decide_eq_false (show ¬ 1≤(dgs s).length by omega)];rfl
 have e1:decide ((1:Int)≤((dgs s).length:Int))=true:=by simp only [decide_eq_true_eq];omega
 by_cases c2:(dgs s).length>4
 ·have e2:decide (((dgs s).length:Int)≤4)=false:=by simp only [decide_eq_false_iff_not];omega
  refine Sp1 (x2 e1 e2) ?_;refine Tp0 ?_;refine fin _ ?_;unfold may;rw [decide_eq_false (show ¬ (dgs s).length≤4 by omega),Bool.and_false];rfl
 have e2:decide (((dgs s).length:Int)≤4)=true:=by simp only [decide_eq_true_eq];omega
 have hne:s≠[]:=by intro e;subst e;exact c1 (by simp [dgs])
 have hh:=head_getD hne;have hp:0<s.length:=by cases s with|nil=>exact absurd rfl hne|cons=>simp
 have hd0:(dgs s).getD 0 0=s.getD 0 0:=by
  rw [dgs_take,List.getD_eq_getElem?_getD,List.getElem?_take,if_pos (by omega),← List.getD_eq_getElem?_getD]
 by_cases c3:(s.getD 0 0).toNat=48
 ·have e3:(((s.getD 0 0).toNat:Int) != 48)=false:=by rw [bne_eq_false_iff_eq];omega
  simp only [vmL,Nat.reduceEqDiff,e1,e2,e3,Int.toNat_zero,hd0];refine Ok ?_;refine Tp0 ?_;refine fin _ ?_;rw [decide_eq_true c3] at hh;unfold may;rw [hh];simp
 have e3:(((s.getD 0 0).toNat:Int) != 48)=true:=by rw [bne_iff_ne];omega
 rw [decide_eq_false c3] at hh;by_cases c4:(caps s).length≤3
 ·have e4:decide (((caps s).length:Int)≤3)=true:=by simp only [decide_eq_true_eq];omega
  simp only [vmL,Nat.reduceEqDiff,e1,e2,e3,e4,Int.toNat_zero,hd0];refine Ok ?_;refine Ap0 A ?_;refine Tp0 ?_;refine fin _ ?_;unfold may;rw [hh,decide_eq_true (show 1≤(dgs s).length by omega),decide_eq_true (show (dgs s).length≤4 by omega),decide_eq_true c4];simp
 ·have e4:decide (((caps s).length:Int)≤3)=false:=by simp only [decide_eq_false_iff_not];omega
  simp only [vmL,Nat.reduceEqDiff,e1,e2,e3,e4,Int.toNat_zero,hd0];refine Ok ?_;refine Tp0 ?_;refine fin _ ?_;unfold may;rw [decide_eq_false c4];simp
end Go.Proofs.YtcgdjembdjdlhaaGreatDoor.w
namespace Go.VM
open Go
def ancB (s:Str):Bool:=decide (s.head?=some 94)&&may (s.drop 1)
def ancF (s:Str):Str×Bool:=if ancB s then (s.drop 1,true) else ([],false)
theorem may_nil:may []=false:=by decide
theorem pre_eq (s:Str):Lib.hasPrefix s [94]=decide (s.head?=some 94):=by
 unfold Lib.hasPrefix;cases s with
 | nil=>rfl
 | cons a r =>
  simp only [List.isPrefixOf,List.head?_cons,Option.some.injEq];rw [Bool.eq_iff_iff];simp;exact ⟨fun h=>h.symm,fun h=>h.symm⟩
theorem trimP_eq (s:Str):Lib.trimPrefix s [94]=if decide (s.head?=some 94)=true then s.drop 1 else s:=by
 unfold Lib.trimPrefix;rw [pre_eq];rfl
end Go.VM
namespace Go.Proofs.YtcgdjembdjdlhaaGreatDoor.w
open Go Go.VM
def c_footnote_ParseAnchor:VC:=(ZR [ZO 2 (.mv (.c (.str []))),ZO 3 (.mv (.c (.bool false)))] (ZR [ZM 7 0,ZO 8 (.call 171 [.t 7,(.c (.str [94]))]),ZM 6 8,ZO 9 (.ext (.t 6) 0),ZO 10 (.ext (.t 6) 1),ZM 4 9,ZM 5 10] (.seq (ZR [ZM 11 5,ZO 12 (.un .not (.t 11)),ZM 13 12,ZG 14 (.mv (.t 4)) 13 false,ZG 15 (.call 172 [.t 14]) 13 false,ZG 16 (.un .not (.t 15)) 13 false,ZO 17 (.pick (.t 13) (.c (.bool true)) (.t 16))] (.cond (.t 17) (ZR [ZO 2 (.mv (.c (.str []))),ZO 3 (.mv (.c (.bool false)))] .ret) .skip)) (ZR [ZM 18 4,ZM 2 18,ZO 3 (.mv (.c (.bool true)))] .ret))))
def c_pandectref10_Anchor:VC:=(ZR [ZO 2 (.mv (.c (.str []))),ZO 3 (.mv (.c (.bool false)))] (.seq (ZR [ZM 4 0,ZO 5 (.len true (.t 4)),ZO 6 (.bin .lss (.t 5) (.c (.int .i64 2))),ZM 7 6,ZG 8 (.mv (.t 0)) 7 false,ZG 9 (.idx (.t 8) (.c (.int .i64 0))) 7 false,ZG 10 (.bin .neq (.t 9) (.c (.int .u8 94))) 7 false,ZO 11 (.pick (.t 7) (.c (.bool true)) (.t 10)),ZM 12 11,ZG 13 (.mv (.t 0)) 12 false,ZG 14 (.slice true 0 (.t 13) (some (.c (.int .i64 1))) none) 12 false,ZG 15 (.call 127 [.t 14]) 12 false,ZG 16 (.un .not (.t 15)) 12 false,ZO 17 (.pick (.t 12) (.c (.bool true)) (.t 16))] (.cond (.t 17) (ZR [ZO 2 (.mv (.c (.str []))),ZO 3 (.mv (.c (.bool false)))] .ret) .skip)) (ZR [ZM 18 0,ZO 19 (.slice true 0 (.t 18) (some (.c (.int .i64 1))) none),ZM 2 19,ZO 3 (.mv (.c (.bool true)))] .ret)))
theorem cl2 (a b:Str):Za0 [.str a,.str b]:=by intro x hx;simp only [List.mem_cons,List.not_mem_nil,or_false] at hx;rcases hx with rfl|rfl<;>exact cS _
theorem sp_CutPrefix (s:Str):Zak Tryz.prog 171 [.str s,.str [94]] (.tup [.str (if decide (s.head?=some 94)=true then s.drop 1 else s),.bool (decide (s.head?=some 94))]):=by
 refine PCall_of (by kernel_rfl) (cl2 _ _) fun g w vals r ha=>?_;obtain ⟨v,u,rfl,hv,hu⟩:=args_2 ha;obtain ⟨z,rfl,hs⟩:=hv.str_inv;obtain ⟨y,rfl,hy⟩:=hu.str_inv;rw [str_eq hs,str_eq hy];refine (Tryz.strings_CutPrefix _ _ w).mono ?_;rintro e w' ⟨rfl,rfl⟩;have h1:Lib.hasPrefix (⟨s.toArray⟩:ByteArray).data.toList (⟨[94].toArray⟩:ByteArray).data.toList=decide (s.head?=some 94):=pre_eq s;have h2:Lib.trimPrefix (⟨s.toArray⟩:ByteArray).data.toList (⟨[94].toArray⟩:ByteArray).data.toList=if decide (s.head?=some 94)=true then s.drop 1 else s:=trimP_eq s;rw [h1,h2];refine ⟨_,rfl,fun g=>.tup _ _ rfl fun j hj=>?_,RowKit.Below.refl _ _⟩
 match j,hj with
 | 0,_=>exact .str _ _ (by simp)
 | 1,_=>exact .bool _
theorem sp_ParseAnchor (s:Str) (hl:s.length≤1000000):Zak Tryz.prog 116 [.str s] (.tup [.str (ancF s).1,.bool (ancF s).2]):=by
 have C:=sp_CutPrefix s;have L:=sp_label_Valid (s.drop 1) (by rw [List.length_drop];omega);refine Gp (vc:=c_footnote_ParseAnchor) [.t 2,.t 3] (closed_sb _ _) Tryz.func116 ?_;unfold c_footnote_ParseAnchor;try dsimp only [ZM,ZO,ZN,ZG,ZR,ZU]
 refine Rp0 [0] ?_;refine Rp0 [4,5] ?_;refine Zao C ?_;unfold ancF ancB;cases hd:decide (s.head?=some 94) with
 | false =>
  refine Sp0 ?_;refine Zaa ?_;refine Rp0 [4,17] ?_;refine Ct ?_;exact Rv0 [2,3]
 | true =>
  refine Sp0 ?_;refine Zaa ?_;refine Rp0 [4,17] ?_;refine Ap0 L ?_;cases hm:may (s.drop 1) with
  | false =>
   refine Ct ?_;exact Rv0 [2,3]
  | true =>
   refine Fp0 ?_;exact Rv0 [2,3]
theorem sp_ref10_Anchor (s:Str) (hl:s.length≤1000000):Zak Tryz.prog 70 [.str s] (.tup [.str (ancF s).1,.bool (ancF s).2]):=by
 have L:=sp_pandectref03_May (s.drop 1) (by rw [List.length_drop];omega);refine Gp (vc:=c_pandectref10_Anchor) [.t 2,.t 3] (closed_sb _ _) Tryz.func70 ?_;unfold c_pandectref10_Anchor;try dsimp only [ZM,ZO,ZN,ZG,ZR,ZU]
 refine Rp0 [0] ?_;refine Zaa ?_;by_cases h2:s.length<2
 ·have e2:decide ((s.length:Int)<2)=true:=decide_eq_true (by omega);have hn:ancF s=([],false):=by
   unfold ancF ancB;have:may (s.drop 1)=false:=by rw [List.drop_eq_nil_of_le (by omega)];exact may_nil
   rw [this,Bool.and_false];rfl
  rw [hn];refine Rp1 [0,17] e2 ?_;refine Ct ?_;exact Rv0 [2,3]
 have e2:decide ((s.length:Int)<2)=false:=decide_eq_false (by omega);have hg:s.getD 0 0=s[0]'(by omega):=by simp [List.getD_eq_getElem?_getD,show 0<s.length by omega]
 have hh:(s.head?=some 94)↔(s.getD 0 0).toNat=94:=by
  cases s with
  | nil=>simp at h2
  | cons a r=>simp only [List.head?_cons,Option.some.injEq,List.getD_cons_zero];exact ⟨fun h=>by rw [h];rfl,fun h=>UInt8.toNat_inj.1 h⟩
 have htk:List.take (s.length-1) (List.drop 1 s)=s.drop 1:=List.take_of_length_le (by simp);unfold ancF ancB;by_cases h94:(s.getD 0 0).toNat=94
 ·have e3:(((s.getD 0 0).toNat:Int) != 94)=false:=by rw [bne_eq_false_iff_eq];omega
  rw [decide_eq_true (hh.2 h94)];cases hm:may (s.drop 1) with
  | false =>
   rw [hm] at L;refine Zaa (Zae [0,17] ?_);simp only [vmL,Nat.reduceEqDiff,reduceCtorEq,Int.reduceToNat,e2,e3,Int.toNat_zero];refine ⟨⟨by omega,by omega⟩,⟨by omega,by omega⟩,?_⟩;rw [htk];refine Ap0 L ?_;refine Ct ?_;exact Rv0 [2,3]
  | true =>
   rw [hm] at L;refine Zaa (Zae [0,17] ?_);simp only [vmL,Nat.reduceEqDiff,reduceCtorEq,Int.reduceToNat,e2,e3,Int.toNat_zero];refine ⟨⟨by omega,by omega⟩,⟨by omega,by omega⟩,?_⟩;rw [htk];refine Ap0 L ?_;refine Fp0 ?_;refine Rp0 [2,3] ?_;refine ⟨by omega,?_⟩;refine Tp0 ?_;rw [htk];exact View.refl _ _
 ·have e3:(((s.getD 0 0).toNat:Int) != 94)=true:=by rw [bne_iff_ne];omega
  rw [decide_eq_false (fun h=>h94 (hh.1 h))];refine Zaa (Zae [0,17] ?_);simp only [vmL,Nat.reduceEqDiff,reduceCtorEq,e2,e3,Int.toNat_zero];refine ⟨⟨by omega,by omega⟩,?_⟩;refine Ct ?_;exact Rv0 [2,3]
end Go.Proofs.YtcgdjembdjdlhaaGreatDoor.w
namespace Go.VM
open Go
def callsB (k:Un) (w:Wd):Bool:=(ancF w.text).2&&((ancF w.text).1==k.label)
def Zag (u k:Un):Int:=if k.kind=7 then idxF (callsB k) u.words else -1
theorem idxF_bd {α:Type} (p:α→Bool) (l:List α):-1≤idxF p l∧idxF p l<(l.length:Int)∨idxF p l = -1:=by
 unfold idxF;split
 ·rename_i h;obtain ⟨x,hx,hp⟩:=List.any_eq_true.1 h;have:=List.findIdx_lt_length_of_exists ⟨x,hx,hp⟩
  left
  omega
 ·exact .inr rfl
theorem calledT_bd {u:Un} (h:SmU u) (k:Un):-1≤Zag u k∧Zag u k<300:=by
 have hw:=h.words.1;unfold Zag;split
 ·rcases idxF_bd (callsB k) u.words with h1|h1<;>omega
 ·omega
def cmpU (u a b:Un):Int:=Zag u a-Zag u b
def aheadU (u a b:Un):Bool:=decide (Zag u a<Zag u b)
def leU (u a b:Un):Prop:=aheadU u b a=false
theorem leU_iff {u a b:Un}:leU u a b↔Zag u a≤Zag u b:=by
 unfold leU aheadU;rw [decide_eq_false_iff_not];omega
theorem leU_trans {u a b c:Un} (h1:leU u a b) (h2:leU u b c):leU u a c:=by
 rw [leU_iff] at *;omega
theorem leU_of_ahead {u a b:Un} (h:aheadU u a b=true):leU u a b:=by
 rw [leU_iff];unfold aheadU at h;simp only [decide_eq_true_eq] at h;omega
theorem cmpU_lt {u:Un} (x y:Un):decide (cmpU u x y<0)=aheadU u x y:=by
 unfold cmpU aheadU;exact decide_eq_decide.2 (by omega)
instance : Inhabited Un := ⟨.mk 0 0 0 0 [] [] [] []⟩
end Go.VM
namespace Go.Proofs.YtcgdjembdjdlhaaGreatDoor.w
open Go Go.VM
def c_paginate_called:VC:=(ZR [ZO 2 (.box 8 (.t 0)),ZO 3 (.box 8 (.t 1)),ZO 4 (.mv (.c (.int .i64 0)))] (.seq (ZR [ZO 5 (.faddr 3 (.t 3)),ZO 6 (.load false 1 (.t 5)),ZO 7 (.bin .neq (.t 6) (.c (.int .i64 7)))] (.cond (.t 7) (ZR [ZO 4 (.mv (.c (.int .i64 (-1))))] .ret) .skip)) (ZR [ZO 8 (.faddr 6 (.t 2)),ZO 9 (.load false 1 (.t 8)),ZO 10 (.mkfn (.func 115) [] [.t 3]),ZO 11 (.call 114 [.t 9,.t 10]),ZM 4 11] .ret)))
def c_paginate_called_1:VC:=(ZR [ZO 2 (.box 4 (.t 0)),ZO 3 (.mv (.c (.bool false)))] (ZR [ZO 7 (.faddr 0 (.t 2)),ZO 8 (.load false 1 (.t 7)),ZO 9 (.call 116 [.t 8]),ZM 6 9,ZO 10 (.ext (.t 6) 0),ZO 11 (.ext (.t 6) 1),ZM 4 10,ZM 5 11] (ZR [ZM 12 5,ZM 13 12,ZG 14 (.mv (.t 4)) 13 true,ZG 15 (.faddr 4 (.t 1)) 13 true,ZG 16 (.load false 1 (.t 15)) 13 true,ZG 17 (.bin .eql (.t 14) (.t 16)) 13 true,ZO 18 (.pick (.t 13) (.t 17) (.c (.bool false))),ZM 3 18] .ret)))
def c_pandectref55_caller:VC:=(ZR [ZO 2 (.box 8 (.t 0)),ZO 3 (.box 8 (.t 1)),ZO 4 (.mv (.c (.int .i64 0)))] (.seq (ZR [ZO 8 (.faddr 3 (.t 3)),ZO 9 (.load false 1 (.t 8)),ZO 10 (.bin .neq (.t 9) (.c (.int .i64 7)))] (.cond (.t 10) (ZR [ZO 4 (.mv (.c (.int .i64 (-1))))] .ret) .skip)) (.seq (ZR [ZO 5 (.mv (.c (.int .i64 0)))] (.block 0 (.loop (.seq (ZR [ZM 11 5,ZO 12 (.faddr 6 (.t 2)),ZO 13 (.load false 1 (.t 12)),ZO 14 (.len false (.t 13)),ZO 15 (.bin .lss (.t 11) (.t 14))] (.cond (.t 15) .skip (.exit 0))) (.seq (.block 1 (ZR [ZO 19 (.faddr 6 (.t 2)),ZO 20 (.load false 1 (.t 19)),ZM 21 5,ZO 22 (.iaddr 4 (.t 20) (.t 21)),ZO 23 (.faddr 0 (.t 22)),ZO 24 (.load false 1 (.t 23)),ZO 25 (.call 70 [.t 24]),ZM 18 25,ZO 26 (.ext (.t 18) 0),ZO 27 (.ext (.t 18) 1),ZM 6 26,ZM 7 27] (ZR [ZM 28 7,ZM 29 28,ZG 30 (.mv (.t 6)) 29 true,ZG 31 (.faddr 4 (.t 3)) 29 true,ZG 32 (.load false 1 (.t 31)) 29 true,ZG 33 (.bin .eql (.t 30) (.t 32)) 29 true,ZO 34 (.pick (.t 29) (.t 33) (.c (.bool false)))] (.cond (.t 34) (ZR [ZM 35 5,ZM 4 35] .ret) .skip)))) (.region [ZM 16 5,ZO 17 (.bin .add (.t 16) (.c (.int .i64 1))),ZM 5 17] false)))))) (ZR [ZO 4 (.mv (.c (.int .i64 (-1))))] .ret))))
def c_paginate_own_1:VC:=(ZR [ZO 3 (.box 8 (.t 0)),ZO 4 (.box 8 (.t 1)),ZO 5 (.mv (.c (.int .i64 0)))] (.seq (.region [ZO 6 (.load true 8 (.t 2)),ZO 7 (.load true 8 (.t 3)),ZO 8 (.call 63 [.t 6,.t 7]),ZO 9 (.load true 8 (.t 2)),ZO 10 (.load true 8 (.t 4)),ZO 11 (.call 63 [.t 9,.t 10]),ZO 12 (.bin .sub (.t 8) (.t 11)),ZM 5 12] true) .ret))
def c_paginate_own_2:VC:=(ZR [ZO 3 (.mv (.c (.bool false)))] (ZR [ZO 4 (.load false 1 (.t 1)),ZM 5 0,ZO 6 (.bin .lss (.t 4) (.t 5)),ZM 3 6] .ret))
theorem closed_rou (k:Un):Closed (.ro k.enc):=Zbg fun y hy=>Un.closed k y hy
theorem sp_called_1 (k:Un) (w:Wd) (hw:w.text.length≤1000000):Zak Tryz.prog 115 [.agg w.enc,.ro k.enc] (.bool (callsB k w)):=by
 have PA:=sp_ParseAnchor w.text hw;refine Zad ?_ (cB _) (by intro y hy;simp only [List.mem_cons,List.not_mem_nil,or_false] at hy;rcases hy with rfl|rfl;exact Zax (Wd.closed w);exact closed_rou k);refine Gn (vc:=c_paginate_called_1) [.t 3] Tryz.func115 ?_;unfold c_paginate_called_1;try dsimp only [ZM,ZO,ZN,ZG,ZR,ZU]
 have hve:w.enc=[.str w.text,pI w.act,pI w.item,pI w.at']:=rfl;unfold callsB;rw [hve,Un.Zaf];generalize ancF w.text=an at PA ⊢;obtain ⟨s,b⟩:=an;generalize w.text=tx at PA ⊢;refine Rp0 [1,2] ?_;refine Rp0 [1,4,5] ?_;refine Ap0 PA ?_;cases b with
 | true =>
  exact Rv0 [3]
 | false =>
  exact Rv0 [3]
theorem closed_uu (u k:Un):Za0 [.agg u.enc,.agg k.enc]:=by
 intro y hy;simp only [List.mem_cons,List.not_mem_nil,or_false] at hy;rcases hy with rfl|rfl
 ·exact Zap _
 ·exact Zap _
theorem sp_called {u:Un} (h:SmU u) (k:Un):Zak Tryz.prog 63 [.agg u.enc,.agg k.enc] (pI (Zag u k)):=by
 have IX:=sp_IndexFunc_Word u.words 115 [.ro k.enc] (callsB k) (by have:=h.words.1;omega) (by intro y hy;rw [List.mem_singleton] at hy;subst hy;exact closed_rou k) (fun w hw=>sp_called_1 k w (by have:=h.words.2 w hw;omega));refine Zad ?_ (cI _) (closed_uu u k);refine Gn (vc:=c_paginate_called) [.t 4] Tryz.func63 ?_;unfold c_paginate_called;try dsimp only [ZM,ZO,ZN,ZG,ZR,ZU]
 unfold Zag;rw [Un.Zaf k] at IX;rw [Un.Zaf,Un.Zaf];refine Rp0 [2,3] ?_;refine Zat [(2,.ro [pI u.act,pI u.item,pI u.n,pI u.kind,.str u.label,.sl 4 (u.head.map Wd.enc),.sl 4 (u.words.map Wd.enc),.sl 8 (u.kids.map Un.enc)]),(3,.ro [pI k.act,pI k.item,pI k.n,pI k.kind,.str k.label,.sl 4 (k.head.map Wd.enc),.sl 4 (k.words.map Wd.enc),.sl 8 (k.kids.map Un.enc)])] ⟨View.loc (z:=8) (fz:=false) (es:=[[pI u.act,pI u.item,pI u.n,pI u.kind,.str u.label,.sl 4 (u.head.map Wd.enc),.sl 4 (u.words.map Wd.enc),.sl 8 (u.kids.map Un.enc)]]) rfl (by simp) rfl (by simp),View.loc (z:=8) (fz:=false) (es:=[[pI k.act,pI k.item,pI k.n,pI k.kind,.str k.label,.sl 4 (k.head.map Wd.enc),.sl 4 (k.words.map Wd.enc),.sl 8 (k.kids.map Un.enc)]]) rfl (by simp) rfl (by simp),trivial⟩ ?_;refine Zaa ?_;by_cases hk:k.kind=7
 ·rw [if_pos hk];have e1:(k.kind != 7)=false:=by rw [hk];rfl
  refine Rp1 [2,3,7] e1 ?_;refine Fp0 ?_;refine Rp0 [4] ?_;refine Zao IX ?_;exact Tv0
 ·rw [if_neg hk];have e1:(k.kind != 7)=true:=by simp [hk]
  refine Rp1 [2,3,7] e1 ?_;refine Ct ?_;exact Rv0 [4]
theorem sp_ref55_caller {u:Un} (h:SmU u) (k:Un):Zak Tryz.prog 41 [.agg u.enc,.agg k.enc] (pI (Zag u k)):=by
 have AN:=fun w hw=>sp_ref10_Anchor (w:Wd).text (by have:=h.words.2 w hw;omega);have hwl:=h.words.1;refine Zad ?_ (cI _) (closed_uu u k);refine Gn (vc:=c_pandectref55_caller) [.t 4] Tryz.func41 ?_;unfold c_pandectref55_caller;try dsimp only [ZM,ZO,ZN,ZG,ZR,ZU]
 unfold Zag;rw [Un.Zaf,Un.Zaf];refine Rp0 [2,3] ?_;refine Zat [(2,.ro [pI u.act,pI u.item,pI u.n,pI u.kind,.str u.label,.sl 4 (u.head.map Wd.enc),.sl 4 (u.words.map Wd.enc),.sl 8 (u.kids.map Un.enc)]),(3,.ro [pI k.act,pI k.item,pI k.n,pI k.kind,.str k.label,.sl 4 (k.head.map Wd.enc),.sl 4 (k.words.map Wd.enc),.sl 8 (k.kids.map Un.enc)])] ⟨View.loc (z:=8) (fz:=false) (es:=[[pI u.act,pI u.item,pI u.n,pI u.kind,.str u.label,.sl 4 (u.head.map Wd.enc),.sl 4 (u.words.map Wd.enc),.sl 8 (u.kids.map Un.enc)]]) rfl (by simp) rfl (by simp),View.loc (z:=8) (fz:=false) (es:=[[pI k.act,pI k.item,pI k.n,pI k.kind,.str k.label,.sl 4 (k.head.map Wd.enc),.sl 4 (k.words.map Wd.enc),.sl 8 (k.kids.map Un.enc)]]) rfl (by simp) rfl (by simp),trivial⟩ ?_;refine Zaa ?_;by_cases hk:k.kind=7
 ·rw [if_pos hk];have e1:(k.kind != 7)=false:=by rw [hk];rfl
  refine Rp1 [2,3,10] e1 ?_;refine Fp0 ?_;have hcb:∀ w:Wd,callsB k w=((ancF w.text).2&&((ancF w.text).1==k.label)):=fun _=>rfl;generalize k.head.map Wd.enc=EH;generalize k.words.map Wd.enc=EW;generalize k.kids.map Un.enc=EK;generalize u.head.map Wd.enc=EH2;generalize u.kids.map Un.enc=EK2;generalize u.words=W at AN hwl ⊢;refine Zaa ?_;refine Rp0 [2,3,5] ?_;refine Zab ?_;refine Zah (σ:={ i:Nat//i≤W.length∧∀ (j:Nat) (hj:j<W.length),j<i→callsB k W[j]=false }) (fun x=>([(2,.ro [pI u.act,pI u.item,pI u.n,pI u.kind,.str u.label,.sl 4 EH2,.sl 4 (W.map Wd.enc),.sl 8 EK2]),(3,.ro [pI k.act,pI k.item,pI k.n,pI k.kind,.str k.label,.sl 4 EH,.sl 4 EW,.sl 8 EK]),(5,pI x.1)],⟨[],2⟩)) (fun x=>W.length-x.1) ⟨0,Nat.zero_le _,fun j _ h=>by cases h⟩ ?_ ?_ ?_
  ·exact Fn0
  ·exact Sc0
  rintro ⟨i,hi,hpre⟩;simp only [];refine Zaa ?_;refine Rp1 [2,3,5,15] @xlm ?_;refine Zac rfl (fun h1=>?_) (fun h1=>?_)
  ·have ka:i<W.length:=by simp only [decide_eq_true_eq] at h1;omega
   have hrow:(W.map Wd.enc).getD i []=W[i].enc:=rowm ka;have A:=AN _ (List.getElem_mem ka);have hb:=hcb W[i];have hat:=idxF_at (callsB k) W i ka hpre;have hnx:callsB k W[i]=false→∀ (j:Nat) (hj:j<W.length),j<i+1→callsB k W[j]=false:=fun h j hj hji=>by
    by_cases e:j=i
    ·subst e;exact h
    ·exact hpre j hj (by omega)
   generalize W[i]=v at hrow A hb hat hnx;generalize callsB k v=cb at hb hat hnx;have hve:v.enc=[.str v.text,pI v.act,pI v.item,pI v.at']:=rfl;rw [hve] at hrow;generalize ancF v.text=an at A hb;obtain ⟨s,b⟩:=an;refine Kp0 ?_;refine Zaa ?_;refine Zab ?_;refine Rp1 [2,3,5,6,7] (x2 @xlm hrow) ?_;refine ⟨⟨by omega,by omega⟩,?_⟩;refine Ap0 A ?_;refine Zaa (Zbl (σ:=Unit) (fun _=>([(2,.ro [pI u.act,pI u.item,pI u.n,pI u.kind,.str u.label,.sl 4 EH2,.sl 4 (W.map Wd.enc),.sl 8 EK2]),(3,.ro [pI k.act,pI k.item,pI k.n,pI k.kind,.str k.label,.sl 4 EH,.sl 4 EW,.sl 8 EK]),(5,pI i),(34,.bool cb)],⟨[],2⟩)) ?_ (fun _=>?_))
   ·cases b with
    | true =>
     rw [Bool.true_and] at hb;refine rp0 [2,3,5,34] ?_;rw [hb];exact ⟨(),by first|trivial|exact ⟨⟨rfl,rfl,rfl,rfl⟩,Nat.le_refl _⟩|rfl⟩
    | false =>
     rw [Bool.false_and] at hb;refine rp0 [2,3,5,34] ?_;rw [hb];exact ⟨(),by first|trivial|rfl⟩
   cases cb with
   | true =>
    rw [hat rfl];refine Ct ?_;exact Rv0 [4]
   | false =>
    refine Fp0 ?_;refine rp1 [2,3,5] (ad1 (a:=i) (by omega)) ?_;refine ⟨⟨i+1,ka,hnx rfl⟩,?_⟩;exact Fn0
  ·have ka:i=W.length:=by simp only [decide_eq_false_iff_not] at h1;omega
   subst ka;rw [idxF_none _ _ fun j hj=>hpre j hj hj];refine Ep0 ?_;exact Rv0 [4]
 ·rw [if_neg hk];have e1:(k.kind != 7)=true:=by simp [hk]
  refine Rp1 [2,3,10] e1 ?_;refine Ct ?_;exact Rv0 [4]
theorem sp_own_1 {u:Un} (h:SmU u) (a b:Un):Zak Tryz.prog 119 [.agg a.enc,.agg b.enc,.ro u.enc] (pI (cmpU u a b)):=by
 have CA:=sp_called h a;have CB:=sp_called h b;have ba:=calledT_bd h a;have bb:=calledT_bd h b;unfold cmpU;generalize Zag u a=x at CA ba ⊢;generalize Zag u b=y at CB bb ⊢;refine Zad ?_ (cI _) (by intro z hz;simp only [List.mem_cons,List.not_mem_nil,or_false] at hz;rcases hz with rfl|rfl|rfl;exact Zap _;exact Zap _;exact closed_rou u);refine Gn (vc:=c_paginate_own_1) [.t 5] Tryz.func119 ?_;unfold c_paginate_own_1;try dsimp only [ZM,ZO,ZN,ZG,ZR,ZU]
 rw [Un.Zaf u] at CA CB ⊢;rw [Un.Zaf a] at CA ⊢;rw [Un.Zaf b] at CB ⊢;refine Rp0 [2,3,4] ?_;refine Zat [(2,.ro [pI u.act,pI u.item,pI u.n,pI u.kind,.str u.label,.sl 4 (u.head.map Wd.enc),.sl 4 (u.words.map Wd.enc),.sl 8 (u.kids.map Un.enc)]),(3,.ro [pI a.act,pI a.item,pI a.n,pI a.kind,.str a.label,.sl 4 (a.head.map Wd.enc),.sl 4 (a.words.map Wd.enc),.sl 8 (a.kids.map Un.enc)]),(4,.ro [pI b.act,pI b.item,pI b.n,pI b.kind,.str b.label,.sl 4 (b.head.map Wd.enc),.sl 4 (b.words.map Wd.enc),.sl 8 (b.kids.map Un.enc)])] ⟨View.refl _ _,View.loc (z:=8) (fz:=false) (es:=[[pI a.act,pI a.item,pI a.n,pI a.kind,.str a.label,.sl 4 (a.head.map Wd.enc),.sl 4 (a.words.map Wd.enc),.sl 8 (a.kids.map Un.enc)]]) rfl (by simp) rfl (by simp),View.loc (z:=8) (fz:=false) (es:=[[pI b.act,pI b.item,pI b.n,pI b.kind,.str b.label,.sl 4 (b.head.map Wd.enc),.sl 4 (b.words.map Wd.enc),.sl 8 (b.kids.map Un.enc)]]) rfl (by simp) rfl (by simp),trivial⟩ ?_;refine Zaa (Zb9 20 [5] (by simp) ?_);refine Sp0 ?_;refine ⟨_,.inl CA,?_⟩
 skip
 refine ⟨_,.inl CB,?_⟩;refine Sp1 (w64 (n:=x-y) (by omega) (by omega)) ?_;exact Tv0
end Go.Proofs.YtcgdjembdjdlhaaGreatDoor.w
namespace Go.VM
open Go
structure Ln where
 id : Idt
 text : Str
 notes : List Str
 tied : Bool
def Ln.encP (x:Ln):List PV:=[.str x.text,pI x.id.act,pI x.id.item,pI x.id.n,.bool x.tied,It.strs x.notes]
def Ln.encR (x:Ln):List PV:=[pI x.id.act,pI x.id.item,pI x.id.n,.str x.text,It.strs x.notes,.bool x.tied]
def Zcc (w:Int) (u:Un) (j:Nat) (ks:List Un):List Str:=(ks.filter fun k=>Zag u k==(j:Int)).flatMap (Za1 w)
def Zbv (w:Int) (u:Un) (a b:Nat):List Str:=(List.range' a (b-a)).flatMap fun j=>Zcc w u j u.kids
def toN (u:Un) (e:Nat):Nat:=e-(2+u.head.length)
def tiedU (u:Un):Bool:=u.kids.any fun k=>decide (Zag u k<0)
def ownF (w:Int) (u:Un) (t:Bool):Nat→List Str→List Nat→List Ln
 | fr,s::l,e::E=>⟨idU u,s,Zbv w u fr (toN u e),t&&l.isEmpty⟩::ownF w u t (toN u e) l E
 | _,_,_=>[]
def ownL (w:Int) (u:Un):List Ln:=ownF w u (tiedU u) 0 (Za1 w u) (Za9 w (rowT u))
mutual
def bodyT (w : Int) : Un → List Ln
 | .mk a i n k l h ws ks => ownL w (.mk a i n k l h ws ks) ++ bodyL w (.mk a i n k l h ws ks) ks
def bodyL (w : Int) (p : Un) : List Un → List Ln
 | [] => []
 | x :: r => (if Zag p x < 0 then bodyT w x else []) ++ bodyL w p r
end
theorem bodyT_eq (w:Int) (u:Un):bodyT w u=ownL w u++bodyL w u u.kids:=by cases u;rw [bodyT];rfl
theorem bodyL_app (w:Int) (p:Un):∀ (l m:List Un),bodyL w p (l++m)=bodyL w p l++bodyL w p m
 | [],m=>by rw [List.nil_append,bodyL,List.nil_append]
 | x::r,m=>by rw [List.cons_append,bodyL,bodyL,bodyL_app w p r m,List.append_assoc]
theorem bodyL_step {w:Int} {p:Un} {L:List Un} {k:Nat} (h:k<L.length):bodyL w p (L.take (k+1))=bodyL w p (L.take k)++(if Zag p L[k]<0 then bodyT w L[k] else []):=by
 rw [List.take_add_one,List.getElem?_eq_getElem h,Option.toList_some,bodyL_app,bodyL,bodyL,List.append_nil]
def bodyR (w:Int) (u:Un):List Ln:=u.kids.flatMap (bodyT w)
theorem linesF_len (l:List Str):∀ (E:List Nat) (a:Nat),(Zcb l a E).length=E.length
 | [],a=>by rw [Zcb];rfl
 | e::r,a=>by rw [Zcb,List.length_cons,List.length_cons,linesF_len l r e]
theorem linesU_len (w:Int) (u:Un):(Za1 w u).length=(Za9 w (rowT u)).length:=by
 unfold Za1 linesT;by_cases h:Zbu w (rowT u)=0
 ·rw [if_pos (breakE_rises h),linesF_len]
 ·have:Za9 w (rowT u)=[]:=by unfold Za9;rw [if_neg h]
  rw [this];split<;>rfl
theorem linesU_le {u:Un} (h:SmU u) (w:Int):(Za1 w u).length≤602:=by
 rw [linesU_len];have h1:=breakE_len (w:=w) (l:=rowT u);have h2:=rowT_len u;have:=h.head.1;have:=h.words.1;omega
theorem flatMap_le {α β:Type} (f:α→List β) (M:Nat):∀ (l:List α),(∀ x∈l,(f x).length≤M)→(l.flatMap f).length≤l.length*M
 | [],_=>by simp
 | x::r,h=>by
  rw [List.flatMap_cons,List.length_append,List.length_cons,Nat.add_mul,Nat.one_mul];have h1:=h x List.mem_cons_self;have h2:=flatMap_le f M r fun y hy=>h y (List.mem_cons_of_mem _ hy);omega
theorem notesK_le {u:Un} {ks:List Un} (hs:∀ k∈ks,SmU k) (w:Int) (j:Nat):(Zcc w u j ks).length≤ks.length*602:=by
 unfold Zcc;refine Nat.le_trans (flatMap_le _ 602 _ fun k hk=>linesU_le (hs k (List.mem_filter.1 hk).1) w) ?_;exact Nat.mul_le_mul_right _ (List.length_filter_le _ _)
theorem notesR_le {u:Un} (hs:∀ k∈u.kids,SmU k) (w:Int) (a b:Nat):(Zbv w u a b).length≤(b-a)*(u.kids.length*602):=by
 unfold Zbv;have:=flatMap_le (fun j=>Zcc w u j u.kids) (u.kids.length*602) (List.range' a (b-a)) fun j _=>notesK_le hs w j
 rwa [List.length_range'] at this
theorem notesR_step (w:Int) (u:Un) {a b:Nat} (h:a≤b):Zbv w u a (b+1)=Zbv w u a b++Zcc w u b u.kids:=by
 unfold Zbv;rw [show b+1-a=(b-a)+1 by omega,List.range'_1_concat,List.flatMap_append,List.flatMap_cons,List.flatMap_nil,List.append_nil,show a+(b-a)=b by omega]
theorem notesK_step (w:Int) (u:Un) (j:Nat) {ks:List Un} {k:Nat} (h:k<ks.length):Zcc w u j (ks.take (k+1))=Zcc w u j (ks.take k)++(if Zag u ks[k]==(j:Int) then Za1 w ks[k] else []):=by
 unfold Zcc;rw [List.take_add_one,List.getElem?_eq_getElem h,Option.toList_some,List.filter_append,List.flatMap_append]
 congr 1
 cases hq:(Zag u ks[k]==(j:Int)) with
 | true=>rw [List.filter_cons_of_pos (by exact hq),if_pos rfl];simp
 | false=>rw [List.filter_cons_of_neg (by rw [hq];exact Bool.false_ne_true)];rfl
theorem ownF_len (w:Int) (u:Un) (t:Bool):∀ (l:List Str) (E:List Nat) (fr:Nat),(ownF w u t fr l E).length≤l.length
 | [],E,fr=>by rw [ownF];exact Nat.le_refl _;intros;simp_all
 | s::l,[],fr=>by rw [ownF];simp;intros;simp_all
 | s::l,e::E,fr=>by rw [ownF,List.length_cons,List.length_cons];have:=ownF_len w u t l E (toN u e);omega
theorem ownL_le {u:Un} (h:SmU u) (w:Int):(ownL w u).length≤602:=Nat.le_trans (ownF_len w u _ _ _ _) (linesU_le h w)
theorem bodyT_le {u:Un} (hu:SmT u) (w:Int):(bodyT w u).length≤602*(unitsT u).length:=by
 induction hu with
 | mk u h hk hs ih =>
  rw [bodyT_eq,Zan,List.length_append,List.length_cons];have h1:=ownL_le h w;have key:∀ L:List Un,(∀ k∈L,k∈u.kids)→(bodyL w u L).length≤602*(unitsL L).length:=by
   intro L
   induction L with
   | nil=>intro _;rw [bodyL];simp
   | cons a r ihr =>
    intro hL;rw [bodyL,unitsL,List.length_append,List.length_append];have h2:=ih a (hL a List.mem_cons_self);have h3:=ihr fun k hk=>hL k (List.mem_cons_of_mem _ hk);split
    ·omega
    ·simp;omega
  have:=key u.kids fun k hk=>hk;omega
theorem bodyL_le {u:Un} (hs:∀ k∈u.kids,SmT k) (w:Int) (p:Un):∀ L:List Un,(∀ k∈L,k∈u.kids)→(bodyL w p L).length≤602*(unitsL L).length:=by
 intro L
 induction L with
 | nil=>intro _;rw [bodyL];simp
 | cons a r ihr =>
  intro hL;rw [bodyL,unitsL,List.length_append,List.length_append];have h2:=bodyT_le (hs a (hL a List.mem_cons_self)) w;have h3:=ihr fun k hk=>hL k (List.mem_cons_of_mem _ hk);split
  ·omega
  ·simp;omega
def Zcs (w:Int) (r:Bool) (p:Un) (l:List Un):List Ln:=if r=true then l.flatMap (bodyT w) else bodyL w p l
def preB (w:Int) (r:Bool) (u:Un):List Ln:=if r=true then [] else ownL w u
def bodyB (w:Int) (r:Bool) (u:Un):List Ln:=if r=true then bodyR w u else bodyT w u
theorem bodyB_eq (w:Int) (r:Bool) (u:Un):bodyB w r u=preB w r u++Zcs w r u u.kids:=by
 unfold bodyB preB Zcs;cases r with
 | true=>rfl
 | false=>rw [if_neg Bool.false_ne_true,if_neg Bool.false_ne_true,if_neg Bool.false_ne_true];exact bodyT_eq w u
theorem kidsB_step {w:Int} {r:Bool} {p:Un} {L:List Un} {k:Nat} (h:k<L.length):Zcs w r p (L.take (k+1))=Zcs w r p (L.take k)++(if (r||decide (Zag p L[k]<0))=true then bodyT w L[k] else []):=by
 unfold Zcs;cases r with
 | true =>
  rw [if_pos rfl,if_pos rfl,Bool.true_or,if_pos rfl,List.take_add_one,List.getElem?_eq_getElem h,Option.toList_some,List.flatMap_append];simp
 | false =>
  rw [if_neg Bool.false_ne_true,if_neg Bool.false_ne_true,bodyL_step h,Bool.false_or];simp only [decide_eq_true_eq]
theorem kidsB_le {u:Un} (hu:SmT u) (w:Int) (r:Bool) (k:Nat):(Zcs w r u (u.kids.take k)).length≤602*(unitsL u.kids).length:=by
 have hs:=hu.kids.2;have hut:=unitsL_take u.kids k;unfold Zcs;cases r with
 | true =>
  rw [if_pos rfl];have key:∀ L:List Un,(∀ k∈L,k∈u.kids)→(L.flatMap (bodyT w)).length≤602*(unitsL L).length:=by
   intro L
   induction L with
   | nil=>intro _;simp
   | cons a r ihr =>
    intro hL;rw [List.flatMap_cons,unitsL,List.length_append,List.length_append];have h2:=bodyT_le (hs a (hL a List.mem_cons_self)) w;have h3:=ihr fun k hk=>hL k (List.mem_cons_of_mem _ hk);omega
  have:=key (u.kids.take k) fun x hx=>List.mem_of_mem_take hx;omega
 | false =>
  rw [if_neg Bool.false_ne_true];have:=bodyL_le hs w u (u.kids.take k) fun x hx=>List.mem_of_mem_take hx;omega
theorem preB_le {u:Un} (h:SmU u) (w:Int) (r:Bool):(preB w r u).length≤602:=by
 unfold preB;split
 ·simp
 ·exact ownL_le h w
theorem ownF_step {w:Int} {u:Un} {t:Bool} {fr i:Nat} {l:List Str} {E:List Nat} (h:i<l.length) (hE:i<E.length):ownF w u t fr (l.drop i) (E.drop i)=⟨idU u,l[i],Zbv w u fr (toN u E[i]),t&&(i+1==l.length)⟩::ownF w u t (toN u E[i]) (l.drop (i+1)) (E.drop (i+1)):=by
 have h1:l.drop i=l[i]::l.drop (i+1):=List.drop_eq_getElem_cons h;have h2:E.drop i=E[i]::E.drop (i+1):=List.drop_eq_getElem_cons hE;rw [h1,h2,ownF]
 congr 2
 congr 1
 rw [Bool.eq_iff_iff,List.isEmpty_iff,List.drop_eq_nil_iff,beq_iff_eq];omega
end Go.VM
namespace Go.VM
open Go
section
variable {α : Type} {le : α → α → Prop}
def seg (d:Nat→α) (a b:Nat):List α:=(List.range' a (b-a)).map d
theorem mem_seg {d:Nat→α} {a b:Nat} {x:α}:x∈seg d a b↔∃ i,a≤i∧i<b∧d i=x:=by
 simp only [seg,List.mem_map,List.mem_range'_1];constructor
 ·rintro ⟨i,⟨h1,h2⟩,h3⟩;exact ⟨i,h1,by omega,h3⟩
 ·rintro ⟨i,h1,h2,h3⟩;exact ⟨i,⟨h1,by omega⟩,h3⟩
theorem Zcn (d:Nat→α) {a m b:Nat} (h1:a≤m) (h2:m≤b):seg d a b=seg d a m++seg d m b:=by
 simp only [seg,← List.map_append]
 congr 1
 have:=List.range'_append_1 (s:=a) (m:=m-a) (n:=b-m);rw [show a+(m-a)=m by omega,show m-a+(b-m)=b-a by omega] at this;exact this.symm
theorem seg_congr {d d':Nat→α} {a b:Nat} (h:∀ i,a≤i→i<b→d' i=d i):seg d' a b=seg d a b:=by
 simp only [seg];refine List.map_congr_left fun i hi=>?_;have:=List.mem_range'_1.1 hi;exact h i this.1 (by omega)
theorem seg_shift {d d':Nat→α} {a b a':Nat} (h:∀ i,i<b-a→d' (a'+i)=d (a+i)):seg d' a' (a'+(b-a))=seg d a b:=by
 simp only [seg,Nat.add_sub_cancel_left];rw [List.range'_eq_map_range,List.range'_eq_map_range,List.map_map,List.map_map];refine List.map_congr_left fun i hi=>?_;exact h i (List.mem_range.1 hi)
def Srt (le:α→α→Prop) (d:Nat→α) (a b:Nat):Prop:=∀ i j,a≤i→i<j→j<b→le (d i) (d j)
def Same (d d':Nat→α) (a b:Nat):Prop:=∀ i,i<a∨b≤i→d' i=d i
structure Mrg (le : α → α → Prop) (d d' : Nat → α) (a m b : Nat) : Prop where
 out : Same d d' a b
 perm : (seg d' a b).Perm (seg d a b)
 srt : Srt le d a m → Srt le d m b → Srt le d' a b
structure Rot (d d' : Nat → α) (s m e : Nat) : Prop where
 out : Same d d' s e
 fst : ∀ i, i < e - m → d' (s + i) = d (m + i)
 snd : ∀ i, i < m - s → d' (s + (e - m) + i) = d (s + i)
theorem Rot.perm {d d':Nat→α} {s m e:Nat} (h:Rot d d' s m e) (h1:s≤m) (h2:m≤e):(seg d' s e).Perm (seg d s e):=by
 rw [Zcn d' (show s≤s+(e-m) by omega) (show s+(e-m)≤e by omega),Zcn d h1 h2];have e1:seg d' s (s+(e-m))=seg d m e:=seg_shift h.fst;have e2:seg d' (s+(e-m)) e=seg d s m:=by
  have:=seg_shift (a':=s+(e-m)) h.snd
  rwa [show s+(e-m)+(m-s)=e by omega] at this
 rw [e1,e2];exact List.perm_append_comm
structure Swp (d d' : Nat → α) (a b n : Nat) : Prop where
 fst : ∀ i, i < n → d' (a + i) = d (b + i)
 snd : ∀ i, i < n → d' (b + i) = d (a + i)
 out : ∀ i, (i < a ∨ a + n ≤ i) → (i < b ∨ b + n ≤ i) → d' i = d i
theorem Rot.last {d d':Nat→α} {m i:Nat} (hi:i≤m) (h:Swp d d' (m-i) m i):Rot d d' (m-i) m (m+i):=by
 refine ⟨fun k hk=>h.out k (by omega) (by omega),fun k hk=>h.fst k (by omega),fun k hk=>?_⟩;have:=h.snd k (by omega)
 rwa [show m-i+(m+i-m)+k=m+k by omega]
theorem Rot.left {d d1 d':Nat→α} {m i j:Nat} (hi:i≤m) (hij:j<i) (h:Swp d d1 (m-i) m j) (hr:Rot d1 d' (m-(i-j)) m (m+j)):Rot d d' (m-i) m (m+j):=by
 refine ⟨fun k hk=>?_,fun k hk=>?_,fun k hk=>?_⟩
 ·rw [hr.out k (by omega),h.out k (by omega) (by omega)]
 ·rw [hr.out _ (by omega),h.fst k (by omega)]
 ·rcases Nat.lt_or_ge k j with h1|h1
  ·have:=hr.fst k (by omega);rw [show m-i+(m+j-m)+k=m-(i-j)+k by omega,this,h.snd k h1]
  ·have:=hr.snd (k-j) (by omega);rw [show m-(i-j)+(m+j-m)+(k-j)=m-i+(m+j-m)+k by omega] at this;rw [this,show m-(i-j)+(k-j)=m-i+k by omega,h.out _ (by omega) (by omega)]
theorem Rot.right {d d1 d':Nat→α} {m i j:Nat} (hi:i≤m) (hij:i<j) (h:Swp d d1 (m-i) (m+j-i) i) (hr:Rot d1 d' (m-i) m (m+(j-i))):Rot d d' (m-i) m (m+j):=by
 refine ⟨fun k hk=>?_,fun k hk=>?_,fun k hk=>?_⟩
 ·rw [hr.out k (by omega),h.out k (by omega) (by omega)]
 ·rcases Nat.lt_or_ge k (j-i) with h1|h1
  ·rw [hr.fst k (by omega),h.out _ (by omega) (by omega)]
  ·have:=hr.snd (k-(j-i)) (by omega);rw [show m-i+(m+(j-i)-m)+(k-(j-i))=m-i+k by omega] at this;rw [this,h.fst _ (by omega)]
   congr 1;omega
 ·have:=h.snd k (by omega);rw [hr.out _ (by omega),show m-i+(m+j-m)+k=m+j-i+k by omega,this]
theorem Mrg.of_sorted {d:Nat→α} {a m b:Nat} (h:Srt le d a m→Srt le d m b→Srt le d a b):Mrg le d d a m b:=⟨fun _ _=>rfl,.refl _,h⟩
theorem Mrg.join {d d1 d2 d3 : Nat → α} {a s m e b mid : Nat} (hle : ∀ {x y z}, le x y → le y z → le x z) (h1 : a ≤ s) (h2 : s ≤ m) (h3 : m ≤ e) (h4 : e ≤ b) (hm : mid = s + (e - m))
  (hr:Rot d d1 s m e) (m1:Mrg le d1 d2 a s mid) (m2:Mrg le d2 d3 mid e b)
  (x1:Srt le d a m→Srt le d m b→s=a∨e=b∨le (d (s-1)) (d e)) (x2:Srt le d a m→Srt le d m b→s=m∨e=m∨le (d (e-1)) (d s)):Mrg le d d3 a m b:=by
 have p1:(seg d1 a b).Perm (seg d a b):=by
  rw [Zcn d1 (show a≤s by omega) (show s≤b by omega),Zcn d1 (show s≤e by omega) h4,Zcn d (show a≤s by omega) (show s≤b by omega),Zcn d (show s≤e by omega) h4,
   seg_congr (d:=d) (d':=d1) (a:=a) (b:=s) (fun i _ hi=>hr.out i (.inl hi)),seg_congr (d:=d) (d':=d1) (a:=e) (b:=b) (fun i hi _=>hr.out i (.inr hi))]
  exact (List.Perm.append_left _ ((hr.perm h2 h3).append_right _))
 have q1:seg d2 mid b=seg d1 mid b:=seg_congr fun i hi _=>m1.out i (.inr hi);have q2:seg d3 a mid=seg d2 a mid:=seg_congr fun i _ hi=>m2.out i (.inl hi);refine ⟨fun i hi=>?_,?_,fun sA sB=>?_⟩
 ·rw [m2.out i (by omega),m1.out i (by omega),hr.out i (by omega)]
 ·refine List.Perm.trans ?_ p1;rw [Zcn d3 (show a≤mid by omega) (show mid≤b by omega),Zcn d1 (show a≤mid by omega) (show mid≤b by omega),q2,← q1];exact m1.perm.append m2.perm
 ·have sl:∀ i,a≤i→i<s→d1 i=d i:=fun i _ hi=>hr.out i (.inl hi);have sr:∀ i,e≤i→i<b→d1 i=d i:=fun i hi _=>hr.out i (.inr hi);have s2:Srt le d2 a mid:=by
   refine m1.srt (fun i j hi hij hj=>?_) (fun i j hi hij hj=>?_)
   ·rw [sl i hi (by omega),sl j (by omega) hj];exact sA i j hi hij (by omega)
   ·have e1:=hr.fst (i-s) (by omega);have e2:=hr.fst (j-s) (by omega);rw [show s+(i-s)=i by omega] at e1;rw [show s+(j-s)=j by omega] at e2;rw [e1,e2];exact sB _ _ (by omega) (by omega) (by omega)
  have s3:Srt le d3 mid b:=by
   refine m2.srt (fun i j hi hij hj=>?_) (fun i j hi hij hj=>?_)
   ·rw [m1.out i (.inr hi),m1.out j (.inr (by omega))];have e1:=hr.snd (i-mid) (by omega);have e2:=hr.snd (j-mid) (by omega);rw [show s+(e-m)+(i-mid)=i by omega] at e1;rw [show s+(e-m)+(j-mid)=j by omega] at e2;rw [e1,e2];exact sA _ _ (by omega) (by omega) (by omega)
   ·rw [m1.out i (.inr (by omega)),m1.out j (.inr (by omega)),sr i hi (by omega),sr j (by omega) hj];exact sB i j (by omega) hij hj
  intro i j hi hij hj;by_cases hjm:j<mid
  ·rw [m2.out i (.inl (by omega)),m2.out j (.inl hjm)];exact s2 i j hi hij hjm
  by_cases him:mid≤i
  ·exact s3 i j him hij hj
  have xi:d3 i∈seg d1 a mid:=m1.perm.mem_iff.1 (q2▸mem_seg.2 ⟨i,hi,by omega,rfl⟩);have yj:d3 j∈seg d1 mid b:=q1▸(m2.perm.mem_iff.1 (mem_seg.2 ⟨j,by omega,hj,rfl⟩));obtain ⟨k,k1,k2,k3⟩:=mem_seg.1 xi;obtain ⟨n,n1,n2,n3⟩:=mem_seg.1 yj;rw [← k3,← n3];have lA:∀ u v,a≤u→u≤v→v<m→u=v∨le (d u) (d v):=fun u v h h' h''=>by
   rcases Nat.lt_or_ge u v with hh|hh
   ·exact .inr (sA u v h hh h'')
   ·exact .inl (by omega)
  have lB:∀ u v,m≤u→u≤v→v<b→u=v∨le (d u) (d v):=fun u v h h' h''=>by
   rcases Nat.lt_or_ge u v with hh|hh
   ·exact .inr (sB u v h hh h'')
   ·exact .inl (by omega)
  have trL:∀ u v w,(u=v∨le (d u) (d v))→le (d v) (d w)→le (d u) (d w):=fun u v w h h'=>by
   rcases h with rfl|h
   ·exact h'
   ·exact hle h h'
  have trR:∀ u v w,le (d u) (d v)→(v=w∨le (d v) (d w))→le (d u) (d w):=fun u v w h h'=>by
   rcases h' with rfl|h'
   ·exact h
   ·exact hle h h'
  have src1:(∃ u,a≤u∧u<s∧d1 k=d u)∨(∃ u,m≤u∧u<e∧d1 k=d u):=by
   by_cases hk:k<s
   ·exact .inl ⟨k,k1,hk,sl k k1 hk⟩
   ·have e1:=hr.fst (k-s) (by omega);rw [show s+(k-s)=k by omega] at e1;exact .inr ⟨m+(k-s),by omega,by omega,e1⟩
  have src2:(∃ u,s≤u∧u<m∧d1 n=d u)∨(∃ u,e≤u∧u<b∧d1 n=d u):=by
   by_cases hn:n<e
   ·have e1:=hr.snd (n-mid) (by omega);rw [show s+(e-m)+(n-mid)=n by omega] at e1;exact .inl ⟨s+(n-mid),by omega,by omega,e1⟩
   ·exact .inr ⟨n,by omega,n2,sr n (by omega) n2⟩
  rcases src1 with ⟨u,u1,u2,u3⟩|⟨u,u1,u2,u3⟩<;>rcases src2 with ⟨v,v1,v2,v3⟩|⟨v,v1,v2,v3⟩<;>rw [u3,v3]
  ·exact sA u v u1 (by omega) v2
  ·rcases x1 sA sB with h|h|h
   ·omega
   ·omega
   ·exact trR _ _ _ (trL _ _ _ (lA u (s-1) u1 (by omega) (by omega)) h) (lB e v h3 v1 v2)
  ·rcases x2 sA sB with h|h|h
   ·omega
   ·omega
   ·exact trR _ _ _ (trL _ _ _ (lB u (e-1) u1 (by omega) (by omega)) h) (lA s v h1 v1 v2)
  ·exact sB u v u1 (by omega) v2
theorem Swp.one {d:Nat→α} {d':Nat→α} {k:Nat} (h1:d' k=d (k+1)) (h2:d' (k+1)=d k) (ho:∀ i,i≠k→i≠k+1→d' i=d i):Swp d d' k (k+1) 1 :=
  ⟨fun i hi => by obtain rfl : i = 0 := by omega
                  exact h1, fun i hi => by obtain rfl : i = 0 := by omega
                                           exact h2,fun i h h'=>ho i (by omega) (by omega)⟩
theorem Swp.perm {d d':Nat→α} {k a b:Nat} (h:Swp d d' k (k+1) 1) (h1:a≤k) (h2:k+1<b):(seg d' a b).Perm (seg d a b):=by
 have hr:Rot d d' k (k+1) (k+2):=by
  refine ⟨fun i hi=>h.out i (by omega) (by omega),fun i hi=>?_,fun i hi=>?_⟩
  ·obtain rfl:i=0:=by omega
   exact h.fst 0 (by omega)
  ·obtain rfl:i=0:=by omega
   have:=h.snd 0 (by omega)
   rwa [show k+1+0=k+(k+2-(k+1))+0 by omega] at this
 rw [Zcn d' (show a≤k by omega) (show k≤b by omega),Zcn d' (show k≤k+2 by omega) (show k+2≤b by omega),Zcn d (show a≤k by omega) (show k≤b by omega),Zcn d (show k≤k+2 by omega) (show k+2≤b by omega),
  seg_congr (d:=d) (d':=d') (a:=a) (b:=k) (fun i _ hi=>h.out i (by omega) (by omega)),seg_congr (d:=d) (d':=d') (a:=k+2) (b:=b) (fun i hi _=>h.out i (by omega) (by omega))]
 exact List.Perm.append_left _ ((hr.perm (by omega) (by omega)).append_right _)
theorem Rot.refl_left (d:Nat→α) (a:Nat):Rot d d a (a+1) (a+1):=⟨fun _ _=>rfl,fun i hi=>by omega,fun i hi=>by rw [show a+(a+1-(a+1))+i=a+i by omega]⟩
theorem Rot.refl_right (d:Nat→α) (m:Nat):Rot d d m m (m+1):=⟨fun _ _=>rfl,fun i hi=>rfl,fun i hi=>by omega⟩
theorem Rot.up {d d1 d':Nat→α} {a k:Nat} (hk:a≤k) (hr:Rot d d1 a (a+1) (k+1)) (h:Swp d1 d' k (k+1) 1):Rot d d' a (a+1) (k+2):=by
 have f0:=h.fst 0 (by omega);have s0:=h.snd 0 (by omega);simp only [Nat.add_zero] at f0 s0;refine ⟨fun i hi=>?_,fun i hi=>?_,fun i hi=>?_⟩
 ·rw [h.out i (by omega) (by omega),hr.out i (by omega)]
 ·rcases Nat.lt_or_ge (a+i) k with h1|h1
  ·rw [h.out _ (by omega) (by omega),hr.fst i (by omega)]
  ·rw [show a+i=k by omega,f0,hr.out (k+1) (by omega)]
   congr 1;omega
 ·obtain rfl:i=0:=by omega
  have:=hr.snd 0 (by omega);rw [show a+(k+1-(a+1))+0=k by omega] at this;rw [show a+(k+2-(a+1))+0=k+1 by omega,s0,this]
theorem Rot.down {d d1 d':Nat→α} {m k:Nat} (hk:k+1≤m) (hr:Rot d d1 (k+1) m (m+1)) (h:Swp d1 d' k (k+1) 1):Rot d d' k m (m+1):=by
 have f0:=h.fst 0 (by omega);have s0:=h.snd 0 (by omega);simp only [Nat.add_zero] at f0 s0;refine ⟨fun i hi=>?_,fun i hi=>?_,fun i hi=>?_⟩
 ·rw [h.out i (by omega) (by omega),hr.out i (by omega)]
 ·obtain rfl:i=0:=by omega
  have:=hr.fst 0 (by omega);simp only [Nat.add_zero] at this ⊢;rw [f0,this]
 ·rcases Nat.eq_zero_or_pos i with h1|h1
  ·subst h1;rw [show k+(m+1-m)+0=k+1 by omega,s0,hr.out k (by omega)];rfl
  ·rw [h.out _ (by omega) (by omega)];have:=hr.snd (i-1) (by omega);rw [show k+1+(m+1-m)+(i-1)=k+(m+1-m)+i by omega] at this;rw [this]
   congr 1;omega
theorem Mrg.ins_left {d d':Nat→α} {a i b:Nat} (hle:∀ {x y z},le x y→le y z→le x z) (h1:a+1≤i) (h2:i≤b) (hr:Rot d d' a (a+1) i) (x1:i=b∨le (d a) (d i)) (x2:i=a+1∨le (d (i-1)) (d a)):Mrg le d d' a (a+1) b:=by
 refine Mrg.join (s:=a) (e:=i) (mid:=a+(i-(a+1))) (d2:=d') hle (by omega) (by omega) h1 h2 rfl hr (.of_sorted fun _ h=>h) (.of_sorted fun _ sB=>?_) (fun _ _=>.inl rfl) (fun _ _=>?_)
 ·intro u v hu huv hv;rcases Nat.lt_or_ge u i with hui|hui
  ·have hd:=hr.snd 0 (by omega);rw [show a+(i-(a+1))+0=u by omega,Nat.add_zero] at hd;have ho:∀ w,i≤w→d' w=d w:=fun w hw=>hr.out w (.inr hw);rw [hd,ho v (by omega)];rcases x1 with x1|x1
   ·omega
   ·rcases Nat.lt_or_ge i v with hv'|hv'
    ·have:=sB i v (Nat.le_refl _) hv' hv;rw [ho i (Nat.le_refl _),ho v (by omega)] at this;exact hle x1 this
    ·obtain rfl:v=i:=by omega
     exact x1
  ·exact sB u v hui huv hv
 ·rcases x2 with x2|x2
  ·exact .inr (.inl x2)
  ·exact .inr (.inr x2)
theorem Mrg.ins_right {d d':Nat→α} {a i m:Nat} (hle:∀ {x y z},le x y→le y z→le x z) (h1:a≤i) (h2:i≤m) (hr:Rot d d' i m (m+1)) (x1:i=a∨le (d (i-1)) (d m)) (x2:i=m∨le (d m) (d i)):Mrg le d d' a m (m+1):=by
 refine Mrg.join (s:=i) (e:=m+1) (mid:=i+(m+1-m)) (d2:=d') hle h1 h2 (by omega) (by omega) rfl hr (.of_sorted fun sA _=>?_) (.of_sorted fun h _=>h) (fun _ _=>.inr (.inl rfl)) (fun _ _=>?_)
 ·intro u v hu huv hv;rcases Nat.lt_or_ge v i with hvi|hvi
  ·exact sA u v hu huv hvi
  ·obtain rfl:v=i:=by omega
   have hd:=hr.fst 0 (by omega);simp only [Nat.add_zero] at hd;have ho:∀ w,w<v→d' w=d w:=fun w hw=>hr.out w (.inl hw);rw [hd,ho u huv];rcases x1 with x1|x1
   ·omega
   ·rcases Nat.lt_or_ge u (v-1) with hu'|hu'
    ·have:=sA u (v-1) hu hu' (by omega);rw [ho u huv,ho (v-1) (by omega)] at this;exact hle this x1
    ·obtain rfl:u=v-1:=by omega
     exact x1
 ·rcases x2 with x2|x2
  ·exact .inl x2
  ·exact .inr (.inr x2)
theorem cut_of_search {d : Nat → α} {a m b mid n s st r : Nat} (hn : n = mid + m) (hmid : a ≤ mid ∧ mid ≤ b) (hs : st ≤ s ∧ s ≤ r) (hb : s ≤ n ∧ n ≤ s + b)
  (hst:st=a∨st+b=n) (hr:r=m∨r=mid) (g1:s=st∨le (d (s-1)) (d (n-1-(s-1)))) (g2:s=r∨le (d (n-1-s)) (d s)) :
  (s=a∨n-s=b∨le (d (s-1)) (d (n-s)))∧(s=m∨n-s=m∨le (d (n-s-1)) (d s)):=by
 constructor
 ·rcases g1 with g1|g1
  ·omega
  ·rcases Nat.eq_zero_or_pos s with h0|h0
   ·omega
   ·rw [show n-1-(s-1)=n-s by omega] at g1;exact .inr (.inr g1)
 ·rcases g2 with g2|g2
  ·omega
  ·rw [show n-1-s=n-s-1 by omega] at g2;exact .inr (.inr g2)
def Ins (le:α→α→Prop) (d:Nat→α) (a i j:Nat):Prop:=∀ x y,a≤x→x<y→y≤i→y≠j→le (d x) (d y)
theorem Ins.start {d:Nat→α} {a i:Nat} (h:Srt le d a i):Ins le d a i i:=fun x y h1 h2 h3 h4=>h x y h1 h2 (by omega)
theorem Ins.step {d d':Nat→α} {a i k:Nat} (h:Ins le d a i (k+1)) (hk:k+1≤i) (ha:a≤k) (hs:Swp d d' k (k+1) 1) (hl:le (d (k+1)) (d k)):Ins le d' a i k:=by
 have f0:=hs.fst 0 (by omega);have s0:=hs.snd 0 (by omega);simp only [Nat.add_zero] at f0 s0;have ho:∀ w,w≠k→w≠k+1→d' w=d w:=fun w h1 h2=>hs.out w (by omega) (by omega);intro x y h1 h2 h3 h4;by_cases hy:y=k+1
 ·subst hy;rw [s0];by_cases hx:x=k
  ·subst hx;rw [f0];exact hl
  ·rw [ho x hx (by omega)];exact h x k h1 (by omega) (by omega) (by omega)
 ·rw [ho y h4 hy];by_cases hx:x=k
  ·subst hx;rw [f0];exact h (x+1) y (by omega) (by omega) h3 hy
  ·by_cases hx':x=k+1
   ·subst hx';rw [s0];exact h k y ha (by omega) h3 hy
   ·rw [ho x hx hx'];exact h x y h1 h2 h3 hy
theorem Ins.done {d:Nat→α} {a i j:Nat} (hle:∀ {x y z},le x y→le y z→le x z) (h:Ins le d a i j) (hj:j=a∨a<j∧le (d (j-1)) (d j)):Srt le d a (i+1):=by
 intro x y h1 h2 h3;by_cases hy:y=j
 ·subst hy;rcases hj with hj|⟨hj,hl⟩
  ·omega
  ·rcases Nat.lt_or_ge x (y-1) with h4|h4
   ·exact hle (h x (y-1) h1 h4 (by omega) (by omega)) hl
   ·obtain rfl:x=y-1:=by omega
    exact hl
 ·exact h x y h1 h2 (by omega) hy
end
end Go.VM
namespace Go.VM
open Go
section
variable {α : Type} {le : α → α → Prop}
theorem perm_sorted_eq {r:α→α→Prop}:∀ {l m:List α},l.Perm m→l.Pairwise r→m.Pairwise r→(∀ x∈l,∀ y∈l,r x y→r y x→x=y)→l=m
 | [],m,h,_,_,_=>(List.nil_perm.1 h).symm
 | x::l,[],h,_,_,_=>by have:=h.length_eq;simp at this
 | x::l,y::m,h,h1,h2,ha=>by
  have hxy:x=y:=by
   have hx:x∈y::m:=h.mem_iff.1 List.mem_cons_self;have hy:y∈x::l:=h.mem_iff.2 List.mem_cons_self;rcases List.mem_cons.1 hx with e|hx'
   ·exact e
   rcases List.mem_cons.1 hy with e|hy'
   ·exact e.symm
   exact ha x List.mem_cons_self y hy ((List.pairwise_cons.1 h1).1 y hy') ((List.pairwise_cons.1 h2).1 x hx')
  subst hxy;rw [perm_sorted_eq ((List.perm_cons x).1 h) (List.pairwise_cons.1 h1).2 (List.pairwise_cons.1 h2).2 (fun a ha' b hb'=>ha a (List.mem_cons_of_mem _ ha') b (List.mem_cons_of_mem _ hb'))]
theorem Srt.pairwise {d:Nat→α} {a b:Nat} (h:Srt le d a b):(seg d a b).Pairwise le:=by
 unfold seg;rw [List.pairwise_map];refine List.Pairwise.imp_of_mem (fun {i j} hi hj hij=>?_) List.pairwise_lt_range';have h1:=List.mem_range'_1.1 hi;have h2:=List.mem_range'_1.1 hj;exact h i j h1.1 hij (by omega)
def rowF [Inhabited α] (l:List α):Nat→α:=fun i=>l.getD i default
theorem seg_rowF [Inhabited α] (l:List α):seg (rowF l) 0 l.length=l:=by
 refine List.ext_getElem (by simp [seg]) fun i h1 h2=>?_;simp [seg,rowF,List.getD_eq_getElem?_getD,h2]
def Blk (le:α→α→Prop) (d:Nat→α) (bs lo hi:Nat):Prop:=∀ q i j,lo≤i→q*bs≤i→i<j→j<q*bs+bs→j<hi→le (d i) (d j)
theorem Blk.zero {d:Nat→α} {bs:Nat}:Blk le d bs 0 0:=fun _ _ _ _ _ _ _ h=>absurd h (Nat.not_lt_zero _)
theorem Blk.more {d d':Nat→α} {bs q0 b:Nat} (h:Blk le d bs 0 (q0*bs)) (ho:Same d d' (q0*bs) b) (hs:Srt le d' (q0*bs) b) (hb:b≤q0*bs+bs):Blk le d' bs 0 b:=by
 intro q i j _ h1 h2 h3 h4;rcases Nat.lt_or_ge q q0 with hq|hq
 ·have h5:(q+1)*bs≤q0*bs:=Nat.mul_le_mul_right bs hq;rw [Nat.add_mul,Nat.one_mul] at h5;rw [ho i (by omega),ho j (by omega)];exact h q i j (Nat.zero_le _) h1 h2 h3 (by omega)
 ·have h5:q0*bs≤q*bs:=Nat.mul_le_mul_right bs hq;exact hs i j (by omega) h2 h4
theorem Blk.merge {d d' : Nat → α} {bs q0 b n : Nat} (h1 : Blk le d (2 * bs) 0 (q0 * (2 * bs))) (h2 : Blk le d bs (q0 * (2 * bs)) n) (hbn : b ≤ n) (hb : b ≤ q0 * (2 * bs) + 2 * bs) (hbm : q0 * (2 * bs) + bs ≤ b)
  (hm:Mrg le d d' (q0*(2*bs)) (q0*(2*bs)+bs) b):Blk le d' (2*bs) 0 b∧Blk le d' bs b n:=by
 have e0:q0*(2*bs)=(2*q0)*bs:=by rw [Nat.mul_comm 2 q0,Nat.mul_assoc]
 have e1:q0*(2*bs)+bs=(2*q0+1)*bs:=by rw [Nat.add_mul,Nat.one_mul,e0]
 refine ⟨Blk.more h1 hm.out (hm.srt (fun i j x1 x2 x3=>?_) (fun i j x1 x2 x3=>?_)) hb,fun q i j x0 x1 x2 x3 x4=>?_⟩
 ·exact h2 (2*q0) i j x1 (by omega) x2 (by omega) (by omega)
 ·exact h2 (2*q0+1) i j (by omega) (by omega) x2 (by omega) (by omega)
 ·rw [hm.out i (by omega),hm.out j (by omega)];exact h2 q i j (by omega) x1 x2 x3 x4
theorem Blk.rest {d:Nat→α} {bs q0 n:Nat} (h1:Blk le d (2*bs) 0 (q0*(2*bs))) (h2:Blk le d bs (q0*(2*bs)) n) (hn:n≤q0*(2*bs)+bs):Blk le d (2*bs) 0 n:=by
 have e0:q0*(2*bs)=(2*q0)*bs:=by rw [Nat.mul_comm 2 q0,Nat.mul_assoc]
 rcases Nat.lt_or_ge n (q0*(2*bs)) with hlt|hge
 ·intro q i j x0 x1 x2 x3 x4;exact h1 q i j x0 x1 x2 x3 (by omega)
 ·exact Blk.more h1 (fun _ _=>rfl) (fun i j x1 x2 x3=>h2 (2*q0) i j x1 (by omega) x2 (by omega) x3) (by omega)
theorem Blk.all {d:Nat→α} {bs n:Nat} (h:Blk le d bs 0 n) (hn:n≤bs):Srt le d 0 n:=fun i j h1 h2 h3=>h 0 i j h1 (by omega) h2 (by omega) h3
end
end Go.VM
namespace Go.VM
open Go
def lineI (u:Un) (E:List Nat) (k:Un):Nat:=E.findIdx fun (e:Nat)=>decide (Zag u k+(2+(u.head.length:Int))<(e:Int))
def ntsP (w:Int) (u:Un) (E:List Nat) (ks:List Un) (i:Nat):List Str:=(ks.filter fun k=>decide (0≤Zag u k)&&(lineI u E k==i)).flatMap (Za1 w)
def tbP (u:Un) (ks:List Un):Bool:=ks.any fun k=>decide (Zag u k<0)
def ownQ (w:Int) (u:Un) (ks:List Un):List Ln:=(List.range (Za1 w u).length).map fun i=>⟨idU u,(Za1 w u).getD i [],ntsP w u (Za9 w (rowT u)) ks i,tbP u ks&&(i+1==(Za1 w u).length)⟩
def KeyU (u:Un):Prop:=u.kids.Pairwise fun a b=>0≤Zag u a→Zag u a≠Zag u b
theorem rises_pair {n:Nat}:∀ {E:List Nat} {a:Nat},Zbp n a E=true→E.Pairwise (·<·)∧∀ e∈E,a<e∧e≤n
  | [],_,_=>⟨.nil,fun e h=>by cases h⟩
  | x::r,a,h=>by
    rw [Zbp] at h;simp only [Bool.and_eq_true,Bool.not_eq_true',Bool.or_eq_false_iff,decide_eq_false_iff_not] at h;obtain ⟨h1,h2⟩:=rises_pair h.2;refine ⟨List.pairwise_cons.2 ⟨fun e he=>(h2 e he).1,h1⟩,fun e he=>?_⟩;rcases List.mem_cons.1 he with rfl|he
    · omega
    · have:=h2 e he;omega
theorem rises_end {n:Nat}:∀ {E:List Nat} {a x:Nat},Zbp n a E=true→a≤x→x<n→∃ e∈E,x<e
 | [],a,x,h,h1,h2=>by rw [Zbp,beq_iff_eq] at h;omega
 | e::r,a,x,h,h1,h2=>by
  rw [Zbp] at h;simp only [Bool.and_eq_true,Bool.not_eq_true',Bool.or_eq_false_iff,decide_eq_false_iff_not] at h;by_cases hx:x<e
  ·exact ⟨e,List.mem_cons_self,hx⟩
  ·obtain ⟨y,hy,hxy⟩:=rises_end h.2 (show e≤x by omega) h2;exact ⟨y,List.mem_cons_of_mem _ hy,hxy⟩
theorem calledT_lt (u k:Un):Zag u k<(u.words.length:Int)∨Zag u k = -1:=by
 unfold Zag;split
 ·rcases idxF_bd (callsB k) u.words with h|h
  ·exact .inl h.2
  ·exact .inr h
 ·exact .inr rfl
theorem lineI_lt {w:Int} {u k:Un} (hw:Zbu w (rowT u)=0) (hk:0≤Zag u k):lineI u (Za9 w (rowT u)) k<(Za9 w (rowT u)).length:=by
 have hr:=breakE_rises hw;have hlen:=rowT_len u;have hc:=calledT_lt u k;obtain ⟨e,he,hx⟩:=rises_end (x:=(Zag u k).toNat+2+u.head.length) hr (Nat.zero_le _) (by omega);refine List.findIdx_lt_length_of_exists ⟨e,he,?_⟩;rw [decide_eq_true_eq];omega
theorem ntsP_step (w:Int) (u:Un) (E:List Nat) (i:Nat) {ks:List Un} {j:Nat} (h:j<ks.length):ntsP w u E (ks.take (j+1)) i=ntsP w u E (ks.take j) i++(if (decide (0≤Zag u ks[j])&&(lineI u E ks[j]==i))=true then Za1 w ks[j] else []):=by
 unfold ntsP;rw [List.take_add_one,List.getElem?_eq_getElem h,Option.toList_some,List.filter_append,List.flatMap_append]
 congr 1
 cases hq:(decide (0≤Zag u ks[j])&&(lineI u E ks[j]==i)) with
 | true=>rw [List.filter_cons_of_pos (by exact hq),if_pos rfl];simp
 | false=>rw [List.filter_cons_of_neg (by rw [hq];exact Bool.false_ne_true)];rfl
theorem tbP_step (u:Un) {ks:List Un} {j:Nat} (h:j<ks.length):tbP u (ks.take (j+1))=(tbP u (ks.take j)||decide (Zag u ks[j]<0)):=by
 unfold tbP;rw [List.take_add_one,List.getElem?_eq_getElem h,Option.toList_some,List.any_append];simp
theorem ntsP_le {u:Un} (w:Int) (E:List Nat) {ks:List Un} (hs:∀ k∈ks,SmU k) (i:Nat):(ntsP w u E ks i).length≤ks.length*602:=by
 unfold ntsP;refine Nat.le_trans (flatMap_le _ 602 _ fun k hk=>linesU_le (hs k (List.mem_filter.1 hk).1) w) ?_;exact Nat.mul_le_mul_right _ (List.length_filter_le _ _)
def frI (u:Un) (E:List Nat) (i:Nat):Nat:=if i=0 then 0 else toN u (E.getD (i-1) 0)
theorem ownF_range {w:Int} {u:Un} {t:Bool} {l:List Str} {E:List Nat} (hE:l.length=E.length):∀ (m i:Nat),m=l.length-i→i≤l.length→ownF w u t (frI u E i) (l.drop i) (E.drop i)=(List.range' i m).map fun j=>⟨idU u,l.getD j [],Zbv w u (frI u E j) (toN u (E.getD j 0)),t&&(j+1==l.length)⟩
 | 0,i,h,h2=>by
  have:i=l.length:=by omega
  subst this;rw [List.drop_length];have:ownF w u t (frI u E l.length) [] (E.drop l.length)=[]:=by rw [ownF];intros;simp_all
  rw [this];rfl
 | m+1,i,h,h2=>by
  have hi:i<l.length:=by omega
  have hi2:i<E.length:=by omega
  have hfr:frI u E (i+1)=toN u E[i]:=by
   unfold frI;rw [if_neg (by omega),Nat.add_sub_cancel,List.getD_eq_getElem?_getD,List.getElem?_eq_getElem hi2];rfl
  rw [ownF_step hi hi2,← hfr,ownF_range hE m (i+1) (by omega) (by omega),List.range'_succ,List.map_cons]
  congr 2
  ·rw [List.getD_eq_getElem?_getD,List.getElem?_eq_getElem hi];rfl
def calF (u:Un) (ks:List Un) (a b:Nat):List Un:=(List.range' a (b-a)).flatMap fun (j:Nat)=>ks.filter fun k=>Zag u k==(j:Int)
theorem notesR_calF (w:Int) (u:Un) (a b:Nat):Zbv w u a b=(calF u u.kids a b).flatMap (Za1 w):=by
 unfold Zbv calF Zcc;rw [List.flatMap_assoc]
theorem calF_step (u:Un) (ks:List Un) {a b:Nat} (h:a≤b):calF u ks a (b+1)=calF u ks a b++ks.filter fun k=>Zag u k==(b:Int):=by
 unfold calF;rw [show b+1-a=(b-a)+1 by omega,List.range'_1_concat,List.flatMap_append,List.flatMap_cons,List.flatMap_nil,List.append_nil,show a+(b-a)=b by omega]
theorem filter_two {α:Type} {p q r:α→Bool} (h:∀ x,r x=(p x||q x)) (hd:∀ x,p x=true→q x=false):∀ l:List α,(l.filter p++l.filter q).Perm (l.filter r)
 | []=>.refl _
 | x::l=>by
  have ih:=filter_two h hd l;have hr:=h x;cases hp:p x with
  | true =>
   have hq:=hd x hp;rw [hp,Bool.true_or] at hr;rw [List.filter_cons_of_pos (by exact hp),List.filter_cons_of_neg (by rw [hq];exact Bool.false_ne_true),List.filter_cons_of_pos (by exact hr),List.cons_append];exact ih.cons x
  | false =>
   cases hq:q x with
   | true =>
    rw [hp,hq] at hr;rw [List.filter_cons_of_neg (by rw [hp];exact Bool.false_ne_true),List.filter_cons_of_pos (by exact hq),List.filter_cons_of_pos (by exact hr)];exact List.perm_middle.trans (ih.cons x)
   | false =>
    rw [hp,hq] at hr;rw [List.filter_cons_of_neg (by rw [hp];exact Bool.false_ne_true),List.filter_cons_of_neg (by rw [hq];exact Bool.false_ne_true),List.filter_cons_of_neg (by rw [hr];exact Bool.false_ne_true)];exact ih
theorem calF_perm (u:Un) (ks:List Un) (a:Nat):∀ m,(calF u ks a (a+m)).Perm (ks.filter fun k=>decide ((a:Int)≤Zag u k)&&decide (Zag u k<((a+m:Nat):Int)))
 | 0=>by
  have h1:calF u ks a (a+0)=[]:=by unfold calF;rw [Nat.add_zero,Nat.sub_self];rfl
  rw [h1];have h2:(ks.filter fun k=>decide ((a:Int)≤Zag u k)&&decide (Zag u k<((a+0:Nat):Int)))=[]:=by
   rw [List.filter_eq_nil_iff];intro x _;simp only [Bool.and_eq_true,decide_eq_true_eq];omega
  rw [h2]
 | m+1=>by
  rw [← Nat.add_assoc,calF_step u ks (by omega)];refine ((calF_perm u ks a m).append_right _).trans ?_;refine filter_two (fun x=>?_) (fun x hx=>?_) ks
  ·rw [Bool.eq_iff_iff];simp only [Bool.and_eq_true,Bool.or_eq_true,decide_eq_true_eq,beq_iff_eq];omega
  ·simp only [Bool.and_eq_true,decide_eq_true_eq] at hx;rw [beq_eq_false_iff_ne];omega
theorem key_ne {u:Un} {l:List Un} (h:l.Pairwise fun a b=>0≤Zag u a→Zag u a≠Zag u b) (j:Nat):(l.filter fun k=>Zag u k==(j:Int)).Pairwise fun a b=>Zag u a<Zag u b:=by
 refine (List.Pairwise.filter _ h).imp_of_mem fun {a b} ha hb hab=>?_;have h1:=(List.mem_filter.1 ha).2;have h2:=(List.mem_filter.1 hb).2;rw [beq_iff_eq] at h1 h2;exact absurd (h1.trans h2.symm) (hab (by omega))
theorem calF_sorted {u:Un} (h:KeyU u) (a:Nat):∀ m,(calF u u.kids a (a+m)).Pairwise fun x y=>Zag u x<Zag u y
 | 0=>by
  have h1:calF u u.kids a (a+0)=[]:=by unfold calF;rw [Nat.add_zero,Nat.sub_self];rfl
  rw [h1];exact .nil
 | m+1=>by
  rw [← Nat.add_assoc,calF_step u u.kids (by omega)];refine List.pairwise_append.2 ⟨calF_sorted h a m,key_ne h (a+m),fun x hx y hy=>?_⟩;have h1:=(List.mem_filter.1 ((calF_perm u u.kids a m).mem_iff.1 hx)).2;have h2:=(List.mem_filter.1 hy).2;simp only [Bool.and_eq_true,decide_eq_true_eq,beq_iff_eq] at h1 h2;omega
theorem nts_eq {w:Int} {u:Un} {ks:List Un} (hk:KeyU u) (hp:ks.Perm u.kids) (hs:ks.Pairwise (leU u)) {E:List Nat} (hE:E.Pairwise (·<·)) {i:Nat} (hi:i<E.length):ntsP w u E ks i=Zbv w u (frI u E i) (toN u (E.getD i 0)):=by
  have hEi:E.getD i 0=E[i]:=by rw [List.getD_eq_getElem?_getD,List.getElem?_eq_getElem hi];rfl
  rw [hEi];have hmono:∀ (x y:Nat) (hx:x<E.length) (hy:y<E.length),x<y→E[x]<E[y]:=fun x y hx hy hxy=>List.pairwise_iff_getElem.1 hE x y hx hy hxy;have hfr:frI u E i≤toN u E[i]:=by
    unfold frI;split
    · omega
    · rename_i h0
      have hi1:i-1<E.length:=by omega
      have:=hmono (i-1) i hi1 hi (by omega);rw [List.getD_eq_getElem?_getD,List.getElem?_eq_getElem hi1];unfold toN;show E[i-1]-_≤_;omega
  rw [notesR_calF];unfold ntsP
  congr 1
  have hpred:∀ k:Un,(decide (0≤Zag u k)&&(lineI u E k==i))=(decide ((frI u E i:Int)≤Zag u k)&&decide (Zag u k<((toN u E[i]:Nat):Int))):=by
    intro k;rw [Bool.eq_iff_iff];simp only [Bool.and_eq_true,decide_eq_true_eq,beq_iff_eq];have hli:lineI u E k=i↔(Zag u k+(2+(u.head.length:Int))<(E[i]:Int))∧∀ (j:Nat) (hj:j<i),¬ (Zag u k+(2+(u.head.length:Int))<(E[j]:Int)):=by
      unfold lineI;rw [List.findIdx_eq hi];simp only [decide_eq_true_eq,decide_eq_false_iff_not]
    rw [hli];have hto:∀ (e:Nat),0≤Zag u k→(Zag u k<((toN u e:Nat):Int)↔Zag u k+(2+(u.head.length:Int))<(e:Int)):=by
      intro e h0;unfold toN;omega
    constructor
    · rintro ⟨h0,h1,h2⟩
      refine ⟨?_,(hto _ h0).2 h1⟩;unfold frI;split
      · exact h0
      · rename_i hz
        have hi1:i-1<E.length:=by omega
        have:=h2 (i-1) (by omega);rw [List.getD_eq_getElem?_getD,List.getElem?_eq_getElem hi1];have h3:=(not_congr (hto E[i-1] h0)).2 this;show ((toN u E[i-1]:Nat):Int)≤_;omega
    · rintro ⟨h1,h2⟩
      have h0:0≤Zag u k:=by omega
      refine ⟨h0,(hto _ h0).1 h2,fun j hj hlt=>?_⟩;have h3:=(hto E[j] h0).2 hlt;unfold frI at h1;rw [if_neg (by omega)] at h1;have hi1:i-1<E.length:=by omega
      rw [List.getD_eq_getElem?_getD,List.getElem?_eq_getElem hi1] at h1;have h1':((toN u E[i-1]:Nat):Int)≤Zag u k:=h1;have h4:E[j]≤E[i-1]:=by
        by_cases e:j=i-1
        · subst e;exact Nat.le_refl _
        · exact Nat.le_of_lt (hmono j (i-1) (by omega) hi1 (by omega))
      unfold toN at h3 h1';omega
  have hfun:(fun k=>decide (0≤Zag u k)&&(lineI u E k==i))=fun k=>decide ((frI u E i:Int)≤Zag u k)&&decide (Zag u k<((toN u E[i]:Nat):Int)):=funext hpred;rw [hfun];obtain ⟨m,hm⟩:∃ m,toN u E[i]=frI u E i+m:=⟨toN u E[i]-frI u E i,by omega⟩;rw [hm];have hks:ks.Pairwise fun a b=>0≤Zag u a→Zag u a≠Zag u b:=by
    refine (hp.symm.pairwise_iff (fun {x y} hxy h1 h2=>?_)).1 hk;exact hxy (by rw [← h2];exact h1) h2.symm
  refine perm_sorted_eq (r:=fun x y=>Zag u x<Zag u y) ((hp.filter _).trans (calF_perm u u.kids (frI u E i) m).symm) ?_ (calF_sorted hk _ m) (fun x _ y _ h1 h2=>by omega);refine (List.Pairwise.filter _ (List.Pairwise.and hs hks)).imp_of_mem fun {a b} ha hb hab=>?_;have h1:=(List.mem_filter.1 ha).2;simp only [Bool.and_eq_true,decide_eq_true_eq] at h1;have h2:=leU_iff.1 hab.1;have h3:=hab.2 (by omega);omega
theorem ownQ_eq {w:Int} {u:Un} {ks:List Un} (hw:Zbu w (rowT u)=0) (hk:KeyU u) (hp:ks.Perm u.kids) (hs:ks.Pairwise (leU u)):ownQ w u ks=ownL w u:=by
 have hlen:=linesU_len w u;have hr:=rises_pair (breakE_rises hw);have h0:=ownF_range (w:=w) (u:=u) (t:=tiedU u) hlen (Za1 w u).length 0 (by omega) (Nat.zero_le _);have hf0:frI u (Za9 w (rowT u)) 0=0:=rfl;rw [hf0,List.drop_zero,List.drop_zero] at h0;unfold ownL ownQ;rw [h0,List.range_eq_range'];refine List.map_congr_left fun i hi=>?_;rw [List.mem_range'_1] at hi;have ht:tbP u ks=tiedU u:=by
  unfold tbP tiedU;rw [Bool.eq_iff_iff,List.any_eq_true,List.any_eq_true];constructor
  ·rintro ⟨x,h1,h2⟩;exact ⟨x,hp.mem_iff.1 h1,h2⟩
  ·rintro ⟨x,h1,h2⟩;exact ⟨x,hp.mem_iff.2 h1,h2⟩
 rw [nts_eq hk hp hs hr.1 (by omega),ht]
end Go.VM
namespace Go.Proofs.YtcgdjembdjdlhaaGreatDoor.w
open Go Go.VM
def Zby:VC:=(ZR [ZO 10 (.mv (.c (.int .i64 0)))] (.block 0 (.loop (.seq (ZR [ZM 11 10,ZM 12 3,ZO 13 (.bin .lss (.t 11) (.t 12))] (.cond (.t 13) .skip (.exit 0))) (.seq (.block 1 (.draw2 [ZM 16 0,ZM 17 1,ZM 18 10,ZO 19 (.bin .add (.t 17) (.t 18)),ZM 20 0,ZM 21 2,ZM 22 10,ZO 23 (.bin .add (.t 21) (.t 22)),ZM 24 0,ZM 25 2,ZM 26 10,ZO 27 (.bin .add (.t 25) (.t 26)),ZO 28 (.iaddr 8 (.t 24) (.t 27)),ZO 29 (.load true 8 (.t 28)),ZM 30 0,ZM 31 1,ZM 32 10,ZO 33 (.bin .add (.t 31) (.t 32)),ZO 34 (.iaddr 8 (.t 30) (.t 33)),ZO 35 (.load true 8 (.t 34)),ZO 36 (.iaddr 8 (.t 16) (.t 19)),ZN (.store 8 (.t 36) (.t 29)),ZO 37 (.iaddr 8 (.t 20) (.t 23)),ZN (.store 8 (.t 37) (.t 35))] [true,true,true,true,false,false,false,false,true,true,true,true,true,true,true,true,true,true,true,true,true,false,false,false])) (.region [ZM 14 10,ZO 15 (.bin .add (.t 14) (.c (.int .i64 1))),ZM 10 15] false))))))
def Zcg:VC:=(ZR [ZM 12 2,ZM 13 1,ZO 14 (.bin .sub (.t 12) (.t 13)),ZM 10 14] (ZR [ZM 15 3,ZM 16 2,ZO 17 (.bin .sub (.t 15) (.t 16)),ZM 11 17] (.seq (.block 0 (.loop (.seq (ZR [ZM 18 10,ZM 19 11,ZO 20 (.bin .neq (.t 18) (.t 19))] (.cond (.t 20) .skip (.exit 0))) (.block 1 (ZR [ZM 21 10,ZM 22 11,ZO 23 (.bin .gtr (.t 21) (.t 22))] (.cond (.t 23) (ZR [ZM 24 0,ZM 25 2,ZM 26 10,ZO 27 (.bin .sub (.t 25) (.t 26)),ZM 28 2,ZM 29 11,ZM 30 4,ZO 31 (.call 253 [.t 24,.t 27,.t 28,.t 29,.t 30])] (.region [ZM 32 10,ZM 33 11,ZO 34 (.bin .sub (.t 32) (.t 33)),ZM 10 34] false)) (ZR [ZM 35 0,ZM 36 2,ZM 37 10,ZO 38 (.bin .sub (.t 36) (.t 37)),ZM 39 2,ZM 40 11,ZO 41 (.bin .add (.t 39) (.t 40)),ZM 42 10,ZO 43 (.bin .sub (.t 41) (.t 42)),ZM 44 10,ZM 45 4,ZO 46 (.call 253 [.t 35,.t 38,.t 43,.t 44,.t 45])] (.region [ZM 47 11,ZM 48 10,ZO 49 (.bin .sub (.t 47) (.t 48)),ZM 11 49] false)))))))) (.region [ZM 50 0,ZM 51 2,ZM 52 10,ZO 53 (.bin .sub (.t 51) (.t 52)),ZM 54 2,ZM 55 10,ZM 56 4,ZO 57 (.call 253 [.t 50,.t 53,.t 54,.t 55,.t 56])] false))))
def rwsU (d:Nat→Un) (N:Nat):List (List PV):=(List.range N).map fun i=>(d i).enc
def updU (d:Nat→Un) (i:Nat) (x:Un):Nat→Un:=fun j=>if j=i then x else d j
theorem rws_lenU (d:Nat→Un) (N:Nat):(rwsU d N).length=N:=by simp [rwsU]
theorem Zcd {d:Nat→Un} {N i:Nat} (h:i<N):(rwsU d N).getD i []=(d i).enc:=by simp [rwsU,List.getD_eq_getElem?_getD,h]
theorem rws_setU (d:Nat→Un) (N i:Nat) (x:Un):(rwsU d N).set i x.enc=rwsU (updU d i x) N:=by
 refine List.ext_getElem (by simp [rwsU]) fun k h1 h2=>?_;simp only [rwsU,updU,List.getElem_set,List.getElem_map,List.getElem_range];by_cases h:i=k
 ·subst h;simp
 ·rw [if_neg h,if_neg (fun e=>h e.symm)]
theorem un_len8 (x:Un):x.enc.length=8:=by rw [Un.Zaf];rfl
theorem un_take8 (x:Un):x.enc.take 8=x.enc:=by rw [Un.Zaf];rfl
theorem un_drop8 (x:Un):x.enc.drop 8=[]:=by rw [Un.Zaf];rfl
theorem upd_atU (d:Nat→Un) (i:Nat) (x:Un):updU d i x i=x:=if_pos rfl
theorem upd_neU (d:Nat→Un) {i j:Nat} (x:Un) (h:j≠i):updU d i x j=d j:=if_neg h
theorem swp_moreU {d d1:Nat→Un} {a b i:Nat} (h:Swp d d1 a b i) (hd:a+i<b):Swp d (updU (updU d1 (a+i) (d1 (b+i))) (b+i) (d1 (a+i))) a b (i+1):=by
 refine ⟨fun k hk=>?_,fun k hk=>?_,fun k h1 h2=>?_⟩
 ·rw [upd_neU _ _ (by omega)];by_cases e:k=i
  ·subst e;rw [upd_atU];exact h.out _ (by omega) (by omega)
  ·rw [upd_neU _ _ (by omega)];exact h.fst k (by omega)
 ·by_cases e:k=i
  ·subst e;rw [upd_atU];exact h.out _ (by omega) (by omega)
  ·rw [upd_neU _ _ (by omega),upd_neU _ _ (by omega)];exact h.snd k (by omega)
 ·rw [upd_neU _ _ (by omega),upd_neU _ _ (by omega)];exact h.out k (by omega) (by omega)
theorem adIU {a b:Nat} (h:a+b≤4611686018427387904):IntKind.i64.wrap ((a:Int)+(b:Int))=((a+b:Nat):Int):=by rw [w64 (by omega) (by omega)];omega
theorem ad1U {a:Nat} (h:a≤4611686018427387904):IntKind.i64.wrap ((a:Int)+1)=((a+1:Nat):Int):=by rw [w64 (by omega) (by omega)];omega
theorem sbIU {a b:Nat} (h:b≤a) (h2:a≤4611686018427387904):IntKind.i64.wrap ((a:Int)-(b:Int))=((a-b:Nat):Int):=by rw [w64 (by omega) (by omega)];omega
theorem sb1U {a:Nat} (h:1≤a) (h2:a≤4611686018427387904):IntKind.i64.wrap ((a:Int)-1)=((a-1:Nat):Int):=by rw [w64 (by omega) (by omega)];omega
theorem sp_swapRangeU (F : PV) (id N a b n t : Nat) (d : Nat → Un) (hid : id < t) (hab : a + n ≤ b) (hbN : b + n ≤ N) (hN : N ≤ 1000000) :
  Zal Tryz.prog 253 [.own id 0 N,pI a,pI b,pI n,F] ⟨[(id,.arr false 8 (rwsU d N))],t⟩ (fun _ h'=>∃ d',Swp d d' a b n∧∃ t',t≤t'∧h'=⟨[(id,.arr false 8 (rwsU d' N))],t'⟩):=by
 refine Gn (vc:=Zby) [] Tryz.func253 ?_;unfold Zby;try dsimp only [ZM,ZO,ZN,ZG,ZR,ZU]
 refine Rp0 [0,1,2,3,10] ?_;refine Zab ?_;refine Zah (σ:={ s:Nat×(Nat→Un)×Nat//s.1≤n∧Swp d s.2.1 a b s.1∧t≤s.2.2 }) (fun s=>([(0,.own id 0 N),(1,pI a),(2,pI b),(3,pI n),(10,pI s.1.1)],⟨[(id,.arr false 8 (rwsU s.1.2.1 N))],s.1.2.2⟩)) (fun s=>n-s.1.1) ⟨(0,d,t),by simp only [];exact ⟨by omega,⟨fun i hi=>by omega,fun i hi=>by omega,fun _ _ _=>rfl⟩,by omega⟩⟩ ?_ ?_ ?_
 ·simp only [vmL,Nat.reduceEqDiff,reduceCtorEq]
  try first|rfl|exact ⟨rfl,rfl⟩
 ·exact Sc0
 rintro ⟨⟨i,d1,t1⟩,hi,hsw,ht⟩;simp only [] at hi hsw ht ⊢;refine Zaa ?_;refine Rp0 [0,1,2,3,10,13] ?_;refine Zac rfl (fun h1=>?_) (fun h1=>?_)
 ·refine Kp0 ?_;simp only [decide_eq_true_eq] at h1;have e1:=adIU (a:=a) (b:=i) (by omega);have e2:=adIU (a:=b) (b:=i) (by omega);refine Zaa ?_;refine Zab ?_;refine VW_draw2H [0,1,2,3,10] (by simp [Heap.le,Heap.get,HL.le,HL.get]) ?_;have g1:∀ d:Nat→Un,(rwsU d N).getD (a+i) []=(d (a+i)).enc:=fun d=>Zcd (by omega);have g2:∀ d:Nat→Un,(rwsU d N).getD (b+i) []=(d (b+i)).enc:=fun d=>Zcd (by omega);simp only [vmL,Nat.reduceEqDiff,Nat.reduceAdd,reduceCtorEq,e1,e2,g1,g2,un_take8,un_len8,un_drop8,rws_lenU,rws_setU,List.append_nil];refine Ok ?_;refine Zae [0,1,2,3,10] ?_;simp only [vmL,Nat.reduceEqDiff,reduceCtorEq,ad1U (a:=i) (by omega)];refine ⟨⟨(i+1,updU (updU d1 (a+i) (d1 (b+i))) (b+i) (d1 (a+i)),t1),by simp only [];omega,swp_moreU hsw (by omega),ht⟩,?_,?_,?_⟩
  ·exact Sc0
  ·exact Sc0
  ·simp only [];omega
 ·simp only [decide_eq_false_iff_not] at h1;refine Ep0 ?_;obtain rfl:i=n:=by omega
  exact ⟨d1,hsw,t1,ht,rfl⟩
theorem sp_rotateU (F : PV) (id N a m b t : Nat) (d : Nat → Un) (hid : id < t) (ham : a < m) (hmb : m < b) (hbN : b ≤ N) (hN : N ≤ 1000000) :
  Zal Tryz.prog 232 [.own id 0 N,pI a,pI m,pI b,F] ⟨[(id,.arr false 8 (rwsU d N))],t⟩ (fun _ h'=>∃ d',Rot d d' a m b∧∃ t',t≤t'∧h'=⟨[(id,.arr false 8 (rwsU d' N))],t'⟩):=by
 refine Gn (vc:=Zcg) [] Tryz.func232 ?_;unfold Zcg;try dsimp only [ZM,ZO,ZN,ZG,ZR,ZU]
 refine Zaa (Zae [0,2,3,4,10] ?_);simp only [vmL,Nat.reduceEqDiff,Nat.reduceAdd,reduceCtorEq,sbIU (a:=m) (b:=a) (by omega) (by omega)];refine Zaa (Zae [0,2,4,10,11] ?_);simp only [vmL,Nat.reduceEqDiff,reduceCtorEq,sbIU (a:=b) (b:=m) (by omega) (by omega)];refine Zaa ?_;refine Zab ?_;refine Zah (σ:={ s:Nat×Nat×(Nat→Un)×Nat//0<s.1∧0<s.2.1∧s.1≤m-a∧s.2.1≤b-m∧(∀ d',Rot s.2.2.1 d' (m-s.1) m (m+s.2.1)→Rot d d' a m b)∧t≤s.2.2.2 }) (fun s=>([(0,.own id 0 N),(2,pI m),(4,F),(10,pI s.1.1),(11,pI s.1.2.1)],⟨[(id,.arr false 8 (rwsU s.1.2.2.1 N))],s.1.2.2.2⟩)) (fun s=>s.1.1+s.1.2.1) ⟨(m-a,b-m,d,t),by simp only [];refine ⟨by omega,by omega,by omega,by omega,fun d' h=>?_,by omega⟩;rwa [show m-(m-a)=a by omega,show m+(b-m)=b by omega] at h⟩ ?_ ?_ ?_
 ·simp only [vmL,Nat.reduceEqDiff,reduceCtorEq]
  try first|rfl|exact ⟨rfl,rfl⟩
 ·exact Sc0
 rintro ⟨⟨i,j,d1,t1⟩,hi0,hj0,hi,hj,hsw,ht⟩;simp only [] at hi0 hj0 hi hj hsw ht ⊢;refine Zaa ?_;refine Rp0 [0,2,4,10,11,20] ?_;refine Zac rfl (fun h1=>?_) (fun h1=>?_)
 ·refine Kp0 ?_;simp only [bne_iff_ne,ne_eq,Int.natCast_inj] at h1;have e1:=sbIU (a:=m) (b:=i) (by omega) (by omega);have e2:=adIU (a:=m) (b:=j) (by omega);refine Zab ?_;refine Rp0 [0,2,4,10,11,23] ?_;refine Zac rfl (fun h2=>?_) (fun h2=>?_)
  ·simp only [decide_eq_true_eq] at h2;refine Rp1 [0,2,4,10,11] e1 ?_;refine Zal.mono (sp_swapRangeU F id N (m-i) m j t1 d1 (by omega) (by omega) (by omega) hN) ?_;rintro p h' ⟨d2,hs2,t2,ht2,rfl⟩
   skip
   refine Zae [0,2,4,10,11] ?_;simp only [vmL,Nat.reduceEqDiff,reduceCtorEq,sbIU (a:=i) (b:=j) (by omega) (by omega)];refine ⟨⟨(i-j,j,d2,t2),by simp only [];exact ⟨by omega,by omega,by omega,by omega,fun d' h=>hsw d' (Rot.left (by omega) (by omega) hs2 h),by omega⟩⟩,?_,?_,?_⟩
   ·exact Sc0
   ·exact Sc0
   ·simp only [];omega
  ·simp only [decide_eq_false_iff_not] at h2;have e3:=sbIU (a:=m+j) (b:=i) (by omega) (by omega);refine Rp1 [0,2,4,10,11] (x3 e1 e2 e3) ?_;refine Zal.mono (sp_swapRangeU F id N (m-i) (m+j-i) i t1 d1 (by omega) (by omega) (by omega) hN) ?_;rintro p h' ⟨d2,hs2,t2,ht2,rfl⟩
   skip
   refine Zae [0,2,4,10,11] ?_;simp only [vmL,Nat.reduceEqDiff,reduceCtorEq,sbIU (a:=j) (b:=i) (by omega) (by omega)];refine ⟨⟨(i,j-i,d2,t2),by simp only [];exact ⟨by omega,by omega,by omega,by omega,fun d' h=>hsw d' (Rot.right (by omega) (by omega) hs2 h),by omega⟩⟩,?_,?_,?_⟩
   ·exact Sc0
   ·exact Sc0
   ·simp only [];omega
 ·simp only [bne_eq_false_iff_eq,Int.natCast_inj] at h1;subst h1;refine Ep0 ?_;refine Zae [] ?_;simp only [vmL,Nat.reduceEqDiff,reduceCtorEq,sbIU (a:=m) (b:=i) (by omega) (by omega)];refine Zal.mono (sp_swapRangeU F id N (m-i) m i t1 d1 (by omega) (by omega) (by omega) hN) ?_;rintro p h' ⟨d2,hs2,t2,ht2,rfl⟩
  skip
  exact ⟨d2,hsw d2 (Rot.last (by omega) hs2),t2,by omega,rfl⟩
end Go.Proofs.YtcgdjembdjdlhaaGreatDoor.w
namespace Go.Proofs.YtcgdjembdjdlhaaGreatDoor.w
open Go Go.VM
def Zbj:VC:=(ZR [ZM 10 1,ZO 11 (.bin .add (.t 10) (.c (.int .i64 1))),ZM 8 11] (.block 0 (.loop (.seq (ZR [ZM 12 8,ZM 13 2,ZO 14 (.bin .lss (.t 12) (.t 13))] (.cond (.t 14) .skip (.exit 0))) (.seq (.block 1 (ZR [ZM 17 8,ZM 9 17] (.block 2 (.loop (.seq (.seq (.region [ZM 18 9,ZM 19 1,ZO 20 (.bin .gtr (.t 18) (.t 19)),ZM 21 20,ZG 22 (.mv (.t 3)) 21 true,ZG 23 (.mv (.t 0)) 21 true,ZG 24 (.mv (.t 9)) 21 true,ZG 25 (.iaddr 8 (.t 23) (.t 24)) 21 true,ZG 26 (.load true 8 (.t 25)) 21 true,ZG 27 (.mv (.t 0)) 21 true,ZG 28 (.mv (.t 9)) 21 true,ZG 29 (.bin .sub (.t 28) (.c (.int .i64 1))) 21 true,ZG 30 (.iaddr 8 (.t 27) (.t 29)) 21 true,ZG 31 (.load true 8 (.t 30)) 21 true,ZG 32 (.callv (.t 22) [.t 26,.t 31]) 21 true,ZG 33 (.bin .lss (.t 32) (.c (.int .i64 0))) 21 true,ZO 34 (.pick (.t 21) (.t 33) (.c (.bool false)))] true) (.cond (.t 34) .skip (.exit 2))) (.seq (.block 3 (.draw2 [ZM 37 0,ZM 38 9,ZM 39 0,ZM 40 9,ZO 41 (.bin .sub (.t 40) (.c (.int .i64 1))),ZM 42 0,ZM 43 9,ZO 44 (.bin .sub (.t 43) (.c (.int .i64 1))),ZO 45 (.iaddr 8 (.t 42) (.t 44)),ZO 46 (.load true 8 (.t 45)),ZM 47 0,ZM 48 9,ZO 49 (.iaddr 8 (.t 47) (.t 48)),ZO 50 (.load true 8 (.t 49)),ZO 51 (.iaddr 8 (.t 37) (.t 38)),ZN (.store 8 (.t 51) (.t 46)),ZO 52 (.iaddr 8 (.t 39) (.t 41)),ZN (.store 8 (.t 52) (.t 50))] [true,true,false,false,false,true,true,true,true,true,true,true,true,true,true,false,false,false])) (.region [ZM 35 9,ZO 36 (.bin .sub (.t 35) (.c (.int .i64 1))),ZM 9 36] false))))))) (.region [ZM 15 8,ZO 16 (.bin .add (.t 15) (.c (.int .i64 1))),ZM 8 16] false))))))
theorem swp_oneU (d:Nat→Un) (k:Nat):Swp d (updU (updU d (k+1) (d k)) k (d (k+1))) k (k+1) 1 :=
 Swp.one (upd_atU _ _ _) (by rw [upd_neU _ _ (by omega),upd_atU]) (fun i h1 h2=>by rw [upd_neU _ _ h1,upd_neU _ _ h2])
theorem swp_oneU' (d:Nat→Un) (k:Nat):Swp d (updU (updU d k (d (k+1))) (k+1) (d k)) k (k+1) 1 :=
 Swp.one (by rw [upd_neU _ _ (by omega),upd_atU]) (upd_atU _ _ _) (fun i h1 h2=>by rw [upd_neU _ _ h2,upd_neU _ _ h1])
theorem swp_sameU {d d' d0:Nat→Un} {k a b:Nat} (h:Swp d d' k (k+1) 1) (hs:Same d0 d a b) (h1:a≤k) (h2:k+1<b):Same d0 d' a b:=fun i hi=>by
 rw [h.out i (by omega) (by omega)];exact hs i hi
theorem srt_oneU {u:Un} (d:Nat→Un) (a:Nat):Srt (leU u) d a (a+1):=fun i j h1 h2 h3=>by omega
theorem sp_insertionU {u : Un} (hu : SmU u) (id N a b t : Nat) (d : Nat → Un) (hid : id < t) (hab : a ≤ b) (hbN : b ≤ N) (hN : N ≤ 1000000) :
  Zal Tryz.prog 213 [.own id 0 N,pI a,pI b,.fn (.func 119) [] [.ro u.enc]] ⟨[(id,.arr false 8 (rwsU d N))],t⟩
   (fun _ h'=>∃ d',(Same d d' a b∧(seg d' a b).Perm (seg d a b)∧Srt (leU u) d' a b)∧∃ t',t≤t'∧h'=⟨[(id,.arr false 8 (rwsU d' N))],t'⟩):=by
 refine Gn (vc:=Zbj) [] Tryz.func213 ?_;unfold Zbj;try dsimp only [ZM,ZO,ZN,ZG,ZR,ZU]
 refine Zaa (Zae [0,1,2,3,8] ?_);simp only [vmL,Nat.reduceEqDiff,Nat.reduceAdd,reduceCtorEq,ad1U (a:=a) (by omega)];refine Zab ?_;refine Zah (σ:={ s:Nat×(Nat→Un)×Nat//a+1≤s.1∧(s.1≤b∨s.1=a+1)∧Same d s.2.1 a b∧(seg s.2.1 a b).Perm (seg d a b)∧Srt (leU u) s.2.1 a s.1∧t≤s.2.2 }) (fun s=>([(0,.own id 0 N),(1,pI a),(2,pI b),(3,.fn (.func 119) [] [.ro u.enc]),(8,pI s.1.1)],⟨[(id,.arr false 8 (rwsU s.1.2.1 N))],s.1.2.2⟩)) (fun s=>b-s.1.1) ⟨(a+1,d,t),⟨Nat.le_refl _,.inr rfl,fun _ _=>rfl,.refl _,srt_oneU d a,Nat.le_refl _⟩⟩ ?_ ?_ ?_
 ·simp only [vmL,Nat.reduceEqDiff,reduceCtorEq]
  try first|rfl|exact ⟨rfl,rfl⟩
 ·exact Sc0
 rintro ⟨⟨i,d1,t1⟩,hi,hib,hsm,hpm,hsr,ht⟩;simp only [] at hi hib hsm hpm hsr ht ⊢;refine Zaa ?_;refine Rp0 [0,1,2,3,8,14] ?_;refine Zac rfl (fun h1=>?_) (fun h1=>?_)
 ·refine Kp0 ?_;simp only [decide_eq_true_eq] at h1;have ib:i<b:=by omega
  refine Zaa ?_;refine Zab ?_;refine Rp0 [0,1,2,3,8,9] ?_;refine Zab ?_;refine Zah (σ:={ s:Nat×(Nat→Un)×Nat//a≤s.1∧s.1≤i∧Same d s.2.1 a b∧(seg s.2.1 a b).Perm (seg d a b)∧Ins (leU u) s.2.1 a i s.1∧t≤s.2.2 }) (fun s=>([(0,.own id 0 N),(1,pI a),(2,pI b),(3,.fn (.func 119) [] [.ro u.enc]),(8,pI i),(9,pI s.1.1)],⟨[(id,.arr false 8 (rwsU s.1.2.1 N))],s.1.2.2⟩)) (fun s=>s.1.1) ⟨(i,d1,t1),by simp only [];exact ⟨by omega,by omega,hsm,hpm,Ins.start hsr,ht⟩⟩ ?_ ?_ ?_
  ·simp only [vmL,Nat.reduceEqDiff,reduceCtorEq]
   try first|rfl|exact ⟨rfl,rfl⟩
  ·exact Sc0
  rintro ⟨⟨j,d2,t2⟩,haj,hji,hsm2,hpm2,hins,ht2⟩;simp only [] at haj hji hsm2 hpm2 hins ht2 ⊢;refine Zaa ?_;by_cases hj:a<j
  ·obtain ⟨k,rfl⟩:∃ k,j=k+1:=⟨j-1,by omega⟩;have g1:∀ d:Nat→Un,(rwsU d N).getD k []=(d k).enc:=fun d=>Zcd (by omega);have g2:∀ d:Nat→Un,(rwsU d N).getD (k+1) []=(d (k+1)).enc:=fun d=>Zcd (by omega);have e0:decide ((a:Int)<((k+1:Nat):Int))=true:=decide_eq_true (by omega);have e1:IntKind.i64.wrap (((k+1:Nat):Int)-1)=((k:Nat):Int):=by rw [w64 (by omega) (by omega)];omega
   refine Zaa (VW_drawS [0,1,2,3,8,9,34] (by simp [Heap.le,Heap.get,HL.le,HL.get]) ?_);simp only [vmL,Nat.reduceEqDiff,reduceCtorEq,e0,e1,g1,g2,un_take8,un_len8,rws_lenU];refine Ok ?_;refine ⟨_,.inl (sp_own_1 hu ..),?_⟩;refine Sp1 @cmpU_lt ?_;refine Zac rfl (fun h2=>?_) (fun h2=>?_)
   ·refine Kp0 ?_;refine Zaa ?_;refine Zab ?_;refine VW_draw2H [0,1,2,3,8,9] (by simp [Heap.le,Heap.get,HL.le,HL.get]) ?_;simp only [vmL,Nat.reduceEqDiff,Nat.reduceAdd,reduceCtorEq,e1,g1,g2,un_take8,un_len8,un_drop8,rws_lenU,rws_setU,List.append_nil];refine Ok ?_;refine rp1 [0,1,2,3,8,9] e1 ?_;have hs:=swp_oneU d2 k;refine ⟨⟨(k,updU (updU d2 (k+1) (d2 k)) k (d2 (k+1)),t2),by simp only [];exact ⟨by omega,by omega,swp_sameU hs hsm2 (by omega) (by omega),(hs.perm (by omega) (by omega)).trans hpm2,hins.step (by omega) (by omega) hs (leU_of_ahead h2),ht2⟩⟩,?_,?_,?_⟩
    ·exact Sc0
    ·exact Sc0
    ·simp only [];omega
   ·refine Ep0 ?_;refine Zae [0,1,2,3,8] ?_;simp only [vmL,Nat.reduceEqDiff,reduceCtorEq,ad1U (a:=i) (by omega)];refine ⟨⟨(i+1,d2,t2),by simp only [];exact ⟨by omega,by omega,hsm2,hpm2,hins.done leU_trans (.inr ⟨hj,h2⟩),ht2⟩⟩,?_,?_,?_⟩
    ·exact Sc0
    ·exact Sc0
    ·simp only [];omega
  ·obtain rfl:j=a:=by omega
   have e0:decide ((j:Int)<(j:Int))=false:=decide_eq_false (by omega);refine Zaa (VW_drawS [0,1,2,3,8,9,34] (by simp [Heap.le,Heap.get,HL.le,HL.get]) ?_);refine Sp1 e0 ?_;refine Zac rfl (fun h2=>by cases h2) (fun h2=>?_);refine Ep0 ?_;refine Zae [0,1,2,3,8] ?_;simp only [vmL,Nat.reduceEqDiff,reduceCtorEq,ad1U (a:=i) (by omega)];refine ⟨⟨(i+1,d2,t2),by simp only [];exact ⟨by omega,by omega,hsm2,hpm2,hins.done leU_trans (.inl rfl),ht2⟩⟩,?_,?_,?_⟩
   ·exact Sc0
   ·exact Sc0
   ·simp only [];omega
 ·simp only [decide_eq_false_iff_not] at h1;refine Ep0 ?_;exact ⟨d1,⟨hsm,hpm,fun x y h2 h3 h4=>hsr x y h2 h3 (by omega)⟩,t1,ht,rfl⟩
end Go.Proofs.YtcgdjembdjdlhaaGreatDoor.w
