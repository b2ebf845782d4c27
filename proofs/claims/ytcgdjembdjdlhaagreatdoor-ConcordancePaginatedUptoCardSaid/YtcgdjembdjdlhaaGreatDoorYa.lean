import Derived.Test.YtcgdjembdjdlhaaGreatDoorC0
import Derived.Test.YtcgdjembdjdlhaaGreatDoorVmPk
import Derived.Test.YtcgdjembdjdlhaaGreatDoorJn
import Derived.Test.YtcgdjembdjdlhaaGreatDoorY4
import Derived.Test.YtcgdjembdjdlhaaGreatDoorY1
import Derived.Test.YtcgdjembdjdlhaaGreatDoorVmAu
import Derived.Test.YtcgdjembdjdlhaaGreatDoorVmD
import Derived.Lib.ItoaNum
import Derived.Lib.Atoi
import Derived.Sort.Walk0
import Derived.Shelf.GgClosure.StringsIndexFunc
import Derived.Lib.Repeat
import Derived.Test.YtcgdjembdjdlhaaGreatDoorV0
import Derived.Test.YtcgdjembdjdlhaaGreatDoorShAll
set_option linter.all false
set_option maxRecDepth 20000
set_option maxHeartbeats 0
namespace Go.VM
open Go
def rowT (u:Un):List Str:=Zcm u.kind::u.label::(u.head++u.words).map fun w=>w.text
theorem nameK_len (k:Int):(Zcm k).length≤9:=by
 unfold Zcm;split
 rotate_left
 ·simp
 ·rw [Zx1];cases h:Zbe[k.toNat]? with
  | none=>simp
  | some x=>exact (by decide:∀ y∈Zbe,y.length≤9) x (List.mem_of_getElem? h)
theorem rowT_len (u:Un):(rowT u).length=u.head.length+u.words.length+2:=by unfold rowT;simp
theorem rowT_mem {u:Un} (h:SmU u):∀ s∈rowT u,s.length≤1000:=by
 intro s hs;unfold rowT at hs;rcases List.mem_cons.1 hs with rfl|hs
 ·have:=nameK_len u.kind;omega
 rcases List.mem_cons.1 hs with rfl|hs
 ·have:=h.label;omega
 obtain ⟨w,hw,rfl⟩:=List.mem_map.1 hs;rcases List.mem_append.1 hw with hw|hw
 ·have:=h.head.2 w hw;omega
 ·have:=h.words.2 w hw;omega
def Zaz (w:Int) (u:Un):List Str:=linesT (rowT u) (Zbu w (rowT u))
end Go.VM
namespace Go.Proofs.w
open Go Go.VM
def c_paginate_row:VC:=(ZR [ZO 1 (.box 8 (.t 0)),ZO 2 (.mv (.c .nilsl))] (.seq (.region [ZO 6 (.faddr 3 (.t 1)),ZO 7 (.load false 1 (.t 6)),ZO 8 (.call 40 [.t 7]),ZO 9 (.faddr 4 (.t 1)),ZO 10 (.load false 1 (.t 9)),ZO 11 (.bslice 1 2 [(.str [])] [(0,(.t 8)),(1,(.t 10))]),ZM 3 11] true) (.seq (ZR [ZO 12 (.faddr 5 (.t 1)),ZO 13 (.load false 1 (.t 12)),ZO 14 (.faddr 6 (.t 1)),ZO 15 (.load false 1 (.t 14)),ZO 16 (.bslice 1 2 [.nilsl] [(0,(.t 13)),(1,(.t 15))]),ZO 17 (.call 133 [.t 16]),ZO 18 (.len false (.t 17)),ZO 19 (.mv (.c (.int .i64 0)))] (.block 0 (.loop (ZR [ZO 20 (.bin .lss (.t 19) (.t 18))] (.seq (.cond (.t 20) .skip (.exit 0)) (.seq (.block 1 (ZR [ZO 21 (.iaddr 4 (.t 17) (.t 19)),ZO 22 (.load true 4 (.t 21)),ZO 5 (.alloc [(.str []),.int .i64 0,.int .i64 0,.int .i64 0]),ZN (.store 4 (.t 5) (.t 22))] (.region [ZM 23 3,ZO 24 (.faddr 0 (.t 5)),ZO 25 (.load false 1 (.t 24)),ZO 26 (.bslice 1 1 [(.str [])] [(0,(.t 25))]),ZO 27 (.app 1 16 [(.str [])] false (.t 23) (.t 26)),ZM 3 27] false))) (.region [ZO 28 (.bin .add (.t 19) (.c (.int .i64 1))),ZM 19 28] false))))))) (ZR [ZM 29 3,ZM 2 29] .ret))))
def c_paginate_broken:VC:=(ZR [ZO 2 (.box 8 (.t 0)),ZO 4 (.mv (.c .nilsl)),ZO 5 (.mv (.c .nilsl))] (ZR [ZO 9 (.load true 8 (.t 2)),ZO 10 (.call 74 [.t 9]),ZM 6 10] (ZR [ZM 12 1,ZM 13 6,ZO 14 (.call 75 [.t 12,.t 13]),ZM 11 14,ZO 15 (.ext (.t 11) 0),ZO 16 (.ext (.t 11) 1),ZM 7 15,ZM 8 16] (ZR [ZM 17 7,ZM 18 6,ZO 19 (.call 76 [.t 17,.t 18]),ZM 20 7,ZM 4 19,ZM 5 20] .ret))))
theorem sp_pag_row (u:Un) (hh:u.head.length≤300) (hw:u.words.length≤300):Zam Tryz.prog 74 [.agg u.enc] (It.strs (rowT u)):=by
 have NK:=sp_KindName u.kind;refine Zad ?_ (Zbd _) (by intro y hy;rw [List.mem_singleton] at hy;subst hy;exact Zao _);refine Gn (vc:=c_paginate_row) [.t 2] Tryz.func74 ?_;unfold c_paginate_row;try dsimp only [ZM,ZO,ZN,ZG,ZR,ZU]
 have hue:=Un.Zaf u;rw [hue];have hWl:((u.head++u.words).map Wd.enc)=u.head.map Wd.enc++u.words.map Wd.enc:=List.map_append;have hT:rowT u=Zcm u.kind::u.label::(u.head++u.words).map fun w=>w.text:=rfl;generalize rowT u=T at hT ⊢;unfold It.strs;refine Rp0 [1,2] ?_;refine Zaw [(1,.ro [pI u.act,pI u.item,pI u.n,pI u.kind,.str u.label,.sl 4 (u.head.map Wd.enc),.sl 4 (u.words.map Wd.enc),.sl 8 (u.kids.map Un.enc)])] ⟨View.loc (z:=8) (fz:=false) (es:=[[pI u.act,pI u.item,pI u.n,pI u.kind,.str u.label,.sl 4 (u.head.map Wd.enc),.sl 4 (u.words.map Wd.enc),.sl 8 (u.kids.map Un.enc)]]) rfl (by simp) rfl (by simp),trivial⟩ ?_;refine Zaa (VW_drawO 5 ⟨[],20⟩ [1,3] rfl (by simp [Heap.le,HL.le]) ?_);simp only [vmL,Nat.reduceEqDiff,Nat.reduceAdd,Nat.reduceLT,Nat.reduceLeDiff,DrawC_nil,DrawC_at,DrawC_n,Nat.reduceBEq];refine ⟨_,.inl NK,?_⟩;try simp only [vmL,DrawC_nil,DrawC_at,DrawC_n,Nat.reduceBEq]
 generalize Zcm u.kind=nm at hT ⊢;generalize u.label=lb at hT ⊢;have CC:=fun id t L2 h1 h2 h3 h4=>sp_Concat_Word id t L2 h1 h2 h3 h4 [u.head.map Wd.enc,u.words.map Wd.enc] (by simp) (by simp [Zbb];omega);have hRl:(u.head.map Wd.enc++u.words.map Wd.enc).length≤600:=by rw [Zx5,List.length_map,List.length_map];omega
 simp only [List.map_cons,List.map_nil,enW,List.flatten_cons,List.flatten_nil,List.append_nil,List.length_cons,List.length_nil] at CC;refine Zaa ?_;refine Rp0 [3,17,18,19] ?_;refine Zal.mono (CC 2 3 [(1,.arr false 1 [[.str nm],[.str lb]])] (by omega) (by simp) (by simp [Nod]) (by simp [Off])) ?_;rintro p h' ⟨i2,t0,hi2,hi2t,h3i,rfl,rfl⟩;rw [← hWl] at hRl ⊢;generalize u.head++u.words=W at hRl hT ⊢;rw [List.length_map] at hRl;have qq:=N4 1 2 i2 t0;refine Sp1 @xlm ?_;refine Zab ?_;refine Zak (σ:={ x:Nat×List Str×Nat×Nat//x.1≤W.length∧x.2.1.length≤x.1+2∧(x.2.2.1<x.2.2.2∧i2<x.2.2.2∧x.2.2.1≠i2)∧T=x.2.1++(W.drop x.1).map fun w=>w.text }) (fun x=>([(3,.own x.1.2.2.1 0 x.1.2.1.length),(17,.own i2 0 W.length),(18,pI W.length),(19,pI x.1.1)],⟨[(x.1.2.2.1,.arr false 1 (x.1.2.1.map fun s=>[PV.str s])),(i2,.arr false 4 (W.map Wd.enc))],x.1.2.2.2⟩)) (fun x=>W.length-x.1.1) ⟨(0,[nm,lb],1,t0),Nat.zero_le _,by simp,by simp only [];omega,hT⟩ ?_ ?_ ?_
 ·exact Fn1 qq
 ·exact Sr1 qq
 rintro ⟨⟨k,acc,id,t⟩,hk,hac,hid,hen⟩;simp only [] at hk hac hid hen ⊢;have qq:=N5 id i2 t (t+1) (t+1+1);refine Rp1 [3,17,18,19,20] qq ?_;refine Zaa ?_;refine Zac rfl (fun h1=>?_) (fun h1=>?_)
 ·have ka:k<W.length:=by simp only [Zx3] at h1;omega
  have hrow:(W.map Wd.enc).getD k []=W[k].enc:=rowm ka;have hd:W.drop k=W[k]::W.drop (k+1):=List.drop_eq_getElem_cons ka;rw [hd,List.map_cons] at hen;generalize W[k]=v at hrow hen;have hve:v.enc=[.str v.text,pI v.act,pI v.item,pI v.at']:=rfl;rw [hve] at hrow;generalize v.text=s at hrow hen;refine Kp0 ?_;refine Zaa ?_;refine Zab ?_;refine Rp1 [3,5,17,18,19] (x3 @xlm hrow qq) ?_;refine Ok ?_;have hale:(acc.map fun s=>[PV.str s]).length=acc.length:=List.length_map _;have hatk:List.take acc.length (acc.map fun s=>[PV.str s])=acc.map fun s=>[PV.str s]:=List.take_of_length_le (by omega);have haccE:(acc++[s]).map (fun s=>[PV.str s])=acc.map (fun s=>[PV.str s])++[[PV.str s]]:=by rw [List.map_append];rfl
  have haccL:(acc++[s]).length=acc.length+1:=by simp
  refine rp1 [3,17,18,19] (x3 hale hatk qq) ?_;refine ⟨by omega,by omega,?_⟩;refine rp1 [3,17,18,19] (x2 (ad1 (a:=k) (by omega)) qq) ?_;refine ⟨⟨(k+1,acc++[s],t+2,t+3),ka,by show (acc++[s]).length≤k+1+2;omega,by simp only [];omega,by show T=acc++[s]++_;rw [hen];simp⟩,?_⟩;simp only [haccE,haccL]
  all_goals exact Fn1 qq
 ·have ka:k=W.length:=by simp only [Zx2] at h1;omega
  subst ka;rw [List.drop_length,List.map_nil,List.append_nil] at hen;subst hen;refine Ep1 qq ?_;refine Rp1 [2] qq ?_;refine Tp0 ?_;exact View.own_all (fz:=false) (by simp [Heap.get,HL.get]) (by rw [List.length_map])
theorem closed_lne (l:List Str) (E:List Nat):Closed (.tup [It.strs l,endsV E]):=Zbl (by simp only [List.mem_cons,List.not_mem_nil,or_false,forall_eq_or_imp,forall_eq];exact ⟨Zbd _,closed_ends _⟩)
theorem closed_uw (u:Un) (w:Int):Zax [.agg u.enc,pI w]:=by
 intro y hy;simp only [List.mem_cons,List.not_mem_nil,or_false] at hy;rcases hy with rfl|rfl
 ·exact Zao _
 ·exact cI _
theorem sp_pag_broken {u:Un} (h:SmU u) (w:Int):Zam Tryz.prog 45 [.agg u.enc,pI w] (.tup [It.strs (Zaz w u),endsV (Zbu w (rowT u))]):=by
 have hl:=rowT_len u;have h1:=h.head.1;have h2:=h.words.1;have R:=sp_pag_row u h1 h2;have B:=sp_lb_Break w (rowT u) (by omega);have hbl:=breakE_len (w:=w) (l:=rowT u);have LN:=sp_lb_Lines (rowT u) (Zbu w (rowT u)) (by omega) (rowT_mem h) (by omega);refine Zad ?_ (closed_lne _ _) (closed_uw _ _);refine Gn (vc:=c_paginate_broken) [.t 4,.t 5] Tryz.func45 ?_;unfold c_paginate_broken;try dsimp only [ZM,ZO,ZN,ZG,ZR,ZU]
 unfold Zaz;generalize hE:Zbu w (rowT u)=E at B LN hbl ⊢;generalize linesT (rowT u) E=LT at LN ⊢;generalize rowT u=T at R B LN ⊢;unfold It.strs endsV at *;rw [Un.Zaf] at R ⊢;refine Rp0 [1,2] ?_;refine Rp0 [1,6] ?_;refine Zaq R ?_;refine Rp0 [6,7] ?_;refine Ap0 B ?_;refine Rp0 [4,5] ?_;refine Zaq LN ?_;exact Tv0
end Go.Proofs.w
namespace Go.VM
open Go
def isD (b:UInt8):Bool:=decide (48≤b.toNat)&&decide (b.toNat≤57)
def isU (b:UInt8):Bool:=decide (65≤b.toNat)&&decide (b.toNat≤90)
def dgs (s:Str):Str:=s.takeWhile isD
def caps (s:Str):Str:=s.dropWhile isD
def may (s:Str):Bool:=decide (1≤(dgs s).length)&&decide ((dgs s).length≤4)&&(s.head? != some 48)&&decide ((caps s).length≤3)&&(caps s).all isU
theorem dgs_caps (s:Str):dgs s++caps s=s:=List.takeWhile_append_dropWhile
theorem dgs_len (s:Str):(dgs s).length+(caps s).length=s.length:=by rw [← Zx5,dgs_caps]
theorem caps_drop (s:Str):caps s=s.drop (dgs s).length:=by
 have h:(dgs s++caps s).drop (dgs s).length=caps s:=List.drop_left;rw [dgs_caps] at h;exact h.symm
theorem dgs_take (s:Str):dgs s=s.take (dgs s).length:=by
 have h:(dgs s++caps s).take (dgs s).length=dgs s:=List.take_left;rw [dgs_caps] at h;exact h.symm
theorem ofNat_toNat {k:Nat} (h:k<256):(UInt8.ofNat k).toNat=k:=by simp [UInt8.toNat_ofNat'];omega
theorem dgs_le (s:Str):(dgs s).length≤s.length:=by rw [← dgs_len s];omega
theorem u8_inj {a b:UInt8} (h:a.toNat=b.toNat):a=b:=UInt8.toNat_inj.1 h
theorem head_getD {s:Str} (h:s≠[]):(s.head? != some 48) = !decide ((s.getD 0 0).toNat=48):=by
 cases s with
 | nil=>exact absurd rfl h
 | cons b r =>
  simp only [List.head?_cons,List.getD_cons_zero];by_cases e:b=48
  ·subst e;rfl
  ·have:b.toNat≠48:=fun h=>e (u8_inj h);simp [e,this]
theorem decode_low (s:ByteArray) (i:Nat) (h:(s.get! i).toNat<128):Utf8.decode s i=((s.get! i).toNat,1):=by
 simp [Utf8.decode,h]
theorem decode_high (s:ByteArray) (i:Nat) (h:¬ (s.get! i).toNat<128):128≤(Utf8.decode s i).1:=by
 have h':¬ (s.get! (i+0)).toNat<0x80:=h;unfold Utf8.decode;simp only [h',if_false,Utf8.runeError]
 repeat' split
 all_goals first|omega|(simp only [];omega)|(simp_all;omega)|skip
def onRune (q:UInt8→Bool) (x:Nat):Bool:=decide (x<128)&&q (UInt8.ofNat x)
theorem get!_at (s:ByteArray) (i:Nat) (h:i<s.size):s.get! i=s.data.toList[i]'(by simpa using h):=by
 have h2:i<s.data.size:=h;have:s.get! i=s.data[i]!:=rfl;rw [this,getElem!_pos s.data i h2,Array.getElem_toList]
theorem idx_from (q : UInt8 → Bool) (hq : ∀ b, q b = true → b.toNat < 128) (s : ByteArray) : ∀ (f pos : Nat), s.size ≤ pos + f → pos ≤ s.size →
  Lib.idxFuncFrom (fun x=>!(onRune q x)) true s f pos=(let k:=pos+((s.data.toList.drop pos).takeWhile q).length;if k<s.size then (k:Int) else -1)
 | f,pos,hf,hp=>by
  by_cases hlt:pos<s.size
  ·obtain ⟨f',rfl⟩:∃ f',f=f'+1:=⟨f-1,by omega⟩;have hl:pos<s.data.toList.length:=by simpa using hlt
   rw [List.drop_eq_getElem_cons hl,List.takeWhile_cons];have hg:=get!_at s pos hlt;rw [← hg];simp only [Lib.idxFuncFrom,hlt,if_true];by_cases h1:(s.get! pos).toNat<128
   ·rw [decode_low s pos h1];have e1:onRune q (s.get! pos).toNat=q (s.get! pos):=by simp [onRune,h1]
    simp only [e1];by_cases h2:q (s.get! pos)=true
    ·rw [h2];simp only [Bool.not_true,Bool.false_eq_true,if_false,if_true];rw [idx_from q hq s f' (pos+1) (by omega) (by omega)];simp only [List.length_cons];rw [show pos+1+((s.data.toList.drop (pos+1)).takeWhile q).length=pos+(((s.data.toList.drop (pos+1)).takeWhile q).length+1) by omega]
    ·rw [Bool.not_eq_true] at h2;rw [h2];simp [hlt]
   ·have h2:=decode_high s pos h1;have e1:onRune q (Utf8.decode s pos).1=false:=by simp [onRune];omega
    have e2:q (s.get! pos)=false:=by
     cases e:q (s.get! pos) with
     | false=>rfl
     | true=>exact absurd (hq _ e) h1
    simp [e1,e2,hlt]
  ·have e1:s.data.toList.drop pos=[]:=List.drop_eq_nil_of_le (by simp;exact Nat.le_of_not_lt hlt);rw [Lib.idxFuncFrom_end _ _ _ _ _ hlt,e1];exact (if_neg (by simpa using hlt)).symm
theorem idx_bytes (q:UInt8→Bool) (hq:∀ b,q b=true→b.toNat<128) (l:Str):Lib.idxFunc (fun x=>!(onRune q x)) true ⟨l.toArray⟩=if (l.takeWhile q).length<l.length then ((l.takeWhile q).length:Int) else -1:=by
 have e0:(⟨l.toArray⟩:ByteArray).size=l.length:=by show l.toArray.size=_;simp
 have:=idx_from q hq ⟨l.toArray⟩ l.length 0 (by rw [e0];omega) (by omega);unfold Lib.idxFunc;rw [e0,this,e0];simp
theorem isD_low (b:UInt8) (h:isD b=true):b.toNat<128:=by simp [isD] at h;omega
theorem isU_low (b:UInt8) (h:isU b=true):b.toNat<128:=by simp [isU] at h;omega
theorem idx_digits (s:Str):Lib.idxFunc (fun x=>!(onRune isD x)) true ⟨s.toArray⟩=if (dgs s).length<s.length then ((dgs s).length:Int) else -1:=idx_bytes isD isD_low s
theorem takeWhile_all {q:UInt8→Bool}:∀ {l:Str},(l.takeWhile q).length<l.length↔l.all q=false
 | []=>by simp
 | a::r=>by
  rw [List.takeWhile_cons];by_cases h:q a=true
  ·rw [if_pos h,List.length_cons,List.length_cons,Nat.succ_lt_succ_iff,takeWhile_all,List.all_cons,h,Bool.true_and]
  ·rw [Bool.not_eq_true] at h;simp [h]
theorem idx_caps (s:Str):decide (0≤Lib.idxFunc (fun x=>!(onRune isU x)) true ⟨s.toArray⟩) = !(s.all isU):=by
 rw [idx_bytes isU isU_low];by_cases h:(s.takeWhile isU).length<s.length
 ·rw [if_pos h,takeWhile_all.1 h];simp
 ·rw [if_neg h];have:s.all isU=true:=by
   cases e:s.all isU with
   | true=>rfl
   | false=>exact absurd (takeWhile_all.2 e) h
  rw [this];simp
end Go.VM
namespace Go.Proofs.w
open Go Go.VM
def c_label_parted_1:VC:=(ZR [ZO 2 (.mv (.c (.bool false)))] (ZR [ZM 3 0,ZO 4 (.bin .lss (.t 3) (.c (.int .i32 48))),ZM 5 4,ZG 6 (.mv (.t 0)) 5 false,ZG 7 (.bin .gtr (.t 6) (.c (.int .i32 57))) 5 false,ZO 8 (.pick (.t 5) (.c (.bool true)) (.t 7)),ZM 2 8] .ret))
def c_label_Valid_1:VC:=(ZR [ZO 2 (.mv (.c (.bool false)))] (ZR [ZM 3 0,ZO 4 (.bin .lss (.t 3) (.c (.int .i32 65))),ZM 5 4,ZG 6 (.mv (.t 0)) 5 false,ZG 7 (.bin .gtr (.t 6) (.c (.int .i32 90))) 5 false,ZO 8 (.pick (.t 5) (.c (.bool true)) (.t 7)),ZM 2 8] .ret))
def c_label_parted:VC:=(ZR [ZO 2 (.mv (.c (.str []))),ZO 3 (.mv (.c (.str [])))] (ZR [ZM 5 0,ZO 6 (.call 230 [.t 5,(.c (.fn (.func 231) [] []))]),ZM 4 6] (.seq (ZR [ZM 7 4,ZO 8 (.bin .lss (.t 7) (.c (.int .i64 0)))] (.cond (.t 8) (ZR [ZM 9 0,ZM 2 9,ZO 3 (.mv (.c (.str [])))] .ret) .skip)) (.seq (.region [ZM 10 0,ZM 11 4,ZO 12 (.slice true 0 (.t 10) none (some (.t 11))),ZM 13 0,ZM 14 4,ZO 15 (.slice true 0 (.t 13) (some (.t 14)) none),ZM 2 12,ZM 3 15] true) .ret))))
def c_label_Valid:VC:=(ZR [ZO 2 (.mv (.c (.bool false)))] (ZR [ZM 7 0,ZO 8 (.call 210 [.t 7]),ZM 6 8,ZO 9 (.ext (.t 6) 0),ZO 10 (.ext (.t 6) 1),ZM 3 9,ZM 4 10] (ZR [ZO 5 (.mv (.c (.fn (.func 211) [] [])))] (ZR [ZM 11 3,ZO 12 (.len true (.t 11)),ZO 13 (.bin .geq (.t 12) (.c (.int .i64 1))),ZM 14 13,ZG 15 (.mv (.t 3)) 14 true,ZG 16 (.len true (.t 15)) 14 true,ZG 17 (.bin .leq (.t 16) (.c (.int .i64 4))) 14 true,ZO 18 (.pick (.t 14) (.t 17) (.c (.bool false))),ZM 19 18,ZG 20 (.mv (.t 3)) 19 true,ZG 21 (.idx (.t 20) (.c (.int .i64 0))) 19 true,ZG 22 (.bin .neq (.t 21) (.c (.int .u8 48))) 19 true,ZO 23 (.pick (.t 19) (.t 22) (.c (.bool false))),ZM 24 23,ZG 25 (.mv (.t 4)) 24 true,ZG 26 (.len true (.t 25)) 24 true,ZG 27 (.bin .leq (.t 26) (.c (.int .i64 3))) 24 true,ZO 28 (.pick (.t 24) (.t 27) (.c (.bool false))),ZM 29 28,ZG 30 (.mv (.t 4)) 29 true,ZG 31 (.mv (.t 5)) 29 true,ZG 32 (.call 212 [.t 30,.t 31]) 29 true,ZG 33 (.un .not (.t 32)) 29 true,ZO 34 (.pick (.t 29) (.t 33) (.c (.bool false))),ZM 2 34] .ret))))
theorem onRune_D (x:Nat):(!(onRune isD x))=(decide ((x:Int)<48)||decide ((57:Int)<x)):=by
 by_cases h:x<128
 ·have:(UInt8.ofNat x).toNat=x:=ofNat_toNat (by omega);simp only [onRune,isD,this,h,decide_true,Bool.true_and,Bool.not_and];by_cases h1:48≤x<;>by_cases h2:x≤57<;>simp [h1,h2]<;>omega
 ·simp only [onRune,h,decide_false,Bool.false_and,Bool.not_false]
  symm;simp;omega
theorem onRune_U (x:Nat):(!(onRune isU x))=(decide ((x:Int)<65)||decide ((90:Int)<x)):=by
 by_cases h:x<128
 ·have:(UInt8.ofNat x).toNat=x:=ofNat_toNat (by omega);simp only [onRune,isU,this,h,decide_true,Bool.true_and,Bool.not_and];by_cases h1:65≤x<;>by_cases h2:x≤90<;>simp [h1,h2]<;>omega
 ·simp only [onRune,h,decide_false,Bool.false_and,Bool.not_false]
  symm;simp;omega
theorem sp_label_parted_1 (x:Nat):Zam Tryz.prog 231 [.int .i32 x] (.bool (!(onRune isD x))):=by
 rw [onRune_D];refine Gp (vc:=c_label_parted_1) [.t 2] (cB _) Tryz.func231 ?_;unfold c_label_parted_1;try dsimp only [ZM,ZO,ZN,ZG,ZR,ZU]
 refine Rp0 [0] ?_;refine Rp0 [2] ?_;refine OpsW_split rfl (fun g=>?_) (fun g=>?_)
 ·refine Sp1 g ?_;refine Tp0 ?_;rw [Bool.false_or];exact View.refl _ _
 ·refine Sp1 g ?_;refine Tp0 ?_;rw [Bool.true_or];exact View.refl _ _
theorem sp_label_Valid_1 (x:Nat):Zam Tryz.prog 211 [.int .i32 x] (.bool (!(onRune isU x))):=by
 rw [onRune_U];refine Gp (vc:=c_label_Valid_1) [.t 2] (cB _) Tryz.func211 ?_;unfold c_label_Valid_1;try dsimp only [ZM,ZO,ZN,ZG,ZR,ZU]
 refine Rp0 [0] ?_;refine Rp0 [2] ?_;refine OpsW_split rfl (fun g=>?_) (fun g=>?_)
 ·refine Sp1 g ?_;refine Tp0 ?_;rw [Bool.false_or];exact View.refl _ _
 ·refine Sp1 g ?_;refine Tp0 ?_;rw [Bool.true_or];exact View.refl _ _
theorem grows_of {P:Program} {f:FuncId} {p:Nat→Bool} (H:∀ x:Nat,Zam P f [.int .i32 x] (.bool (p x))) {g:Gh} {w:World} (r:Rel g w Heap.nil):PredGrows P f #[] p w:=by
 intro W x _ hb;obtain ⟨r',_⟩:=r.below (Zc2 r hb) hb;refine ((H x).2.2 _ W (#[encR x]++#[]) r' ⟨rfl,fun j hj=>?_⟩).mono ?_
 ·obtain rfl:j=0:=by simp at hj;omega
  exact .int .i32 x
 ·rintro e w' ⟨v,m',rfl,hv,_,hb'⟩;obtain rfl:=hv.bool_inv;exact ⟨rfl,hb'⟩
theorem fn0_inv {g:Gh} {u:Value} {f:FuncId} (h:Rep g u (.fn (.func f) [] [])):u=.func (.func f) #[] #[]:=by
 obtain ⟨fs,cs,rfl,h1,h2⟩:=h.fn_inv;have e1:fs=#[]:=Array.eq_empty_of_size_eq_zero h1.1;have e2:cs=#[]:=Array.eq_empty_of_size_eq_zero h2.1;rw [e1,e2]
theorem sp_IndexFunc (s:Str):Zam Tryz.prog 230 [.str s,.fn (.func 231) [] []] (pI (if (dgs s).length<s.length then ((dgs s).length:Int) else -1)):=by
 refine PCall_of (by kernel_rfl) (by intro x hx;simp only [List.mem_cons,List.not_mem_nil,or_false] at hx;rcases hx with rfl|rfl;exact cS _;exact closed_fn0 _) fun g w vals r ha=>?_;obtain ⟨v,u,rfl,hv,hu⟩:=args_2 ha;obtain ⟨z,rfl,hs⟩:=hv.str_inv;obtain rfl:=fn0_inv hu;rw [str_eq hs];refine (Tryz.strings_IndexFunc_grows _ #[] (enters_of Tryz.func231 (by kernel_rfl) rfl) (fun x=>!(onRune isD x)) _ w (grows_of sp_label_parted_1 r)).mono ?_;rintro e w' ⟨rfl,hb⟩;rw [idx_digits];exact ⟨_,rfl,fun g=>.int _ _,hb⟩
theorem sp_ContainsFunc (s:Str):Zam Tryz.prog 212 [.str s,.fn (.func 211) [] []] (.bool (!(s.all isU))):=by
 refine PCall_of (by kernel_rfl) (by intro x hx;simp only [List.mem_cons,List.not_mem_nil,or_false] at hx;rcases hx with rfl|rfl;exact cS _;exact closed_fn0 _) fun g w vals r ha=>?_;obtain ⟨v,u,rfl,hv,hu⟩:=args_2 ha;obtain ⟨z,rfl,hs⟩:=hv.str_inv;obtain rfl:=fn0_inv hu;rw [str_eq hs];refine (Tryz.strings_ContainsFunc_grows _ #[] (enters_of Tryz.func211 (by kernel_rfl) rfl) (fun x=>!(onRune isU x)) _ w (grows_of sp_label_Valid_1 r)).mono ?_;rintro e w' ⟨rfl,hb⟩;rw [idx_caps];exact ⟨_,rfl,fun g=>.bool _,hb⟩
theorem caps_len' (s:Str):(caps s).length=s.length-(dgs s).length:=by have:=dgs_len s;omega
theorem closed_ss (a b:Str):Closed (.tup [.str a,.str b]):=Zbl (by simp only [List.mem_cons,List.not_mem_nil,or_false,forall_eq_or_imp,forall_eq];exact ⟨cS _,cS _⟩)
theorem closed_sb (a:Str) (b:Bool):Closed (.tup [.str a,.bool b]):=Zbl (by simp only [List.mem_cons,List.not_mem_nil,or_false,forall_eq_or_imp,forall_eq];exact ⟨cS _,cB _⟩)
theorem sp_label_parted (s:Str) (hl:s.length≤1000000):Zam Tryz.prog 210 [.str s] (.tup [.str (dgs s),.str (caps s)]):=by
 have hdl:=dgs_le s;have hcl:=caps_len' s;have A:=sp_IndexFunc s;refine Gp (vc:=c_label_parted) [.t 2,.t 3] (closed_ss _ _) Tryz.func210 ?_;unfold c_label_parted;try dsimp only [ZM,ZO,ZN,ZG,ZR,ZU]
 refine Rp0 [0] ?_;refine Rp0 [0,4] ?_;refine Zaq A ?_;refine Zaa ?_;rcases Nat.lt_or_ge (dgs s).length s.length with c|c
 ·rw [if_pos c];refine Rp0 [0,4,8] ?_;refine Zac rfl (fun h1=>by simp at h1;omega) (fun h1=>?_);refine Kp0 ?_;refine Zaa (Zbh [2,3] (by simp [Heap.le,Heap.get,HL.le,HL.get]) ?_);simp only [vmL,Nat.reduceEqDiff,reduceCtorEq,Nat.sub_zero];refine Ok ?_;refine Tp0 ?_;have e2:List.take (s.length-(dgs s).length) (List.drop (dgs s).length s)=caps s:=by
   rw [caps_drop,List.take_of_length_le (by simp)]
  rw [← dgs_take,e2];exact View.refl _ _
 ·rw [if_neg (by omega)];have e0:caps s=[]:=List.eq_nil_of_length_eq_zero (by omega);have e1:dgs s=s:=by have:=dgs_caps s;rw [e0,List.append_nil] at this;exact this
  refine Rp0 [0,4,8] ?_;refine Zac rfl (fun h1=>?_) (fun h1=>by simp at h1);refine Rp0 [2,3] ?_;refine Tp0 ?_;rw [e0,e1];exact View.refl _ _
theorem sp_label_Valid (s:Str) (hl:s.length≤1000000):Zam Tryz.prog 172 [.str s] (.bool (may s)):=by
 have hdl:=dgs_le s;have hcl:=caps_len' s;refine Gp (vc:=c_label_Valid) [.t 2] (cB _) Tryz.func172 ?_;unfold c_label_Valid;try dsimp only [ZM,ZO,ZN,ZG,ZR,ZU]
 refine Rp0 [0] ?_;refine Rp0 [3,4] ?_;refine Ap0 (sp_label_parted s hl) ?_;refine Rp0 [3,4,5] ?_;have A:=sp_ContainsFunc (caps s);have fin:∀ b,b=may s→View ⟨[],0⟩ (PV.bool b) (.bool (may s)):=fun b e=>by rw [e];exact View.refl _ _
 refine Zaa (Zae [2] ?_);by_cases c1:(dgs s).length<1
 ·have e1:decide ((1:Int)≤((dgs s).length:Int))=false:=by simp only [Zx2];omega
  refine Sp1 e1 ?_;refine Tp0 ?_;refine fin _ ?_;unfold may;rw [decide_eq_false (show ¬ 1≤(dgs s).length by omega)];rfl
 have e1:decide ((1:Int)≤((dgs s).length:Int))=true:=by simp only [Zx3];omega
 by_cases c2:(dgs s).length>4
 ·have e2:decide (((dgs s).length:Int)≤4)=false:=by simp only [Zx2];omega
  refine Sp1 (x2 e1 e2) ?_;refine Tp0 ?_;refine fin _ ?_;unfold may;rw [decide_eq_false (show ¬ (dgs s).length≤4 by omega),Bool.and_false];rfl
 have e2:decide (((dgs s).length:Int)≤4)=true:=by simp only [Zx3];omega
 have hne:s≠[]:=by intro e;subst e;exact c1 (by simp [dgs])
 have hh:=head_getD hne;have hp:0<s.length:=by cases s with|nil=>exact absurd rfl hne|cons=>simp
 have hd0:(dgs s).getD 0 0=s.getD 0 0:=by
  rw [dgs_take,Zx1,List.getElem?_take,if_pos (by omega),← Zx1]
 by_cases c3:(s.getD 0 0).toNat=48
 ·have e3:(((s.getD 0 0).toNat:Int) != 48)=false:=by rw [bne_eq_false_iff_eq];omega
  simp only [vmL,Nat.reduceEqDiff,e1,e2,e3,Int.toNat_zero,hd0];refine Ok ?_;refine Tp0 ?_;refine fin _ ?_;rw [decide_eq_true c3] at hh;unfold may;rw [hh];simp
 have e3:(((s.getD 0 0).toNat:Int) != 48)=true:=by rw [bne_iff_ne];omega
 rw [decide_eq_false c3] at hh;by_cases c4:(caps s).length≤3
 ·have e4:decide (((caps s).length:Int)≤3)=true:=by simp only [Zx3];omega
  simp only [vmL,Nat.reduceEqDiff,e1,e2,e3,e4,Int.toNat_zero,hd0];refine Ok ?_;refine Ap0 A ?_;refine Tp0 ?_;refine fin _ ?_;unfold may;rw [hh,decide_eq_true (show 1≤(dgs s).length by omega),decide_eq_true (show (dgs s).length≤4 by omega),decide_eq_true c4];simp
 ·have e4:decide (((caps s).length:Int)≤3)=false:=by simp only [Zx2];omega
  simp only [vmL,Nat.reduceEqDiff,e1,e2,e3,e4,Int.toNat_zero,hd0];refine Ok ?_;refine Tp0 ?_;refine fin _ ?_;unfold may;rw [decide_eq_false c4];simp
end Go.Proofs.w
namespace Go.VM
open Go
def ancB (s:Str):Bool:=decide (s.head?=some 94)&&may (s.drop 1)
def ancF (s:Str):Str×Bool:=if ancB s then (s.drop 1,true) else ([],false)
theorem pre_eq (s:Str):Lib.hasPrefix s [94]=decide (s.head?=some 94):=by
 unfold Lib.hasPrefix;cases s with
 | nil=>rfl
 | cons a r =>
  simp only [List.isPrefixOf,List.head?_cons,Zx0];rw [Bool.eq_iff_iff];simp;exact ⟨fun h=>h.symm,fun h=>h.symm⟩
theorem trimP_eq (s:Str):Lib.trimPrefix s [94]=if decide (s.head?=some 94)=true then s.drop 1 else s:=by
 unfold Lib.trimPrefix;rw [pre_eq];rfl
end Go.VM
namespace Go.Proofs.w
open Go Go.VM
def c_footnote_ParseAnchor:VC:=(ZR [ZO 2 (.mv (.c (.str []))),ZO 3 (.mv (.c (.bool false)))] (ZR [ZM 7 0,ZO 8 (.call 171 [.t 7,(.c (.str [94]))]),ZM 6 8,ZO 9 (.ext (.t 6) 0),ZO 10 (.ext (.t 6) 1),ZM 4 9,ZM 5 10] (.seq (ZR [ZM 11 5,ZO 12 (.un .not (.t 11)),ZM 13 12,ZG 14 (.mv (.t 4)) 13 false,ZG 15 (.call 172 [.t 14]) 13 false,ZG 16 (.un .not (.t 15)) 13 false,ZO 17 (.pick (.t 13) (.c (.bool true)) (.t 16))] (.cond (.t 17) (ZR [ZO 2 (.mv (.c (.str []))),ZO 3 (.mv (.c (.bool false)))] .ret) .skip)) (ZR [ZM 18 4,ZM 2 18,ZO 3 (.mv (.c (.bool true)))] .ret))))
theorem cl2 (a b:Str):Zax [.str a,.str b]:=by intro x hx;simp only [List.mem_cons,List.not_mem_nil,or_false] at hx;rcases hx with rfl|rfl<;>exact cS _
theorem sp_CutPrefix (s:Str):Zam Tryz.prog 171 [.str s,.str [94]] (.tup [.str (if decide (s.head?=some 94)=true then s.drop 1 else s),.bool (decide (s.head?=some 94))]):=by
 refine PCall_of (by kernel_rfl) (cl2 _ _) fun g w vals r ha=>?_;obtain ⟨v,u,rfl,hv,hu⟩:=args_2 ha;obtain ⟨z,rfl,hs⟩:=hv.str_inv;obtain ⟨y,rfl,hy⟩:=hu.str_inv;rw [str_eq hs,str_eq hy];refine (Tryz.strings_CutPrefix _ _ w).mono ?_;rintro e w' ⟨rfl,rfl⟩;have h1:Lib.hasPrefix (⟨s.toArray⟩:ByteArray).data.toList (⟨[94].toArray⟩:ByteArray).data.toList=decide (s.head?=some 94):=pre_eq s;have h2:Lib.trimPrefix (⟨s.toArray⟩:ByteArray).data.toList (⟨[94].toArray⟩:ByteArray).data.toList=if decide (s.head?=some 94)=true then s.drop 1 else s:=trimP_eq s;rw [h1,h2];refine ⟨_,rfl,fun g=>.tup _ _ rfl fun j hj=>?_,RowKit.Below.refl _ _⟩
 match j,hj with
 | 0,_=>exact .str _ _ (by simp)
 | 1,_=>exact .bool _
theorem sp_ParseAnchor (s:Str) (hl:s.length≤1000000):Zam Tryz.prog 116 [.str s] (.tup [.str (ancF s).1,.bool (ancF s).2]):=by
 have C:=sp_CutPrefix s;have L:=sp_label_Valid (s.drop 1) (by rw [List.length_drop];omega);refine Gp (vc:=c_footnote_ParseAnchor) [.t 2,.t 3] (closed_sb _ _) Tryz.func116 ?_;unfold c_footnote_ParseAnchor;try dsimp only [ZM,ZO,ZN,ZG,ZR,ZU]
 refine Rp0 [0] ?_;refine Rp0 [4,5] ?_;refine Zaq C ?_;unfold ancF ancB;cases hd:decide (s.head?=some 94) with
 | false =>
  refine Sp0 ?_;refine Zaa ?_;refine Rp0 [4,17] ?_;refine Ct ?_;exact Rv0 [2,3]
 | true =>
  refine Sp0 ?_;refine Zaa ?_;refine Rp0 [4,17] ?_;refine Ap0 L ?_;cases hm:may (s.drop 1) with
  | false =>
   refine Ct ?_;exact Rv0 [2,3]
  | true =>
   refine Fp0 ?_;exact Rv0 [2,3]
end Go.Proofs.w
namespace Go.VM
open Go
def callsB (k:Un) (w:Wd):Bool:=(ancF w.text).2&&((ancF w.text).1==k.label)
def Zag (u k:Un):Int:=if k.kind=7 then idxF (callsB k) u.words else -1
theorem idxF_bd {α:Type} (p:α→Bool) (l:List α):-1≤idxF p l∧idxF p l<(l.length:Int)∨idxF p l = -1:=by
 unfold idxF;split
 ·rename_i h;obtain ⟨x,hx,hp⟩:=List.any_eq_true.1 h;have:=List.findIdx_lt_length_of_exists ⟨x,hx,hp⟩
  left
  omega
 ·exact .inr rfl
theorem calledT_bd {u:Un} (h:SmU u) (k:Un):-1≤Zag u k∧Zag u k<300:=by
 have hw:=h.words.1;unfold Zag;split
 ·rcases idxF_bd (callsB k) u.words with h1|h1<;>omega
 ·omega
def cmpU (u a b:Un):Int:=Zag u a-Zag u b
def aheadU (u a b:Un):Bool:=decide (Zag u a<Zag u b)
def leU (u a b:Un):Prop:=aheadU u b a=false
theorem leU_iff {u a b:Un}:leU u a b↔Zag u a≤Zag u b:=by
 unfold leU aheadU;rw [Zx2];omega
theorem leU_trans {u a b c:Un} (h1:leU u a b) (h2:leU u b c):leU u a c:=by
 rw [leU_iff] at *;omega
theorem leU_of_ahead {u a b:Un} (h:aheadU u a b=true):leU u a b:=by
 rw [leU_iff];unfold aheadU at h;simp only [Zx3] at h;omega
theorem cmpU_lt {u:Un} (x y:Un):decide (cmpU u x y<0)=aheadU u x y:=by
 unfold cmpU aheadU;exact decide_eq_decide.2 (by omega)
instance : Inhabited Un := ⟨.mk 0 0 0 0 [] [] [] []⟩
end Go.VM
namespace Go.Proofs.w
open Go Go.VM
def c_paginate_called:VC:=(ZR [ZO 2 (.box 8 (.t 0)),ZO 3 (.box 8 (.t 1)),ZO 4 (.mv (.c (.int .i64 0)))] (.seq (ZR [ZO 5 (.faddr 3 (.t 3)),ZO 6 (.load false 1 (.t 5)),ZO 7 (.bin .neq (.t 6) (.c (.int .i64 7)))] (.cond (.t 7) (ZR [ZO 4 (.mv (.c (.int .i64 (-1))))] .ret) .skip)) (ZR [ZO 8 (.faddr 6 (.t 2)),ZO 9 (.load false 1 (.t 8)),ZO 10 (.mkfn (.func 115) [] [.t 3]),ZO 11 (.call 114 [.t 9,.t 10]),ZM 4 11] .ret)))
def c_paginate_called_1:VC:=(ZR [ZO 2 (.box 4 (.t 0)),ZO 3 (.mv (.c (.bool false)))] (ZR [ZO 7 (.faddr 0 (.t 2)),ZO 8 (.load false 1 (.t 7)),ZO 9 (.call 116 [.t 8]),ZM 6 9,ZO 10 (.ext (.t 6) 0),ZO 11 (.ext (.t 6) 1),ZM 4 10,ZM 5 11] (ZR [ZM 12 5,ZM 13 12,ZG 14 (.mv (.t 4)) 13 true,ZG 15 (.faddr 4 (.t 1)) 13 true,ZG 16 (.load false 1 (.t 15)) 13 true,ZG 17 (.bin .eql (.t 14) (.t 16)) 13 true,ZO 18 (.pick (.t 13) (.t 17) (.c (.bool false))),ZM 3 18] .ret)))
def c_paginate_own_1:VC:=(ZR [ZO 3 (.box 8 (.t 0)),ZO 4 (.box 8 (.t 1)),ZO 5 (.mv (.c (.int .i64 0)))] (.seq (.region [ZO 6 (.load true 8 (.t 2)),ZO 7 (.load true 8 (.t 3)),ZO 8 (.call 63 [.t 6,.t 7]),ZO 9 (.load true 8 (.t 2)),ZO 10 (.load true 8 (.t 4)),ZO 11 (.call 63 [.t 9,.t 10]),ZO 12 (.bin .sub (.t 8) (.t 11)),ZM 5 12] true) .ret))
def c_paginate_own_2:VC:=(ZR [ZO 3 (.mv (.c (.bool false)))] (ZR [ZO 4 (.load false 1 (.t 1)),ZM 5 0,ZO 6 (.bin .lss (.t 4) (.t 5)),ZM 3 6] .ret))
theorem closed_rou (k:Un):Closed (.ro k.enc):=Zbc fun y hy=>Un.closed k y hy
theorem sp_called_1 (k:Un) (w:Wd) (hw:w.text.length≤1000000):Zam Tryz.prog 115 [.agg w.enc,.ro k.enc] (.bool (callsB k w)):=by
 have PA:=sp_ParseAnchor w.text hw;refine Zad ?_ (cB _) (by intro y hy;simp only [List.mem_cons,List.not_mem_nil,or_false] at hy;rcases hy with rfl|rfl;exact Zay (Wd.closed w);exact closed_rou k);refine Gn (vc:=c_paginate_called_1) [.t 3] Tryz.func115 ?_;unfold c_paginate_called_1;try dsimp only [ZM,ZO,ZN,ZG,ZR,ZU]
 have hve:w.enc=[.str w.text,pI w.act,pI w.item,pI w.at']:=rfl;unfold callsB;rw [hve,Un.Zaf];generalize ancF w.text=an at PA ⊢;obtain ⟨s,b⟩:=an;generalize w.text=tx at PA ⊢;refine Rp0 [1,2] ?_;refine Rp0 [1,4,5] ?_;refine Ap0 PA ?_;cases b with
 | true =>
  exact Rv0 [3]
 | false =>
  exact Rv0 [3]
theorem closed_uu (u k:Un):Zax [.agg u.enc,.agg k.enc]:=by
 intro y hy;simp only [List.mem_cons,List.not_mem_nil,or_false] at hy;rcases hy with rfl|rfl
 ·exact Zao _
 ·exact Zao _
theorem sp_called {u:Un} (h:SmU u) (k:Un):Zam Tryz.prog 63 [.agg u.enc,.agg k.enc] (pI (Zag u k)):=by
 have IX:=sp_IndexFunc_Word u.words 115 [.ro k.enc] (callsB k) (by have:=h.words.1;omega) (by intro y hy;rw [List.mem_singleton] at hy;subst hy;exact closed_rou k) (fun w hw=>sp_called_1 k w (by have:=h.words.2 w hw;omega));refine Zad ?_ (cI _) (closed_uu u k);refine Gn (vc:=c_paginate_called) [.t 4] Tryz.func63 ?_;unfold c_paginate_called;try dsimp only [ZM,ZO,ZN,ZG,ZR,ZU]
 unfold Zag;rw [Un.Zaf k] at IX;rw [Un.Zaf,Un.Zaf];refine Rp0 [2,3] ?_;refine Zaw [(2,.ro [pI u.act,pI u.item,pI u.n,pI u.kind,.str u.label,.sl 4 (u.head.map Wd.enc),.sl 4 (u.words.map Wd.enc),.sl 8 (u.kids.map Un.enc)]),(3,.ro [pI k.act,pI k.item,pI k.n,pI k.kind,.str k.label,.sl 4 (k.head.map Wd.enc),.sl 4 (k.words.map Wd.enc),.sl 8 (k.kids.map Un.enc)])] ⟨View.loc (z:=8) (fz:=false) (es:=[[pI u.act,pI u.item,pI u.n,pI u.kind,.str u.label,.sl 4 (u.head.map Wd.enc),.sl 4 (u.words.map Wd.enc),.sl 8 (u.kids.map Un.enc)]]) rfl (by simp) rfl (by simp),View.loc (z:=8) (fz:=false) (es:=[[pI k.act,pI k.item,pI k.n,pI k.kind,.str k.label,.sl 4 (k.head.map Wd.enc),.sl 4 (k.words.map Wd.enc),.sl 8 (k.kids.map Un.enc)]]) rfl (by simp) rfl (by simp),trivial⟩ ?_;refine Zaa ?_;by_cases hk:k.kind=7
 ·rw [if_pos hk];have e1:(k.kind != 7)=false:=by rw [hk];rfl
  refine Rp1 [2,3,7] e1 ?_;refine Fp0 ?_;refine Rp0 [4] ?_;refine Zaq IX ?_;exact Tv0
 ·rw [if_neg hk];have e1:(k.kind != 7)=true:=by simp [hk]
  refine Rp1 [2,3,7] e1 ?_;refine Ct ?_;exact Rv0 [4]
theorem sp_own_1 {u:Un} (h:SmU u) (a b:Un):Zam Tryz.prog 119 [.agg a.enc,.agg b.enc,.ro u.enc] (pI (cmpU u a b)):=by
 have CA:=sp_called h a;have CB:=sp_called h b;have ba:=calledT_bd h a;have bb:=calledT_bd h b;unfold cmpU;generalize Zag u a=x at CA ba ⊢;generalize Zag u b=y at CB bb ⊢;refine Zad ?_ (cI _) (by intro z hz;simp only [List.mem_cons,List.not_mem_nil,or_false] at hz;rcases hz with rfl|rfl|rfl;exact Zao _;exact Zao _;exact closed_rou u);refine Gn (vc:=c_paginate_own_1) [.t 5] Tryz.func119 ?_;unfold c_paginate_own_1;try dsimp only [ZM,ZO,ZN,ZG,ZR,ZU]
 rw [Un.Zaf u] at CA CB ⊢;rw [Un.Zaf a] at CA ⊢;rw [Un.Zaf b] at CB ⊢;refine Rp0 [2,3,4] ?_;refine Zaw [(2,.ro [pI u.act,pI u.item,pI u.n,pI u.kind,.str u.label,.sl 4 (u.head.map Wd.enc),.sl 4 (u.words.map Wd.enc),.sl 8 (u.kids.map Un.enc)]),(3,.ro [pI a.act,pI a.item,pI a.n,pI a.kind,.str a.label,.sl 4 (a.head.map Wd.enc),.sl 4 (a.words.map Wd.enc),.sl 8 (a.kids.map Un.enc)]),(4,.ro [pI b.act,pI b.item,pI b.n,pI b.kind,.str b.label,.sl 4 (b.head.map Wd.enc),.sl 4 (b.words.map Wd.enc),.sl 8 (b.kids.map Un.enc)])] ⟨View.refl _ _,View.loc (z:=8) (fz:=false) (es:=[[pI a.act,pI a.item,pI a.n,pI a.kind,.str a.label,.sl 4 (a.head.map Wd.enc),.sl 4 (a.words.map Wd.enc),.sl 8 (a.kids.map Un.enc)]]) rfl (by simp) rfl (by simp),View.loc (z:=8) (fz:=false) (es:=[[pI b.act,pI b.item,pI b.n,pI b.kind,.str b.label,.sl 4 (b.head.map Wd.enc),.sl 4 (b.words.map Wd.enc),.sl 8 (b.kids.map Un.enc)]]) rfl (by simp) rfl (by simp),trivial⟩ ?_;refine Zaa (VW_drawE 20 [5] (by simp) ?_);refine Sp0 ?_;refine ⟨_,.inl CA,?_⟩
 skip
 refine ⟨_,.inl CB,?_⟩;refine Sp1 (w64 (n:=x-y) (by omega) (by omega)) ?_;exact Tv0
end Go.Proofs.w
namespace Go.VM
open Go
structure Ln where
 id : Idt
 text : Str
 notes : List Str
 tied : Bool
def Ln.encP (x:Ln):List PV:=[.str x.text,pI x.id.act,pI x.id.item,pI x.id.n,.bool x.tied,It.strs x.notes]
def Ln.encR (x:Ln):List PV:=[pI x.id.act,pI x.id.item,pI x.id.n,.str x.text,It.strs x.notes,.bool x.tied]
def notesK (w:Int) (u:Un) (j:Nat) (ks:List Un):List Str:=(ks.filter fun k=>Zag u k==(j:Int)).flatMap (Zaz w)
def notesR (w:Int) (u:Un) (a b:Nat):List Str:=(List.range' a (b-a)).flatMap fun j=>notesK w u j u.kids
def toN (u:Un) (e:Nat):Nat:=e-(2+u.head.length)
def tiedU (u:Un):Bool:=u.kids.any fun k=>decide (Zag u k<0)
def ownF (w:Int) (u:Un) (t:Bool):Nat→List Str→List Nat→List Ln
 | fr,s::l,e::E=>⟨idU u,s,notesR w u fr (toN u e),t&&l.isEmpty⟩::ownF w u t (toN u e) l E
 | _,_,_=>[]
def ownL (w:Int) (u:Un):List Ln:=ownF w u (tiedU u) 0 (Zaz w u) (Zbu w (rowT u))
mutual
def bodyT (w : Int) : Un → List Ln
 | .mk a i n k l h ws ks => ownL w (.mk a i n k l h ws ks) ++ bodyL w (.mk a i n k l h ws ks) ks
def bodyL (w : Int) (p : Un) : List Un → List Ln
 | [] => []
 | x :: r => (if Zag p x < 0 then bodyT w x else []) ++ bodyL w p r
end
theorem bodyT_eq (w:Int) (u:Un):bodyT w u=ownL w u++bodyL w u u.kids:=by cases u;rw [bodyT];rfl
theorem bodyL_app (w:Int) (p:Un):∀ (l m:List Un),bodyL w p (l++m)=bodyL w p l++bodyL w p m
 | [],m=>by rw [List.nil_append,bodyL,List.nil_append]
 | x::r,m=>by rw [List.cons_append,bodyL,bodyL,bodyL_app w p r m,List.append_assoc]
theorem bodyL_step {w:Int} {p:Un} {L:List Un} {k:Nat} (h:k<L.length):bodyL w p (L.take (k+1))=bodyL w p (L.take k)++(if Zag p L[k]<0 then bodyT w L[k] else []):=by
 rw [List.take_add_one,List.getElem?_eq_getElem h,Option.toList_some,bodyL_app,bodyL,bodyL,List.append_nil]
theorem linesF_len (l:List Str):∀ (E:List Nat) (a:Nat),(Zcb l a E).length=E.length
 | [],a=>by rw [Zcb];rfl
 | e::r,a=>by rw [Zcb,List.length_cons,List.length_cons,linesF_len l r e]
theorem linesU_len (w:Int) (u:Un):(Zaz w u).length=(Zbu w (rowT u)).length:=by
 unfold Zaz linesT;by_cases h:Zcr w (rowT u)=0
 ·rw [if_pos (Zcg h),linesF_len]
 ·have:Zbu w (rowT u)=[]:=by unfold Zbu;rw [if_neg h]
  rw [this];split<;>rfl
theorem linesU_le {u:Un} (h:SmU u) (w:Int):(Zaz w u).length≤602:=by
 rw [linesU_len];have h1:=breakE_len (w:=w) (l:=rowT u);have h2:=rowT_len u;have:=h.head.1;have:=h.words.1;omega
theorem flatMap_le {α β:Type} (f:α→List β) (M:Nat):∀ (l:List α),(∀ x∈l,(f x).length≤M)→(l.flatMap f).length≤l.length*M
 | [],_=>by simp
 | x::r,h=>by
  rw [List.flatMap_cons,Zx5,List.length_cons,Nat.add_mul,Nat.one_mul];have h1:=h x List.mem_cons_self;have h2:=flatMap_le f M r fun y hy=>h y (Zx7 _ hy);omega
theorem ownF_len (w:Int) (u:Un) (t:Bool):∀ (l:List Str) (E:List Nat) (fr:Nat),(ownF w u t fr l E).length≤l.length
 | [],E,fr=>by rw [ownF];exact Nat.le_refl _;intros;simp_all
 | s::l,[],fr=>by rw [ownF];simp;intros;simp_all
 | s::l,e::E,fr=>by rw [ownF,List.length_cons,List.length_cons];have:=ownF_len w u t l E (toN u e);omega
theorem ownL_le {u:Un} (h:SmU u) (w:Int):(ownL w u).length≤602:=Nat.le_trans (ownF_len w u _ _ _ _) (linesU_le h w)
theorem bodyT_le {u:Un} (hu:SmT u) (w:Int):(bodyT w u).length≤602*(unitsT u).length:=by
 induction hu with
 | mk u h hk hs ih =>
  rw [bodyT_eq,Zaj,Zx5,List.length_cons];have h1:=ownL_le h w;have key:∀ L:List Un,(∀ k∈L,k∈u.kids)→(bodyL w u L).length≤602*(unitsL L).length:=by
   intro L
   induction L with
   | nil=>intro _;rw [bodyL];simp
   | cons a r ihr =>
    intro hL;rw [bodyL,unitsL,Zx5,Zx5];have h2:=ih a (hL a List.mem_cons_self);have h3:=ihr fun k hk=>hL k (Zx7 _ hk);split
    ·omega
    ·simp;omega
  have:=key u.kids fun k hk=>hk;omega
theorem bodyL_le {u:Un} (hs:∀ k∈u.kids,SmT k) (w:Int) (p:Un):∀ L:List Un,(∀ k∈L,k∈u.kids)→(bodyL w p L).length≤602*(unitsL L).length:=by
 intro L
 induction L with
 | nil=>intro _;rw [bodyL];simp
 | cons a r ihr =>
  intro hL;rw [bodyL,unitsL,Zx5,Zx5];have h2:=bodyT_le (hs a (hL a List.mem_cons_self)) w;have h3:=ihr fun k hk=>hL k (Zx7 _ hk);split
  ·omega
  ·simp;omega
def kidsB (w:Int) (r:Bool) (p:Un) (l:List Un):List Ln:=if r=true then l.flatMap (bodyT w) else bodyL w p l
theorem kidsB_step {w:Int} {r:Bool} {p:Un} {L:List Un} {k:Nat} (h:k<L.length):kidsB w r p (L.take (k+1))=kidsB w r p (L.take k)++(if (r||decide (Zag p L[k]<0))=true then bodyT w L[k] else []):=by
 unfold kidsB;cases r with
 | true =>
  rw [if_pos rfl,if_pos rfl,Bool.true_or,if_pos rfl,List.take_add_one,List.getElem?_eq_getElem h,Option.toList_some,List.flatMap_append];simp
 | false =>
  rw [if_neg Bool.false_ne_true,if_neg Bool.false_ne_true,bodyL_step h,Bool.false_or];simp only [Zx3]
theorem kidsB_le {u:Un} (hu:SmT u) (w:Int) (r:Bool) (k:Nat):(kidsB w r u (u.kids.take k)).length≤602*(unitsL u.kids).length:=by
 have hs:=hu.kids.2;have hut:=unitsL_take u.kids k;unfold kidsB;cases r with
 | true =>
  rw [if_pos rfl];have key:∀ L:List Un,(∀ k∈L,k∈u.kids)→(L.flatMap (bodyT w)).length≤602*(unitsL L).length:=by
   intro L
   induction L with
   | nil=>intro _;simp
   | cons a r ihr =>
    intro hL;rw [List.flatMap_cons,unitsL,Zx5,Zx5];have h2:=bodyT_le (hs a (hL a List.mem_cons_self)) w;have h3:=ihr fun k hk=>hL k (Zx7 _ hk);omega
  have:=key (u.kids.take k) fun x hx=>List.mem_of_mem_take hx;omega
 | false =>
  rw [if_neg Bool.false_ne_true];have:=bodyL_le hs w u (u.kids.take k) fun x hx=>List.mem_of_mem_take hx;omega
theorem ownF_step {w:Int} {u:Un} {t:Bool} {fr i:Nat} {l:List Str} {E:List Nat} (h:i<l.length) (hE:i<E.length):ownF w u t fr (l.drop i) (E.drop i)=⟨idU u,l[i],notesR w u fr (toN u E[i]),t&&(i+1==l.length)⟩::ownF w u t (toN u E[i]) (l.drop (i+1)) (E.drop (i+1)):=by
 have h1:l.drop i=l[i]::l.drop (i+1):=List.drop_eq_getElem_cons h;have h2:E.drop i=E[i]::E.drop (i+1):=List.drop_eq_getElem_cons hE;rw [h1,h2,ownF]
 congr 2
 congr 1
 rw [Bool.eq_iff_iff,List.isEmpty_iff,List.drop_eq_nil_iff,beq_iff_eq];omega
def idZ:Idt:=⟨0,0,0⟩
def aloneR (u:Un):Bool:=(decide (0≤u.kind)&&decide (u.kind≤7))&&(decide (u.kids.length≤64)&&(rowB u.head&&(rowB u.words&&(if u.kind=0 then (u.label==[])&&((u.head.length==0)&&(u.words.length==0)) else may u.label))))
def sameB (a b:Un):Bool:=(a.kind==b.kind)&&(a.label==b.label)
mutual
def rightT : Un → Bool
 | .mk a i n k l h w ks => aloneR (.mk a i n k l h w ks) && rightL k [] ks
def rightL : Int → List Un → List Un → Bool
 | _, _, [] => true
 | p, pre, k :: r => (nestB p k.kind && rightT k) && ((!(pre.any fun x => sameB x k)) && rightL p (pre ++ [k]) r)
end
theorem rightT_eq (u:Un):rightT u=(aloneR u&&rightL u.kind [] u.kids):=by cases u;rw [rightT];rfl
def sibB (p:Int):List Un→List Un→Bool
 | _,[]=>true
 | pre,k::r=>nestB p k.kind&&((!(pre.any fun x=>sameB x k))&&sibB p (pre++[k]) r)
theorem rightL_eq (p:Int):∀ (l pre:List Un),rightL p pre l=(sibB p pre l&&l.all rightT)
 | [],pre=>by rw [rightL];rfl
 | k::r,pre=>by
  rw [rightL,rightL_eq p r,sibB,List.all_cons];cases nestB p k.kind<;>cases rightT k<;>cases (pre.any fun x=>sameB x k)<;>cases sibB p (pre++[k]) r<;>simp
def headB (u:Un):Bool:=if u.kind=0 then (u.label==[]) && !(decide (0<u.head.length+u.words.length)) else (Zcm u.kind != [])&&(may u.label&&(rowB u.head&&rowB u.words))
def aloneP (u:Un):Bool:=headB u&&(sibB u.kind [] u.kids&&decide (u.kids.length≤64))
theorem nameK_ne (k:Int):(Zcm k != [])=(decide (0≤k)&&decide (k≤7)):=by
 unfold Zcm;split
 ·rename_i h;obtain ⟨i,rfl⟩:∃ i:Nat,k=(i:Int):=⟨k.toNat,by omega⟩;have:i=0∨i=1∨i=2∨i=3∨i=4∨i=5∨i=6∨i=7:=by omega
  rcases this with rfl|rfl|rfl|rfl|rfl|rfl|rfl|rfl<;>rfl
 ·rename_i h
  symm
  show _=false;rw [Bool.and_eq_false_iff];by_cases h0:0≤k
  ·exact .inr (decide_eq_false (by omega))
  ·exact .inl (decide_eq_false h0)
theorem rowB_nil:rowB []=true:=rfl
theorem alone_eq (u:Un):aloneP u=(aloneR u&&sibB u.kind [] u.kids):=by
 unfold aloneP aloneR headB;by_cases h0:u.kind=0
 ·rw [if_pos h0,if_pos h0,h0];have e1:(decide ((0:Int)≤0)&&decide ((0:Int)≤7))=true:=rfl;rw [e1,Bool.true_and];by_cases hh:u.head.length=0
  ·by_cases hw:u.words.length=0
   ·have e2:=List.eq_nil_of_length_eq_zero hh;have e3:=List.eq_nil_of_length_eq_zero hw;rw [e2,e3,rowB_nil];cases sibB 0 [] u.kids<;>cases decide (u.kids.length≤64)<;>cases (u.label==[])<;>rfl
   ·have e2:decide (0<u.head.length+u.words.length)=true:=decide_eq_true (by omega);have e3:(u.words.length==0)=false:=by rw [beq_eq_false_iff_ne];exact hw
    rw [e2,e3];cases sibB 0 [] u.kids<;>cases decide (u.kids.length≤64)<;>cases (u.label==[])<;>cases (u.head.length==0)<;>cases rowB u.head<;>cases rowB u.words<;>rfl
  ·have e2:decide (0<u.head.length+u.words.length)=true:=decide_eq_true (by omega);have e3:(u.head.length==0)=false:=by rw [beq_eq_false_iff_ne];exact hh
   rw [e2,e3];cases sibB 0 [] u.kids<;>cases decide (u.kids.length≤64)<;>cases (u.label==[])<;>cases rowB u.head<;>cases rowB u.words<;>rfl
 ·rw [if_neg h0,if_neg h0,nameK_ne];cases decide (0≤u.kind)<;>cases decide (u.kind≤7)<;>cases sibB u.kind [] u.kids<;>cases decide (u.kids.length≤64)<;>cases may u.label<;>cases rowB u.head<;>cases rowB u.words<;>rfl
theorem right_all {u:Un} (h:SmT u):(unitsT u).all aloneP=rightT u:=by
 induction h with
 | mk u h hk hs ih =>
  rw [unitsT_all,rightT_eq,rightL_eq,alone_eq];have:(u.kids.all fun k=>(unitsT k).all aloneP)=u.kids.all rightT:=by
   rw [Bool.eq_iff_iff,List.all_eq_true,List.all_eq_true];exact ⟨fun H k hk=>by rw [← ih k hk];exact H k hk,fun H k hk=>by rw [ih k hk];exact H k hk⟩
  rw [this,Bool.and_assoc]
theorem nest_pos {p k:Int} (h:nestB p k=true):k≠0:=by
 rintro rfl;unfold nestB at h;split at h
 ·cases h
 ·split at h
  ·cases h
  ·split at h
   ·cases h
   ·split at h
    ·cases h
    ·split at h<;>cases h
theorem sibB_kinds (p:Int):∀ (l pre:List Un),sibB p pre l=true→∀ k∈l,k.kind≠0
 | [],_,_,k,h=>by cases h
 | a::r,pre,H,k,h=>by
  rw [sibB] at H;simp only [Zx4] at H;rcases List.mem_cons.1 h with rfl|h
  ·exact nest_pos H.1
  ·exact sibB_kinds p r _ H.2.2 k h
theorem right_kinds {u:Un} (h:SmT u):rightT u=true→∀ x∈unitsL u.kids,x.kind≠0:=by
 induction h with
 | mk u h hk hs ih =>
  intro H x hx;rw [rightT_eq,rightL_eq] at H;simp only [Zx4,List.all_eq_true] at H;rw [Zat] at hx;obtain ⟨k,h1,h2⟩:=List.mem_flatMap.1 hx;rw [Zaj] at h2;rcases List.mem_cons.1 h2 with rfl|h2
  ·exact sibB_kinds _ _ _ H.2.1 _ h1
  ·exact ih k h1 (H.2.2 k h1) x h2
def idsB (u:Un):Bool:=((idsT u).all fun x=>decide (x=idZ))||(((u.kind==0)==decide (idU u=idZ))&&decide (idsT u).Nodup)
def validT (u:Un):Bool:=rightT u&&(decide (depthT u≤8)&&(decide ((unitsT u).length≤1024)&&idsB u))
def namedB (u:Un):Bool:=(unitsT u).all fun x=>(x.kind==0) || !(decide (idU x=idZ))
def Zch (u:Un):Bool:=validT u&&namedB u
theorem stands_prog {u:Un} (h:SmT u):(validT u && !((if u.kind=0 then (idsT u).drop 1 else idsT u).any fun x=>decide (x=idZ)))=Zch u:=by
 unfold Zch;cases hv:validT u with
 | false=>rfl
 | true =>
  rw [Bool.true_and,Bool.true_and];have hr:rightT u=true:=by unfold validT at hv;simp only [Zx4] at hv;exact hv.1
  have hk:=right_kinds h hr;unfold namedB;rw [Zaj,List.all_cons,idsT_eq];have key:(!(((unitsL u.kids).map idU).any fun x=>decide (x=idZ)))=((unitsL u.kids).all fun x=>(x.kind==0) || !(decide (idU x=idZ))):=by
   generalize unitsL u.kids=l at hk
   induction l with
   | nil=>rfl
   | cons a r ih =>
    have h0:(a.kind==0)=false:=by rw [beq_eq_false_iff_ne];exact hk a List.mem_cons_self
    rw [List.map_cons,List.any_cons,List.all_cons,← ih fun x hx=>hk x (Zx7 _ hx),h0,Bool.false_or,Bool.not_or]
  by_cases h0:u.kind=0
  ·rw [if_pos h0,List.drop_one,List.tail_cons,key];have:(u.kind==0)=true:=by rw [beq_iff_eq];exact h0
   rw [this];rfl
  ·rw [if_neg h0,List.any_cons,Bool.not_or,key];have:(u.kind==0)=false:=by rw [beq_eq_false_iff_ne];exact h0
   rw [this];rfl
end Go.VM
namespace Go.Proofs.w
open Go Go.VM
def c_unit_Depth:VC:=(ZR [ZO 1 (.box 8 (.t 0)),ZO 2 (.mv (.c (.int .i64 0)))] (ZR [ZO 3 (.mv (.c (.int .i64 0)))] (.seq (ZR [ZO 6 (.faddr 7 (.t 1)),ZO 7 (.load false 1 (.t 6)),ZO 8 (.len false (.t 7)),ZO 9 (.mv (.c (.int .i64 0)))] (.block 0 (.loop (ZR [ZO 10 (.bin .lss (.t 9) (.t 8))] (.seq (.cond (.t 10) .skip (.exit 0)) (.seq (.block 1 (ZR [ZO 11 (.iaddr 8 (.t 7) (.t 9)),ZO 12 (.load true 8 (.t 11)),ZO 5 (.alloc ZU),ZN (.store 8 (.t 5) (.t 12))] (.region [ZM 13 3,ZO 14 (.load true 8 (.t 5)),ZO 15 (.call 202 [.t 14]),ZO 16 (.bin .add (.c (.int .i64 1)) (.t 15)),ZO 17 (.mm true [.t 13,.t 16]),ZM 3 17] false))) (.region [ZO 18 (.bin .add (.t 9) (.c (.int .i64 1))),ZM 9 18] false))))))) (ZR [ZM 19 3,ZM 2 19] .ret))))
theorem sp_unit_Depth {u:Un} (hu:SmT u) (hn:(unitsT u).length≤1000):Zam Tryz.prog 202 [.agg u.enc] (pI (depthT u)):=by
 induction hu with
 | mk u h hk hs ih =>
  have hb:∀ k∈u.kids,1+depthT k≤1000:=fun k hk'=>by have:=depth_le (hs k hk');have:=Zbn hk';rw [Zaj,List.length_cons] at hn;omega
  have ih':∀ k∈u.kids,Zam Tryz.prog 202 [.agg k.enc] (pI (depthT k)):=fun k hk'=>ih k hk' (by have:=Zbn hk';rw [Zaj,List.length_cons] at hn;omega);rw [depthT_eq];refine Gp (vc:=c_unit_Depth) [.t 2] (cI _) Tryz.func202 ?_;unfold c_unit_Depth;try dsimp only [ZM,ZO,ZN,ZG,ZR,ZU]
  rw [Un.Zaf];refine Rp0 [1] ?_;refine Zaw [(1,.ro [pI u.act,pI u.item,pI u.n,pI u.kind,.str u.label,.sl 4 (u.head.map Wd.enc),.sl 4 (u.words.map Wd.enc),.sl 8 (u.kids.map Un.enc)])] ⟨View.loc (z:=8) (fz:=false) (es:=[[pI u.act,pI u.item,pI u.n,pI u.kind,.str u.label,.sl 4 (u.head.map Wd.enc),.sl 4 (u.words.map Wd.enc),.sl 8 (u.kids.map Un.enc)]]) rfl (by simp) rfl (by simp),trivial⟩ ?_;generalize u.head.map Wd.enc=EH;generalize u.words.map Wd.enc=EW;generalize u.kids=L at hk hb ih' ⊢;refine Rp0 [1,3] ?_;refine Zaa ?_;refine Rp1 [3,7,8,9] @xlm ?_;refine Zab ?_;refine Zak (σ:={ x:Nat×Nat//x.1≤L.length }) (fun x=>([(3,pI ((L.take x.1.1).foldl dpF 0:Nat)),(7,.sl 8 (L.map Un.enc)),(8,pI L.length),(9,pI x.1.1)],⟨[],x.1.2⟩)) (fun x=>L.length-x.1.1) ⟨(0,1),Nat.zero_le _⟩ ?_ ?_ ?_
  ·exact Fn0
  ·exact Sc0
  rintro ⟨⟨k,t⟩,hkk⟩;simp only [] at hkk ⊢;refine Rp0 [3,7,8,9,10] ?_;refine Zaa ?_;refine Zac rfl (fun h1=>?_) (fun h1=>?_)
  ·have ka:k<L.length:=by simp only [Zx3] at h1;omega
   have hst:=dpF_step ka;have hrow:(L.map Un.enc).getD k []=L[k].enc:=rowm ka;have R:=ih' _ (List.getElem_mem ka);have hkb:=hb _ (List.getElem_mem ka);have hd:=dpF_bd (L.take k) 0 1000 (by omega) (fun x hx=>hb x (List.mem_of_mem_take hx));generalize L[k]=v at hst hrow R hkb;generalize (L.take k).foldl dpF 0=D at hst hd ⊢;rw [Un.Zaf] at hrow R;generalize depthT v=dv at hst R hkb;refine Kp0 ?_;refine Zaa ?_;refine Zab ?_;refine Rp1 [3,5,7,8,9] (x2 @xlm hrow) ?_;refine Ok ?_;refine rp0 [3,7,8,9] ?_;refine Ap1 R (w64 (n:=(1:Int)+dv) (by omega) (by omega)) ?_;have e:(if (1:Int)+dv>D then (1:Int)+dv else (D:Int))=((max D (1+dv):Nat):Int):=by split<;>omega
   rw [e];refine rp1 [3,7,8,9] (ad1 (a:=k) (by omega)) ?_;refine ⟨⟨(k+1,t+1),ka⟩,?_⟩;simp only [hst]
   all_goals exact Fn0
  ·have ka:k=L.length:=by simp only [Zx2] at h1;omega
   subst ka;rw [List.take_length];refine Ep0 ?_;exact Rv0 [2]
end Go.Proofs.w
