import Derived.Test.YtcgdjembdjdlhaaGreatDoorVmD
import Derived.Lib.FieldsP
import Derived.Test.YtcgdjembdjdlhaaGreatDoorYp
import Derived.Test.YtcgdjembdjdlhaaGreatDoorVmPk
import Derived.Test.YtcgdjembdjdlhaaGreatDoorVmT
import Derived.Test.YtcgdjembdjdlhaaGreatDoorVmE
import Derived.Test.YtcgdjembdjdlhaaGreatDoorShAll
import Derived.Test.YtcgdjembdjdlhaaGreatDoorSa
import Derived.Test.YtcgdjembdjdlhaaGreatDoorPf
import Derived.Test.YtcgdjembdjdlhaaGreatDoorYl
set_option linter.all false
set_option maxRecDepth 20000
set_option maxHeartbeats 0
namespace Go.Proofs.YtcgdjembdjdlhaaGreatDoor.w
open Go Go.VM
theorem decode_low (s:ByteArray) (i:Nat) (h:(s.get! i).toNat<128):Utf8.decode s i=((s.get! i).toNat,1):=by
 simp [Utf8.decode,h]
theorem decode_high (s:ByteArray) (i:Nat) (hi:i<s.size) (h:¬ (s.get! i).toNat<128):128≤(Utf8.decode s i).1∧1≤(Utf8.decode s i).2∧∀ k,k<(Utf8.decode s i).2→i+k<s.size∧¬ (s.get! (i+k)).toNat<128:=by
 have one:∀ k,k<1→i+k<s.size∧¬ (s.get! (i+k)).toNat<128:=fun k hk=>by
  obtain rfl:k=0:=by omega
  exact ⟨hi,h⟩
 have h':¬ (s.get! (i+0)).toNat<0x80:=h;unfold Utf8.decode;simp only [h',if_false,Utf8.runeError];split
 ·rename_i h1;simp only [Bool.and_eq_true,decide_eq_true_eq,beq_iff_eq] at h1;split
  ·rename_i h2;refine ⟨h2,(by simp),fun k hk=>?_⟩;simp only at hk;obtain rfl|rfl:k=0∨k=1:=by omega
   ·exact ⟨hi,h⟩
   ·exact ⟨h1.2.1,by omega⟩
  ·exact ⟨by simp,by simp,one⟩
 ·split
  ·rename_i h1;simp only [Bool.and_eq_true,decide_eq_true_eq,beq_iff_eq] at h1;split
   ·rename_i h2;simp only [Bool.and_eq_true,decide_eq_true_eq] at h2;refine ⟨by simp only [];omega,(by simp),fun k hk=>?_⟩;simp only at hk;obtain rfl|rfl|rfl:k=0∨k=1∨k=2:=by omega
    ·exact ⟨hi,h⟩
    ·exact ⟨h1.1.2.1,by omega⟩
    ·exact ⟨h1.2.1,by omega⟩
   ·exact ⟨by simp,by simp,one⟩
  ·split
   ·rename_i h1;simp only [Bool.and_eq_true,decide_eq_true_eq,beq_iff_eq] at h1;split
    ·rename_i h2;simp only [Bool.and_eq_true,decide_eq_true_eq] at h2;refine ⟨by simp only [];omega,(by simp),fun k hk=>?_⟩;simp only at hk;obtain rfl|rfl|rfl|rfl:k=0∨k=1∨k=2∨k=3:=by omega
     ·exact ⟨hi,h⟩
     ·exact ⟨h1.1.1.2.1,by omega⟩
     ·exact ⟨h1.1.2.1,by omega⟩
     ·exact ⟨h1.2.1,by omega⟩
    ·exact ⟨by simp,by simp,one⟩
   ·exact ⟨by simp,by simp,one⟩
theorem get!_at (s:ByteArray) (i:Nat) (h:i<s.size):s.get! i=s.data.toList[i]'(by simpa using h):=by
 have h2:i<s.data.size:=h;have:s.get! i=s.data[i]!:=rfl;rw [this,getElem!_pos s.data i h2,Array.getElem_toList]
def fldF:Str→Str→List Str
 | cur,[]=>if cur=[] then [] else [cur]
 | cur,b::r=>if b=32 then (if cur=[] then fldF [] r else cur::fldF [] r) else fldF (cur++[b]) r
def Zaq (s:Str):List Str:=fldF [] s
def cutF:Str→Str→List Str
 | cur,[]=>[cur]
 | cur,b::r=>if b=32 then cur::cutF [] r else cutF (cur++[b]) r
theorem cut_fields:∀ (s cur:Str),(cutF cur s).filter (fun x=>x != [])=fldF cur s
 | [],cur=>by
  unfold cutF fldF;by_cases h:cur=[]<;>simp [h]
 | b::r,cur=>by
  unfold cutF fldF;by_cases hb:b=32
  ·rw [if_pos hb,if_pos hb,List.filter_cons,cut_fields r []];by_cases h:cur=[]<;>simp [h]
  ·rw [if_neg hb,if_neg hb,cut_fields r _]
theorem fldF_skip:∀ (m cur r:Str),(∀ b∈m,b≠32)→fldF cur (m++r)=fldF (cur++m) r
 | [],cur,r,_=>by simp
 | b::m,cur,r,h=>by
  rw [List.cons_append,fldF,if_neg (h b List.mem_cons_self),fldF_skip m _ r fun x hx=>h x (List.mem_cons_of_mem _ hx)];simp
def isSp (x:Nat):Bool:=x==32
def piece (s:ByteArray) (x:Nat×Nat):Str:=(s.extract x.1 x.2).data.toList
theorem piece_eq (s:ByteArray) (a b:Nat):piece s (a,b)=(s.data.toList.drop a).take (b-a):=by
 show (s.extract a b).data.toList=_;rw [ByteArray.data_extract,Array.toList_extract,List.extract_eq_take_drop]
theorem spans_fields (s : ByteArray) : ∀ (f pos : Nat) (st : Option Nat) (acc : List (Nat × Nat)), s.size ≤ pos + f → pos ≤ s.size → (∀ a, st = some a → a < pos) →
  (Lib.closeSpans s (Lib.spansFromP isSp s f pos st acc)).map (piece s)=acc.map (piece s)++fldF (match st with|some a=>piece s (a,pos)|none=>[]) (s.data.toList.drop pos):=by
 intro f
 induction f with
 | zero =>
  intro pos st acc hf hp ha;have hpe:pos=s.size:=by omega
  subst hpe;have hd:s.data.toList.drop s.size=[]:=List.drop_eq_nil_of_le (by simp);rw [hd];cases st with
  | none=>simp [Lib.spansFromP,Lib.closeSpans,fldF]
  | some a =>
   have hlt:=ha a rfl;have hne:piece s (a,s.size)≠[]:=by
    rw [piece_eq];intro h;have:=congrArg List.length h;simp at this;omega
   simp [Lib.spansFromP,Lib.closeSpans,fldF,hne]
 | succ f ih =>
  intro pos st acc hf hp ha;by_cases hlt:pos<s.size
  ·have hl:pos<s.data.toList.length:=by simpa using hlt
   have hg:=get!_at s pos hlt;unfold Lib.spansFromP;rw [if_pos hlt];by_cases h1:(s.get! pos).toNat<128
   ·rw [decode_low s pos h1];rw [List.drop_eq_getElem_cons hl,← hg];simp only [];by_cases h2:s.get! pos=32
    ·have e:isSp (s.get! pos).toNat=true:=by rw [h2];rfl
     rw [if_pos e];cases st with
     | none =>
      simp only [];rw [ih _ _ _ (by omega) (by omega) (fun a h=>by cases h)];rw [h2];simp [fldF]
     | some a =>
      simp only [];have hlt2:=ha a rfl;have hne:piece s (a,pos)≠[]:=by
       rw [piece_eq];intro h;have:=congrArg List.length h;simp at this;omega
      rw [ih _ _ _ (by omega) (by omega) (fun a h=>by cases h)];rw [h2];simp [fldF,hne]
    ·have e : isSp (s.get! pos).toNat = false := by
      unfold isSp;rw [beq_eq_false_iff_ne];intro h;exact h2 (UInt8.toNat_inj.1 (by rw [h];rfl))
     rw [e];simp only [Bool.false_eq_true,if_false];cases st with
     | none =>
      simp only [];rw [ih _ _ _ (by omega) (by omega) (fun a h=>by cases h;omega)];simp only [fldF,h2,if_false,List.nil_append]
      congr 2
      rw [piece_eq,List.drop_eq_getElem_cons hl,← hg];simp
     | some a =>
      simp only [];have hlt2:=ha a rfl;rw [ih _ _ _ (by omega) (by omega) (fun a h=>by cases h;omega)];simp only [fldF,h2,if_false]
      congr 2
      rw [piece_eq,piece_eq,hg];rw [show pos+1-a=(pos-a)+1 by omega,List.take_add_one,List.getElem?_drop,show a+(pos-a)=pos by omega,List.getElem?_eq_getElem hl];rfl
   ·obtain ⟨d1,d2,d3⟩:=decode_high s pos hlt h1;generalize hW:Utf8.decode s pos=W at d1 d2 d3;obtain ⟨rn,wd⟩:=W;simp only [] at d1 d2 d3 ⊢;have e:isSp rn=false:=by
     unfold isSp;rw [beq_eq_false_iff_ne];omega
    rw [e];simp only [Bool.false_eq_true,if_false];have hlast:=(d3 (wd-1) (by omega)).1;have hsplit:s.data.toList.drop pos=(s.data.toList.drop pos).take wd++s.data.toList.drop (pos+wd):=by
     rw [← List.drop_drop,List.take_append_drop]
    have hno:∀ b∈(s.data.toList.drop pos).take wd,b≠32:=by
     intro b hb;obtain ⟨k,hk,rfl⟩:=List.mem_iff_getElem.1 hb;have hk':k<wd:=by simp at hk;omega
     have h4:=d3 k hk';rw [get!_at s (pos+k) h4.1] at h4;rw [List.getElem_take,List.getElem_drop];intro h5;rw [h5] at h4;exact h4.2 (by decide)
    rw [hsplit,fldF_skip _ _ _ hno];cases st with
    | none =>
     simp only [];rw [ih _ _ _ (by omega) (by omega) (fun a h=>by cases h;omega)]
     congr 2
     show piece s (pos,pos+wd)=_;rw [piece_eq,show pos+wd-pos=wd by omega];simp
    | some a =>
     simp only [];have hlt2:=ha a rfl;rw [ih _ _ _ (by omega) (by omega) (fun a h=>by cases h;omega)]
     congr 2
     show piece s (a,pos+wd)=_++_;rw [piece_eq];rw [show pos+wd-a=(pos-a)+wd by omega,List.take_add,List.drop_drop,show a+(pos-a)=pos by omega];rw [piece_eq]
  ·have hpe:pos=s.size:=by omega
   subst hpe;rw [Lib.spansFromP_end _ _ _ _ _ _ (by omega)];have hd:s.data.toList.drop s.size=[]:=List.drop_eq_nil_of_le (by simp);rw [hd];cases st with
   | none=>simp [Lib.closeSpans,fldF]
   | some a =>
    have hlt:=ha a rfl;have hne:piece s (a,s.size)≠[]:=by
     rw [piece_eq];intro h;have:=congrArg List.length h;simp at this;omega
    simp [Lib.closeSpans,fldF,hne]
theorem goFields_plain (l:Str):(Lib.goFieldsP isSp ⟨l.toArray⟩).map (fun x=>x.data.toList)=Zaq l:=by
 have h:=spans_fields ⟨l.toArray⟩ (ByteArray.mk l.toArray).size 0 none [] (by omega) (by omega) (fun a h=>by cases h);unfold Lib.goFieldsP Lib.spansOfP;rw [List.map_map];exact h
end Go.Proofs.YtcgdjembdjdlhaaGreatDoor.w
namespace Go.Proofs.YtcgdjembdjdlhaaGreatDoor.w
open Go Go.VM
def c_paginate_Words_1:VC:=(ZR [ZO 2 (.mv (.c (.bool false)))] (ZR [ZM 3 0,ZO 4 (.bin .eql (.t 3) (.c (.int .i32 32))),ZM 2 4] .ret))
def strR (l:List Str):List (List PV):=l.map fun s=>[.str s]
theorem Zbe (l:List Str):(strR l).length=l.length:=by simp [strR]
theorem strR_take (l:List Str):(strR l).take l.length=strR l:=List.take_of_length_le (by rw [Zbe];exact Nat.le_refl _)
theorem strR_app (a b:List Str):strR a++strR b=strR (a++b):=by simp [strR]
theorem sp_paginate_Words_1 (x:Nat):Zaj Tryz.prog 50 [.int .i32 x] (.bool (isSp x)):=by
 refine Zad ?_ (cB _) (by intro y hy;rw [List.mem_singleton] at hy;subst hy;exact Closed.of_scalar (Zcs _ _));refine Gn (vc:=c_paginate_Words_1) [.t 2] Tryz.func50 ?_;unfold c_paginate_Words_1;try dsimp only [ZM,ZO,ZN,ZG,ZR,ZU]
 refine Rp0 [0] ?_;refine Rp0 [2] ?_;refine Tp0 ?_;have e:((x:Int)==32)=isSp x:=by
  unfold isSp;rw [Bool.eq_iff_iff,beq_iff_eq,beq_iff_eq];omega
 rw [e];exact View.refl _ _
theorem closed_strR (l:List Str):Closed (.sl 1 (strR l)):=Zam (fun s _ x hx=>by rw [List.mem_singleton] at hx;subst hx;exact cS _)
theorem sp_FieldsFunc (s:Str) (hs:s.length≤1000000):Zaj Tryz.prog 49 [.str s,.fn (.func 50) [] []] (.sl 1 (strR (Zaq s))):=by
 refine ⟨by kernel_rfl,by intro x hx;simp only [List.mem_cons,List.not_mem_nil,or_false] at hx;rcases hx with rfl|rfl;exact cS _;exact closed_fn0 _,fun g w vals r ha=>?_⟩;obtain ⟨v,u,rfl,hv,hu⟩:=args_2 ha;obtain ⟨z,rfl,hz⟩:=hv.str_inv;obtain rfl:=fn0_inv hu;rw [str_eq hz];refine (Tryz.strings_FieldsFunc_grows _ #[] (enters_of Tryz.func50 (by kernel_rfl) rfl) isSp _ w (by show s.toArray.size≤_;rw [List.size_toArray];omega) (grows_of sp_paginate_Words_1 r)).mono ?_;rintro e w' ⟨A,rfl,hA,hrow,hb⟩;have hpl:=goFields_plain s;generalize Lib.goFieldsP isSp ⟨s.toArray⟩=F at hrow hpl;have hlen:(F.map Value.string).length=F.length:=by simp
 have hfl:(Zaq s).length=F.length:=by rw [← hpl];simp
 have hget:∀ j,j<F.length→(F.map Value.string).getD j Go.undef=.string (F.getD j ⟨#[]⟩):=fun j hj=>by
  simp [List.getD_eq_getElem?_getD,hj]
 have hgf:∀ j,j<F.length→(F.getD j ⟨#[]⟩).data.toList=(Zaq s).getD j []:=fun j hj=>by
  rw [← hpl];simp [List.getD_eq_getElem?_getD,hj]
 by_cases h0:F.length=0
 ·have hF:F=[]:=List.eq_nil_of_length_eq_zero h0;subst hF;have:Zaq s=[]:=List.eq_nil_of_length_eq_zero hfl;rw [this];exact ⟨_,g.m,rfl,.slE _ _ _,memExt_below r hb,hb⟩
 rcases hrow.2 with ⟨h1,_⟩|⟨gb,cap,cur,h1,hbase,hgb,r1,r2,r3,r4⟩
 ·cases h1
 ·cases h1;obtain ⟨m', hr, hm⟩ := row_result (cap := F.length) r hb (F.map Value.string) ((Zaq s).map PV.str) (by simp [hfl]) (fun j hj g => by
    rw [hlen] at hj;rw [hget j hj];have:PV.nth ((Zaq s).map PV.str) j=.str ((Zaq s).getD j []):=by
     have hj':j<(Zaq s).length:=by omega
     simp [PV.nth,List.getD_eq_getElem?_getD,hj']
    rw [this];exact .str _ _ (hgf j hj)) (fun j hj=>by rw [hlen] at hj;rw [hget j hj];rfl) hbase hgb (by rw [hlen];exact r1) (fun j hj=>by
    rw [hlen] at hj;rw [hget j hj];have h2:(cur.toList.take (F.length*1))[j]?=(F.map Value.string)[j]?:=by rw [r4]
    rw [List.getElem?_take,if_pos (by omega),List.getElem?_map] at h2;rw [← Array.getElem?_toList,h2];simp [List.getD_eq_getElem?_getD,hj])
  rw [hlen,List.map_map] at hr;exact ⟨_,m',rfl,hr,hm,hb⟩
theorem fl_step {l:List Str} {k:Nat} (h:k<l.length):(l.take (k+1)).flatMap Zaq=(l.take k).flatMap Zaq++Zaq l[k]:=by
 rw [List.take_add_one,List.getElem?_eq_getElem h,List.flatMap_append];simp
theorem fl_take (l:List Str) (k:Nat):((l.take k).flatMap Zaq).length≤(l.flatMap Zaq).length:=by
 have:l.flatMap Zaq=(l.take k).flatMap Zaq++(l.drop k).flatMap Zaq:=by rw [← List.flatMap_append,List.take_append_drop]
 rw [this];simp
end Go.Proofs.YtcgdjembdjdlhaaGreatDoor.w
namespace Go.Proofs.YtcgdjembdjdlhaaGreatDoor.w
open Go Go.VM Go.Shelf Go.RowKit Go.Lib Go.Sort
def c_slices_Equal_string:VC:=(ZR [ZO 4 (.mv (.c (.bool false)))] (.seq (ZR [ZM 6 0,ZO 7 (.len false (.t 6)),ZM 8 1,ZO 9 (.len false (.t 8)),ZO 10 (.bin .neq (.t 7) (.t 9))] (.cond (.t 10) (ZR [ZO 4 (.mv (.c (.bool false)))] .ret) .skip)) (.seq (ZR [ZM 11 0,ZO 12 (.len false (.t 11)),ZO 13 (.mv (.c (.int .i64 0)))] (.block 0 (.loop (ZR [ZO 14 (.bin .lss (.t 13) (.t 12))] (.seq (.cond (.t 14) .skip (.exit 0)) (.seq (.block 1 (ZR [ZM 15 13,ZM 5 15] (.seq (.region [ZM 16 0,ZM 17 5,ZO 18 (.iaddr 1 (.t 16) (.t 17)),ZO 19 (.load false 1 (.t 18)),ZM 20 1,ZM 21 5,ZO 22 (.iaddr 1 (.t 20) (.t 21)),ZO 23 (.load false 1 (.t 22)),ZO 24 (.bin .neq (.t 19) (.t 23))] true) (.cond (.t 24) (ZR [ZO 4 (.mv (.c (.bool false)))] .ret) .skip)))) (.region [ZO 25 (.bin .add (.t 13) (.c (.int .i64 1))),ZM 13 25] false))))))) (ZR [ZO 4 (.mv (.c (.bool true)))] .ret))))
abbrev encT (x:Str):List Value:=[encStr x]
abbrev encTP (x:Str):List PV:=[.str x]
theorem plain_str:Plain Str 1 encT encTP:=⟨fun _=>rfl,fun _=>rfl,fun x v hv=>by simp [encT,encStr] at hv;rcases hv with rfl;rfl,
 fun g x j hj=>by
  match j,hj with
  | 0,_=>exact .str _ _ (by simp),
 fun g v x j hj h=>by
  match j,hj,h with
  | 0,_,h =>
   cases h;rename_i s hs;show Value.string s=encStr x;unfold encStr;rw [str_eq hs]⟩
theorem flat_str (d:Array Str):Sort.flatK encT 1 d=d.map encStr:=by
 apply Array.ext
 ·simp
 ·intro i h1 h2;have hi:i<d.size:=by simpa using h2
  simp [Sort.flatK,encT,Nat.mod_one,hi]
theorem putCells_str (off:Nat) (d:Array Str) (c:Array Value):putCells encStr off d c=putCells (fun v:Value=>v) off (d.map encStr) c:=by
 unfold putCells
 congr 1
 funext k x
 simp only [Array.size_map];split
 ·rename_i h;have:k-off<d.size:=by omega
  rw [getElem!_pos d _ this,getElem!_pos (d.map encStr) _ (by simpa using this)];simp
 ·rfl
theorem putRow_str (w:World) (b o:Nat) (d:Array Str):putRow encStr w b o d=putRowK encT 1 w b o d:=by
 unfold putRowK putRow;rw [flat_str]
 congr 1
 funext c
 exact putCells_str o d c
theorem holds_str {w:World} {b o:Nat} {d:Array Str} (h:HoldsK encT 1 w b o d):Holds encStr w b o d:=by
 unfold HoldsK at h;rw [flat_str] at h;intro j hj;have:=h j (by simpa using hj);rw [getElem!_pos (d.map encStr) j (by simpa using hj)] at this;rw [getElem!_pos d j hj]
 simpa using this
noncomputable def sortT (zs:List Str):List Str:=zs.mergeSort fun x y=>decide (x≤y)
theorem sortsStr (id n : Nat) (zs : List Str) (hlen : zs.length ≤ 1000000000) : Zal Tryz.prog 22 [.own id 0 zs.length] ⟨[(id, .arr false 1 (zs.map encTP))], n⟩
  (fun _ h'=>h'=⟨[(id,.arr false 1 ((sortT zs).map encTP))],n⟩):=by
 refine ⟨by kernel_rfl,fun g w vals r ha=>?_⟩;obtain ⟨v,rfl,hv⟩:=args_1 ha;have hg:(⟨[(id,.arr false 1 (zs.map encTP))],n⟩:Heap).get id=some (.arr false 1 (zs.map encTP)):=by simp [Heap.get,HL.get]
 rcases holds_own plain_str (by decide) r hv hg (by simp) zs.toArray (by simp [List.take_of_length_le]) with ⟨h0,ao,cap,rfl⟩|⟨cap,b,o,nn,c,tt,rfl,hsz,hβ,hlt,hc,hfit,hH⟩
 ·have hcon:=Tryz.slices_Sort_string_none ao cap w;change Calls Tryz.prog 22 _ _ _ at hcon;have hz:zs=[]:=List.eq_nil_of_length_eq_zero h0;subst hz;refine hcon.mono ?_;rintro e w' ⟨rfl,rfl⟩;exact ⟨.tuple #[],.tup [],g,_,rfl,by simp [sortT],.tup _ _ rfl (fun j hj=>by cases hj),r,Evo.refl _ _ _⟩
 ·have hcon:=Tryz.slices_Sort_string b (o+0*1) cap zs w (holds_str hH) hlt (by omega);change Calls Tryz.prog 22 _ _ _ at hcon;refine hcon.mono ?_;rintro e w' ⟨rfl,m,os,rfl⟩;rw [putRow_str];have sb:=sorted_back plain_str r hg (by simp) hβ hc hfit (sortT zs).toArray (by simp [sortT]) m os;have he:(⟨[(id,.arr false 1 (zs.map encTP))],n⟩:Heap).set id (.arr false 1 ((zs.map encTP).take 0++(sortT zs).toArray.toList.map encTP++(zs.map encTP).drop (0+zs.length)))=⟨[(id,.arr false 1 ((sortT zs).map encTP))],n⟩:=by
   simp [Heap.set,HL.set,HL.del]
  rw [he] at sb;exact ⟨.tuple #[],.tup [],g,_,rfl,rfl,.tup _ _ rfl (fun j hj=>by cases hj),sb.1,sb.2⟩
theorem sp_Equal_same (l:List Str) (hl:l.length≤1000000000):Zaj Tryz.prog 23 [.sl 1 (strR l),.sl 1 (strR l)] (.bool true):=by
 refine Zad ?_ (cB _) (by intro y hy;simp only [List.mem_cons,List.not_mem_nil,or_false] at hy;rcases hy with rfl|rfl<;>exact closed_strR _);refine Gn (vc:=c_slices_Equal_string) [.t 4] Tryz.func23 ?_;unfold c_slices_Equal_string;try dsimp only [ZM,ZO,ZN,ZG,ZR,ZU]
 have hll:=Zbe l;have hg:∀ (k:Nat) (hk:k<l.length),(strR l).getD k []=[PV.str l[k]]:=fun k hk=>rowm hk;generalize strR l=AE at hll hg ⊢;have e1:((l.length:Int) != (l.length:Int))=false:=by simp
 refine Rp0 [0,1] ?_;refine Zaa ?_;refine Rp1 [0,1,10] (x2 hll e1) ?_;refine Fp0 ?_;refine Zaa ?_;refine Rp1 [0,1,12,13] hll ?_;refine Zab ?_;refine Zah (σ:={ k:Nat//k≤l.length }) (fun x=>([(0,.sl 1 AE),(1,.sl 1 AE),(12,pI l.length),(13,pI x.1)],⟨[],0⟩)) (fun x=>l.length-x.1) ⟨0,Nat.zero_le _⟩ ?_ ?_ ?_
 ·refine Sp0 ?_;rfl
 ·exact Sc0
 rintro ⟨k,hk⟩;simp only [];refine Rp0 [0,1,12,13,14] ?_;refine Zaa ?_;refine Zac rfl (fun h1=>?_) (fun h1=>?_)
 ·have ka:k<l.length:=by simp only [decide_eq_true_eq] at h1;omega
  have ra:=hg k ka;generalize l[k]=s at ra;have e2:(s != s)=false:=by simp
  refine Kp0 ?_;refine Zaa ?_;refine Zab ?_;refine Rp0 [0,1,5,12,13] ?_;refine Zaa (VW_drawE 0 [0,1,12,13,24] (by simp) ?_);refine Sp1 (x3 hll ra e2) ?_;refine Ok ?_;refine Fp0 ?_;refine rp1 [0,1,12,13] (ad1 (a:=k) (by omega)) ?_;refine ⟨⟨k+1,ka⟩,?_⟩;exact Fn0
 ·refine Ep0 ?_;exact Rv0 [4]
end Go.Proofs.YtcgdjembdjdlhaaGreatDoor.w
namespace Go.VM
open Go Go.Proofs.YtcgdjembdjdlhaaGreatDoor.w
theorem T_irr (a:Str):¬ a<a:=List.lt_irrefl a
theorem T_trans {a b c:Str} (h:a<b) (k:b<c):a<c:=List.lt_trans h k
theorem T_le {a b:Str}:a≤b↔a<b∨a=b:=by
 constructor
 ·intro h;by_cases h1:a<b
  ·exact .inl h1
  ·exact .inr (List.le_antisymm h (List.not_lt.1 h1))
 ·rintro (h|rfl)
  ·exact List.not_lt.1 fun h2=>T_irr _ (T_trans h h2)
  ·exact List.not_lt.1 (T_irr _)
theorem T_tri (a b:Str):a<b∨a=b∨b<a:=by
 by_cases h:a<b
 ·exact .inl h
 ·rcases T_le.1 (List.not_lt.1 h) with h|h
  ·exact .inr (.inr h)
  ·exact .inr (.inl h.symm)
theorem sortT_sorted (zs:List Str):(sortT zs).Pairwise (·≤·):=by
  have := List.pairwise_mergeSort (le := fun a b : Str => decide (a ≤ b)) (fun a b c h1 h2 => by
      simp only [decide_eq_true_eq] at *;rcases T_le.1 h1 with h|rfl
      · rcases T_le.1 h2 with k|rfl
        · exact T_le.2 (.inl (T_trans h k))
        · exact h1
      · exact h2) (fun a b=>by
      simp only [Bool.or_eq_true,decide_eq_true_eq];rcases T_tri a b with h|h|h
      · exact .inl (T_le.2 (.inl h))
      · exact .inl (T_le.2 (.inr h))
      · exact .inr (T_le.2 (.inl h))) zs
  exact this.imp (by simp)
theorem sortT_perm {a b:List Str} (h:a.Perm b):sortT a=sortT b :=
 List.Perm.eq_of_pairwise (le:=fun x y=>x≤y) (fun x y _ _ h1 h2=>by
  rcases T_le.1 h1 with h1|h1
  ·rcases T_le.1 h2 with h2|h2
   ·exact absurd (T_trans h1 h2) (T_irr x)
   ·exact h2.symm
  ·exact h1) (sortT_sorted a) (sortT_sorted b) ((List.mergeSort_perm _ _).trans (h.trans (List.mergeSort_perm _ _).symm))
theorem perm_mid {α:Type} (a b c d:List α):(a++b++(c++d)).Perm (a++c++(b++d)):=by
 rw [List.append_assoc,List.append_assoc];refine List.Perm.append_left a ?_;rw [← List.append_assoc,← List.append_assoc];exact List.Perm.append_right d List.perm_append_comm
theorem pages_perm:∀ P:List (List Ln),(P.flatMap fun N=>N.map Ln.text++N.flatMap Ln.notes).Perm (P.flatten.map Ln.text++P.flatten.flatMap Ln.notes)
 | []=>List.Perm.refl _
 | N::P=>by
  rw [List.flatMap_cons,List.flatten_cons,List.map_append,List.flatMap_append];exact (List.Perm.append_left _ (pages_perm P)).trans (perm_mid _ _ _ _)
theorem ownF_text {w:Int} {u:Un} {t:Bool}:∀ (l:List Str) (E:List Nat) (fr:Nat),l.length=E.length→(ownF w u t fr l E).map Ln.text=l
 | [],E,fr,_=>by unfold ownF;rfl
 | s::l,[],fr,h=>by simp at h
 | s::l,e::E,fr,h=>by
  unfold ownF;rw [List.map_cons,ownF_text l E _ (by simpa using h)]
theorem notesR_app (w:Int) (u:Un) {a b c:Nat} (h1:a≤b) (h2:b≤c):Zbb w u a c=Zbb w u a b++Zbb w u b c:=by
 unfold Zbb;rw [← List.flatMap_append]
 congr 1
 rw [show c-a=(b-a)+(c-b) by omega,← List.range'_append_1,show a+(b-a)=b by omega]
theorem ownF_notes {w:Int} {u:Un} {t:Bool} {n:Nat}:∀ (l:List Str) (E:List Nat) (a:Nat),l.length=E.length→Zbj n a E=true→(ownF w u t (toN u a) l E).flatMap Ln.notes=Zbb w u (toN u a) (toN u n)
 | [],E,a,h,hr=>by
  have hE:E=[]:=by cases E with
   | nil=>rfl
   | cons _ _=>simp at h
  subst hE;rw [Zbj,beq_iff_eq] at hr;subst hr;unfold ownF Zbb;rw [Nat.sub_self];rfl
 | s::l,[],a,h,_=>by simp at h
 | s::l,e::E,a,h,hr=>by
  have hb:=rises_pair hr;rw [Zbj] at hr;simp only [Bool.and_eq_true] at hr;have h1:=hb.2 e List.mem_cons_self;unfold ownF;rw [List.flatMap_cons,ownF_notes l E e (by simpa using h) hr.2];show Zbb w u (toN u a) (toN u e)++_=_;exact (notesR_app w u (toN_mono (by omega)) (toN_mono h1.2)).symm
theorem filt_or {α:Type} {p q r:α→Bool} (hr:∀ x,r x=(p x||q x)) (hd:∀ x,p x=true→q x=false):∀ l:List α,(l.filter r).Perm (l.filter p++l.filter q)
 | []=>List.Perm.refl _
 | x::l=>by
  have ih:=filt_or hr hd l;cases hp:p x with
  | true =>
   rw [List.filter_cons_of_pos (by rw [hr,hp];rfl),List.filter_cons_of_pos hp,List.filter_cons_of_neg (by rw [hd x hp];simp)];exact ih.cons x
  | false =>
   cases hq:q x with
   | true =>
    rw [List.filter_cons_of_pos (by rw [hr,hq,Bool.or_true]),List.filter_cons_of_neg (by rw [hp];simp),List.filter_cons_of_pos hq];exact (ih.cons x).trans List.perm_middle.symm
   | false =>
    rw [List.filter_cons_of_neg (by rw [hr,hp,hq];simp),List.filter_cons_of_neg (by rw [hp];simp),List.filter_cons_of_neg (by rw [hq];simp)];exact ih
theorem notesR_perm (w:Int) (u:Un):∀ n:Nat,(Zbb w u 0 n).Perm ((u.kids.filter fun k=>decide (0≤Zaf u k)&&decide (Zaf u k<(n:Int))).flatMap (Zas w))
 | 0=>by
  have:(u.kids.filter fun k=>decide (0≤Zaf u k)&&decide (Zaf u k<((0:Nat):Int)))=[]:=by
   rw [List.filter_eq_nil_iff];intro k _;simp only [Bool.and_eq_true,decide_eq_true_eq];omega
  rw [this];exact List.Perm.refl _
 | n+1=>by
  rw [notesR_step w u (Nat.zero_le n)];refine (List.Perm.append_right _ (notesR_perm w u n)).trans ?_;unfold Zbz;rw [← List.flatMap_append];refine (List.Perm.flatMap_right _ (filt_or (fun k=>?_) (fun k h=>?_) u.kids)).symm
  ·rw [Bool.eq_iff_iff];simp only [Bool.and_eq_true,Bool.or_eq_true,decide_eq_true_eq,beq_iff_eq];omega
  ·simp only [Bool.and_eq_true,decide_eq_true_eq] at h;rw [beq_eq_false_iff_ne];omega
theorem own_text {w:Int} {u:Un}:(ownL w u).map Ln.text=Zas w u:=ownF_text _ _ _ (Zcv w u)
theorem own_notes {w:Int} {u:Un} (hw:Zbg w (rowT u)=0):((ownL w u).flatMap Ln.notes).Perm ((u.kids.filter fun k=>decide (0≤Zaf u k)).flatMap (Zas w)):=by
 have h:=ownF_notes (w:=w) (u:=u) (t:=tiedU u) (Zas w u) (Za5 w (rowT u)) 0 (Zcv w u) (Zb6 hw);have e0:toN u 0=0:=by unfold toN;omega
 have e1:toN u (rowT u).length=u.words.length:=by
  unfold toN rowT;simp only [List.length_cons,List.length_map,List.length_append];omega
 rw [e0,e1] at h;unfold ownL;rw [h];refine (notesR_perm w u _).trans ?_;have:(u.kids.filter fun k=>decide (0≤Zaf u k)&&decide (Zaf u k<(u.words.length:Int)))=u.kids.filter fun k=>decide (0≤Zaf u k):=by
  refine List.filter_congr fun k _=>?_;by_cases h0:0≤Zaf u k
  ·have : Zaf u k < (u.words.length : Int) := by
    unfold Zaf at h0 ⊢;split
    ·rename_i h7;rw [if_pos h7] at h0;obtain ⟨j,hj,e,_⟩:=idxF_spec h0;rw [e];omega
    ·rename_i h7;rw [if_neg h7] at h0;omega
   rw [decide_eq_true h0,decide_eq_true this];rfl
  ·rw [decide_eq_false h0];rfl
 rw [this]
theorem note_leaf {u k:Un} (hr:rightT k=true) (h:0≤Zaf u k):k.kids=[]:=by
 have h7:k.kind=7:=by
  unfold Zaf at h;split at h
  ·assumption
  ·omega
 rw [rightT_eq,rightL_eq,h7] at hr;simp only [Bool.and_eq_true] at hr;cases hk:k.kids with
 | nil=>rfl
 | cons a r =>
  rw [hk,sibB] at hr;have h2:=hr.2.1;simp only [Bool.and_eq_true] at h2;have h3:=h2.1;unfold nestB at h3;simp at h3
theorem body_perm {u:Un} (hu:SmT u) {w:Int}:(∀ x∈unitsT u,Zbg w (rowT x)=0∧rightT x=true)→((bodyT w u).map Ln.text++(bodyT w u).flatMap Ln.notes).Perm (Zap w (unitsT u))∧((bodyT w u).map Ln.text).Sublist (Zap w (unitsT u)):=by
 induction hu with
 | mk u h hk hs ih =>
  intro hw;have hwk:∀ k∈u.kids,∀ x∈unitsT k,Zbg w (rowT x)=0∧rightT x=true:=fun k hk' x hx=>hw x (Zbv hk' hx);have key:∀ L:List Un,(∀ k∈L,k∈u.kids)→((bodyL w u L).map Ln.text++((L.filter fun k=>decide (0≤Zaf u k)).flatMap (Zas w)++(bodyL w u L).flatMap Ln.notes)).Perm (Zap w (unitsL L))∧((bodyL w u L).map Ln.text).Sublist (Zap w (unitsL L)):=by
   intro L
   induction L with
   | nil=>intro _;rw [bodyL];exact ⟨List.Perm.refl _,List.Sublist.refl _⟩
   | cons a r ihr =>
    intro hL;obtain ⟨i1,i2⟩:=ihr fun k hk=>hL k (List.mem_cons_of_mem _ hk);have hau:=hL a List.mem_cons_self;rw [bodyL,unitsL,linesA_app];by_cases hc:Zaf u a<0
    ·obtain ⟨a1,a2⟩:=ih a hau (hwk a hau);rw [if_pos hc,List.filter_cons_of_neg (by simp only [decide_eq_true_eq];omega),List.map_append,List.flatMap_append];refine ⟨?_,a2.append i2⟩;refine List.Perm.trans ?_ (a1.append i1);generalize (bodyT w a).map Ln.text=x1;generalize (bodyT w a).flatMap Ln.notes=x2;generalize (bodyL w u r).map Ln.text=y1;generalize (bodyL w u r).flatMap Ln.notes=y2;generalize (r.filter fun k=>decide (0≤Zaf u k)).flatMap (Zas w)=z;refine List.Perm.trans ?_ (perm_mid x1 y1 x2 (z++y2));refine List.Perm.append_left _ ?_;rw [← List.append_assoc,← List.append_assoc];exact List.Perm.append_right _ List.perm_append_comm
    ·have hl:=note_leaf (hwk a hau a (Za6 a)).2 (show 0≤Zaf u a by omega);have hA:Zap w (unitsT a)=Zas w a:=by rw [Zai,hl,linesA_cons];simp [unitsL,Zap]
     rw [if_neg hc,List.filter_cons_of_pos (by simp only [decide_eq_true_eq];omega),List.nil_append,List.flatMap_cons,hA];refine ⟨?_,i2.trans (List.sublist_append_right _ _)⟩;refine List.Perm.trans ?_ (List.Perm.append_left (Zas w a) i1);generalize (bodyL w u r).map Ln.text=y1;generalize (bodyL w u r).flatMap Ln.notes=y2;generalize (r.filter fun k=>decide (0≤Zaf u k)).flatMap (Zas w)=z;simp only [← List.append_assoc];exact (List.perm_append_comm.append_right z).append_right y2
  obtain ⟨k1,k2⟩:=key u.kids fun k hk=>hk;have hn:=own_notes (hw u (Za6 u)).1;rw [bodyT_eq,Zai,linesA_cons,List.map_append,List.flatMap_append,own_text];refine ⟨?_,(List.Sublist.refl _).append k2⟩;rw [List.append_assoc];refine List.Perm.append_left _ (List.Perm.trans ?_ k1);exact List.Perm.append_left _ (List.Perm.append_right _ hn)
theorem kids_perm {u:Un} (hu:SmT u) {w:Int} (hw:∀ x∈unitsL u.kids,Zbg w (rowT x)=0∧rightT x=true):((Zbw w true u u.kids).map Ln.text++(Zbw w true u u.kids).flatMap Ln.notes).Perm (Zap w (unitsL u.kids))∧((Zbw w true u u.kids).map Ln.text).Sublist (Zap w (unitsL u.kids)):=by
 unfold Zbw;rw [if_pos rfl];have key:∀ L:List Un,(∀ k∈L,k∈u.kids)→((L.flatMap (bodyT w)).map Ln.text++(L.flatMap (bodyT w)).flatMap Ln.notes).Perm (Zap w (unitsL L))∧((L.flatMap (bodyT w)).map Ln.text).Sublist (Zap w (unitsL L)):=by
  intro L
  induction L with
  | nil=>intro _;exact ⟨List.Perm.refl _,List.Sublist.refl _⟩
  | cons a r ihr =>
   intro hL;obtain ⟨i1,i2⟩:=ihr fun k hk=>hL k (List.mem_cons_of_mem _ hk);have hau:=hL a List.mem_cons_self;obtain ⟨a1,a2⟩:=body_perm (hu.kids.2 a hau) (w:=w) fun x hx=>hw x (by rw [Zaz];exact List.mem_flatMap.2 ⟨a,hau,hx⟩);rw [List.flatMap_cons,unitsL,linesA_app,List.map_append,List.flatMap_append];exact ⟨(perm_mid _ _ _ _).trans (a1.append i1),a2.append i2⟩
 exact key u.kids fun k hk=>hk
theorem sub_flatMap {α β:Type} (f:α→List β) {a b:List α} (h:a.Sublist b):(a.flatMap f).Sublist (b.flatMap f):=by
 induction h with
 | slnil=>exact List.Sublist.refl _
 | cons x _ ih=>rw [List.flatMap_cons];exact ih.trans (List.sublist_append_right _ _)
 | cons_cons x _ ih=>rw [List.flatMap_cons,List.flatMap_cons];exact (List.Sublist.refl _).append ih
theorem sub_inv {x y:Str} {a b:List Str} (h:(x::a).Sublist (y::b)) (e:x≠y):(x::a).Sublist b:=by
 cases h with
 | cons _ h=>exact h
 | cons_cons _ h=>exact absurd rfl e
theorem sub_hit {a b:List Str} {i k:Nat} (hi:i<a.length) (hk:k<b.length) (h:(a.drop i).Sublist (b.drop k)) (e:a[i]=b[k]):(a.drop (i+1)).Sublist (b.drop (k+1)):=by
 rw [List.drop_eq_getElem_cons hi,List.drop_eq_getElem_cons hk,e] at h;exact List.cons_sublist_cons.1 h
theorem sub_miss {a b:List Str} {i k:Nat} (hk:k<b.length) (h:(a.drop i).Sublist (b.drop k)) (e:∀ hi:i<a.length,a[i]≠b[k]):(a.drop i).Sublist (b.drop (k+1)):=by
 rw [List.drop_eq_getElem_cons hk] at h;by_cases hi:i<a.length
 ·rw [List.drop_eq_getElem_cons hi] at h ⊢;exact sub_inv h (e hi)
 ·rw [List.drop_eq_nil_of_le (by omega)];exact List.nil_sublist _
theorem fldF_len:∀ (s cur:Str),(fldF cur s).length≤s.length+(if cur=[] then 0 else 1)
 | [],cur=>by unfold fldF;split<;>simp
 | b::r,cur=>by
  have h1:=fldF_len r [];have h2:=fldF_len r (cur++[b]);rw [if_pos rfl] at h1;rw [if_neg (by simp)] at h2;unfold fldF;rw [List.length_cons];split
  ·split
   ·omega
   ·rw [List.length_cons];omega
  ·split<;>omega
theorem fields_len (s:Str):(Zaq s).length≤s.length:=by
 have:=fldF_len s [];rw [if_pos rfl] at this;exact this
theorem fl_bound {w:Nat}:∀ (l:List Str),(∀ s∈l,s.length≤w)→(l.flatMap Zaq).length≤l.length*w
 | [],_=>by simp
 | s::l,h=>by
  have h1:=fl_bound l fun x hx=>h x (List.mem_cons_of_mem _ hx);have h2:=fields_len s;have h3:=h s List.mem_cons_self;rw [List.flatMap_cons,List.length_append,List.length_cons,Nat.add_mul,Nat.one_mul];omega
end Go.VM
namespace Go.Proofs.YtcgdjembdjdlhaaGreatDoor.w
open Go Go.VM
def c_pandectref07_Cut:VC:=(ZR [ZO 2 (.mv (.c .nilsl))] (ZR [ZO 6 (.fx (.mk0 1) []),ZM 3 6] (ZR [ZO 4 (.mv (.c (.int .i64 0)))] (.seq (ZR [ZO 5 (.mv (.c (.int .i64 0)))] (.block 0 (.loop (.seq (ZR [ZM 7 5,ZM 8 0,ZO 9 (.len true (.t 8)),ZO 10 (.bin .leq (.t 7) (.t 9))] (.cond (.t 10) .skip (.exit 0))) (.seq (.block 1 (ZR [ZM 13 5,ZM 14 0,ZO 15 (.len true (.t 14)),ZO 16 (.bin .eql (.t 13) (.t 15)),ZM 17 16,ZG 18 (.mv (.t 0)) 17 false,ZG 19 (.mv (.t 5)) 17 false,ZG 20 (.idx (.t 18) (.t 19)) 17 false,ZG 21 (.bin .eql (.t 20) (.c (.int .u8 32))) 17 false,ZO 22 (.pick (.t 17) (.c (.bool true)) (.t 21))] (.cond (.t 22) (ZR [ZM 23 3,ZM 24 0,ZM 25 4,ZM 26 5,ZO 27 (.slice true 0 (.t 24) (some (.t 25)) (some (.t 26))),ZO 28 (.bslice 1 1 [(.str [])] [(0,(.t 27))]),ZO 29 (.app 1 16 [(.str [])] false (.t 23) (.t 28)),ZM 3 29] (.region [ZM 30 5,ZO 31 (.bin .add (.t 30) (.c (.int .i64 1))),ZM 4 31] false)) .skip))) (.region [ZM 11 5,ZO 12 (.bin .add (.t 11) (.c (.int .i64 1))),ZM 5 12] false)))))) (ZR [ZM 32 3,ZM 2 32] .ret)))))
def c_pandectref55_split:VC:=(ZR [ZO 2 (.mv (.c .nilsl))] (ZR [ZO 7 (.fx (.mk0 1) []),ZM 3 7] (.seq (ZR [ZO 4 (.mv (.c (.int .i64 0)))] (.block 0 (.loop (.seq (ZR [ZM 8 4,ZM 9 0,ZO 10 (.len false (.t 9)),ZO 11 (.bin .lss (.t 8) (.t 10))] (.cond (.t 11) .skip (.exit 0))) (.seq (.block 1 (ZR [ZM 14 0,ZM 15 4,ZO 16 (.iaddr 1 (.t 14) (.t 15)),ZO 17 (.load false 1 (.t 16)),ZO 18 (.call 79 [.t 17]),ZM 5 18] (ZR [ZO 6 (.mv (.c (.int .i64 0)))] (.block 2 (.loop (.seq (ZR [ZM 19 6,ZM 20 5,ZO 21 (.len false (.t 20)),ZO 22 (.bin .lss (.t 19) (.t 21))] (.cond (.t 22) .skip (.exit 2))) (.seq (.block 3 (ZR [ZM 25 5,ZM 26 6,ZO 27 (.iaddr 1 (.t 25) (.t 26)),ZO 28 (.load false 1 (.t 27)),ZO 29 (.bin .neq (.t 28) (.c (.str [])))] (.cond (.t 29) (.region [ZM 30 3,ZM 31 5,ZM 32 6,ZO 33 (.iaddr 1 (.t 31) (.t 32)),ZO 34 (.load false 1 (.t 33)),ZO 35 (.bslice 1 1 [(.str [])] [(0,(.t 34))]),ZO 36 (.app 1 16 [(.str [])] false (.t 30) (.t 35)),ZM 3 36] false) .skip))) (.region [ZM 23 6,ZO 24 (.bin .add (.t 23) (.c (.int .i64 1))),ZM 6 24] false)))))))) (.region [ZM 12 4,ZO 13 (.bin .add (.t 12) (.c (.int .i64 1))),ZM 4 13] false)))))) (ZR [ZM 37 3,ZM 2 37] .ret))))
def c_pandectref55_Split:VC:=(ZR [ZO 2 (.mv (.c .nilsl))] (ZR [ZM 3 0,ZO 4 (.call 47 [.t 3]),ZM 2 4] .ret))
theorem byte_eq (b:UInt8) (n:Nat) (hn:n<256):(((b.toNat:Nat):Int)==(n:Int))=(b==UInt8.ofNat n):=by
 rw [Bool.eq_iff_iff,beq_iff_eq,beq_iff_eq];constructor
 ·intro h;have:b.toNat=n:=by omega
  rw [← this];simp
 ·rintro rfl;simp;omega
theorem cutF_cons (cur:Str) (b:UInt8) (r:Str):cutF cur (b::r)=if b=32 then cur::cutF [] r else cutF (cur++[b]) r:=by rw [cutF]
def CutOk (s:Str) (i f:Nat) (O:List Str):Prop:=(i≤s.length∧O++cutF ((s.drop f).take (i-f)) (s.drop i)=cutF [] s)∨(i=s.length+1∧O=cutF [] s)
theorem cut_end {s:Str} {f:Nat} {O:List Str} (h:CutOk s s.length f O):O++[(s.drop f).take (s.length-f)]=cutF [] s:=by
 rcases h with ⟨_,h⟩|⟨h,_⟩
 ·rw [List.drop_length] at h;exact h
 ·omega
theorem cut_sp {s:Str} {i f:Nat} {O:List Str} (h:CutOk s i f O) (hi:i<s.length) (hb:s[i]=32):CutOk s (i+1) (i+1) (O++[(s.drop f).take (i-f)]):=by
 rcases h with ⟨_,h⟩|⟨h,_⟩
 ·refine .inl ⟨hi,?_⟩;rw [List.drop_eq_getElem_cons hi,cutF_cons,if_pos hb] at h;rw [Nat.sub_self,List.take_zero,List.append_assoc];exact h
 ·omega
theorem cut_go {s:Str} {i f:Nat} {O:List Str} (h:CutOk s i f O) (hi:i<s.length) (hf:f≤i) (hb:s[i]≠32):CutOk s (i+1) f O:=by
 rcases h with ⟨_,h⟩|⟨h,_⟩
 ·refine .inl ⟨hi,?_⟩;rw [List.drop_eq_getElem_cons hi,cutF_cons,if_neg hb] at h;have e:(s.drop f).take (i+1-f)=(s.drop f).take (i-f)++[s[i]]:=by
   rw [show i+1-f=(i-f)+1 by omega,List.take_add_one,List.getElem?_drop,show f+(i-f)=i by omega,List.getElem?_eq_getElem hi];rfl
  rw [e];exact h
 ·omega
theorem sp_Cut (s:Str) (hs:s.length≤100000):Zaj Tryz.prog 79 [.str s] (.sl 1 (strR (cutF [] s))):=by
 refine Zad ?_ (closed_strR _) (by intro y hy;rw [List.mem_singleton] at hy;subst hy;exact cS _);refine Gn (vc:=c_pandectref07_Cut) [.t 2] Tryz.func79 ?_;unfold c_pandectref07_Cut;try dsimp only [ZM,ZO,ZN,ZG,ZR,ZU]
 refine Rp0 [0] ?_;refine Rp0 [0,3] ?_;refine Rp0 [0,3,4] ?_;refine Zaa ?_;refine Rp0 [0,3,4,5] ?_;refine Zab ?_;refine Zah (σ:={ x:(Nat×Nat×Nat×Nat)×List Str//x.1.1≤s.length+1∧x.1.2.1≤x.1.1∧CutOk s x.1.1 x.1.2.1 x.2∧x.2.length≤x.1.1∧x.1.2.2.1<x.1.2.2.2 }) (fun x=>([(0,.str s),(3,.own x.1.1.2.2.1 0 x.1.2.length),(4,pI x.1.1.2.1),(5,pI x.1.1.1)],⟨[(x.1.1.2.2.1,.arr false 1 (strR x.1.2))],x.1.1.2.2.2⟩)) (fun x=>s.length+1-x.1.1.1) ⟨((0,0,0,1),[]),by simp,by simp,.inl ⟨by simp,by simp⟩,by simp,by simp⟩ ?_ ?_ ?_
 ·exact Fn0
 ·exact Sr0
 rintro ⟨⟨⟨i,f,id,n⟩,O⟩,hi,hf,hO,hOl,hid⟩;simp only [] at hi hf hO hOl hid ⊢;have qq:=N3 id n (n+1);have htk:=strR_take O;have hln:=Zbe O;refine Zaa ?_;refine Rp1 [0,3,4,5,10] qq ?_;refine Zac rfl (fun h1=>?_) (fun h1=>?_)
 ·simp only [decide_eq_true_eq] at h1;refine Kp0 ?_;refine Zaa ?_;refine Zab ?_;refine Zaa (Zbo (σ:={ c:Bool//c=true↔i=s.length∨∃ h:i<s.length,s[i]=32 }) (fun c=>([(0,.str s),(3,.own id 0 O.length),(4,pI f),(5,pI i),(22,.bool c.1)],⟨[(id,.arr false 1 (strR O))],n⟩)) (Zae [0,3,4,5,22] ?_) (fun c=>?_))
  ·by_cases h2:i=s.length
   ·have e1:((i:Int)==(s.length:Int))=true:=by rw [beq_iff_eq];omega
    refine Sp1 (x2 e1 qq) ?_;exact ⟨⟨true,by simp [h2]⟩,rfl⟩
   ·have e1:((i:Int)==(s.length:Int))=false:=by rw [beq_eq_false_iff_ne];omega
    have ia:i<s.length:=by omega
    have ix:List.getD s i 0=s[i]:=by simp [List.getD_eq_getElem?_getD,ia]
    have e2:(((s[i].toNat:Nat):Int)==32)=(s[i]==32):=byte_eq s[i] 32 (by decide);refine Sp1 (x4 e1 ix e2 qq) ?_;refine ⟨by omega,⟨s[i]==32,?_⟩,rfl⟩;rw [beq_iff_eq];exact ⟨fun h=>.inr ⟨ia,h⟩,fun h=>h.elim (fun h=>absurd h h2) fun ⟨_,h⟩=>h⟩
  obtain ⟨c,hc⟩:=c;simp only [];refine Zac rfl (fun h3=>?_) (fun h3=>?_)
  ·refine Rp1 [0,3,5] (x3 htk hln qq) ?_;refine ⟨by omega,by omega,by omega,?_⟩;refine rp1 [0,3,4,5] (x2 (ad1 (a:=i) (by omega)) qq) ?_;refine rp1 [0,3,4,5] (x2 (ad1 (a:=i) (by omega)) qq) ?_;have hcut:CutOk s (i+1) (i+1) (O++[(s.drop f).take (i-f)]):=by
    rcases hc.1 h3 with h|⟨h,hb⟩
    ·subst h;exact .inr ⟨rfl,cut_end hO⟩
    ·exact cut_sp hO h hb
   refine ⟨⟨((i+1,i+1,n+1,n+1+1),O++[(s.drop f).take (i-f)]),by simp only [];omega,Nat.le_refl _,hcut,by simp only [List.length_append,List.length_cons,List.length_nil];omega,by simp⟩,?_⟩;simp only [List.length_append,List.length_cons,List.length_nil,← strR_app]
   all_goals exact Fn1 qq
  ·refine Kp0 ?_;refine rp1 [0,3,4,5] (x2 (ad1 (a:=i) (by omega)) qq) ?_;have hne:i≠s.length:=fun h=>by rw [hc.2 (.inl h)] at h3;cases h3
   have ia:i<s.length:=by omega
   have hb:s[i]≠32:=fun h=>by rw [hc.2 (.inr ⟨ia,h⟩)] at h3;cases h3
   refine ⟨⟨((i+1,f,id,n),O),by simp only [];omega,by simp only [];omega,cut_go hO ia hf hb,by simp only [];omega,hid⟩,?_⟩;exact Fn1 qq
 simp only [decide_eq_false_iff_not] at h1;have hOe:O=cutF [] s:=by
  rcases hO with ⟨h,_⟩|⟨_,h⟩
  ·omega
  ·exact h
 subst hOe;refine Ep0 ?_;refine Rp0 [2] ?_;refine Tp0 ?_;exact View.own_all (fz:=false) (by simp [Heap.get,HL.get]) (by rw [Zbe])
theorem fldF_count:∀ (s cur:Str),(cutF cur s).length≤s.length+1
 | [],cur=>by unfold cutF;simp
 | b::r,cur=>by
  unfold cutF;split
  ·have:=fldF_count r [];simp only [List.length_cons];omega
  ·have:=fldF_count r (cur++[b]);simp only [List.length_cons];omega
def ownQ (ws:List Str) (t:Nat) (p:PV) (h':Heap):Prop:=∃ id t',t≤id∧id<t'∧p=.own id 0 ws.length∧h'=⟨[(id,.arr false 1 (strR ws))],t'⟩
theorem own_split (l:List Str) (hl:l.length≤1000000) (hs:∀ s∈l,s.length≤100000) (hw:(l.flatMap Zaq).length≤1000000000) (t0:Nat):Zal Tryz.prog 47 [.sl 1 (strR l)] ⟨[],t0⟩ (ownQ (l.flatMap Zaq) t0):=by
 refine Zal.drop ?_;refine Gn (vc:=c_pandectref55_split) [.t 2] Tryz.func47 ?_;unfold c_pandectref55_split;try dsimp only [ZM,ZO,ZN,ZG,ZR,ZU]
 have hll:=Zbe l;refine Rp0 [0] ?_;refine Rp0 [0,3] ?_;refine Zaa ?_;refine Rp0 [0,3,4] ?_;refine Zab ?_;refine Zah (σ:={ x:Nat×Nat×Nat//x.1≤l.length∧t0≤x.2.1∧x.2.1<x.2.2 }) (fun x=>([(0,.sl 1 (strR l)),(3,.own x.1.2.1 0 ((l.take x.1.1).flatMap Zaq).length),(4,pI x.1.1)],⟨[(x.1.2.1,.arr false 1 (strR ((l.take x.1.1).flatMap Zaq)))],x.1.2.2⟩)) (fun x=>l.length-x.1.1) ⟨(0,t0,t0+1),Nat.zero_le _,Nat.le_refl _,Nat.lt_succ_self _⟩ ?_ ?_ ?_
 ·exact Fn0
 ·exact Sr0
 rintro ⟨⟨k,id,n⟩,hk,hid0,hid⟩;simp only [] at hk hid0 hid ⊢;have qq:=N3 id n (n+1);refine Zaa ?_;refine Rp1 [0,3,4,11] (x2 hll qq) ?_;refine Zac rfl (fun h1=>?_) (fun h1=>?_)
 ·simp only [decide_eq_true_eq] at h1;have ka:k<l.length:=by omega
  have hrow:(strR l).getD k []=[PV.str l[k]]:=rowm ka;have hst:=fl_step ka;have hft:=fl_take l (k+1);have hsk:=hs _ (List.getElem_mem ka);refine Kp0 ?_;refine Zaa ?_;refine Zab ?_;refine Rp1 [0,3,4,5] (x3 hll hrow qq) ?_;refine ⟨by omega,?_⟩;have C:=sp_Cut l[k] hsk;have hcc:=fldF_count l[k] [];have hcf:(cutF [] l[k]).filter (fun x=>x != [])=Zaq l[k]:=cut_fields l[k] [];generalize l[k]=s at hst hsk hcf hcc C ⊢;refine Zan C ?_;generalize cutF [] s=K at hcf hcc ⊢;generalize (l.take k).flatMap Zaq=O at hst ⊢;rw [hst,List.length_append] at hft;have hkl:=Zbe K;refine Sp1 qq ?_;refine Rp1 [0,3,4,5,6] qq ?_;refine Zab ?_;refine Zah (σ:={ x:Nat×Nat×Nat//x.1≤K.length∧t0≤x.2.1∧x.2.1<x.2.2 }) (fun x=>([(0,.sl 1 (strR l)),(3,.own x.1.2.1 0 (O++(K.take x.1.1).filter (fun x=>x != [])).length),(4,pI k),(5,.sl 1 (strR K)),(6,pI x.1.1)],⟨[(x.1.2.1,.arr false 1 (strR (O++(K.take x.1.1).filter (fun x=>x != []))))],x.1.2.2⟩)) (fun x=>K.length-x.1.1) ⟨(0,id,n),by simp,hid0,hid⟩ ?_ ?_ ?_
  ·try simp only [vmL,Nat.reduceEqDiff,Nat.reduceAdd,Nat.reduceLT,Nat.reduceLeDiff,Nat.reduceSub,Nat.reduceMul,reduceIte,reduceCtorEq,Int.reduceToNat,qq]
   all_goals (repeat' (first|rfl|trivial|omega|(simp only [];omega)|refine And.intro ?_ ?_))
   simp
  ·refine Sp1 qq ?_;simp
  rintro ⟨⟨j,i2,t⟩,hj,hi20,hid2⟩;simp only [] at hj hi20 hid2 ⊢;have qq:=N3 i2 t (t+1);refine Zaa ?_;refine Rp1 [0,3,4,5,6,22] (x2 hkl qq) ?_;refine Zac rfl (fun h2=>?_) (fun h2=>?_)
  ·simp only [decide_eq_true_eq] at h2;have ja:j<K.length:=by omega
   have hrow2:(strR K).getD j []=[PV.str K[j]]:=rowm ja;have hstep:(K.take (j+1)).filter (fun x=>x != [])=(K.take j).filter (fun x=>x != [])++(if K[j]=[] then [] else [K[j]]):=by
    rw [List.take_add_one,List.getElem?_eq_getElem ja,List.filter_append]
    congr 1
    by_cases h:K[j]=[]<;>simp [h]
   have hcnt:((K.take j).filter (fun x=>x != [])).length+(if K[j]=[] then [] else [K[j]]).length≤(Zaq s).length:=by
    rw [← hcf,← List.length_append,← hstep];exact ((List.take_sublist _ _).filter _).length_le
   generalize hG:O++(K.take j).filter (fun x=>x != [])=G;have hGl:G.length=O.length+((K.take j).filter (fun x=>x != [])).length:=by rw [← hG,List.length_append]
   have hgt:=strR_take G;have hgl:=Zbe G;generalize hw0:K[j]=w0 at hrow2 hstep hcnt;refine Kp0 ?_;refine Zaa ?_;refine Zab ?_;refine Rp1 [0,3,4,5,6,29] (x3 hkl hrow2 qq) ?_;refine ⟨by omega,?_⟩;refine Zac rfl (fun h3=>?_) (fun h3=>?_)
   ·have hne:w0≠[]:=by simpa using h3
    rw [if_neg hne] at hstep hcnt;simp only [List.length_cons,List.length_nil] at hcnt;have e1:strR G++[[PV.str w0]]=strR (O++(K.take (j+1)).filter (fun x=>x != [])):=by rw [hstep,← List.append_assoc,hG,← strR_app];rfl
    have e2:G.length+1=(O++(K.take (j+1)).filter (fun x=>x != [])).length:=by rw [hstep,← List.append_assoc,hG];simp
    refine Zae [0,3,4,5,6] ?_;simp only [vmL,Nat.reduceEqDiff,Nat.reduceAdd,Nat.reduceLT,Nat.reduceLeDiff,Nat.reduceSub,Nat.reduceMul,reduceIte,reduceCtorEq,Int.reduceToNat,hkl,hrow2,hgt,hgl,e1,qq];refine ⟨by omega,by omega,by omega,?_⟩;refine rp1 [0,3,4,5,6] (x2 (ad1 (a:=j) (by omega)) qq) ?_;refine ⟨⟨(j+1,t+1,t+1+1),ja,by show t0≤t+1;omega,by show t+1<t+1+1;omega⟩,?_⟩;simp only [← e2]
    all_goals exact Fn1 qq
   ·have he:w0=[]:=by simpa using h3
    rw [if_pos he,List.append_nil] at hstep;refine Kp0 ?_;refine rp1 [0,3,4,5,6] (x2 (ad1 (a:=j) (by omega)) qq) ?_;refine ⟨⟨(j+1,i2,t),ja,hi20,hid2⟩,?_⟩;simp only [hstep,hG]
    all_goals exact Fn1 qq
  simp only [decide_eq_false_iff_not] at h2;obtain rfl:j=K.length:=by omega
  rw [List.take_length,hcf];rw [← hst];refine Ep0 ?_;refine rp1 [0,3,4] (x2 (ad1 (a:=k) (by omega)) qq) ?_;refine ⟨⟨(k+1,i2,t),ka,hi20,hid2⟩,?_⟩;exact Fn1 qq
 simp only [decide_eq_false_iff_not] at h1;obtain rfl:k=l.length:=by omega
 rw [List.take_length];refine Ep0 ?_;refine Rp0 [2] ?_;refine Tp0 ?_;refine ⟨_,?_,id,n,hid0,hid,rfl,rfl⟩;exact Fn1 qq
theorem own_Split (l:List Str) (hl:l.length≤1000000) (hs:∀ s∈l,s.length≤100000) (hw:(l.flatMap Zaq).length≤1000000000) (t0:Nat):Zal Tryz.prog 20 [.sl 1 (strR l)] ⟨[],t0⟩ (ownQ (l.flatMap Zaq) t0):=by
 have A:=own_split l hl hs hw t0;refine Gn (vc:=c_pandectref55_Split) [.t 2] Tryz.func20 ?_;unfold c_pandectref55_Split;try dsimp only [ZM,ZO,ZN,ZG,ZR,ZU]
 refine Rp0 [0] ?_;refine Rp0 [2] ?_;refine Zal.mono A ?_;rintro p h' ⟨id,t',h1,h2,rfl,rfl⟩;refine Sp0 ?_;refine Tp0 ?_;exact ⟨id,t',h1,h2,rfl,rfl⟩
theorem sp_Split (l:List Str) (hl:l.length≤1000000) (hs:∀ s∈l,s.length≤100000) (hw:(l.flatMap Zaq).length≤1000000000):Zaj Tryz.prog 20 [.sl 1 (strR l)] (.sl 1 (strR (l.flatMap Zaq))):=by
 refine Zad (Zal.mono (own_Split l hl hs hw 0) ?_) (closed_strR _) (by intro y hy;rw [List.mem_singleton] at hy;subst hy;exact closed_strR _);rintro p h' ⟨id,t',h1,h2,rfl,rfl⟩;exact View.own_all (fz:=false) (by simp [Heap.get,HL.get]) (by rw [Zbe])
end Go.Proofs.YtcgdjembdjdlhaaGreatDoor.w
namespace Go.Proofs.YtcgdjembdjdlhaaGreatDoor.w
open Go Go.VM
theorem sp_Concat_string (id t : Nat) (L2 : List (Nat × AB)) (hid : id < t) (hlt : ∀ q ∈ L2, q.1 < t) (hnod : Nod L2) (hoff : Off L2 id) (L : List (List (List PV))) (hL : L.length ≤ 1000) (hl : Zb2 L ≤ 100000) :
  Zal Tryz.prog 48 [.own id 0 L.length] ⟨(id,.arr false 1 (L.map (enW 1)))::L2,t⟩
   (fun p h'=>∃ id2 t2,id≠id2∧id2<t2∧t≤id2∧p=.own id2 0 L.flatten.length∧h'=⟨(id2,.arr false 1 L.flatten)::(id,.arr false 1 (L.map (enW 1)))::L2,t2⟩):=by
 refine Zal.drop ?_;refine Gn (vc:=c_slices_Concat_string) [.t 2] Tryz.func48 ?_;unfold c_slices_Concat_string;try dsimp only [ZM,ZO,ZN,ZG,ZR,ZU]
 have qq:=N3 id t (t+1);have ot:Off L2 t:=Off.lt hlt (Nat.le_refl _);have gt:=ot.get;have dt:=ot.del;refine Rp0 [0] ?_;refine Rp0 [0,3] ?_;refine Zaa ?_;refine Rp0 [0,3,9,10,11] ?_;refine Zab ?_;refine Zah (σ:={ k:Nat//k≤L.length }) (fun s=>([(0,.own id 0 L.length),(3,pI (Zb2 (L.take s.1))),(9,.own id 0 L.length),(10,pI L.length),(11,pI s.1)],⟨(id,.arr false 1 (L.map (enW 1)))::L2,t⟩)) (fun s=>L.length-s.1) ⟨0,Nat.zero_le _⟩ ?_ ?_ ?_
 ·try simp only [vmL,Nat.reduceEqDiff,Nat.reduceAdd,Nat.reduceLT,Nat.reduceLeDiff,Nat.reduceSub,Nat.reduceMul,reduceIte,reduceCtorEq,Int.reduceToNat,qq,List.take_zero,Zb2]
  all_goals (repeat' (first|rfl|trivial|omega|(simp only [];omega)|refine And.intro ?_ ?_))
 ·refine Sp1 qq ?_;exact HL.le_tail1 hnod hoff _
 rintro ⟨k,hk⟩;simp only [];refine Rp1 [0,3,9,10,11,12] qq ?_;refine Zaa ?_;refine Zac rfl (fun h1=>?_) (fun h1=>?_)
 ·simp only [decide_eq_true_eq] at h1;have ka:k<L.length:=by omega
  have hst:=lensR_step ka;have htk:=Zct L (k+1);refine Kp0 ?_;refine Zaa ?_;refine Zab ?_;refine Zaa (Zae [0,3,5,9,10,11] ?_);simp only [vmL,Nat.reduceEqDiff,Nat.reduceAdd,Nat.reduceLT,Nat.reduceLeDiff,Nat.reduceSub,Nat.reduceMul,reduceIte,reduceCtorEq,Int.reduceToNat,List.length_map,rowm ka,enW,qq];refine Ok ?_;refine Rp1 [0,3,9,10,11] (x2 (w64 (n:=(Zb2 (L.take k):Int)+(L[k].length:Int)) (by omega) (by omega)) qq) ?_;refine Rp1 [0,3,9,10,11,20] qq ?_;refine Zac rfl (fun h2=>?_) (fun h2=>?_)
  ·simp only [decide_eq_true_eq] at h2;omega
  refine Kp0 ?_;refine rp1 [0,3,9,10,11] (x2 (ad1 (a:=k) (by omega)) qq) ?_;refine ⟨⟨k+1,ka⟩,?_⟩;have e:(Zb2 (L.take k):Int)+(L[k].length:Int)=(Zb2 (L.take (k+1)):Nat):=by omega
  try simp only [vmL,Nat.reduceEqDiff,Nat.reduceAdd,Nat.reduceLT,Nat.reduceLeDiff,Nat.reduceSub,Nat.reduceMul,reduceIte,reduceCtorEq,Int.reduceToNat,qq,e]
  all_goals (repeat' (first|rfl|trivial|omega|(simp only [];omega)|refine And.intro ?_ ?_))
  exact HL.le_tail1 hnod hoff _
 simp only [decide_eq_false_iff_not] at h1;obtain rfl:k=L.length:=by omega
 rw [List.take_length];refine Ep0 ?_;refine Rp1 [0,6] qq ?_;refine Zal.mono (grow_string (Zb2 L) (by omega) _) ?_;rintro p h' ⟨rfl,rfl⟩;refine Sp1 qq ?_;have hfin:Zb2 L≤100000:=hl;refine Zaa ?_;refine Rp1 [6,25,26,27] qq ?_;refine Zab ?_;refine Zah (σ:={ s:Nat×Nat×Nat//s.1≤L.length∧id<s.2.1∧s.2.1<s.2.2∧t≤s.2.1 }) (fun s=>([(6,.own s.1.2.1 0 (L.take s.1.1).flatten.length),(25,.own id 0 L.length),(26,pI L.length),(27,pI s.1.1)],⟨(s.1.2.1,.arr false 1 (L.take s.1.1).flatten)::(id,.arr false 1 (L.map (enW 1)))::L2,s.1.2.2⟩)) (fun s=>L.length-s.1.1) ⟨(0,t,t+1),Nat.zero_le _,hid,by simp,Nat.le_refl _⟩ ?_ ?_ ?_
 ·try simp only [vmL,Nat.reduceEqDiff,Nat.reduceAdd,Nat.reduceLT,Nat.reduceLeDiff,Nat.reduceSub,Nat.reduceMul,reduceIte,reduceCtorEq,Int.reduceToNat,qq,List.take_zero,List.flatten_nil]
  all_goals (repeat' (first|rfl|trivial|omega|(simp only [];omega)|refine And.intro ?_ ?_))
 ·refine Sp1 qq ?_;exact ⟨rfl,HL.le_tail2 hnod ot hoff _⟩
 rintro ⟨⟨k,i2,n⟩,hk,h2,h3,h4⟩;simp only [] at hk h2 h3 h4 ⊢;have qq:=N4 id i2 n (n+1);have o2:Off L2 i2:=Off.lt hlt h4;have on:Off L2 n:=Off.lt hlt (by omega);have g2:=o2.get;have d2:=o2.del;have gn:=on.get;have dn:=on.del;refine Rp1 [6,25,26,27,28] qq ?_;refine Zaa ?_;refine Zac rfl (fun h1=>?_) (fun h1=>?_)
 ·simp only [decide_eq_true_eq] at h1;have ka:k<L.length:=by omega
  have hst:=flatR_step ka;have hF:(L.take k).flatten.length≤100000:=by have:=Zct L k;rw [lensR_flat];omega
  have hLk:(L.take k).flatten.length+L[k].length≤100000:=by have:=Zct L (k+1);rw [lensR_step ka] at this;rw [lensR_flat];omega
  refine Kp0 ?_;refine Zaa ?_;refine Zab ?_;refine Zaa (Zae [6,8,25,26,27] ?_);simp only [vmL,Nat.reduceEqDiff,Nat.reduceAdd,Nat.reduceLT,Nat.reduceLeDiff,Nat.reduceSub,Nat.reduceMul,reduceIte,reduceCtorEq,Int.reduceToNat,List.length_map,rowm ka,enW,qq];refine Ok ?_;generalize (L.take k).flatten=F at hst hF hLk ⊢;generalize L[k]=x at hst hLk ⊢;have e2:F.length+x.length=(L.take (k+1)).flatten.length:=by rw [hst,List.length_append]
  have tF:List.take F.length F=F:=List.take_length;refine Zae [6,25,26,27] ?_;simp only [vmL,Nat.reduceEqDiff,Nat.reduceAdd,Nat.reduceLT,Nat.reduceLeDiff,Nat.reduceSub,Nat.reduceMul,reduceIte,reduceCtorEq,Int.reduceToNat,tF,← hst,g2,d2,gn,dn,qq];refine ⟨by omega,by omega,?_⟩;refine rp1 [6,25,26,27] (x2 (ad1 (a:=k) (by omega)) qq) ?_;refine ⟨⟨(k+1,n,n+1),ka,by show id<n;omega,by simp,by show t≤n;omega⟩,?_⟩;simp only [← e2];try simp only [vmL,Nat.reduceEqDiff,Nat.reduceAdd,Nat.reduceLT,Nat.reduceLeDiff,Nat.reduceSub,Nat.reduceMul,reduceIte,reduceCtorEq,Int.reduceToNat,qq,g2,d2,gn,dn]
  all_goals (repeat' (first|rfl|trivial|omega|(simp only [];omega)|refine And.intro ?_ ?_))
  exact HL.le_tail2 hnod on hoff _
 simp only [decide_eq_false_iff_not] at h1;obtain rfl:k=L.length:=by omega
 rw [List.take_length];refine Ep0 ?_;refine Rp1 [2] qq ?_;refine Tp0 ?_;refine ⟨⟨(i2,.arr false 1 L.flatten)::(id,.arr false 1 (L.map (enW 1)))::L2,n⟩,?_,i2,n,by omega,h3,by omega,rfl,rfl⟩;try simp only [vmL,Nat.reduceEqDiff,Nat.reduceAdd,Nat.reduceLT,Nat.reduceLeDiff,Nat.reduceSub,Nat.reduceMul,reduceIte,reduceCtorEq,Int.reduceToNat,qq]
 all_goals (repeat' (first|rfl|trivial|omega|(simp only [];omega)|refine And.intro ?_ ?_))
 exact HL.le_tail2 hnod o2 hoff _
end Go.Proofs.YtcgdjembdjdlhaaGreatDoor.w
namespace Go.Proofs.YtcgdjembdjdlhaaGreatDoor.w
open Go Go.VM
def c_paginate_Words:VC:=(ZR [ZO 2 (.mv (.c .nilsl))] (ZR [ZO 3 (.mv (.c .nilsl))] (.seq (ZR [ZM 8 0,ZO 9 (.len false (.t 8)),ZO 10 (.mv (.c (.int .i64 0)))] (.block 0 (.loop (ZR [ZO 11 (.bin .lss (.t 10) (.t 9))] (.seq (.cond (.t 11) .skip (.exit 0)) (.seq (.block 1 (ZR [ZO 12 (.iaddr 4 (.t 8) (.t 10)),ZO 13 (.load true 4 (.t 12)),ZO 5 (.alloc [.int .i64 0,(.str []),.nilsl,.nilsl]),ZN (.store 4 (.t 5) (.t 13))] (ZR [ZO 14 (.faddr 2 (.t 5)),ZO 15 (.load false 1 (.t 14)),ZO 16 (.faddr 3 (.t 5)),ZO 17 (.load false 1 (.t 16)),ZO 18 (.bslice 1 2 [.nilsl] [(0,(.t 15)),(1,(.t 17))]),ZO 19 (.call 48 [.t 18]),ZO 20 (.len false (.t 19)),ZO 21 (.mv (.c (.int .i64 0)))] (.block 2 (.loop (ZR [ZO 22 (.bin .lss (.t 21) (.t 20))] (.seq (.cond (.t 22) .skip (.exit 2)) (.seq (.block 3 (ZR [ZO 23 (.iaddr 1 (.t 19) (.t 21)),ZO 24 (.load false 1 (.t 23)),ZM 7 24] (.region [ZM 25 3,ZM 26 7,ZO 27 (.call 49 [.t 26,(.c (.fn (.func 50) [] []))]),ZO 28 (.app 1 16 [(.str [])] false (.t 25) (.t 27)),ZM 3 28] false))) (.region [ZO 29 (.bin .add (.t 21) (.c (.int .i64 1))),ZM 21 29] false))))))))) (.region [ZO 30 (.bin .add (.t 10) (.c (.int .i64 1))),ZM 10 30] false))))))) (ZR [ZM 31 3,ZM 2 31] .ret))))
def lnsP (p:Pg):List Str:=p.lines++p.notes
def wdsP (p:Pg):List Str:=(lnsP p).flatMap Zaq
def wdsL (l:List Pg):List Str:=l.flatMap wdsP
theorem wdsL_step {l:List Pg} {k:Nat} (h:k<l.length):wdsL (l.take (k+1))=wdsL (l.take k)++wdsP l[k]:=by
 unfold wdsL;rw [List.take_add_one,List.getElem?_eq_getElem h,List.flatMap_append];simp
theorem wdsL_take (l:List Pg) (k:Nat):(wdsL (l.take k)).length≤(wdsL l).length:=by
 have:wdsL l=wdsL (l.take k)++wdsL (l.drop k):=by unfold wdsL;rw [← List.flatMap_append,List.take_append_drop]
 rw [this];simp
structure SmalP (l : List Pg) : Prop where
 len : l.length ≤ 1000000
 words : (wdsL l).length ≤ 1000000000
 lines : ∀ p ∈ l, (lnsP p).length ≤ 1000
 line : ∀ p ∈ l, ∀ s ∈ lnsP p, s.length ≤ 100000
theorem enc_R (p:Pg):p.enc=[pI p.number,.str p.head,.sl 1 (strR p.lines),.sl 1 (strR p.notes)]:=rfl
theorem own_Words (l:List Pg) (hs:SmalP l) (t0:Nat):Zal Tryz.prog 21 [.sl 4 (l.map Pg.enc)] ⟨[],t0⟩ (ownQ (wdsL l) t0):=by
 have hll:=hs.len;refine Zal.drop ?_;refine Gn (vc:=c_paginate_Words) [.t 2] Tryz.func21 ?_;unfold c_paginate_Words;try dsimp only [ZM,ZO,ZN,ZG,ZR,ZU]
 refine Rp0 [0] ?_;refine Rp0 [0,3] ?_;refine VW_own0 3 1 rfl ?_;refine Sp0 ?_;refine Zaa ?_;refine Rp1 [3,8,9,10] @xlm ?_;refine Zab ?_;refine Zah (σ:={ s:Nat×Nat×Nat//s.1≤l.length∧t0≤s.2.1∧s.2.1<s.2.2 }) (fun s=>([(3,.own s.1.2.1 0 (wdsL (l.take s.1.1)).length),(8,.sl 4 (l.map Pg.enc)),(9,pI l.length),(10,pI s.1.1)],⟨[(s.1.2.1,.arr false 1 (strR (wdsL (l.take s.1.1))))],s.1.2.2⟩)) (fun s=>l.length-s.1.1) ⟨(0,t0,t0+1),Nat.zero_le _,Nat.le_refl _,Nat.lt_succ_self _⟩ ?_ ?_ ?_
 ·try simp only [vmL,Nat.reduceEqDiff,Nat.reduceAdd,Nat.reduceLT,Nat.reduceLeDiff,Nat.reduceSub,Nat.reduceMul,reduceIte,reduceCtorEq,Int.reduceToNat,List.take_zero,wdsL,List.flatMap_nil]
  all_goals (repeat' (first|rfl|trivial|omega|(simp only [];omega)|refine And.intro ?_ ?_))
 ·refine Sp0 ?_;rfl
 rintro ⟨⟨k,id,t⟩,hk,hid0,hid⟩;simp only [] at hk hid0 hid ⊢;have qq:=N4 id t (t+1) (t+1+1);refine Rp1 [3,8,9,10,11] qq ?_;refine Zaa ?_;refine Zac rfl (fun h1=>?_) (fun h1=>?_)
 ·simp only [decide_eq_true_eq] at h1;have ka:k<l.length:=by omega
  have hst:=wdsL_step ka;have hwk:=wdsL_take l (k+1);have hwt:=hs.words;have hml:=hs.lines _ (List.getElem_mem ka);have hmw:=hs.line _ (List.getElem_mem ka);refine Kp0 ?_;refine Zaa ?_;refine Zab ?_;refine Zaa (Zae [3,5,8,9,10] ?_);simp only [vmL,Nat.reduceEqDiff,Nat.reduceAdd,Nat.reduceLT,Nat.reduceLeDiff,Nat.reduceSub,Nat.reduceMul,reduceIte,reduceCtorEq,Int.reduceToNat,List.length_map,rowm ka,enc_R,qq];refine ⟨by omega,?_⟩;refine Rp1 [3,8,9,10,19,20,21] qq ?_;have hlen2:Zb2 [strR l[k].lines,strR l[k].notes]≤100000:=by
   unfold lnsP at hml;rw [List.length_append] at hml;simp [Zb2,Zbe];omega
  have hflat:[strR l[k].lines,strR l[k].notes].flatten=strR (lnsP l[k]):=by simp [lnsP,strR_app]
  have hwp:wdsP l[k]=(lnsP l[k]).flatMap Zaq:=rfl;have C:=sp_Concat_string (t+1) (t+1+1) [(t,.arr false 4 [[pI l[k].number,.str l[k].head,.sl 1 (strR l[k].lines),.sl 1 (strR l[k].notes)]]),(id,.arr false 1 (strR (wdsL (l.take k))))] (by omega) (by simp<;>omega) (by simp [Nod];omega) (by intro q hq;simp at hq;rcases hq with rfl|rfl<;>simp<;>omega) [strR l[k].lines,strR l[k].notes] (by simp) hlen2;rw [hflat,Zbe] at C;simp only [List.map_cons,List.map_nil,enW,List.length_cons,List.length_nil,Nat.zero_add,Nat.reduceAdd] at C;generalize l[k]=pg at hst hml hmw C hwp;generalize wdsL (l.take k)=W at hst C ⊢;generalize lnsP pg=LS at hml hmw C hwp;refine Zal.mono C ?_;rintro p h' ⟨i2,t2,n1,n2,n3,rfl,rfl⟩;refine Sp1 qq ?_;refine Zab ?_;refine Zah (σ:={ s:Nat×Nat×Nat//s.1≤LS.length∧t0≤s.2.1∧s.2.1<s.2.2∧s.2.1≠i2∧i2<s.2.2 }) (fun s=>([(3,.own s.1.2.1 0 (W++(LS.take s.1.1).flatMap Zaq).length),(8,.sl 4 (l.map Pg.enc)),(9,pI l.length),(10,pI k),(19,.own i2 0 LS.length),(20,pI LS.length),(21,pI s.1.1)],⟨[(s.1.2.1,.arr false 1 (strR (W++(LS.take s.1.1).flatMap Zaq))),(i2,.arr false 1 (strR LS))],s.1.2.2⟩)) (fun s=>LS.length-s.1.1) ⟨(0,id,t2),Nat.zero_le _,hid0,by show id<t2;omega,by show id≠i2;omega,n2⟩ ?_ ?_ ?_
  ·try simp only [vmL,Nat.reduceEqDiff,Nat.reduceAdd,Nat.reduceLT,Nat.reduceLeDiff,Nat.reduceSub,Nat.reduceMul,reduceIte,reduceCtorEq,Int.reduceToNat,List.take_zero,List.flatMap_nil,List.append_nil,qq]
   all_goals (repeat' (first|rfl|trivial|omega|(simp only [];omega)|refine And.intro ?_ ?_))
  ·have q1:(i2=id)=False:=eq_false (by omega);have q2:(i2=t)=False:=eq_false (by omega);have q3:(t+1=i2)=False:=eq_false (by omega);have q4:(i2=t+1)=False:=eq_false (by omega);simp only [vmL,Nat.reduceEqDiff,Nat.reduceAdd,Nat.reduceLT,Nat.reduceLeDiff,Nat.reduceSub,Nat.reduceMul,reduceIte,reduceCtorEq,Int.reduceToNat,List.take_zero,List.flatMap_nil,List.append_nil,q1,q2,q3,q4,qq]
   try rfl
  rintro ⟨⟨j,io,n⟩,hj,m0,m1,m2,m3⟩;simp only [] at hj m0 m1 m2 m3 ⊢;have qq:=N4 io i2 n (n+1);refine Rp1 [3,8,9,10,19,20,21,22] qq ?_;refine Zaa ?_;refine Zac rfl (fun h2=>?_) (fun h2=>?_)
  ·simp only [decide_eq_true_eq] at h2;have ja:j<LS.length:=by omega
   have hfs:=fl_step ja;have hft:=fl_take LS (j+1);have hw:=hmw _ (List.getElem_mem ja);have hlsl:=Zbe LS;have hrow:(strR LS).getD j []=[PV.str LS[j]]:=rowm ja;rw [hst,List.length_append,hwp] at hwk;refine Kp0 ?_;refine Zaa ?_;refine Zab ?_;refine Rp1 [3,7,8,9,10,19,20,21] (x3 hlsl hrow qq) ?_;refine Ok ?_;refine rp1 [3,8,9,10,19,20,21] qq ?_;have F:=sp_FieldsFunc LS[j] (by omega);generalize LS[j]=x at hfs F;refine Zan F ?_;have hOl:(W++(LS.take j).flatMap Zaq).length≤1000000000:=by have:=fl_take LS j;rw [List.length_append];omega
   have hOn:(W++(LS.take j).flatMap Zaq).length+(Zaq x).length≤1000000000:=by rw [hfs,List.length_append] at hft;rw [List.length_append];omega
   have e1:strR (W++(LS.take j).flatMap Zaq)++strR (Zaq x)=strR (W++(LS.take (j+1)).flatMap Zaq):=by rw [strR_app,hfs,List.append_assoc]
   have e2:(W++(LS.take j).flatMap Zaq).length+(Zaq x).length=(W++(LS.take (j+1)).flatMap Zaq).length:=by rw [hfs,← List.append_assoc,List.length_append (bs:=Zaq x)]
   generalize W++(LS.take j).flatMap Zaq=O at hOl hOn e1 e2 ⊢;have tl:=Zbe O;have tt:=strR_take O;have fl:=Zbe (Zaq x);refine Sp1 (x5 tl tt fl e1 qq) ?_;refine ⟨by omega,by omega,?_⟩;refine rp1 [3,8,9,10,19,20,21] (x2 (ad1 (a:=j) (by omega)) qq) ?_;refine ⟨⟨(j+1,n,n+1),ja,by show t0≤n;omega,by simp,by show n≠i2;omega,by show i2<n+1;omega⟩,?_⟩;simp only [← e2]
   all_goals exact Fn1 qq
  simp only [decide_eq_false_iff_not] at h2;obtain rfl:j=LS.length:=by omega
  rw [List.take_length,← hwp,← hst];refine Ep0 ?_;refine rp1 [3,8,9,10] (x2 (ad1 (a:=k) (by omega)) qq) ?_;refine ⟨⟨(k+1,io,n),ka,m0,m1⟩,?_⟩;exact Fn1 qq
 simp only [decide_eq_false_iff_not] at h1;obtain rfl:k=l.length:=by omega
 rw [List.take_length];refine Ep0 ?_;refine Rp0 [2] ?_;refine Tp0 ?_;refine ⟨_,?_,id,t,hid0,hid,rfl,rfl⟩;exact Fn1 qq
end Go.Proofs.YtcgdjembdjdlhaaGreatDoor.w
namespace Go.VM
open Go Go.Proofs.YtcgdjembdjdlhaaGreatDoor.w
theorem join_sum:∀ (l:List Str),l≠[]→(Lib.join l [32]).length+1=(l.map List.length).sum+l.length
 | [],h=>absurd rfl h
 | [x],_=>by rw [Lib.join_one];simp
 | x::y::r,_=>by
  have e:Lib.join (x::y::r) [32]=x++([32]++Lib.join (y::r) [32]):=by simp [Lib.join,List.intercalate]
  have ih:=join_sum (y::r) (by simp);rw [e];simp only [List.length_append,List.map_cons,List.sum_cons,List.length_cons,List.length_nil] at ih ⊢;omega
theorem linesF_wide {w:Int} {l:List Str} (hf:FitW w l):∀ (f i:Nat),∀ s∈Zce l i (endsF w l f i),(s.length:Int)≤w
 | 0,i,s,hs=>by rw [endsF,Zce] at hs;cases hs
 | f+1,i,s,hs=>by
  rw [endsF] at hs;split at hs
  ·rename_i hi;have sp:=next_spec hf hi;rw [Zce] at hs;rcases List.mem_cons.1 hs with rfl|hs
   ·have hl:((l.drop i).take (nextN w l i-i)).length=nextN w l i-i:=by rw [List.length_take,List.length_drop];omega
    have hj:=join_sum ((l.drop i).take (nextN w l i-i)) (by intro e;rw [e] at hl;simp at hl;omega);have h3:=sp.2.2.1;unfold llen wlen at h3;omega
   ·exact linesF_wide hf f _ s hs
  ·rw [Zce] at hs;cases hs
theorem linesU_wide {w:Int} {u:Un}:∀ s∈Zas w u,(s.length:Int)≤w:=by
 intro s hs;unfold Zas linesT Za5 at hs;by_cases hw:Zbg w (rowT u)=0
 ·rw [if_pos hw] at hs;split at hs
  ·exact linesF_wide (wrongL_fit hw).1 _ _ s hs
  ·cases hs
 ·rw [if_neg hw,Zce] at hs;split at hs<;>cases hs
def lnOk (w:Int) (V:List Un) (x:Ln):Prop:=(x.text.length:Int)≤w∧(∀ s∈x.notes,(s.length:Int)≤w)∧∃ v∈V,x.id=idU v
theorem lnOk.mono {w:Int} {V V':List Un} {x:Ln} (h:lnOk w V x) (hV:∀ v∈V,v∈V'):lnOk w V' x:=⟨h.1,h.2.1,h.2.2.imp fun v hv=>⟨hV v hv.1,hv.2⟩⟩
theorem ownF_mem {w:Int} {u:Un} {t:Bool}:∀ (l:List Str) (E:List Nat) (fr:Nat),∀ x∈ownF w u t fr l E,x.id=idU u∧x.text∈l∧∃ a b,x.notes=Zbb w u a b
 | [],E,fr,x,h=>by unfold ownF at h;cases h
 | s::l,[],fr,x,h=>by unfold ownF at h;cases h
 | s::l,e::E,fr,x,h=>by
  unfold ownF at h;rcases List.mem_cons.1 h with rfl|h
  ·exact ⟨rfl,List.mem_cons_self,fr,_,rfl⟩
  ·obtain ⟨h1,h2,h3⟩:=ownF_mem l E _ x h;exact ⟨h1,List.mem_cons_of_mem _ h2,h3⟩
theorem body_ok {u:Un} (hu:SmT u) (w:Int):∀ x∈bodyT w u,lnOk w (unitsT u) x:=by
 induction hu with
 | mk u h hk hs ih =>
  intro x hx;rw [bodyT_eq] at hx;rcases List.mem_append.1 hx with hx|hx
  ·unfold ownL at hx;obtain ⟨h1,h2,a,b,h3⟩:=ownF_mem _ _ _ x hx;refine ⟨linesU_wide _ h2,fun s hs'=>?_,u,Za6 u,h1⟩;rw [h3] at hs';unfold Zbb at hs';obtain ⟨j,_,hj⟩:=List.mem_flatMap.1 hs';unfold Zbz at hj;obtain ⟨k,_,hk'⟩:=List.mem_flatMap.1 hj;exact linesU_wide _ hk'
  ·have key : ∀ L : List Un, (∀ k ∈ L, k ∈ u.kids) → x ∈ bodyL w u L → lnOk w (unitsT u) x := by
    intro L
    induction L with
    | nil=>intro _ h;rw [bodyL] at h;cases h
    | cons a r ihr =>
     intro hL hx;rw [bodyL] at hx;rcases List.mem_append.1 hx with hx|hx
     ·split at hx
      ·exact (ih a (hL a List.mem_cons_self) x hx).mono fun v hv=>Zbv (hL a List.mem_cons_self) hv
      ·cases hx
     ·exact ihr (fun k hk=>hL k (List.mem_cons_of_mem _ hk)) hx
   exact key u.kids (fun k hk=>hk) hx
theorem kids_ok {u:Un} (hu:SmT u) (w:Int):∀ x∈Zbw w true u u.kids,lnOk w (unitsL u.kids) x:=by
 intro x hx;unfold Zbw at hx;rw [if_pos rfl] at hx;obtain ⟨k,hk,hx⟩:=List.mem_flatMap.1 hx;refine (body_ok (hu.kids.2 k hk) w x hx).mono fun v hv=>?_;rw [Zaz];exact List.mem_flatMap.2 ⟨k,hk,hv⟩
end Go.VM
namespace Go.Proofs.YtcgdjembdjdlhaaGreatDoor.w
open Go Go.VM
theorem fldF_ne:∀ (s cur:Str),cur≠[]→fldF cur s≠[]
 | [],cur,h=>by unfold fldF;rw [if_neg h];simp
 | b::r,cur,h=>by
  unfold fldF;split
  ·first|simp|(rw [if_neg h];simp)
  ·exact fldF_ne r _ (by simp)
theorem name_head {k:Int} (h0:0≤k) (h1:k≤7):∃ c r,Zc1 k=c::r∧c≠32:=by
 unfold Zc1;rw [if_pos ⟨h0,by omega⟩];obtain ⟨i,rfl⟩:∃ i:Nat,k=(i:Int):=⟨k.toNat,by omega⟩;have hi:i<8:=by omega
 rw [Int.toNat_natCast];have:∀ i,i<8→(Za2.getD i []).head?≠none∧(Za2.getD i []).head?≠some 32:=by decide
 obtain ⟨p,q⟩:=this i hi;cases hk:Za2.getD i [] with
 | nil=>rw [hk] at p;exact absurd rfl p
 | cons c r=>rw [hk] at q;exact ⟨c,r,rfl,fun e=>q (by rw [e];rfl)⟩
theorem lines_words {w:Int} {a:Un} (hw:Zbg w (rowT a)=0) (h0:0≤a.kind) (h1:a.kind≤7):(Zas w a).flatMap Zaq≠[]:=by
 obtain ⟨c,r,hc,hne⟩:=name_head h0 h1;have hf:=(wrongL_fit hw).1;have hn:0<(rowT a).length:=by unfold rowT;simp
 unfold Zas linesT;rw [if_pos (Zb6 hw)];unfold Za5;rw [if_pos hw,endsF_step hf (rowT a).length hn (by omega),Zce,List.flatMap_cons];have sp:=next_spec hf hn;have:∃ q,Lib.join (((rowT a).drop 0).take (nextN w (rowT a) 0-0)) [32]=c::q:=by
  rw [List.drop_zero,Nat.sub_zero];obtain ⟨e,he⟩:∃ e,nextN w (rowT a) 0=e+1:=⟨nextN w (rowT a) 0-1,by omega⟩;rw [he];unfold rowT;rw [List.take_succ_cons,hc];generalize List.take e _=L;cases L with
  | nil=>rw [Lib.join_one];exact ⟨r,rfl⟩
  | cons y z=>exact ⟨r++([32]++Lib.join (y::z) [32]),by simp [Lib.join,List.intercalate]⟩
 obtain ⟨q,hq⟩:=this;rw [hq];have:Zaq (c::q)≠[]:=by
  unfold Zaq fldF;rw [if_neg hne];exact fldF_ne q _ (by simp)
 simp [this]
theorem all_words {u:Un} (hs:SmT u) {w:Int} (hw:Zcm u w=0) (hk:u.kids≠[]):(Zap w (unitsL u.kids)).flatMap Zaq≠[]:=by
 obtain ⟨hr,h1,h2⟩:=good_wrong hs hw;cases hc:u.kids with
 | nil=>exact absurd hc hk
 | cons a r =>
  have ha:a∈unitsL u.kids:=by rw [hc,unitsL,Zai];simp
  have hra:=right_sub hs hr a (by rw [Zai];exact List.mem_cons_of_mem _ ha);have hl:=lines_words (good_all hs hr h1 h2 a ha).1 (by
   rw [rightT_eq] at hra;unfold aloneR at hra;simp only [Bool.and_eq_true,decide_eq_true_eq] at hra;exact hra.1.1.1) (by
   rw [rightT_eq] at hra;unfold aloneR at hra;simp only [Bool.and_eq_true,decide_eq_true_eq] at hra;exact hra.1.1.2)
  rw [unitsL,Zai,List.cons_append,linesA_cons,List.flatMap_append];simp [hl]
theorem wds_perm (u:Un) (P:List (List Ln)):∀ n:Nat,(wdsL (pgsF u n P))=(P.flatMap fun N=>N.map Ln.text++N.flatMap Ln.notes).flatMap Zaq:=by
 induction P with
 | nil=>intro n;rfl
 | cons N P ih =>
  intro n;have h:=ih (n+1);unfold wdsL at h ⊢;rw [pgsF,List.flatMap_cons,List.flatMap_cons,List.flatMap_append,h];rfl
def bodyW (P:List (List Ln)):List Str:=P.flatMap fun N=>(N.map Ln.text).flatMap Zaq
theorem bodyW_eq:∀ P:List (List Ln),bodyW P=(P.flatten.map Ln.text).flatMap Zaq
 | []=>rfl
 | N::P=>by
  have:=bodyW_eq P;unfold bodyW at this ⊢;rw [List.flatMap_cons,this,List.flatten_cons,List.map_append,List.flatMap_append]
theorem bodyW_step {P:List (List Ln)} {k:Nat} (h:k<P.length):bodyW (P.take (k+1))=bodyW (P.take k)++(P[k].map Ln.text).flatMap Zaq:=by
 unfold bodyW;rw [List.take_succ_eq_append_getElem h,List.flatMap_append];simp
theorem bodyW_take (P:List (List Ln)) (k:Nat):(bodyW (P.take k)).length≤(bodyW P).length:=by
 have:bodyW P=bodyW (P.take k)++bodyW (P.drop k):=by unfold bodyW;rw [← List.flatMap_append,List.take_append_drop]
 rw [this];simp
structure CmpI (u : Un) (w : Int) (P : List (List Ln)) : Prop where
 perm : ((Zap w (unitsL u.kids)).flatMap Zaq).Perm (wdsL (pgsF u 0 P))
 sub : (bodyW P).Sublist ((Zap w (unitsL u.kids)).flatMap Zaq)
 line : ∀ s ∈ Zap w (unitsL u.kids), s.length ≤ 200
 few : (Zap w (unitsL u.kids)).length ≤ 602000
 words : ((Zap w (unitsL u.kids)).flatMap Zaq).length ≤ 200000000
 smal : SmalP (pgsF u 0 P)
theorem cmpI {u:Un} (hs:SmT u) (hn:(unitsT u).length≤1000) {w m:Int} (hw:Zcm u w=0) (h200:m≤200) {P:List (List Ln)} (hI:PgsI m (bodyP u w) P):CmpI u w P:=by
 obtain ⟨hr,h1,h2⟩:=good_wrong hs hw;obtain ⟨kp,ks⟩:=kids_perm hs (w:=w) fun x hx=>⟨(good_all hs hr h1 h2 x hx).1,right_sub hs hr x (by rw [Zai];exact List.mem_cons_of_mem _ hx)⟩;have hperm:((Zap w (unitsL u.kids)).flatMap Zaq).Perm (wdsL (pgsF u 0 P)):=by
  rw [wds_perm u P 0];refine List.Perm.flatMap_right _ (List.Perm.symm ?_);refine (pages_perm P).trans ?_;rw [hI.flat];exact kp
 have hl:(Zap w (unitsL u.kids)).length≤602000:=by
  have h1:=linesA_le (w:=w) (L:=unitsL u.kids) fun x hx=>(hs.units x (by rw [Zai];exact List.mem_cons_of_mem _ hx)).u;rw [Zai,List.length_cons] at hn;omega
 have hwide:∀ s∈Zap w (unitsL u.kids),s.length≤200:=by
  intro s hs';unfold Zap at hs';obtain ⟨x,_,hx⟩:=List.mem_flatMap.1 hs';have:=linesU_wide s hx;omega
 have hwords:=fl_bound (w:=200) _ hwide;have hPl:P.length≤602000:=by
  have h3:=flat_count hI.ne;rw [hI.flat] at h3;have:=(body_le hs hn w).1;omega
 have hpg:∀ p∈pgsF u 0 P,∃ N∈P,p.lines=N.map Ln.text∧p.notes=N.flatMap Ln.notes:=by
  intro p hp;obtain ⟨k,hk,e⟩:=List.getElem_of_mem hp;have hk':k<P.length:=by rw [pgsF_len] at hk;exact hk
  have h3:=pgsF_get u P 0 k hk';rw [List.getElem?_eq_getElem hk,e] at h3;have h4:=Option.some.inj h3;exact ⟨P[k],List.getElem_mem hk',by rw [h4];rfl,by rw [h4];rfl⟩
 refine ⟨hperm,?_,hwide,hl,by omega,⟨by rw [pgsF_len];omega,by rw [← hperm.length_eq];omega,fun p hp=>?_,fun p hp s hs'=>?_⟩⟩
 ·rw [bodyW_eq,hI.flat];exact sub_flatMap _ ks
 ·obtain ⟨N,hN,e1,e2⟩:=hpg p hp;have h3:=hI.hi N hN;have h4:=high_len N;have h5:=high_notes N;unfold lnsP;rw [e1,e2,List.length_append,List.length_map,fn_len];omega
 ·obtain ⟨N,hN,e1,e2⟩:=hpg p hp;have hB:∀ x∈N,x∈bodyP u w:=fun x hx=>by rw [← hI.flat];exact List.mem_flatten.2 ⟨N,hN,hx⟩
  unfold lnsP at hs';rw [e1,e2] at hs';rcases List.mem_append.1 hs' with h3|h3
  ·obtain ⟨x,hx,rfl⟩:=List.mem_map.1 h3;have:=(kids_ok hs w x (hB x hx)).1;omega
  ·obtain ⟨x,hx,h4⟩:=List.mem_flatMap.1 h3;have:=(kids_ok hs w x (hB x hx)).2.1 s h4;omega
theorem sp_Sort_none:Zaj Tryz.prog 22 [.sl 1 []] (.tup []):=by
 refine PCall_of (by kernel_rfl) (by intro y hy;rw [List.mem_singleton] at hy;subst hy;exact closed_strR []) fun g w vals r ha=>?_;obtain ⟨v,rfl,hv⟩:=args_1 ha;obtain ⟨a,cap,rfl⟩:∃ a cap,v=.slice a 0 cap:=by
  rcases strs_cells r (l:=[]) hv with ⟨a,cap,h,_⟩|⟨b,o,cap,h,_⟩
  ·exact ⟨a,cap,h⟩
  ·exact ⟨_,cap,h⟩
 have hcon:=Tryz.slices_Sort_string_none a cap w;change Calls Tryz.prog 22 _ _ _ at hcon;refine hcon.mono ?_;rintro e w' ⟨rfl,rfl⟩;exact ⟨_,rfl,fun g=>.tup _ _ rfl (fun j hj=>by cases hj),RowKit.Below.refl _ _⟩
end Go.Proofs.YtcgdjembdjdlhaaGreatDoor.w
namespace Go.Proofs.YtcgdjembdjdlhaaGreatDoor.w
open Go Go.VM
def Zb1:VC:=(ZR [ZO 3 (.box 8 (.t 0)),ZO 6 (.mv (.c (.bool false)))] (.seq (ZR [ZO 19 (.call 9 []),ZO 20 (.un .not (.t 19)),ZM 21 20,ZG 22 (.load true 8 (.t 3)) 21 false,ZG 23 (.call 10 [.t 22]) 21 false,ZG 24 (.un .not (.t 23)) 21 false,ZO 25 (.pick (.t 21) (.c (.bool true)) (.t 24))] (.cond (.t 25) (ZR [ZO 26 (.call 9 []),ZM 6 26] .ret) .skip)) (ZR [ZO 28 (.load true 8 (.t 3)),ZM 29 1,ZM 30 2,ZO 31 (.call 11 [.t 28,.t 29,.t 30]),ZM 27 31,ZO 32 (.ext (.t 27) 0),ZO 33 (.ext (.t 27) 1),ZM 7 32,ZM 8 33] (.seq (ZR [ZM 34 8,ZO 35 (.bin .neq (.t 34) (.c (.int .i64 0)))] (.cond (.t 35) (ZR [ZM 36 7,ZO 37 (.len false (.t 36)),ZO 38 (.bin .eql (.t 37) (.c (.int .i64 0))),ZM 6 38] .ret) .skip)) (ZR [ZO 40 (.load true 8 (.t 3)),ZM 41 1,ZO 42 (.call 16 [.t 40,.t 41]),ZM 39 42,ZO 43 (.ext (.t 39) 0),ZO 44 (.ext (.t 39) 1),ZM 9 43,ZM 10 44] (.seq (ZR [ZM 45 10,ZO 46 (.bin .neq (.t 45) (.c (.int .i64 0)))] (.cond (.t 46) (ZR [ZO 6 (.mv (.c (.bool false)))] .ret) .skip)) (ZR [ZM 47 9,ZO 48 (.call 20 [.t 47]),ZM 49 7,ZO 50 (.call 21 [.t 49]),ZM 11 48,ZM 12 50] (ZR [ZO 51 (.fx (.mk0 1) []),ZM 13 51] (.seq (ZR [ZM 52 7,ZO 53 (.len false (.t 52)),ZO 54 (.mv (.c (.int .i64 0)))] (.block 0 (.loop (ZR [ZO 55 (.bin .lss (.t 54) (.t 53))] (.seq (.cond (.t 55) .skip (.exit 0)) (.seq (.block 1 (ZR [ZO 56 (.iaddr 4 (.t 52) (.t 54)),ZO 57 (.load true 4 (.t 56)),ZO 15 (.alloc [.int .i64 0,(.str []),.nilsl,.nilsl]),ZN (.store 4 (.t 15) (.t 57))] (.region [ZM 58 13,ZO 59 (.faddr 2 (.t 15)),ZO 60 (.load false 1 (.t 59)),ZO 61 (.call 20 [.t 60]),ZO 62 (.app 1 16 [(.str [])] false (.t 58) (.t 61)),ZM 13 62] false))) (.region [ZO 63 (.bin .add (.t 54) (.c (.int .i64 1))),ZM 54 63] false))))))) (ZR [ZO 16 (.mv (.c (.int .i64 0)))] (.seq (ZR [ZM 64 11,ZO 65 (.len false (.t 64)),ZO 66 (.mv (.c (.int .i64 0)))] (.block 2 (.loop (ZR [ZO 67 (.bin .lss (.t 66) (.t 65))] (.seq (.cond (.t 67) .skip (.exit 2)) (.seq (.block 3 (ZR [ZO 68 (.iaddr 1 (.t 64) (.t 66)),ZO 69 (.load false 1 (.t 68)),ZM 18 69] (ZR [ZM 70 16,ZM 71 13,ZO 72 (.len false (.t 71)),ZO 73 (.bin .lss (.t 70) (.t 72)),ZM 74 73,ZG 75 (.mv (.t 13)) 74 true,ZG 76 (.mv (.t 16)) 74 true,ZG 77 (.iaddr 1 (.t 75) (.t 76)) 74 true,ZG 78 (.load false 1 (.t 77)) 74 true,ZG 79 (.mv (.t 18)) 74 true,ZG 80 (.bin .eql (.t 78) (.t 79)) 74 true,ZO 81 (.pick (.t 74) (.t 80) (.c (.bool false)))] (.cond (.t 81) (.region [ZM 82 16,ZO 83 (.bin .add (.t 82) (.c (.int .i64 1))),ZM 16 83] false) .skip)))) (.region [ZO 84 (.bin .add (.t 66) (.c (.int .i64 1))),ZM 66 84] false))))))) (ZR [ZM 85 11,ZO 86 (.call 22 [.t 85])] (ZR [ZM 87 12,ZO 88 (.call 22 [.t 87])] (ZR [ZM 89 11,ZM 90 12,ZO 91 (.call 23 [.t 89,.t 90]),ZM 92 91,ZG 93 (.mv (.t 16)) 92 true,ZG 94 (.mv (.t 13)) 92 true,ZG 95 (.len false (.t 94)) 92 true,ZG 96 (.bin .eql (.t 93) (.t 95)) 92 true,ZO 97 (.pick (.t 92) (.t 96) (.c (.bool false))),ZM 6 97] .ret))))))))))))))
theorem law_PaginateComplete (u:Un) (w m:Int) (hu:UnB u) (_:i64 w) (_:i64 m):Zaj Tryz.prog 7 [.agg u.enc,pI w,pI m] (.bool true):=by
 have A:=sp_awake;have F:=sp_few hu;have X:fewB u 40=true→∃ (hs:SmT u) (hn:(unitsT u).length≤1000),Zaj Tryz.prog 11 [.agg u.enc,pI w,pI m] (.tup [.sl 4 ((pagP u w m).1.map Pg.enc),pI (pagP u w m).2])∧Zaj Tryz.prog 16 [.agg u.enc,pI w] (.tup [It.strs (linesP w u),pI (Zcm u w)]):=by
  intro h;obtain ⟨hs,hn⟩:=few_small hu (by omega) (by omega) h;have hn':(unitsT u).length≤1000:=by omega
  exact ⟨hs,hn',sp_Paginate hs hn' w m,sp_pag_Lines hs hn' w⟩
 refine Zad ?_ (cB _) (by intro y hy;simp only [List.mem_cons,List.not_mem_nil,or_false] at hy;rcases hy with rfl|rfl|rfl;exact Zao u;exact cI _;exact cI _);refine Gn (vc:=Zb1) [.t 6] Tryz.func7 ?_;unfold Zb1;try dsimp only [ZM,ZO,ZN,ZG,ZR,ZU]
 rw [Un.Zag u] at F X ⊢;generalize u.head.map Wd.enc=EH at *;generalize u.words.map Wd.enc=EW at *;generalize u.kids.map Un.enc=EK at *;refine Rp0 [1,2,3] ?_;refine Zaa ?_;cases hf:fewB u 40 with
 | false =>
  rw [hf] at F;refine Rp0 [25] ?_;refine Ap0 A ?_;refine Ap0 F ?_;refine Ct ?_;refine Rp0 [6] ?_;refine Ap0 A ?_;exact Tv0
 | true =>
  rw [hf] at F;obtain ⟨hs,hn,PP,PL⟩:=X hf;refine Rp0 [1,2,3,25] ?_;refine Ap0 A ?_;refine Ap0 F ?_;refine Fp0 ?_;have e0:(((0:Nat):Int)==0)=true:=rfl;rcases pagP_cases hs w m with ⟨hE,h0⟩|⟨P,hP,hw,_,h200,_,hI⟩
  ·rw [h0] at PP;generalize (pagP u w m).2=E at *;have e1:(E != 0)=true:=by simpa using hE
   refine Rp0 [1,3,7,8] ?_;refine Ap0 PP ?_;refine Zaa ?_;refine Rp1 [7,35] e1 ?_;refine Ct ?_;refine Zaa (Zae [6] ?_);simp only [vmL,Nat.reduceEqDiff,Nat.reduceAdd,Nat.reduceLT,Nat.reduceLeDiff,Nat.reduceSub,Nat.reduceMul,reduceIte,reduceCtorEq,Int.reduceToNat,List.map_nil,List.length_nil,e0];exact Tv0
  rw [hP] at PP;unfold linesP at PL;rw [if_pos hw,hw] at PL;unfold It.strs at PL;have C:=cmpI hs hn hw h200 hI;have hbw:=fun h=>all_words hs hw h;have hP0:u.kids=[]→P=[]:=by
   intro h;have hB:bodyP u w=[]:=by unfold bodyP Zbw;rw [if_pos rfl,h];rfl
   have hfl:=hI.flat
   rw [hB] at hfl;cases hc:P with
   | nil=>rfl
   | cons a r =>
    rw [hc,List.flatten_cons] at hfl;exact absurd (List.append_eq_nil_iff.1 hfl).1 (hI.ne a (by rw [hc];exact List.mem_cons_self))
  have hG0:u.kids=[]→Zap w (unitsL u.kids)=[]:=by intro h;rw [h];rfl
  have e1:((0:Int) != 0)=false:=rfl;have hGr:((Zap w (unitsL u.kids)).map fun s=>[PV.str s])=strR (Zap w (unitsL u.kids)):=rfl;rw [hGr] at PL;refine Rp0 [1,3,7,8] ?_;refine Ap0 PP ?_;refine Zaa ?_;refine Rp1 [1,3,7,35] e1 ?_;refine Fp0 ?_;refine Rp0 [7,9,10] ?_;refine Ap0 PL ?_;refine Zaa ?_;refine Rp1 [7,9,46] e1 ?_;refine Fp0 ?_;clear hGr PL PP X F A;by_cases hk:u.kids=[]
  ·have hP1:=hP0 hk;have hG1:=hG0 hk;subst hP1;have hsm:=C.smal;rw [hG1];have SP:=sp_Split [] (by simp) (fun s h=>by cases h) (by simp);have WD:Zaj Tryz.prog 21 [.sl 4 ((pgsF u 0 []).map Pg.enc)] (.sl 1 []):=by
    refine Zad (Zal.mono (own_Words (pgsF u 0 []) hsm 0) ?_) (closed_strR []) (by intro y hy;rw [List.mem_singleton] at hy;subst hy;exact closed_pgs _);rintro p h' ⟨id,t',h1,h2,rfl,rfl⟩;exact View.own_all (fz:=false) (by simp [Heap.get,HL.get];rfl) rfl
   have SO:=sp_Sort_none;have EQ:=sp_Equal_same [] (by simp);have h0:decide ((0:Int)<((0:Nat):Int))=false:=rfl;unfold strR at SP EQ ⊢;simp only [pgsF,List.map_nil,List.flatMap_nil] at SP WD EQ ⊢;refine Rp0 [7,11,12] ?_;refine Ap0 SP ?_;refine Ap0 WD ?_;refine Rp0 [7,11,12,13] ?_;refine Zaa ?_;refine Rp0 [11,12,13,52,53,54] ?_;refine Zab ?_;refine Zah (σ:=Unit) (fun _=>([(11,.sl 1 []),(12,.sl 1 []),(13,.own 1 0 0),(53,pI 0),(54,pI 0)],⟨[],2⟩)) (fun _=>0) () ?_ ?_ ?_
   ·exact Sr0
   ·exact Sc0
   rintro ⟨⟩;simp only [];refine Rp0 [11,12,13,55] ?_;refine Zaa ?_;refine Zac rfl (fun h=>?_) (fun _=>?_)
   ·simp at h
   refine Ep0 ?_;refine Rp0 [11,12,13,16] ?_;refine Zaa ?_;refine Rp0 [11,12,13,16,64,65,66] ?_;refine Zab ?_;refine Zah (σ:=Unit) (fun _=>([(11,.sl 1 []),(12,.sl 1 []),(13,.own 1 0 0),(16,pI 0),(65,pI 0),(66,pI 0)],⟨[],2⟩)) (fun _=>0) () ?_ ?_ ?_
   ·exact Sr0
   ·exact Sc0
   rintro ⟨⟩;simp only [];refine Rp0 [11,12,13,16,67] ?_;refine Zaa ?_;refine Zac rfl (fun h=>?_) (fun _=>?_)
   ·simp at h
   refine Ep0 ?_;refine Rp0 [11,12,13,16] ?_;refine Ap0 SO ?_;refine Rp0 [11,12,13,16] ?_;refine Ap0 SO ?_;refine Rp0 [6] ?_;refine Ap1 EQ e0 ?_;exact Tv0
  have hAn:=hbw hk;clear hbw hP0 hG0 hI;obtain ⟨hperm,hsub,hline,hfew,hwords,hsmal⟩:=C;have hGp:=hperm.length_eq;have SPL:=own_Split (Zap w (unitsL u.kids)) (by omega) (fun s h=>by have:=hline s h;omega) (by omega) 1;have WDS:=own_Words (pgsF u 0 P) hsmal;have hGn:wdsL (pgsF u 0 P)≠[]:=by intro h;rw [h] at hGp;exact hAn (List.eq_nil_of_length_eq_zero (by simpa using hGp))
  have hSS:=sortT_perm hperm;have hBl:=hsub.length_le;have hwt:=bodyW_take P;have hpg:=fun (k:Nat) (hk:k<P.length)=>pgs_row u hk;have hAl:((pgsF u 0 P).map Pg.enc).length=P.length:=by rw [List.length_map,pgsF_len]
  have hPlines:∀ (k:Nat) (hk:k<P.length),(P[k].map Ln.text).length≤1000∧(∀ s∈P[k].map Ln.text,s.length≤100000):=by
   intro k hk;have hm:pageP u ((k+1:Nat):Int) P[k]∈pgsF u 0 P:=by
    have h3:=pgsF_get u P 0 k hk;rw [Nat.zero_add] at h3;exact List.mem_of_getElem? h3
   have h1:=hsmal.lines _ hm;have h2:=hsmal.line _ hm;unfold lnsP at h1 h2;have e:(pageP u ((k+1:Nat):Int) P[k]).lines=P[k].map Ln.text:=rfl;rw [e] at h1 h2;rw [List.length_append] at h1;exact ⟨by omega,fun s hs'=>h2 s (List.mem_append_left _ hs')⟩
  have hPl:P.length≤1000000:=by have:=hsmal.len;rw [pgsF_len] at this;exact this
  generalize (Zap w (unitsL u.kids)).flatMap Zaq=AL at *;generalize wdsL (pgsF u 0 P)=GT at *;generalize (pgsF u 0 P).map Pg.enc=AE at *;generalize Zap w (unitsL u.kids)=LG at *;have hALl:=Zbe AL;have hGTl:=Zbe GT;have hrA:strR AL≠[]:=by intro h;rw [h] at hALl;exact hAn (List.eq_nil_of_length_eq_zero (by simpa using hALl.symm))
  have hrG:strR GT≠[]:=by intro h;rw [h] at hGTl;exact hGn (List.eq_nil_of_length_eq_zero (by simpa using hGTl.symm))
  refine Rp0 [7,11,12] ?_;refine Zal.weakenL (h0:=⟨[],1⟩) (by simp [Heap.le,HL.le]) (Zal.mono SPL ?_);rintro p h' ⟨ia,ta,_,hia,rfl,rfl⟩;refine Sp0 ?_;refine Zal.frameL (l1:=[]) (l2:=[(ia,.arr false 1 (strR AL))]) (by simp) (by intro p hp;rw [List.mem_singleton] at hp;subst hp;intro fz z e;simp only [AB.arr.injEq] at e;exact hrA e.2.2) (Zal.mono (WDS ta) ?_);rintro p h' ⟨ig,t1,hig0,hig,rfl,rfl⟩;refine ⟨by show ta≤t1;omega,by simp;omega,by simp [AB.live],?_⟩;refine Sp0 ?_;have qq:=N5 ia ig t1 (t1+1) (t1+2);refine Rp1 [7,11,12,13] qq ?_;refine Zaa ?_;refine Rp1 [11,12,13,52,53,54] (x2 hAl qq) ?_;refine Zab ?_;refine Zah (σ:={ x:Nat×Nat×Nat//x.1≤P.length∧x.2.1≠ia∧x.2.1≠ig∧ia<x.2.2∧ig<x.2.2∧x.2.1<x.2.2 }) (fun x=>([(11,.own ia 0 AL.length),(12,.own ig 0 GT.length),(13,.own x.1.2.1 0 (bodyW (P.take x.1.1)).length),(52,.sl 4 AE),(53,pI P.length),(54,pI x.1.1)],⟨[(x.1.2.1,.arr false 1 (strR (bodyW (P.take x.1.1)))),(ig,.arr false 1 (strR GT)),(ia,.arr false 1 (strR AL))],x.1.2.2⟩)) (fun x=>P.length-x.1.1) ⟨(0,t1,t1+1),Nat.zero_le _,by show t1≠ia;omega,by show t1≠ig;omega,by show ia<t1+1;omega,by show ig<t1+1;omega,Nat.lt_succ_self _⟩ ?_ ?_ ?_
  ·exact Fn1 qq
  ·exact Fn1 qq
  rintro ⟨⟨k,ib,t⟩,hk,b1,b2,b3,b4,b5⟩;simp only [] at hk b1 b2 b3 b4 b5 ⊢;have qq:=N6 ia ig ib t (t+1) (t+2);refine Rp1 [11,12,13,52,53,54,55] qq ?_;refine Zaa ?_;refine Zac rfl (fun h1=>?_) (fun h1=>?_)
  ·have ka:k<P.length:=by simp only [decide_eq_true_eq] at h1;omega
   have hrow:=hpg k ka;have hst:=bodyW_step ka;have hwk:=hwt (k+1);obtain ⟨q1,q2⟩:=hPlines k ka;have SPK:=sp_Split (P[k].map Ln.text) (by omega) q2 (by rw [hst,List.length_append] at hwk;omega);unfold pageP Pg.enc at hrow;simp only [] at hrow;generalize headT u _ _=H at hrow;have hTr:((P[k].map Ln.text).map fun s=>[PV.str s])=strR (P[k].map Ln.text):=rfl;rw [hTr] at hrow;generalize ((P[k].flatMap Ln.notes).map fun s=>[PV.str s])=NE at hrow;rw [hst,List.length_append] at hwk;generalize strR (P[k].map Ln.text)=TE at hrow SPK;generalize (P[k].map Ln.text).flatMap Zaq=WK at hst hwk SPK;have hWl:=Zbe WK;have hs1:strR (bodyW (P.take (k+1)))=strR (bodyW (P.take k))++strR WK:=by rw [hst,strR_app]
   have hs2:(bodyW (P.take (k+1))).length=(bodyW (P.take k)).length+WK.length:=by rw [hst,List.length_append]
   generalize bodyW (P.take k)=BK at *;have hBt:=strR_take BK;have hBl2:=Zbe BK;refine Kp0 ?_;refine Zaa ?_;refine Zab ?_;refine Rp1 [11,12,13,15,52,53,54] (x3 hAl hrow qq) ?_;refine Ok ?_;refine rp1 [11,12,13,52,53,54] qq ?_;refine Ap1 SPK (x4 hBt hBl2 hWl qq) ?_;refine ⟨by omega,by omega,?_⟩;refine rp1 [11,12,13,52,53,54] (x2 (ad1 (a:=k) (by omega)) qq) ?_;refine ⟨⟨(k+1,t+1,t+2),ka,by show t+1≠ia;omega,by show t+1≠ig;omega,by show ia<t+2;omega,by show ig<t+2;omega,Nat.lt_succ_self _⟩,?_⟩;simp only [hs1,hs2]
   all_goals exact Fn1 qq
  have ka:k=P.length:=by simp only [decide_eq_false_iff_not] at h1;omega
  subst ka;rw [List.take_length];generalize bodyW P=BD at *;have hBD:=Zbe BD;refine Ep0 ?_;refine Rp1 [11,12,13,16] qq ?_;refine Zaa ?_;refine Rp1 [11,12,13,16,64,65,66] qq ?_;refine Zab ?_;refine Zah (σ:={ x:Nat×Nat//x.1≤AL.length∧x.2≤BD.length∧(BD.drop x.2).Sublist (AL.drop x.1) }) (fun x=>([(11,.own ia 0 AL.length),(12,.own ig 0 GT.length),(13,.own ib 0 BD.length),(16,pI x.1.2),(64,.own ia 0 AL.length),(65,pI AL.length),(66,pI x.1.1)],⟨[(ib,.arr false 1 (strR BD)),(ig,.arr false 1 (strR GT)),(ia,.arr false 1 (strR AL))],t⟩)) (fun x=>AL.length-x.1.1) ⟨(0,0),Nat.zero_le _,Nat.zero_le _,hsub⟩ ?_ ?_ ?_
  ·exact Fn1 qq
  ·exact Fn1 qq
  rintro ⟨⟨k,i⟩,hk,hi,hsb⟩;simp only [] at hk hi hsb ⊢;refine Rp1 [11,12,13,16,64,65,66,67] qq ?_;refine Zaa ?_;refine Zac rfl (fun h1=>?_) (fun h1=>?_)
  ·have ka:k<AL.length:=by simp only [decide_eq_true_eq] at h1;omega
   have hrow:(strR AL).getD k []=[PV.str AL[k]]:=rowm ka;refine Kp0 ?_;refine Zaa ?_;refine Zab ?_;refine Rp1 [11,12,13,16,18,64,65,66] (x3 hALl hrow qq) ?_;refine Ok ?_;by_cases c1:i<BD.length
   ·have g1:decide ((i:Int)<(BD.length:Int))=true:=decide_eq_true (by omega);have hrow2:(strR BD).getD i []=[PV.str BD[i]]:=rowm c1;by_cases c2:BD[i]=AL[k]
    ·have hnx:=sub_hit c1 ka hsb c2;have g2:(BD[i]==AL[k])=true:=by rw [c2];simp
     generalize AL[k]=y at *;generalize BD[i]=z at *;refine Rp1 [11,12,13,16,64,65,66,81] (x5 g1 hBD hrow2 g2 qq) ?_;refine Ok ?_;refine Ct ?_;refine rp1 [11,12,13,16,64,65,66] (x2 (ad1 (a:=i) (by omega)) qq) ?_;refine rp1 [11,12,13,16,64,65,66] (x2 (ad1 (a:=k) (by omega)) qq) ?_;refine ⟨⟨(k+1,i+1),ka,c1,hnx⟩,?_⟩;exact Fn1 qq
    ·have hnx:=sub_miss ka hsb fun _=>c2;have g2:(BD[i]==AL[k])=false:=by simpa using c2
     generalize AL[k]=y at *;generalize BD[i]=z at *;refine Rp1 [11,12,13,16,64,65,66,81] (x5 g1 hBD hrow2 g2 qq) ?_;refine Ok ?_;refine Fp0 ?_;refine rp1 [11,12,13,16,64,65,66] (x2 (ad1 (a:=k) (by omega)) qq) ?_;refine ⟨⟨(k+1,i),ka,hi,hnx⟩,?_⟩;exact Fn1 qq
   ·have g1:decide ((i:Int)<(BD.length:Int))=false:=decide_eq_false (by omega);have hnx:=sub_miss ka hsb fun h=>absurd h c1;generalize AL[k]=y at *;refine Rp1 [11,12,13,16,64,65,66,81] (x2 g1 qq) ?_;refine Fp0 ?_;refine rp1 [11,12,13,16,64,65,66] (x2 (ad1 (a:=k) (by omega)) qq) ?_;refine ⟨⟨(k+1,i),ka,hi,hnx⟩,?_⟩;exact Fn1 qq
  have ka:k=AL.length:=by simp only [decide_eq_false_iff_not] at h1;omega
  subst ka;have hie:i=BD.length:=by
   rw [List.drop_length] at hsb;have:=hsb.length_le;rw [List.length_drop,List.length_nil] at this;omega
  subst hie;have g9:((BD.length:Int)==(BD.length:Int))=true:=by simp
  have hSl:(sortT AL).length=AL.length:=(List.mergeSort_perm _ _).length_eq;have hS0:strR (sortT AL)≠[]:=by intro h;have h2:=Zbe (sortT AL);rw [h,hSl] at h2;exact hAn (List.eq_nil_of_length_eq_zero (by simpa using h2.symm))
  have S1:=sortsStr ia t AL (by omega);have S2:=sortsStr ig t GT (by omega);have EQ:=sp_Equal_same (sortT AL) (by omega);rw [← hSS] at S2;refine Ep0 ?_;refine Rp1 [11,12,13,16] qq ?_;refine Zal.weakenL (h0:=⟨[(ia,.arr false 1 (strR AL))]++[(ig,.arr false 1 (strR GT))],t⟩) (by simp [Heap.le,HL.le,Heap.get,HL.get,qq]) (Zal.frameL (by simp;omega) (by intro p hp;rw [List.mem_singleton] at hp;subst hp;intro fz z e;simp only [AB.arr.injEq] at e;exact hrG e.2.2) (Zal.mono S1 ?_));rintro p h' rfl;refine ⟨Nat.le_refl _,by simp;omega,by simp [AB.live],?_⟩;refine Sp1 qq ?_;refine Rp1 [11,12,13,16] qq ?_;refine Zal.weakenL (h0:=⟨[(ig,.arr false 1 (strR GT))]++[(ia,.arr false 1 (strR (sortT AL)))],t⟩) (by simp [Heap.le,HL.le,Heap.get,HL.get,qq];rfl) (Zal.frameL (by simp;omega) (by intro p hp;rw [List.mem_singleton] at hp;subst hp;intro fz z e;simp only [AB.arr.injEq] at e;exact hS0 e.2.2) (Zal.mono S2 ?_));rintro p h' rfl;refine ⟨Nat.le_refl _,by simp;omega,by simp [AB.live],?_⟩;refine Sp1 qq ?_;refine Rp1 [6] qq ?_;refine ACall_f [.sl 1 (strR (sortT AL)),.sl 1 (strR (sortT AL))] ⟨View.own_all (fz:=false) (by simp [Heap.get,HL.get,qq]<;>rfl) (by rw [Zbe,hSl]),View.own_all (fz:=false) (by simp [Heap.get,HL.get,qq]<;>rfl) (by rw [Zbe,hSl,hGp]),trivial⟩ (Zan EQ ?_);refine Sp1 (x2 g9 qq) ?_;exact Tv0
end Go.Proofs.YtcgdjembdjdlhaaGreatDoor.w
