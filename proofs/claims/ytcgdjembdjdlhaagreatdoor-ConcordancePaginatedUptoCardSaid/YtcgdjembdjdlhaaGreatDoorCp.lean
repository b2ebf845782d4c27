import Derived.Test.YtcgdjembdjdlhaaGreatDoorVmD
import Derived.Lib.FieldsP
import Derived.Test.YtcgdjembdjdlhaaGreatDoorYp
import Derived.Test.YtcgdjembdjdlhaaGreatDoorVmPk
import Derived.Test.YtcgdjembdjdlhaaGreatDoorVmT
import Derived.Test.YtcgdjembdjdlhaaGreatDoorVmE
import Derived.Test.YtcgdjembdjdlhaaGreatDoorShAll
import Derived.Test.YtcgdjembdjdlhaaGreatDoorYl
import Derived.Test.YtcgdjembdjdlhaaGreatDoorGd
set_option linter.all false
set_option maxRecDepth 20000
set_option maxHeartbeats 0
namespace Go.Proofs.w
open Go Go.VM
theorem decode_low (s:ByteArray) (i:Nat) (h:(s.get! i).toNat<128):Utf8.decode s i=((s.get! i).toNat,1):=by
 simp [Utf8.decode,h]
theorem decode_high (s:ByteArray) (i:Nat) (hi:i<s.size) (h:¬ (s.get! i).toNat<128):128≤(Utf8.decode s i).1∧1≤(Utf8.decode s i).2∧∀ k,k<(Utf8.decode s i).2→i+k<s.size∧¬ (s.get! (i+k)).toNat<128:=by
 have one:∀ k,k<1→i+k<s.size∧¬ (s.get! (i+k)).toNat<128:=fun k hk=>by
  obtain rfl:k=0:=by omega
  exact ⟨hi,h⟩
 have h':¬ (s.get! (i+0)).toNat<0x80:=h;unfold Utf8.decode;simp only [h',if_false,Utf8.runeError];split
 ·rename_i h1;simp only [Zx4,Zx3,beq_iff_eq] at h1;split
  ·rename_i h2;refine ⟨h2,(by simp),fun k hk=>?_⟩;simp only at hk;obtain rfl|rfl:k=0∨k=1:=by omega
   ·exact ⟨hi,h⟩
   ·exact ⟨h1.2.1,by omega⟩
  ·exact ⟨by simp,by simp,one⟩
 ·split
  ·rename_i h1;simp only [Zx4,Zx3,beq_iff_eq] at h1;split
   ·rename_i h2;simp only [Zx4,Zx3] at h2;refine ⟨by simp only [];omega,(by simp),fun k hk=>?_⟩;simp only at hk;obtain rfl|rfl|rfl:k=0∨k=1∨k=2:=by omega
    ·exact ⟨hi,h⟩
    ·exact ⟨h1.1.2.1,by omega⟩
    ·exact ⟨h1.2.1,by omega⟩
   ·exact ⟨by simp,by simp,one⟩
  ·split
   ·rename_i h1;simp only [Zx4,Zx3,beq_iff_eq] at h1;split
    ·rename_i h2;simp only [Zx4,Zx3] at h2;refine ⟨by simp only [];omega,(by simp),fun k hk=>?_⟩;simp only at hk;obtain rfl|rfl|rfl|rfl:k=0∨k=1∨k=2∨k=3:=by omega
     ·exact ⟨hi,h⟩
     ·exact ⟨h1.1.1.2.1,by omega⟩
     ·exact ⟨h1.1.2.1,by omega⟩
     ·exact ⟨h1.2.1,by omega⟩
    ·exact ⟨by simp,by simp,one⟩
   ·exact ⟨by simp,by simp,one⟩
theorem get!_at (s:ByteArray) (i:Nat) (h:i<s.size):s.get! i=s.data.toList[i]'(by simpa using h):=by
 have h2:i<s.data.size:=h;have:s.get! i=s.data[i]!:=rfl;rw [this,getElem!_pos s.data i h2,Array.getElem_toList]
def fldF:Str→Str→List Str
 | cur,[]=>if cur=[] then [] else [cur]
 | cur,b::r=>if b=32 then (if cur=[] then fldF [] r else cur::fldF [] r) else fldF (cur++[b]) r
def Zan (s:Str):List Str:=fldF [] s
def cutF:Str→Str→List Str
 | cur,[]=>[cur]
 | cur,b::r=>if b=32 then cur::cutF [] r else cutF (cur++[b]) r
theorem fldF_skip:∀ (m cur r:Str),(∀ b∈m,b≠32)→fldF cur (m++r)=fldF (cur++m) r
 | [],cur,r,_=>by simp
 | b::m,cur,r,h=>by
  rw [List.cons_append,fldF,if_neg (h b List.mem_cons_self),fldF_skip m _ r fun x hx=>h x (Zx7 _ hx)];simp
def isSp (x:Nat):Bool:=x==32
def piece (s:ByteArray) (x:Nat×Nat):Str:=(s.extract x.1 x.2).data.toList
theorem piece_eq (s:ByteArray) (a b:Nat):piece s (a,b)=(s.data.toList.drop a).take (b-a):=by
 show (s.extract a b).data.toList=_;rw [ByteArray.data_extract,Array.toList_extract,List.extract_eq_take_drop]
theorem spans_fields (s : ByteArray) : ∀ (f pos : Nat) (st : Option Nat) (acc : List (Nat × Nat)), s.size ≤ pos + f → pos ≤ s.size → (∀ a, st = some a → a < pos) →
  (Lib.closeSpans s (Lib.spansFromP isSp s f pos st acc)).map (piece s)=acc.map (piece s)++fldF (match st with|some a=>piece s (a,pos)|none=>[]) (s.data.toList.drop pos):=by
 intro f
 induction f with
 | zero =>
  intro pos st acc hf hp ha;have hpe:pos=s.size:=by omega
  subst hpe;have hd:s.data.toList.drop s.size=[]:=List.drop_eq_nil_of_le (by simp);rw [hd];cases st with
  | none=>simp [Lib.spansFromP,Lib.closeSpans,fldF]
  | some a =>
   have hlt:=ha a rfl;have hne:piece s (a,s.size)≠[]:=by
    rw [piece_eq];intro h;have:=congrArg List.length h;simp at this;omega
   simp [Lib.spansFromP,Lib.closeSpans,fldF,hne]
 | succ f ih =>
  intro pos st acc hf hp ha;by_cases hlt:pos<s.size
  ·have hl:pos<s.data.toList.length:=by simpa using hlt
   have hg:=get!_at s pos hlt;unfold Lib.spansFromP;rw [if_pos hlt];by_cases h1:(s.get! pos).toNat<128
   ·rw [decode_low s pos h1];rw [List.drop_eq_getElem_cons hl,← hg];simp only [];by_cases h2:s.get! pos=32
    ·have e:isSp (s.get! pos).toNat=true:=by rw [h2];rfl
     rw [if_pos e];cases st with
     | none =>
      simp only [];rw [ih _ _ _ (by omega) (by omega) (fun a h=>by cases h)];rw [h2];simp [fldF]
     | some a =>
      simp only [];have hlt2:=ha a rfl;have hne:piece s (a,pos)≠[]:=by
       rw [piece_eq];intro h;have:=congrArg List.length h;simp at this;omega
      rw [ih _ _ _ (by omega) (by omega) (fun a h=>by cases h)];rw [h2];simp [fldF,hne]
    ·have e : isSp (s.get! pos).toNat = false := by
      unfold isSp;rw [beq_eq_false_iff_ne];intro h;exact h2 (UInt8.toNat_inj.1 (by rw [h];rfl))
     rw [e];simp only [Bool.false_eq_true,if_false];cases st with
     | none =>
      simp only [];rw [ih _ _ _ (by omega) (by omega) (fun a h=>by cases h;omega)];simp only [fldF,h2,if_false,List.nil_append]
      congr 2
      rw [piece_eq,List.drop_eq_getElem_cons hl,← hg];simp
     | some a =>
      simp only [];have hlt2:=ha a rfl;rw [ih _ _ _ (by omega) (by omega) (fun a h=>by cases h;omega)];simp only [fldF,h2,if_false]
      congr 2
      rw [piece_eq,piece_eq,hg];rw [show pos+1-a=(pos-a)+1 by omega,List.take_add_one,List.getElem?_drop,show a+(pos-a)=pos by omega,List.getElem?_eq_getElem hl];rfl
   ·obtain ⟨d1,d2,d3⟩:=decode_high s pos hlt h1;generalize hW:Utf8.decode s pos=W at d1 d2 d3;obtain ⟨rn,wd⟩:=W;simp only [] at d1 d2 d3 ⊢;have e:isSp rn=false:=by
     unfold isSp;rw [beq_eq_false_iff_ne];omega
    rw [e];simp only [Bool.false_eq_true,if_false];have hlast:=(d3 (wd-1) (by omega)).1;have hsplit:s.data.toList.drop pos=(s.data.toList.drop pos).take wd++s.data.toList.drop (pos+wd):=by
     rw [← List.drop_drop,List.take_append_drop]
    have hno:∀ b∈(s.data.toList.drop pos).take wd,b≠32:=by
     intro b hb;obtain ⟨k,hk,rfl⟩:=List.mem_iff_getElem.1 hb;have hk':k<wd:=by simp at hk;omega
     have h4:=d3 k hk';rw [get!_at s (pos+k) h4.1] at h4;rw [List.getElem_take,List.getElem_drop];intro h5;rw [h5] at h4;exact h4.2 (by decide)
    rw [hsplit,fldF_skip _ _ _ hno];cases st with
    | none =>
     simp only [];rw [ih _ _ _ (by omega) (by omega) (fun a h=>by cases h;omega)]
     congr 2
     show piece s (pos,pos+wd)=_;rw [piece_eq,show pos+wd-pos=wd by omega];simp
    | some a =>
     simp only [];have hlt2:=ha a rfl;rw [ih _ _ _ (by omega) (by omega) (fun a h=>by cases h;omega)]
     congr 2
     show piece s (a,pos+wd)=_++_;rw [piece_eq];rw [show pos+wd-a=(pos-a)+wd by omega,List.take_add,List.drop_drop,show a+(pos-a)=pos by omega];rw [piece_eq]
  ·have hpe:pos=s.size:=by omega
   subst hpe;rw [Lib.spansFromP_end _ _ _ _ _ _ (by omega)];have hd:s.data.toList.drop s.size=[]:=List.drop_eq_nil_of_le (by simp);rw [hd];cases st with
   | none=>simp [Lib.closeSpans,fldF]
   | some a =>
    have hlt:=ha a rfl;have hne:piece s (a,s.size)≠[]:=by
     rw [piece_eq];intro h;have:=congrArg List.length h;simp at this;omega
    simp [Lib.closeSpans,fldF,hne]
theorem goFields_plain (l:Str):(Lib.goFieldsP isSp ⟨l.toArray⟩).map (fun x=>x.data.toList)=Zan l:=by
 have h:=spans_fields ⟨l.toArray⟩ (ByteArray.mk l.toArray).size 0 none [] (by omega) (by omega) (fun a h=>by cases h);unfold Lib.goFieldsP Lib.spansOfP;rw [List.map_map];exact h
def c_paginate_Words_1:VC:=(ZR [ZO 2 (.mv (.c (.bool false)))] (ZR [ZM 3 0,ZO 4 (.bin .eql (.t 3) (.c (.int .i32 32))),ZM 2 4] .ret))
def strR (l:List Str):List (List PV):=l.map fun s=>[.str s]
theorem Za7 (l:List Str):(strR l).length=l.length:=by simp [strR]
theorem strR_take (l:List Str):(strR l).take l.length=strR l:=List.take_of_length_le (by rw [Za7];exact Nat.le_refl _)
theorem strR_app (a b:List Str):strR a++strR b=strR (a++b):=by simp [strR]
theorem sp_paginate_Words_1 (x:Nat):Zam Tryz.prog 50 [.int .i32 x] (.bool (isSp x)):=by
 refine Zad ?_ (cB _) (by intro y hy;rw [List.mem_singleton] at hy;subst hy;exact Closed.of_scalar (Zcl _ _));refine Gn (vc:=c_paginate_Words_1) [.t 2] Tryz.func50 ?_;unfold c_paginate_Words_1;try dsimp only [ZM,ZO,ZN,ZG,ZR,ZU]
 refine Rp0 [0] ?_;refine Rp0 [2] ?_;refine Tp0 ?_;have e:((x:Int)==32)=isSp x:=by
  unfold isSp;rw [Bool.eq_iff_iff,beq_iff_eq,beq_iff_eq];omega
 rw [e];exact View.refl _ _
theorem Zbs (l:List Str):Closed (.sl 1 (strR l)):=Zai (fun s _ x hx=>by rw [List.mem_singleton] at hx;subst hx;exact cS _)
theorem sp_FieldsFunc (s:Str) (hs:s.length≤1000000):Zam Tryz.prog 49 [.str s,.fn (.func 50) [] []] (.sl 1 (strR (Zan s))):=by
 refine ⟨by kernel_rfl,by intro x hx;simp only [List.mem_cons,List.not_mem_nil,or_false] at hx;rcases hx with rfl|rfl;exact cS _;exact closed_fn0 _,fun g w vals r ha=>?_⟩;obtain ⟨v,u,rfl,hv,hu⟩:=args_2 ha;obtain ⟨z,rfl,hz⟩:=hv.str_inv;obtain rfl:=fn0_inv hu;rw [str_eq hz];refine (Tryz.strings_FieldsFunc_grows _ #[] (enters_of Tryz.func50 (by kernel_rfl) rfl) isSp _ w (by show s.toArray.size≤_;rw [List.size_toArray];omega) (grows_of sp_paginate_Words_1 r)).mono ?_;rintro e w' ⟨A,rfl,hA,hrow,hb⟩;have hpl:=goFields_plain s;generalize Lib.goFieldsP isSp ⟨s.toArray⟩=F at hrow hpl;have hlen:(F.map Value.string).length=F.length:=by simp
 have hfl:(Zan s).length=F.length:=by rw [← hpl];simp
 have hget:∀ j,j<F.length→(F.map Value.string).getD j Go.undef=.string (F.getD j ⟨#[]⟩):=fun j hj=>by
  simp [Zx1,hj]
 have hgf:∀ j,j<F.length→(F.getD j ⟨#[]⟩).data.toList=(Zan s).getD j []:=fun j hj=>by
  rw [← hpl];simp [Zx1,hj]
 by_cases h0:F.length=0
 ·have hF:F=[]:=List.eq_nil_of_length_eq_zero h0;subst hF;have:Zan s=[]:=List.eq_nil_of_length_eq_zero hfl;rw [this];exact ⟨_,g.m,rfl,.slE _ _ _,Zc2 r hb,hb⟩
 rcases hrow.2 with ⟨h1,_⟩|⟨gb,cap,cur,h1,hbase,hgb,r1,r2,r3,r4⟩
 ·cases h1
 ·cases h1;obtain ⟨m', hr, hm⟩ := row_result (cap := F.length) r hb (F.map Value.string) ((Zan s).map PV.str) (by simp [hfl]) (fun j hj g => by
    rw [hlen] at hj;rw [hget j hj];have:PV.nth ((Zan s).map PV.str) j=.str ((Zan s).getD j []):=by
     have hj':j<(Zan s).length:=by omega
     simp [PV.nth,Zx1,hj']
    rw [this];exact .str _ _ (hgf j hj)) (fun j hj=>by rw [hlen] at hj;rw [hget j hj];rfl) hbase hgb (by rw [hlen];exact r1) (fun j hj=>by
    rw [hlen] at hj;rw [hget j hj];have h2:(cur.toList.take (F.length*1))[j]?=(F.map Value.string)[j]?:=by rw [r4]
    rw [List.getElem?_take,if_pos (by omega),List.getElem?_map] at h2;rw [← Array.getElem?_toList,h2];simp [Zx1,hj])
  rw [hlen,List.map_map] at hr;exact ⟨_,m',rfl,hr,hm,hb⟩
theorem fl_step {l:List Str} {k:Nat} (h:k<l.length):(l.take (k+1)).flatMap Zan=(l.take k).flatMap Zan++Zan l[k]:=by
 rw [List.take_add_one,List.getElem?_eq_getElem h,List.flatMap_append];simp
theorem fl_take (l:List Str) (k:Nat):((l.take k).flatMap Zan).length≤(l.flatMap Zan).length:=by
 have:l.flatMap Zan=(l.take k).flatMap Zan++(l.drop k).flatMap Zan:=by rw [← List.flatMap_append,List.take_append_drop]
 rw [this];simp
end Go.Proofs.w
namespace Go.VM
open Go Go.Proofs.w
theorem ownF_text {w:Int} {u:Un} {t:Bool}:∀ (l:List Str) (E:List Nat) (fr:Nat),l.length=E.length→(ownF w u t fr l E).map Ln.text=l
 | [],E,fr,_=>by unfold ownF;rfl
 | s::l,[],fr,h=>by simp at h
 | s::l,e::E,fr,h=>by
  unfold ownF;rw [List.map_cons,ownF_text l E _ (by simpa using h)]
theorem own_text {w:Int} {u:Un}:(ownL w u).map Ln.text=Zaz w u:=ownF_text _ _ _ (linesU_len w u)
theorem note_leaf {u k:Un} (hr:rightT k=true) (h:0≤Zag u k):k.kids=[]:=by
 have h7:k.kind=7:=by
  unfold Zag at h;split at h
  ·assumption
  ·omega
 rw [rightT_eq,rightL_eq,h7] at hr;simp only [Zx4] at hr;cases hk:k.kids with
 | nil=>rfl
 | cons a r =>
  rw [hk,sibB] at hr;have h2:=hr.2.1;simp only [Zx4] at h2;have h3:=h2.1;unfold nestB at h3;simp at h3
theorem fldF_len:∀ (s cur:Str),(fldF cur s).length≤s.length+(if cur=[] then 0 else 1)
 | [],cur=>by unfold fldF;split<;>simp
 | b::r,cur=>by
  have h1:=fldF_len r [];have h2:=fldF_len r (cur++[b]);rw [if_pos rfl] at h1;rw [if_neg (by simp)] at h2;unfold fldF;rw [List.length_cons];split
  ·split
   ·omega
   ·rw [List.length_cons];omega
  ·split<;>omega
theorem fields_len (s:Str):(Zan s).length≤s.length:=by
 have:=fldF_len s [];rw [if_pos rfl] at this;exact this
theorem fl_bound {w:Nat}:∀ (l:List Str),(∀ s∈l,s.length≤w)→(l.flatMap Zan).length≤l.length*w
 | [],_=>by simp
 | s::l,h=>by
  have h1:=fl_bound l fun x hx=>h x (Zx7 _ hx);have h2:=fields_len s;have h3:=h s List.mem_cons_self;rw [List.flatMap_cons,Zx5,List.length_cons,Nat.add_mul,Nat.one_mul];omega
end Go.VM
namespace Go.Proofs.w
open Go Go.VM
theorem byte_eq (b:UInt8) (n:Nat) (hn:n<256):(((b.toNat:Nat):Int)==(n:Int))=(b==UInt8.ofNat n):=by
 rw [Bool.eq_iff_iff,beq_iff_eq,beq_iff_eq];constructor
 ·intro h;have:b.toNat=n:=by omega
  rw [← this];simp
 ·rintro rfl;simp;omega
theorem cutF_cons (cur:Str) (b:UInt8) (r:Str):cutF cur (b::r)=if b=32 then cur::cutF [] r else cutF (cur++[b]) r:=by rw [cutF]
def CutOk (s:Str) (i f:Nat) (O:List Str):Prop:=(i≤s.length∧O++cutF ((s.drop f).take (i-f)) (s.drop i)=cutF [] s)∨(i=s.length+1∧O=cutF [] s)
theorem cut_end {s:Str} {f:Nat} {O:List Str} (h:CutOk s s.length f O):O++[(s.drop f).take (s.length-f)]=cutF [] s:=by
 rcases h with ⟨_,h⟩|⟨h,_⟩
 ·rw [List.drop_length] at h;exact h
 ·omega
theorem cut_sp {s:Str} {i f:Nat} {O:List Str} (h:CutOk s i f O) (hi:i<s.length) (hb:s[i]=32):CutOk s (i+1) (i+1) (O++[(s.drop f).take (i-f)]):=by
 rcases h with ⟨_,h⟩|⟨h,_⟩
 ·refine .inl ⟨hi,?_⟩;rw [List.drop_eq_getElem_cons hi,cutF_cons,if_pos hb] at h;rw [Nat.sub_self,List.take_zero,List.append_assoc];exact h
 ·omega
theorem cut_go {s:Str} {i f:Nat} {O:List Str} (h:CutOk s i f O) (hi:i<s.length) (hf:f≤i) (hb:s[i]≠32):CutOk s (i+1) f O:=by
 rcases h with ⟨_,h⟩|⟨h,_⟩
 ·refine .inl ⟨hi,?_⟩;rw [List.drop_eq_getElem_cons hi,cutF_cons,if_neg hb] at h;have e:(s.drop f).take (i+1-f)=(s.drop f).take (i-f)++[s[i]]:=by
   rw [show i+1-f=(i-f)+1 by omega,List.take_add_one,List.getElem?_drop,show f+(i-f)=i by omega,List.getElem?_eq_getElem hi];rfl
  rw [e];exact h
 ·omega
def ownQ (ws:List Str) (t:Nat) (p:PV) (h':Heap):Prop:=∃ id t',t≤id∧id<t'∧p=.own id 0 ws.length∧h'=⟨[(id,.arr false 1 (strR ws))],t'⟩
theorem sp_Concat_string (id t : Nat) (L2 : List (Nat × AB)) (hid : id < t) (hlt : ∀ q ∈ L2, q.1 < t) (hnod : Nod L2) (hoff : Off L2 id) (L : List (List (List PV))) (hL : L.length ≤ 1000) (hl : Zbb L ≤ 100000) :
  Zal Tryz.prog 48 [.own id 0 L.length] ⟨(id,.arr false 1 (L.map (enW 1)))::L2,t⟩
   (fun p h'=>∃ id2 t2,id≠id2∧id2<t2∧t≤id2∧p=.own id2 0 L.flatten.length∧h'=⟨(id2,.arr false 1 L.flatten)::(id,.arr false 1 (L.map (enW 1)))::L2,t2⟩):=by
 refine Zal.drop ?_;refine Gn (vc:=Zbi) [.t 2] Tryz.func48 ?_;unfold Zbi;try dsimp only [ZM,ZO,ZN,ZG,ZR,ZU]
 have qq:=N3 id t (t+1);have ot:Off L2 t:=Off.lt hlt (Nat.le_refl _);have gt:=ot.get;have dt:=ot.del;refine Rp0 [0] ?_;refine Rp0 [0,3] ?_;refine Zaa ?_;refine Rp0 [0,3,9,10,11] ?_;refine Zab ?_;refine Zak (σ:={ k:Nat//k≤L.length }) (fun s=>([(0,.own id 0 L.length),(3,pI (Zbb (L.take s.1))),(9,.own id 0 L.length),(10,pI L.length),(11,pI s.1)],⟨(id,.arr false 1 (L.map (enW 1)))::L2,t⟩)) (fun s=>L.length-s.1) ⟨0,Nat.zero_le _⟩ ?_ ?_ ?_
 ·try simp only [vmL,Nat.reduceEqDiff,Nat.reduceAdd,Nat.reduceLT,Nat.reduceLeDiff,Nat.reduceSub,Nat.reduceMul,reduceIte,reduceCtorEq,Int.reduceToNat,qq,List.take_zero,Zbb]
  all_goals (repeat' (first|rfl|trivial|omega|(simp only [];omega)|refine And.intro ?_ ?_))
 ·refine Sp1 qq ?_;exact HL.le_tail1 hnod hoff _
 rintro ⟨k,hk⟩;simp only [];refine Rp1 [0,3,9,10,11,12] qq ?_;refine Zaa ?_;refine Zac rfl (fun h1=>?_) (fun h1=>?_)
 ·simp only [Zx3] at h1;have ka:k<L.length:=by omega
  have hst:=Zc4 ka;have htk:=Zbm L (k+1);refine Kp0 ?_;refine Zaa ?_;refine Zab ?_;refine Zaa (Zae [0,3,5,9,10,11] ?_);simp only [vmL,Nat.reduceEqDiff,Nat.reduceAdd,Nat.reduceLT,Nat.reduceLeDiff,Nat.reduceSub,Nat.reduceMul,reduceIte,reduceCtorEq,Int.reduceToNat,List.length_map,rowm ka,enW,qq];refine Ok ?_;refine Rp1 [0,3,9,10,11] (x2 (w64 (n:=(Zbb (L.take k):Int)+(L[k].length:Int)) (by omega) (by omega)) qq) ?_;refine Rp1 [0,3,9,10,11,20] qq ?_;refine Zac rfl (fun h2=>?_) (fun h2=>?_)
  ·simp only [Zx3] at h2;omega
  refine Kp0 ?_;refine rp1 [0,3,9,10,11] (x2 (ad1 (a:=k) (by omega)) qq) ?_;refine ⟨⟨k+1,ka⟩,?_⟩;have e:(Zbb (L.take k):Int)+(L[k].length:Int)=(Zbb (L.take (k+1)):Nat):=by omega
  try simp only [vmL,Nat.reduceEqDiff,Nat.reduceAdd,Nat.reduceLT,Nat.reduceLeDiff,Nat.reduceSub,Nat.reduceMul,reduceIte,reduceCtorEq,Int.reduceToNat,qq,e]
  all_goals (repeat' (first|rfl|trivial|omega|(simp only [];omega)|refine And.intro ?_ ?_))
  exact HL.le_tail1 hnod hoff _
 simp only [Zx2] at h1;obtain rfl:k=L.length:=by omega
 rw [List.take_length];refine Ep0 ?_;refine Rp1 [0,6] qq ?_;refine Zal.mono (grow_string (Zbb L) (by omega) _) ?_;rintro p h' ⟨rfl,rfl⟩;refine Sp1 qq ?_;have hfin:Zbb L≤100000:=hl;refine Zaa ?_;refine Rp1 [6,25,26,27] qq ?_;refine Zab ?_;refine Zak (σ:={ s:Nat×Nat×Nat//s.1≤L.length∧id<s.2.1∧s.2.1<s.2.2∧t≤s.2.1 }) (fun s=>([(6,.own s.1.2.1 0 (L.take s.1.1).flatten.length),(25,.own id 0 L.length),(26,pI L.length),(27,pI s.1.1)],⟨(s.1.2.1,.arr false 1 (L.take s.1.1).flatten)::(id,.arr false 1 (L.map (enW 1)))::L2,s.1.2.2⟩)) (fun s=>L.length-s.1.1) ⟨(0,t,t+1),Nat.zero_le _,hid,by simp,Nat.le_refl _⟩ ?_ ?_ ?_
 ·try simp only [vmL,Nat.reduceEqDiff,Nat.reduceAdd,Nat.reduceLT,Nat.reduceLeDiff,Nat.reduceSub,Nat.reduceMul,reduceIte,reduceCtorEq,Int.reduceToNat,qq,List.take_zero,List.flatten_nil]
  all_goals (repeat' (first|rfl|trivial|omega|(simp only [];omega)|refine And.intro ?_ ?_))
 ·refine Sp1 qq ?_;exact ⟨rfl,HL.le_tail2 hnod ot hoff _⟩
 rintro ⟨⟨k,i2,n⟩,hk,h2,h3,h4⟩;simp only [] at hk h2 h3 h4 ⊢;have qq:=N4 id i2 n (n+1);have o2:Off L2 i2:=Off.lt hlt h4;have on:Off L2 n:=Off.lt hlt (by omega);have g2:=o2.get;have d2:=o2.del;have gn:=on.get;have dn:=on.del;refine Rp1 [6,25,26,27,28] qq ?_;refine Zaa ?_;refine Zac rfl (fun h1=>?_) (fun h1=>?_)
 ·simp only [Zx3] at h1;have ka:k<L.length:=by omega
  have hst:=flatR_step ka;have hF:(L.take k).flatten.length≤100000:=by have:=Zbm L k;rw [Zc3];omega
  have hLk:(L.take k).flatten.length+L[k].length≤100000:=by have:=Zbm L (k+1);rw [Zc4 ka] at this;rw [Zc3];omega
  refine Kp0 ?_;refine Zaa ?_;refine Zab ?_;refine Zaa (Zae [6,8,25,26,27] ?_);simp only [vmL,Nat.reduceEqDiff,Nat.reduceAdd,Nat.reduceLT,Nat.reduceLeDiff,Nat.reduceSub,Nat.reduceMul,reduceIte,reduceCtorEq,Int.reduceToNat,List.length_map,rowm ka,enW,qq];refine Ok ?_;generalize (L.take k).flatten=F at hst hF hLk ⊢;generalize L[k]=x at hst hLk ⊢;have e2:F.length+x.length=(L.take (k+1)).flatten.length:=by rw [hst,Zx5]
  have tF:List.take F.length F=F:=List.take_length;refine Zae [6,25,26,27] ?_;simp only [vmL,Nat.reduceEqDiff,Nat.reduceAdd,Nat.reduceLT,Nat.reduceLeDiff,Nat.reduceSub,Nat.reduceMul,reduceIte,reduceCtorEq,Int.reduceToNat,tF,← hst,g2,d2,gn,dn,qq];refine ⟨by omega,by omega,?_⟩;refine rp1 [6,25,26,27] (x2 (ad1 (a:=k) (by omega)) qq) ?_;refine ⟨⟨(k+1,n,n+1),ka,by show id<n;omega,by simp,by show t≤n;omega⟩,?_⟩;simp only [← e2];try simp only [vmL,Nat.reduceEqDiff,Nat.reduceAdd,Nat.reduceLT,Nat.reduceLeDiff,Nat.reduceSub,Nat.reduceMul,reduceIte,reduceCtorEq,Int.reduceToNat,qq,g2,d2,gn,dn]
  all_goals (repeat' (first|rfl|trivial|omega|(simp only [];omega)|refine And.intro ?_ ?_))
  exact HL.le_tail2 hnod on hoff _
 simp only [Zx2] at h1;obtain rfl:k=L.length:=by omega
 rw [List.take_length];refine Ep0 ?_;refine Rp1 [2] qq ?_;refine Tp0 ?_;refine ⟨⟨(i2,.arr false 1 L.flatten)::(id,.arr false 1 (L.map (enW 1)))::L2,n⟩,?_,i2,n,by omega,h3,by omega,rfl,rfl⟩;try simp only [vmL,Nat.reduceEqDiff,Nat.reduceAdd,Nat.reduceLT,Nat.reduceLeDiff,Nat.reduceSub,Nat.reduceMul,reduceIte,reduceCtorEq,Int.reduceToNat,qq]
 all_goals (repeat' (first|rfl|trivial|omega|(simp only [];omega)|refine And.intro ?_ ?_))
 exact HL.le_tail2 hnod o2 hoff _
def c_paginate_Words:VC:=(ZR [ZO 2 (.mv (.c .nilsl))] (ZR [ZO 3 (.mv (.c .nilsl))] (.seq (ZR [ZM 8 0,ZO 9 (.len false (.t 8)),ZO 10 (.mv (.c (.int .i64 0)))] (.block 0 (.loop (ZR [ZO 11 (.bin .lss (.t 10) (.t 9))] (.seq (.cond (.t 11) .skip (.exit 0)) (.seq (.block 1 (ZR [ZO 12 (.iaddr 4 (.t 8) (.t 10)),ZO 13 (.load true 4 (.t 12)),ZO 5 (.alloc [.int .i64 0,(.str []),.nilsl,.nilsl]),ZN (.store 4 (.t 5) (.t 13))] (ZR [ZO 14 (.faddr 2 (.t 5)),ZO 15 (.load false 1 (.t 14)),ZO 16 (.faddr 3 (.t 5)),ZO 17 (.load false 1 (.t 16)),ZO 18 (.bslice 1 2 [.nilsl] [(0,(.t 15)),(1,(.t 17))]),ZO 19 (.call 48 [.t 18]),ZO 20 (.len false (.t 19)),ZO 21 (.mv (.c (.int .i64 0)))] (.block 2 (.loop (ZR [ZO 22 (.bin .lss (.t 21) (.t 20))] (.seq (.cond (.t 22) .skip (.exit 2)) (.seq (.block 3 (ZR [ZO 23 (.iaddr 1 (.t 19) (.t 21)),ZO 24 (.load false 1 (.t 23)),ZM 7 24] (.region [ZM 25 3,ZM 26 7,ZO 27 (.call 49 [.t 26,(.c (.fn (.func 50) [] []))]),ZO 28 (.app 1 16 [(.str [])] false (.t 25) (.t 27)),ZM 3 28] false))) (.region [ZO 29 (.bin .add (.t 21) (.c (.int .i64 1))),ZM 21 29] false))))))))) (.region [ZO 30 (.bin .add (.t 10) (.c (.int .i64 1))),ZM 10 30] false))))))) (ZR [ZM 31 3,ZM 2 31] .ret))))
def lnsP (p:Pg):List Str:=p.lines++p.notes
def wdsP (p:Pg):List Str:=(lnsP p).flatMap Zan
def wdsL (l:List Pg):List Str:=l.flatMap wdsP
theorem wdsL_step {l:List Pg} {k:Nat} (h:k<l.length):wdsL (l.take (k+1))=wdsL (l.take k)++wdsP l[k]:=by
 unfold wdsL;rw [List.take_add_one,List.getElem?_eq_getElem h,List.flatMap_append];simp
theorem wdsL_take (l:List Pg) (k:Nat):(wdsL (l.take k)).length≤(wdsL l).length:=by
 have:wdsL l=wdsL (l.take k)++wdsL (l.drop k):=by unfold wdsL;rw [← List.flatMap_append,List.take_append_drop]
 rw [this];simp
structure SmalP (l : List Pg) : Prop where
 len : l.length ≤ 1000000
 words : (wdsL l).length ≤ 1000000000
 lines : ∀ p ∈ l, (lnsP p).length ≤ 1000
 line : ∀ p ∈ l, ∀ s ∈ lnsP p, s.length ≤ 100000
theorem enc_R (p:Pg):p.enc=[pI p.number,.str p.head,.sl 1 (strR p.lines),.sl 1 (strR p.notes)]:=rfl
theorem own_Words (l:List Pg) (hs:SmalP l) (t0:Nat):Zal Tryz.prog 21 [.sl 4 (l.map Pg.enc)] ⟨[],t0⟩ (ownQ (wdsL l) t0):=by
 have hll:=hs.len;refine Zal.drop ?_;refine Gn (vc:=c_paginate_Words) [.t 2] Tryz.func21 ?_;unfold c_paginate_Words;try dsimp only [ZM,ZO,ZN,ZG,ZR,ZU]
 refine Rp0 [0] ?_;refine Rp0 [0,3] ?_;refine Zcx 3 1 rfl ?_;refine Sp0 ?_;refine Zaa ?_;refine Rp1 [3,8,9,10] @xlm ?_;refine Zab ?_;refine Zak (σ:={ s:Nat×Nat×Nat//s.1≤l.length∧t0≤s.2.1∧s.2.1<s.2.2 }) (fun s=>([(3,.own s.1.2.1 0 (wdsL (l.take s.1.1)).length),(8,.sl 4 (l.map Pg.enc)),(9,pI l.length),(10,pI s.1.1)],⟨[(s.1.2.1,.arr false 1 (strR (wdsL (l.take s.1.1))))],s.1.2.2⟩)) (fun s=>l.length-s.1.1) ⟨(0,t0,t0+1),Nat.zero_le _,Nat.le_refl _,Nat.lt_succ_self _⟩ ?_ ?_ ?_
 ·try simp only [vmL,Nat.reduceEqDiff,Nat.reduceAdd,Nat.reduceLT,Nat.reduceLeDiff,Nat.reduceSub,Nat.reduceMul,reduceIte,reduceCtorEq,Int.reduceToNat,List.take_zero,wdsL,List.flatMap_nil]
  all_goals (repeat' (first|rfl|trivial|omega|(simp only [];omega)|refine And.intro ?_ ?_))
 ·refine Sp0 ?_;rfl
 rintro ⟨⟨k,id,t⟩,hk,hid0,hid⟩;simp only [] at hk hid0 hid ⊢;have qq:=N4 id t (t+1) (t+1+1);refine Rp1 [3,8,9,10,11] qq ?_;refine Zaa ?_;refine Zac rfl (fun h1=>?_) (fun h1=>?_)
 ·simp only [Zx3] at h1;have ka:k<l.length:=by omega
  have hst:=wdsL_step ka;have hwk:=wdsL_take l (k+1);have hwt:=hs.words;have hml:=hs.lines _ (List.getElem_mem ka);have hmw:=hs.line _ (List.getElem_mem ka);refine Kp0 ?_;refine Zaa ?_;refine Zab ?_;refine Zaa (Zae [3,5,8,9,10] ?_);simp only [vmL,Nat.reduceEqDiff,Nat.reduceAdd,Nat.reduceLT,Nat.reduceLeDiff,Nat.reduceSub,Nat.reduceMul,reduceIte,reduceCtorEq,Int.reduceToNat,List.length_map,rowm ka,enc_R,qq];refine ⟨by omega,?_⟩;refine Rp1 [3,8,9,10,19,20,21] qq ?_;have hlen2:Zbb [strR l[k].lines,strR l[k].notes]≤100000:=by
   unfold lnsP at hml;rw [Zx5] at hml;simp [Zbb,Za7];omega
  have hflat:[strR l[k].lines,strR l[k].notes].flatten=strR (lnsP l[k]):=by simp [lnsP,strR_app]
  have hwp:wdsP l[k]=(lnsP l[k]).flatMap Zan:=rfl;have C:=sp_Concat_string (t+1) (t+1+1) [(t,.arr false 4 [[pI l[k].number,.str l[k].head,.sl 1 (strR l[k].lines),.sl 1 (strR l[k].notes)]]),(id,.arr false 1 (strR (wdsL (l.take k))))] (by omega) (by simp<;>omega) (by simp [Nod];omega) (by intro q hq;simp at hq;rcases hq with rfl|rfl<;>simp<;>omega) [strR l[k].lines,strR l[k].notes] (by simp) hlen2;rw [hflat,Za7] at C;simp only [List.map_cons,List.map_nil,enW,List.length_cons,List.length_nil,Nat.zero_add,Nat.reduceAdd] at C;generalize l[k]=pg at hst hml hmw C hwp;generalize wdsL (l.take k)=W at hst C ⊢;generalize lnsP pg=LS at hml hmw C hwp;refine Zal.mono C ?_;rintro p h' ⟨i2,t2,n1,n2,n3,rfl,rfl⟩;refine Sp1 qq ?_;refine Zab ?_;refine Zak (σ:={ s:Nat×Nat×Nat//s.1≤LS.length∧t0≤s.2.1∧s.2.1<s.2.2∧s.2.1≠i2∧i2<s.2.2 }) (fun s=>([(3,.own s.1.2.1 0 (W++(LS.take s.1.1).flatMap Zan).length),(8,.sl 4 (l.map Pg.enc)),(9,pI l.length),(10,pI k),(19,.own i2 0 LS.length),(20,pI LS.length),(21,pI s.1.1)],⟨[(s.1.2.1,.arr false 1 (strR (W++(LS.take s.1.1).flatMap Zan))),(i2,.arr false 1 (strR LS))],s.1.2.2⟩)) (fun s=>LS.length-s.1.1) ⟨(0,id,t2),Nat.zero_le _,hid0,by show id<t2;omega,by show id≠i2;omega,n2⟩ ?_ ?_ ?_
  ·try simp only [vmL,Nat.reduceEqDiff,Nat.reduceAdd,Nat.reduceLT,Nat.reduceLeDiff,Nat.reduceSub,Nat.reduceMul,reduceIte,reduceCtorEq,Int.reduceToNat,List.take_zero,List.flatMap_nil,List.append_nil,qq]
   all_goals (repeat' (first|rfl|trivial|omega|(simp only [];omega)|refine And.intro ?_ ?_))
  ·have q1:(i2=id)=False:=eq_false (by omega);have q2:(i2=t)=False:=eq_false (by omega);have q3:(t+1=i2)=False:=eq_false (by omega);have q4:(i2=t+1)=False:=eq_false (by omega);simp only [vmL,Nat.reduceEqDiff,Nat.reduceAdd,Nat.reduceLT,Nat.reduceLeDiff,Nat.reduceSub,Nat.reduceMul,reduceIte,reduceCtorEq,Int.reduceToNat,List.take_zero,List.flatMap_nil,List.append_nil,q1,q2,q3,q4,qq]
   try rfl
  rintro ⟨⟨j,io,n⟩,hj,m0,m1,m2,m3⟩;simp only [] at hj m0 m1 m2 m3 ⊢;have qq:=N4 io i2 n (n+1);refine Rp1 [3,8,9,10,19,20,21,22] qq ?_;refine Zaa ?_;refine Zac rfl (fun h2=>?_) (fun h2=>?_)
  ·simp only [Zx3] at h2;have ja:j<LS.length:=by omega
   have hfs:=fl_step ja;have hft:=fl_take LS (j+1);have hw:=hmw _ (List.getElem_mem ja);have hlsl:=Za7 LS;have hrow:(strR LS).getD j []=[PV.str LS[j]]:=rowm ja;rw [hst,Zx5,hwp] at hwk;refine Kp0 ?_;refine Zaa ?_;refine Zab ?_;refine Rp1 [3,7,8,9,10,19,20,21] (x3 hlsl hrow qq) ?_;refine Ok ?_;refine rp1 [3,8,9,10,19,20,21] qq ?_;have F:=sp_FieldsFunc LS[j] (by omega);generalize LS[j]=x at hfs F;refine Zaq F ?_;have hOl:(W++(LS.take j).flatMap Zan).length≤1000000000:=by have:=fl_take LS j;rw [Zx5];omega
   have hOn:(W++(LS.take j).flatMap Zan).length+(Zan x).length≤1000000000:=by rw [hfs,Zx5] at hft;rw [Zx5];omega
   have e1:strR (W++(LS.take j).flatMap Zan)++strR (Zan x)=strR (W++(LS.take (j+1)).flatMap Zan):=by rw [strR_app,hfs,List.append_assoc]
   have e2:(W++(LS.take j).flatMap Zan).length+(Zan x).length=(W++(LS.take (j+1)).flatMap Zan).length:=by rw [hfs,← List.append_assoc,Zx5 (b:=Zan x)]
   generalize W++(LS.take j).flatMap Zan=O at hOl hOn e1 e2 ⊢;have tl:=Za7 O;have tt:=strR_take O;have fl:=Za7 (Zan x);refine Sp1 (x5 tl tt fl e1 qq) ?_;refine ⟨by omega,by omega,?_⟩;refine rp1 [3,8,9,10,19,20,21] (x2 (ad1 (a:=j) (by omega)) qq) ?_;refine ⟨⟨(j+1,n,n+1),ja,by show t0≤n;omega,by simp,by show n≠i2;omega,by show i2<n+1;omega⟩,?_⟩;simp only [← e2]
   all_goals exact Fn1 qq
  simp only [Zx2] at h2;obtain rfl:j=LS.length:=by omega
  rw [List.take_length,← hwp,← hst];refine Ep0 ?_;refine rp1 [3,8,9,10] (x2 (ad1 (a:=k) (by omega)) qq) ?_;refine ⟨⟨(k+1,io,n),ka,m0,m1⟩,?_⟩;exact Fn1 qq
 simp only [Zx2] at h1;obtain rfl:k=l.length:=by omega
 rw [List.take_length];refine Ep0 ?_;refine Rp0 [2] ?_;refine Tp0 ?_;refine ⟨_,?_,id,t,hid0,hid,rfl,rfl⟩;exact Fn1 qq
end Go.Proofs.w
namespace Go.VM
open Go Go.Proofs.w
theorem join_sum:∀ (l:List Str),l≠[]→(Lib.join l [32]).length+1=(l.map List.length).sum+l.length
 | [],h=>absurd rfl h
 | [x],_=>by rw [Lib.join_one];simp
 | x::y::r,_=>by
  have e:Lib.join (x::y::r) [32]=x++([32]++Lib.join (y::r) [32]):=by simp [Lib.join,List.intercalate]
  have ih:=join_sum (y::r) (by simp);rw [e];simp only [Zx5,List.map_cons,List.sum_cons,List.length_cons,List.length_nil] at ih ⊢;omega
theorem linesF_wide {w:Int} {l:List Str} (hf:FitW w l):∀ (f i:Nat),∀ s∈Zcb l i (endsF w l f i),(s.length:Int)≤w
 | 0,i,s,hs=>by rw [endsF,Zcb] at hs;cases hs
 | f+1,i,s,hs=>by
  rw [endsF] at hs;split at hs
  ·rename_i hi;have sp:=next_spec hf hi;rw [Zcb] at hs;rcases List.mem_cons.1 hs with rfl|hs
   ·have hl:((l.drop i).take (nextN w l i-i)).length=nextN w l i-i:=by rw [List.length_take,List.length_drop];omega
    have hj:=join_sum ((l.drop i).take (nextN w l i-i)) (by intro e;rw [e] at hl;simp at hl;omega);have h3:=sp.2.2.1;unfold llen wlen at h3;omega
   ·exact linesF_wide hf f _ s hs
  ·rw [Zcb] at hs;cases hs
theorem linesU_wide {w:Int} {u:Un}:∀ s∈Zaz w u,(s.length:Int)≤w:=by
 intro s hs;unfold Zaz linesT Zbu at hs;by_cases hw:Zcr w (rowT u)=0
 ·rw [if_pos hw] at hs;split at hs
  ·exact linesF_wide (wrongL_fit hw).1 _ _ s hs
  ·cases hs
 ·rw [if_neg hw,Zcb] at hs;split at hs<;>cases hs
def lnOk (w:Int) (V:List Un) (x:Ln):Prop:=(x.text.length:Int)≤w∧(∀ s∈x.notes,(s.length:Int)≤w)∧∃ v∈V,x.id=idU v
theorem lnOk.mono {w:Int} {V V':List Un} {x:Ln} (h:lnOk w V x) (hV:∀ v∈V,v∈V'):lnOk w V' x:=⟨h.1,h.2.1,h.2.2.imp fun v hv=>⟨hV v hv.1,hv.2⟩⟩
theorem ownF_mem {w:Int} {u:Un} {t:Bool}:∀ (l:List Str) (E:List Nat) (fr:Nat),∀ x∈ownF w u t fr l E,x.id=idU u∧x.text∈l∧∃ a b,x.notes=notesR w u a b
 | [],E,fr,x,h=>by unfold ownF at h;cases h
 | s::l,[],fr,x,h=>by unfold ownF at h;cases h
 | s::l,e::E,fr,x,h=>by
  unfold ownF at h;rcases List.mem_cons.1 h with rfl|h
  ·exact ⟨rfl,List.mem_cons_self,fr,_,rfl⟩
  ·obtain ⟨h1,h2,h3⟩:=ownF_mem l E _ x h;exact ⟨h1,Zx7 _ h2,h3⟩
theorem body_ok {u:Un} (hu:SmT u) (w:Int):∀ x∈bodyT w u,lnOk w (unitsT u) x:=by
 induction hu with
 | mk u h hk hs ih =>
  intro x hx;rw [bodyT_eq] at hx;rcases List.mem_append.1 hx with hx|hx
  ·unfold ownL at hx;obtain ⟨h1,h2,a,b,h3⟩:=ownF_mem _ _ _ x hx;refine ⟨linesU_wide _ h2,fun s hs'=>?_,u,Zau u,h1⟩;rw [h3] at hs';unfold notesR at hs';obtain ⟨j,_,hj⟩:=List.mem_flatMap.1 hs';unfold notesK at hj;obtain ⟨k,_,hk'⟩:=List.mem_flatMap.1 hj;exact linesU_wide _ hk'
  ·have key : ∀ L : List Un, (∀ k ∈ L, k ∈ u.kids) → x ∈ bodyL w u L → lnOk w (unitsT u) x := by
    intro L
    induction L with
    | nil=>intro _ h;rw [bodyL] at h;cases h
    | cons a r ihr =>
     intro hL hx;rw [bodyL] at hx;rcases List.mem_append.1 hx with hx|hx
     ·split at hx
      ·exact (ih a (hL a List.mem_cons_self) x hx).mono fun v hv=>Zb8 (hL a List.mem_cons_self) hv
      ·cases hx
     ·exact ihr (fun k hk=>hL k (Zx7 _ hk)) hx
   exact key u.kids (fun k hk=>hk) hx
theorem kids_ok {u:Un} (hu:SmT u) (w:Int):∀ x∈kidsB w true u u.kids,lnOk w (unitsL u.kids) x:=by
 intro x hx;unfold kidsB at hx;rw [if_pos rfl] at hx;obtain ⟨k,hk,hx⟩:=List.mem_flatMap.1 hx;refine (body_ok (hu.kids.2 k hk) w x hx).mono fun v hv=>?_;rw [Zat];exact List.mem_flatMap.2 ⟨k,hk,hv⟩
end Go.VM
namespace Go.Proofs.w
open Go Go.VM
def bodyW (P:List (List Ln)):List Str:=P.flatMap fun N=>(N.map Ln.text).flatMap Zan
theorem bodyW_eq:∀ P:List (List Ln),bodyW P=(P.flatten.map Ln.text).flatMap Zan
 | []=>rfl
 | N::P=>by
  have:=bodyW_eq P;unfold bodyW at this ⊢;rw [List.flatMap_cons,this,List.flatten_cons,List.map_append,List.flatMap_append]
theorem bodyW_step {P:List (List Ln)} {k:Nat} (h:k<P.length):bodyW (P.take (k+1))=bodyW (P.take k)++(P[k].map Ln.text).flatMap Zan:=by
 unfold bodyW;rw [List.take_succ_eq_append_getElem h,List.flatMap_append];simp
structure CmpI (u : Un) (w : Int) (P : List (List Ln)) : Prop where
 perm : ((linesA w (unitsL u.kids)).flatMap Zan).Perm (wdsL (pgsF u 0 P))
 sub : (bodyW P).Sublist ((linesA w (unitsL u.kids)).flatMap Zan)
 line : ∀ s ∈ linesA w (unitsL u.kids), s.length ≤ 200
 few : (linesA w (unitsL u.kids)).length ≤ 602000
 words : ((linesA w (unitsL u.kids)).flatMap Zan).length ≤ 200000000
 smal : SmalP (pgsF u 0 P)
end Go.Proofs.w
namespace Go.VM
open Go Go.Proofs.w
def goodW (s:Str):Prop:=s≠[]∧∀ b∈s,b≠32
theorem fields_join:∀ (l:List Str),(∀ s∈l,goodW s)→Zan (Lib.join l [32])=l
 | [],_=>rfl
 | [x],h=>by
  have hx:=h x List.mem_cons_self;rw [Lib.join_one];have:=fldF_skip x [] [] hx.2;rw [List.append_nil,List.nil_append] at this;unfold Zan;rw [this,fldF,if_neg hx.1]
 | x::y::r,h=>by
  have hx:=h x List.mem_cons_self;have e:Lib.join (x::y::r) [32]=x++(32::Lib.join (y::r) [32]):=by rw [join_two];simp
  have ih:=fields_join (y::r) fun s hs=>h s (Zx7 _ hs);unfold Zan at ih ⊢;rw [e,fldF_skip x [] _ hx.2,List.nil_append,fldF,if_pos rfl,if_neg hx.1,ih]
theorem linesF_words {l:List Str} (hg:∀ s∈l,goodW s):∀ (E:List Nat) (a:Nat),Zcf l.length a E=true→(Zcb l a E).flatMap Zan=l.drop a
 | [],a,h=>by
  rw [Zcf,beq_iff_eq] at h;subst h;rw [Zcb,List.drop_length];rfl
 | e::E,a,h=>by
  rw [Zcf] at h;simp only [Zx4,Bool.not_eq_true',Bool.or_eq_false_iff,Zx2] at h;rw [Zcb,List.flatMap_cons,linesF_words hg E e h.2,fields_join _ fun s hs=>hg s (List.mem_of_mem_drop (List.mem_of_mem_take hs))];have e1:l.drop e=(l.drop a).drop (e-a):=by rw [List.drop_drop];congr 1;omega
  rw [e1,List.take_append_drop]
theorem linesF_full {l:List Str} (hg:∀ s∈l,goodW s):∀ (E:List Nat) (a:Nat),Zcf l.length a E=true→∀ x∈Zcb l a E,1≤(Zan x).length
 | [],a,h,x,hx=>by rw [Zcb] at hx;cases hx
 | e::E,a,h,x,hx=>by
  rw [Zcf] at h;simp only [Zx4,Bool.not_eq_true',Bool.or_eq_false_iff,Zx2] at h;rw [Zcb] at hx;rcases List.mem_cons.1 hx with rfl|hx
  ·rw [fields_join _ fun s hs=>hg s (List.mem_of_mem_drop (List.mem_of_mem_take hs)),List.length_take,List.length_drop];omega
  ·exact linesF_full hg E e h.2 x hx
structure WdU (w : Int) (x : Un) : Prop where
 fit : Zcr w (rowT x) = 0
 good : ∀ s ∈ rowT x, goodW s
theorem linesU_eq {w:Int} {x:Un} (h:WdU w x):Zaz w x=Zcb (rowT x) 0 (Zbu w (rowT x)):=by
 unfold Zaz linesT;rw [if_pos (Zcg h.fit)]
theorem linesU_words {w:Int} {x:Un} (h:WdU w x):(Zaz w x).flatMap Zan=rowT x:=by
 rw [linesU_eq h,linesF_words h.good _ _ (Zcg h.fit),List.drop_zero]
theorem linesU_full {w:Int} {x:Un} (h:WdU w x):∀ s∈Zaz w x,1≤(Zan s).length:=by
 rw [linesU_eq h];exact linesF_full h.good _ _ (Zcg h.fit)
theorem linesU_head {w:Int} {x:Un} (h:WdU w x):∃ q L,Zaz w x=(Zcm x.kind++q)::L:=by
 have hn:0<(rowT x).length:=by unfold rowT;simp
 have hf:=(wrongL_fit h.fit).1;have sp:=next_spec hf hn;rw [linesU_eq h];unfold Zbu;rw [if_pos h.fit,endsF_step hf (rowT x).length hn (by omega),Zcb,List.drop_zero,Nat.sub_zero];obtain ⟨e,he⟩:∃ e,nextN w (rowT x) 0=e+1:=⟨nextN w (rowT x) 0-1,by omega⟩;rw [he];unfold rowT;rw [List.take_succ_cons];generalize List.take e _=M;cases M with
 | nil=>rw [Lib.join_one];exact ⟨[],_,by rw [List.append_nil]⟩
 | cons y z=>exact ⟨[32]++Lib.join (y::z) [32],_,by rw [join_two,List.append_assoc]⟩
def wds (L:List Ln):List Str:=(L.map Ln.text).flatMap Zan
theorem wds_app (L M:List Ln):wds (L++M)=wds L++wds M:=by unfold wds;rw [List.map_append,List.flatMap_append]
theorem wds_own {w:Int} {x:Un} (h:WdU w x):wds (ownL w x)=rowT x:=by unfold wds;rw [own_text,linesU_words h]
theorem wds_pos {L:List Ln} (h:∀ x∈L,1≤(Zan x.text).length) (h0:L≠[]):1≤(wds L).length:=by
 cases L with
 | nil=>exact absurd rfl h0
 | cons a r =>
  have:=h a List.mem_cons_self;unfold wds;rw [List.map_cons,List.flatMap_cons,Zx5];omega
theorem nameK_good {k:Int} (h0:0≤k) (h1:k≤7):goodW (Zcm k):=by
 unfold Zcm;rw [if_pos ⟨h0,by omega⟩];obtain ⟨i,rfl⟩:∃ i:Nat,k=(i:Int):=⟨k.toNat,by omega⟩;have hi:i<8:=by omega
 rw [Int.toNat_natCast];exact (by unfold goodW;decide:∀ i,i<8→goodW (Zbe.getD i [])) i hi
theorem may_good {s:Str} (h:may s=true):goodW s:=by
 have hl:=may_len h;unfold may at h;simp only [Zx4,Zx3,List.all_eq_true] at h;refine ⟨by rintro rfl;simp at hl,fun b hb e=>?_⟩;subst e;rw [← dgs_caps s] at hb;rcases List.mem_append.1 hb with hb|hb
 ·have h2:=List.all_takeWhile (p:=isD) (l:=s);rw [List.all_eq_true] at h2;exact absurd (h2 _ hb) (by decide)
 ·exact absurd (h.2 _ hb) (by decide)
theorem rowB_good {l:List Wd} (h:rowB l=true):∀ x∈l,goodW x.text:=by
 unfold rowB textsV at h;simp only [Zx4,Zx3,List.all_eq_true] at h;intro x hx;have:=h.2 _ (List.mem_map_of_mem hx);unfold wordB at this;simp only [Zx4,Zx3,List.all_eq_true] at this;refine ⟨by intro e;rw [e] at this;simp at this,fun b hb e=>?_⟩;subst e;exact absurd (this.2.2 _ hb) (by decide)
theorem wdU_of_right {u:Un} {w:Int} (h:rightT u=true) (hk:u.kind≠0) (h1:24≤w) (h2:w≤200):WdU w u:=by
 refine ⟨fit_of_right h hk h1 h2,?_⟩;rw [rightT_eq] at h;have ha:=(Bool.and_eq_true_iff.1 h).1;unfold aloneR at ha;rw [if_neg hk] at ha;simp only [Zx4,Zx3] at ha;obtain ⟨⟨k0,k7⟩,_,hh,hw,hm⟩:=ha;intro s hs;unfold rowT at hs;rcases List.mem_cons.1 hs with rfl|hs
 ·exact nameK_good k0 k7
 rcases List.mem_cons.1 hs with rfl|hs
 ·exact may_good hm
 obtain ⟨x,hx,rfl⟩:=List.mem_map.1 hs;rcases List.mem_append.1 hx with hx|hx
 ·exact rowB_good hh x hx
 ·exact rowB_good hw x hx
theorem wdU_all {u:Un} {w:Int} (h:SmT u) (hr:rightT u=true) (h1:24≤w) (h2:w≤200):∀ x∈unitsL u.kids,WdU w x:=fun x hx =>
 wdU_of_right (right_sub h hr x (by rw [Zaj];exact Zx7 _ hx)) (right_kinds h hr x hx) h1 h2
structure Sch where
 u : Un
 a : Nat
 b : Nat
def ancsT (u:Un):List Str:=(u.words.map fun w=>w.text).filterMap fun s=>if ancB s=true then some (s.drop 1) else none
def noteB (u k:Un):Bool:=(k.kind==7)&&(ancsT u).contains k.label
mutual
def stT : Un → Nat → List Sch × Nat
 | .mk a i n k l h ws ks, at' => stL (.mk a i n k l h ws ks) ks at'
def stL (p : Un) : List Un → Nat → List Sch × Nat
 | [], at' => ([], at')
 | k :: r, at' => if noteB p k = true then stL p r at' else
  let b := stT k (at' + (rowT k).length)
  let c := stL p r b.2
  (⟨k, at', b.2⟩ :: (b.1 ++ c.1), c.2)
end
theorem stT_eq (u:Un) (at':Nat):stT u at'=stL u u.kids at':=by cases u;rw [stT];rfl
theorem stL_nil (p:Un) (at':Nat):stL p [] at'=([],at'):=by rw [stL]
theorem stL_note {p k:Un} {r:List Un} {at':Nat} (h:noteB p k=true):stL p (k::r) at'=stL p r at':=by rw [stL,if_pos h]
theorem stL_cons {p k:Un} {r:List Un} {at':Nat} (h:noteB p k=false):stL p (k::r) at'=(⟨k,at',(stT k (at'+(rowT k).length)).2⟩::((stT k (at'+(rowT k).length)).1++(stL p r (stT k (at'+(rowT k).length)).2).1),(stL p r (stT k (at'+(rowT k).length)).2).2):=by
 rw [stL,if_neg (by rw [h];exact Bool.false_ne_true)]
theorem stL_app (p:Un):∀ (l m:List Un) (at':Nat),stL p (l++m) at'=((stL p l at').1++(stL p m (stL p l at').2).1,(stL p m (stL p l at').2).2)
 | [],m,at'=>by rw [List.nil_append,stL_nil];rfl
 | k::r,m,at'=>by
  rw [List.cons_append];cases h:noteB p k with
  | true=>rw [stL_note h,stL_note h];exact stL_app p r m at'
  | false =>
   rw [stL_cons h,stL_cons h,stL_app p r m];simp only [List.cons_append,List.append_assoc]
theorem idx_any (q:Wd→Bool) (l:List Wd):0≤idxF q l↔∃ x∈l,q x=true:=by
 unfold idxF;cases h:l.any q with
 | false =>
  rw [if_neg Bool.false_ne_true];constructor
  ·intro h2;omega
  ·rintro ⟨x,hx,hq⟩;rw [List.any_eq_true.2 ⟨x,hx,hq⟩] at h;cases h
 | true =>
  rw [if_pos rfl];exact ⟨fun _=>List.any_eq_true.1 h,fun _=>by omega⟩
theorem note_called (u k:Un):noteB u k=true↔0≤Zag u k:=by
 unfold noteB Zag;by_cases h7:k.kind=7
 ·rw [if_pos h7,h7,idx_any];have:((7:Int)==7)=true:=rfl;rw [this,Bool.true_and,List.contains_iff_mem];unfold ancsT callsB;rw [List.mem_filterMap];constructor
  ·rintro ⟨s,hs,h⟩;obtain ⟨x,hx,rfl⟩:=List.mem_map.1 hs;refine ⟨x,hx,?_⟩;unfold ancF;split at h
   ·rename_i ha;rw [if_pos ha];simp only [Zx0] at h;rw [h];simp
   ·cases h
  ·rintro ⟨x,hx,h⟩;refine ⟨x.text,List.mem_map.2 ⟨x,hx,rfl⟩,?_⟩;unfold ancF at h;split at h
   ·rename_i ha;rw [if_pos ha];simp at h;rw [List.drop_one,h]
   ·simp at h
 ·rw [if_neg h7];have:(k.kind==7)=false:=by rw [beq_eq_false_iff_ne];exact h7
  rw [this,Bool.false_and];constructor
  ·intro h;cases h
  ·intro h;omega
theorem rowT_pos (u:Un):1≤(rowT u).length:=by unfold rowT;simp
theorem st_body {w:Int} {u:Un} (hu:SmT u):(∀ x∈unitsL u.kids,WdU w x)→∀ at',(stT u at').2=at'+(wds (bodyL w u u.kids)).length∧∀ s∈(stT u at').1,∃ X Y,bodyL w u u.kids=X++ownL w s.u++Y∧s.a=at'+(wds X).length∧s.a<s.b∧s.b≤at'+(wds (bodyL w u u.kids)).length∧s.u∈unitsL u.kids:=by
 induction hu with
 | mk u h hk hs ih =>
  intro hw;have key:∀ L:List Un,(∀ k∈L,k∈u.kids)→∀ at',(stL u L at').2=at'+(wds (bodyL w u L)).length∧∀ s∈(stL u L at').1,∃ X Y,bodyL w u L=X++ownL w s.u++Y∧s.a=at'+(wds X).length∧s.a<s.b∧s.b≤at'+(wds (bodyL w u L)).length∧s.u∈unitsL L:=by
   intro L
   induction L with
   | nil=>intro _ at';rw [stL_nil,bodyL];exact ⟨rfl,fun s hs=>by cases hs⟩
   | cons a r ihr =>
    intro hL at';have ihr:=ihr fun k hk=>hL k (Zx7 _ hk);cases hc:noteB u a with
    | true =>
     obtain ⟨h1,h2⟩:=ihr at';have hca:=(note_called u a).1 hc;rw [stL_note hc,bodyL,if_neg (by omega),List.nil_append];refine ⟨h1,fun s hs=>?_⟩;obtain ⟨X,Y,h3,h4,h5,h6,h7⟩:=h2 s hs;exact ⟨X,Y,h3,h4,h5,h6,by rw [unitsL];exact List.mem_append_right _ h7⟩
    | false =>
     have hca:Zag u a<0:=by
      rcases Int.lt_or_le (Zag u a) 0 with h|h
      ·exact h
      ·rw [(note_called u a).2 h] at hc;cases hc
     have ha:=hL a List.mem_cons_self;have haw:∀ x∈unitsT a,WdU w x:=fun x hx=>hw x (by rw [Zat];exact List.mem_flatMap.2 ⟨a,ha,hx⟩);obtain ⟨a1,a2⟩:=ih a ha (fun x hx=>haw x (by rw [Zaj];exact Zx7 _ hx)) (at'+(rowT a).length);have hown:=wds_own (haw a (Zau a));have hpos:=rowT_pos a;obtain ⟨r1,r2⟩:=ihr (stT a (at'+(rowT a).length)).2;rw [stL_cons hc,bodyL,if_pos hca,bodyT_eq];simp only [wds_app,Zx5,hown];refine ⟨by rw [r1,a1];omega,fun s hs=>?_⟩;rcases List.mem_cons.1 hs with rfl|hs
     ·refine ⟨[],bodyL w a a.kids++bodyL w u r,by simp,by simp [wds],?_,?_,?_⟩
      ·show at'<(stT a (at'+(rowT a).length)).2;rw [a1];omega
      ·show (stT a (at'+(rowT a).length)).2≤_;rw [a1];omega
      ·rw [unitsL];exact List.mem_append_left _ (Zau a)
     rcases List.mem_append.1 hs with hs|hs
     ·obtain ⟨X,Y,h3,h4,h5,h6,h7⟩:=a2 s hs;refine ⟨ownL w a++X,Y++bodyL w u r,by rw [h3];simp,?_,h5,by omega,?_⟩
      ·rw [wds_app,Zx5,hown];omega
      ·rw [unitsL,Zaj];exact List.mem_append_left _ (Zx7 _ h7)
     ·obtain ⟨X,Y,h3,h4,h5,h6,h7⟩:=r2 s hs;refine ⟨ownL w a++bodyL w a a.kids++X,Y,by rw [h3];simp,?_,h5,by omega,?_⟩
      ·simp only [wds_app,Zx5,hown];omega
      ·rw [unitsL];exact List.mem_append_right _ h7
  intro at';rw [stT_eq];exact key u.kids (fun k hk=>hk) at'
def secB (u:Un):Bool:=(u.kind==1)||(u.kind==2)
theorem st_secs {u:Un} (hu:SmT u):(∀ x∈unitsL u.kids,rightT x=true)→∀ at',((stT u at').1.map (·.u)).filter secB=(unitsL u.kids).filter secB:=by
  induction hu with
  | mk u h hk hs ih =>
    intro hw;have key:∀ L:List Un,(∀ k∈L,k∈u.kids)→∀ at',((stL u L at').1.map (·.u)).filter secB=(unitsL L).filter secB:=by
      intro L
      induction L with
      | nil=>intro _ at';rw [stL_nil];rfl
      | cons a r ihr =>
        intro hL at';have ihr:=ihr fun k hk=>hL k (Zx7 _ hk);have ha:=hL a List.mem_cons_self;have haw:∀ x∈unitsT a,rightT x=true:=fun x hx=>hw x (by rw [Zat];exact List.mem_flatMap.2 ⟨a,ha,hx⟩);rw [unitsL,List.filter_append];cases hc:noteB u a with
        | true =>
          have hca:=(note_called u a).1 hc;have hl:=note_leaf (haw a (Zau a)) hca;have h7:a.kind=7:=by
            unfold noteB at hc;simp only [Zx4,beq_iff_eq] at hc;exact hc.1
          have hb:secB a=false:=by unfold secB;rw [h7];rfl
          rw [stL_note hc,ihr at',Zaj,hl,unitsL,List.filter_cons_of_neg (by rw [hb];exact Bool.false_ne_true)];rfl
        | false =>
          rw [stL_cons hc];simp only [List.map_cons,List.map_append];have ih2:=ih a ha (fun x hx=>haw x (by rw [Zaj];exact Zx7 _ hx)) (at'+(rowT a).length);have e:(a::(List.map (·.u) (stT a (at'+(rowT a).length)).1++List.map (·.u) (stL u r (stT a (at'+(rowT a).length)).2).1))=[a]++(List.map (·.u) (stT a (at'+(rowT a).length)).1)++List.map (·.u) (stL u r (stT a (at'+(rowT a).length)).2).1:=by simp
          rw [e,List.filter_append,List.filter_append,ih2,ihr,Zaj,show a::unitsL a.kids=[a]++unitsL a.kids by rfl,List.filter_append]
    intro at';rw [stT_eq];exact key u.kids (fun k hk=>hk) at'
theorem sib_nest {p:Int}:∀ (l pre:List Un),sibB p pre l=true→∀ k∈l,nestB p k.kind=true
 | [],_,_,k,hk=>by cases hk
 | a::r,pre,h,k,hk=>by
  rw [sibB] at h;simp only [Zx4] at h;rcases List.mem_cons.1 hk with rfl|hk
  ·exact h.1
  ·exact sib_nest r _ h.2.2 k hk
theorem right_kid {u:Un} (h:rightT u=true) {k:Un} (hk:k∈u.kids):nestB u.kind k.kind=true∧rightT k=true:=by
 rw [rightT_eq,rightL_eq] at h;simp only [Zx4,List.all_eq_true] at h;exact ⟨sib_nest _ _ h.2.1 k hk,h.2.2 k hk⟩
theorem nest_low {p k:Int} (h:nestB p k=true) (h0:p≠0) (h1:p≠1):k≠0∧k≠1∧k≠2:=by
 unfold nestB at h;rw [if_neg h0,if_neg h1] at h;split at h
 ·simp only [Bool.or_eq_true,beq_iff_eq] at h;omega
 ·split at h
  ·rw [beq_iff_eq] at h;omega
  ·split at h
   ·rw [beq_iff_eq] at h;omega
   ·cases h
theorem nest_note {p k:Int} (h:nestB p k=true) (hp:p=0∨p=1):k≠7:=by
 unfold nestB at h;rcases hp with rfl|rfl
 ·rw [if_pos rfl] at h;simp only [Bool.or_eq_true,beq_iff_eq] at h;omega
 ·rw [if_neg (by omega),if_pos rfl,beq_iff_eq] at h;omega
theorem no_secs {u:Un} (hu:SmT u):rightT u=true→u.kind≠0→u.kind≠1→∀ x∈unitsL u.kids,secB x=false:=by
 induction hu with
 | mk u h hk hs ih =>
  intro hr h0 h1 x hx;rw [Zat] at hx;obtain ⟨k,hk',hx⟩:=List.mem_flatMap.1 hx;obtain ⟨hn,hrk⟩:=right_kid hr hk';obtain ⟨n0,n1,n2⟩:=nest_low hn h0 h1;rw [Zaj] at hx;rcases List.mem_cons.1 hx with rfl|hx
  ·unfold secB;rw [beq_eq_false_iff_ne.2 n1,beq_eq_false_iff_ne.2 n2];rfl
  ·exact ih k hk' hrk n0 n1 x hx
theorem body_root {u:Un} (hr:rightT u=true) (hk:u.kind=0∨u.kind=1) (w:Int):bodyP u w=bodyL w u u.kids:=by
 unfold bodyP kidsB;rw [if_pos rfl];have key:∀ L:List Un,(∀ k∈L,k∈u.kids)→L.flatMap (bodyT w)=bodyL w u L:=by
  intro L
  induction L with
  | nil=>intro _;rw [bodyL];rfl
  | cons a r ih =>
   intro hL;have h7:=nest_note (right_kid hr (hL a List.mem_cons_self)).1 hk;have hc:Zag u a<0:=by unfold Zag;rw [if_neg h7];omega
   rw [List.flatMap_cons,bodyL,if_pos hc,ih fun k hk=>hL k (Zx7 _ hk)]
 exact key u.kids fun k hk=>hk
def cumP (P:List (List Ln)) (i:Nat):Nat:=(bodyW (P.take i)).length
def secsT (u:Un):List Sch:=(stT u 0).1.filter fun s=>secB s.u
def onP (P:List (List Ln)) (s:Sch) (i:Nat):Bool:=decide (max (cumP P i) s.a<min (cumP P (i+1)) s.b)
def pgsOf (P:List (List Ln)) (s:Sch) (n:Nat):List Nat:=(List.range n).filter (onP P s)
theorem bodyW_wds (P:List (List Ln)):bodyW P=wds P.flatten:=bodyW_eq P
theorem flat_split {y:Ln} {Y:List Ln}:∀ (P:List (List Ln)) (X:List Ln),P.flatten=X++y::Y→∃ c,∃ h:c<P.length,∃ X' Y',P[c]=X'++y::Y'∧X=(P.take c).flatten++X'
 | [],X,h=>by simp at h
 | N::P,X,h=>by
  rw [List.flatten_cons] at h;by_cases hl:X.length<N.length
  ·have e1 : N = X ++ y :: (N.drop (X.length + 1)) := by
    have h1:=congrArg (List.take N.length) h;rw [List.take_left] at h1;rw [List.take_append,List.take_of_length_le (by omega)] at h1;obtain ⟨d,hd⟩:∃ d,N.length-X.length=d+1:=⟨N.length-X.length-1,by omega⟩;rw [hd,List.take_succ_cons] at h1;have h2:N.drop (X.length+1)=Y.take d:=by
     rw [h1,List.drop_append];simp
    rw [h2];exact h1
   exact ⟨0,by simp,X,_,e1,by simp⟩
  ·have e1 : X = N ++ X.drop N.length := by
    have h1:=congrArg (List.take N.length) h;rw [List.take_left,List.take_append_of_le_length (by omega)] at h1;have:=List.take_append_drop N.length X;rw [← h1] at this;exact this.symm
   rw [e1,List.append_assoc] at h;obtain ⟨c,hc,X',Y',h2,h3⟩:=flat_split P _ (List.append_cancel_left h);refine ⟨c+1,by simpa using hc,X',Y',by simpa using h2,?_⟩;rw [List.take_succ_cons,List.flatten_cons,List.append_assoc,← h3];exact e1
theorem cumP_step {P:List (List Ln)} {k:Nat} (h:k<P.length):cumP P (k+1)=cumP P k+(wds P[k]).length:=by
 unfold cumP;rw [bodyW_step h,Zx5];rfl
theorem cumP_mono {P:List (List Ln)}:∀ (j i:Nat),i≤j→cumP P i≤cumP P j
 | 0,i,h=>by rw [Nat.le_zero.1 h];exact Nat.le_refl _
 | j+1,i,h=>by
  rcases Nat.lt_or_ge i (j+1) with h1|h1
  ·have ih:=cumP_mono (P:=P) j i (by omega);by_cases hj:j<P.length
   ·rw [cumP_step hj];omega
   ·unfold cumP at ih ⊢;rw [List.take_of_length_le (i:=j) (by omega)] at ih;rw [List.take_of_length_le (i:=j+1) (by omega)];exact ih
  ·rw [show i=j+1 by omega];exact Nat.le_refl _
theorem upto_bound (q:Nat→Bool) (hq:∀ i j,i≤j→q j=true→q i=true):∀ n:Nat,∃ b,b≤n∧∀ i,i<n→(q i=true↔i<b)
 | 0=>⟨0,Nat.le_refl _,fun i h=>by omega⟩
 | n+1=>by
  obtain ⟨b,hb,h⟩:=upto_bound q hq n;cases hn:q n with
  | true =>
   refine ⟨n+1,Nat.le_refl _,fun i hi=>⟨fun _=>hi,fun _=>hq i n (by omega) hn⟩⟩
  | false =>
   refine ⟨b,by omega,fun i hi=>?_⟩;by_cases hin:i=n
   ·subst hin;rw [hn];exact ⟨fun h=>(by cases h),fun h=>by omega⟩
   ·exact h i (by omega)
theorem filter_seg {p:Nat→Bool} {a b:Nat}:∀ n:Nat,a≤b→b≤n→(∀ i,i<n→(p i=true↔a≤i∧i<b))→(List.range n).filter p=List.range' a (b-a)
 | 0,h1,h2,_=>by
  have:b-a=0:=by omega
  rw [this];rfl
 | n+1,h1,h2,h=>by
  rw [List.range_succ,List.filter_append];by_cases hn:p n=true
  ·have:=(h n (by omega)).1 hn;have hb:b=n+1:=by omega
   subst hb;have ih:=filter_seg (p:=p) (a:=a) (b:=n) n (by omega) (Nat.le_refl _) fun i hi=>by rw [h i (by omega)];omega
   rw [ih,List.filter_cons_of_pos hn,show n+1-a=(n-a)+1 by omega,List.range'_1_concat,show a+(n-a)=n by omega];rfl
  ·have hb:¬ (a≤n∧n<b):=fun h2=>hn ((h n (by omega)).2 h2);have hbn:b≤n∨b=a:=by omega
   rw [List.filter_cons_of_neg hn,List.filter_nil,List.append_nil];rcases hbn with hbn|hbn
   ·exact filter_seg n h1 hbn fun i hi=>h i (by omega)
   ·subst hbn;rw [Nat.sub_self];have:(List.range n).filter p=[]:=by
     rw [List.filter_eq_nil_iff];intro i hi hp;rw [List.mem_range] at hi;have:=(h i (by omega)).1 hp;omega
    rw [this];rfl
structure SecI (P : List (List Ln)) (s : Sch) : Prop where
 pages : ∃ c n, pgsOf P s P.length = List.range' c (n + 1) ∧ c + n < P.length ∧ ∃ h : c < P.length, ∃ x ∈ P[c], ∃ q, x.text = Zcm s.u.kind ++ q
theorem secI {u:Un} (hs:SmT u) {w m:Int} (hw:wrongP u w=0) {P:List (List Ln)} (hI:PgsI m (bodyP u w) P):∀ s∈secsT u,SecI P s:=by
 intro s hsm;obtain ⟨hr,h1,h2⟩:=good_wrong hs hw;have hwd:=wdU_all hs hr h1 h2;unfold secsT at hsm;rw [List.mem_filter] at hsm;obtain ⟨hst,hsec⟩:=hsm;obtain ⟨_,hall⟩:=st_body hs hwd 0;obtain ⟨X,Y,hb,ha,hab,hbt,hu⟩:=hall s hst;have hk:u.kind=0∨u.kind=1:=by
  by_cases h0:u.kind=0
  ·exact .inl h0
  by_cases h1:u.kind=1
  ·exact .inr h1
  rw [no_secs hs hr h0 h1 s.u hu] at hsec;cases hsec
 have hroot:=body_root hr hk w;have hwu:=hwd s.u hu;obtain ⟨q,L,hq⟩:=linesU_head hwu;have hown:=own_text (w:=w) (u:=s.u);rw [hq] at hown;cases ho:ownL w s.u with
 | nil=>rw [ho] at hown;cases hown
 | cons y O =>
  rw [ho,List.map_cons] at hown;have hy:y.text=Zcm s.u.kind++q:=(List.cons.inj hown).1;have hfl:P.flatten=X++y::(O++Y):=by rw [hI.flat,hroot,hb,ho];simp
  obtain ⟨c,hc,X',Y',hpc,hX⟩:=flat_split P X hfl;have hfull:∀ x∈y::O,1≤(Zan x.text).length:=by
   intro x hx;refine linesU_full hwu x.text ?_;rw [hq,← hown,← List.map_cons];exact List.mem_map_of_mem hx
  have hy1:=hfull y List.mem_cons_self;have hcum:cumP P c≤s.a∧s.a<cumP P (c+1):=by
   have e1:cumP P c=(wds (P.take c).flatten).length:=by unfold cumP;rw [bodyW_wds]
   have e2:(wds X).length=cumP P c+(wds X').length:=by rw [hX,wds_app,Zx5,e1]
   have e3:(wds P[c]).length=(wds X').length+(wds (y::Y')).length:=by rw [hpc,wds_app,Zx5]
   have e4:1≤(wds (y::Y')).length:=by
    unfold wds;rw [List.map_cons,List.flatMap_cons,Zx5];omega
   rw [cumP_step hc];omega
  have htot:cumP P P.length=(wds (bodyL w u u.kids)).length:=by
   unfold cumP;rw [List.take_length,bodyW_wds,hI.flat,hroot]
  obtain ⟨b,hbn,hbi⟩:=upto_bound (fun i=>decide (cumP P i<s.b)) (fun i j hij h=>by
   simp only [Zx3] at h ⊢;have:=cumP_mono (P:=P) j i hij;omega) P.length
  simp only [Zx3] at hbi;have hcb:=(hbi c hc).1 (by omega);have hposP:∀ i,(h:i<P.length)→1≤(wds P[i]).length:=by
   intro i hi;refine wds_pos (fun x hx=>?_) (hI.ne _ (List.getElem_mem hi));have hxb:x∈bodyL w u u.kids:=by
    rw [← hroot,← hI.flat];exact List.mem_flatten.2 ⟨P[i],List.getElem_mem hi,hx⟩
   exact (show ∀ x∈bodyL w u u.kids,1≤(Zan x.text).length from by
    have key:∀ {v:Un},SmT v→(∀ z∈unitsL v.kids,WdU w z)→∀ x∈bodyL w v v.kids,1≤(Zan x.text).length:=by
     intro v hv
     induction hv with
     | mk v h hk hs ih =>
      intro hw x hx;have key2:∀ L:List Un,(∀ k∈L,k∈v.kids)→x∈bodyL w v L→1≤(Zan x.text).length:=by
       intro L
       induction L with
       | nil=>intro _ hx;rw [bodyL] at hx;cases hx
       | cons a r ihr =>
        intro hL hx;rw [bodyL] at hx;rcases List.mem_append.1 hx with hx|hx
        ·split at hx
         ·have ha:=hL a List.mem_cons_self;have haw:∀ z∈unitsT a,WdU w z:=fun z hz=>hw z (by rw [Zat];exact List.mem_flatMap.2 ⟨a,ha,hz⟩);rw [bodyT_eq] at hx;rcases List.mem_append.1 hx with hx|hx
          ·refine linesU_full (haw a (Zau a)) x.text ?_;rw [← own_text];exact List.mem_map_of_mem hx
          ·exact ih a ha (fun z hz=>haw z (by rw [Zaj];exact Zx7 _ hz)) x hx
         ·cases hx
        ·exact ihr (fun k hk=>hL k (Zx7 _ hk)) hx
      exact key2 v.kids (fun k hk=>hk) hx
    exact key hs hwd) x hxb
  refine ⟨c,b-c-1,?_,by omega,hc,y,by rw [hpc];simp,q,hy⟩;unfold pgsOf;rw [show b-c-1+1=b-c by omega];refine filter_seg P.length (by omega) hbn fun i hi=>?_;unfold onP;rw [Zx3];have p1:=hposP i hi;have p2:=cumP_step hi;have p3:=hbi i hi;constructor
  ·intro h;refine ⟨?_,p3.1 (by omega)⟩;rcases Nat.lt_or_ge i c with h3|h3
   ·have:=cumP_mono (P:=P) c (i+1) (by omega);omega
   ·exact h3
  ·rintro ⟨h3,h4⟩;have h5:=p3.2 h4;have h6:=cumP_mono (P:=P) (i+1) (c+1) (by omega);omega
theorem secs_count {u:Un} (hs:SmT u) (hr:rightT u=true):(secsT u).length=((unitsL u.kids).filter secB).length:=by
 rw [← st_secs hs (fun x hx=>right_sub hs hr x (by rw [Zaj];exact Zx7 _ hx)) 0];unfold secsT;rw [List.filter_map,List.length_map];rfl
def titleT (u:Un):List Str:=Zcm u.kind::u.label::u.head.map fun w=>w.text
theorem row_title (u:Un):rowT u=titleT u++u.words.map fun w=>w.text:=by unfold rowT titleT;rw [List.map_append];rfl
theorem title_len (u:Un):(titleT u).length=u.head.length+2:=by unfold titleT;simp
def ancW (l:List Wd):List Str:=(l.map fun w=>w.text).filterMap fun s=>if ancB s=true then some (s.drop 1) else none
theorem ancW_step {l:List Wd} {k:Nat} (h:k<l.length):ancW (l.take (k+1))=if ancB l[k].text=true then ancW (l.take k)++[l[k].text.drop 1] else ancW (l.take k):=by
 unfold ancW;rw [List.take_succ_eq_append_getElem h,List.map_append,List.filterMap_append];split
 ·rename_i ha;simp [ha]
 ·rename_i ha;simp [ha]
theorem ancW_len (l:List Wd):(ancW l).length≤l.length:=by
 unfold ancW;exact Nat.le_trans (List.length_filterMap_le _ _) (by rw [List.length_map];exact Nat.le_refl _)
end Go.VM
namespace Go.Proofs.w
open Go Go.VM
def c_slices_Index_string:VC:=(ZR [ZO 4 (.mv (.c (.int .i64 0)))] (.seq (ZR [ZM 6 0,ZO 7 (.len false (.t 6)),ZO 8 (.mv (.c (.int .i64 0)))] (.block 0 (.loop (ZR [ZO 9 (.bin .lss (.t 8) (.t 7))] (.seq (.cond (.t 9) .skip (.exit 0)) (.seq (.block 1 (ZR [ZM 10 8,ZM 5 10] (ZR [ZM 11 1,ZM 12 0,ZM 13 5,ZO 14 (.iaddr 1 (.t 12) (.t 13)),ZO 15 (.load false 1 (.t 14)),ZO 16 (.bin .eql (.t 11) (.t 15))] (.cond (.t 16) (ZR [ZM 17 5,ZM 4 17] .ret) .skip)))) (.region [ZO 18 (.bin .add (.t 8) (.c (.int .i64 1))),ZM 8 18] false))))))) (ZR [ZO 4 (.mv (.c (.int .i64 (-1))))] .ret)))
def Zc8:VC:=(ZR [ZO 4 (.mv (.c (.bool false)))] (ZR [ZM 5 0,ZM 6 1,ZO 7 (.call 159 [.t 5,.t 6]),ZO 8 (.bin .geq (.t 7) (.c (.int .i64 0))),ZM 4 8] .ret))
def c_concordance_texts:VC:=(ZR [ZO 2 (.mv (.c .nilsl))] (ZR [ZO 3 (.mv (.c .nilsl))] (.seq (ZR [ZM 6 0,ZO 7 (.len false (.t 6)),ZO 8 (.mv (.c (.int .i64 0)))] (.block 0 (.loop (ZR [ZO 9 (.bin .lss (.t 8) (.t 7))] (.seq (.cond (.t 9) .skip (.exit 0)) (.seq (.block 1 (ZR [ZO 10 (.iaddr 4 (.t 6) (.t 8)),ZO 11 (.load true 4 (.t 10)),ZO 5 (.alloc [(.str []),.int .i64 0,.int .i64 0,.int .i64 0]),ZN (.store 4 (.t 5) (.t 11))] (.region [ZM 12 3,ZO 13 (.faddr 0 (.t 5)),ZO 14 (.load false 1 (.t 13)),ZO 15 (.bslice 1 1 [(.str [])] [(0,(.t 14))]),ZO 16 (.app 1 16 [(.str [])] false (.t 12) (.t 15)),ZM 3 16] false))) (.region [ZO 17 (.bin .add (.t 8) (.c (.int .i64 1))),ZM 8 17] false))))))) (ZR [ZM 18 3,ZM 2 18] .ret))))
def c_concordance_title:VC:=(ZR [ZO 1 (.box 8 (.t 0)),ZO 2 (.mv (.c .nilsl))] (.seq (.region [ZO 3 (.faddr 3 (.t 1)),ZO 4 (.load false 1 (.t 3)),ZO 5 (.call 40 [.t 4]),ZO 6 (.faddr 4 (.t 1)),ZO 7 (.load false 1 (.t 6)),ZO 8 (.bslice 1 2 [(.str [])] [(0,(.t 5)),(1,(.t 7))]),ZO 9 (.faddr 5 (.t 1)),ZO 10 (.load false 1 (.t 9)),ZO 11 (.call 105 [.t 10]),ZO 12 (.bslice 1 2 [.nilsl] [(0,(.t 8)),(1,(.t 11))]),ZO 13 (.call 48 [.t 12]),ZM 2 13] true) .ret))
def c_concordance_count:VC:=(ZR [ZO 1 (.box 8 (.t 0)),ZO 2 (.mv (.c (.int .i64 0)))] (.seq (.region [ZO 3 (.load true 8 (.t 1)),ZO 4 (.call 60 [.t 3]),ZO 5 (.len false (.t 4)),ZO 6 (.faddr 6 (.t 1)),ZO 7 (.load false 1 (.t 6)),ZO 8 (.len false (.t 7)),ZO 9 (.bin .add (.t 5) (.t 8)),ZM 2 9] true) .ret))
def c_footnote_Anchors:VC:=(ZR [ZO 1 (.box 8 (.t 0)),ZO 2 (.mv (.c .nilsl))] (ZR [ZO 3 (.mv (.c .nilsl))] (.seq (ZR [ZO 8 (.faddr 6 (.t 1)),ZO 9 (.load false 1 (.t 8)),ZO 10 (.len false (.t 9)),ZO 11 (.mv (.c (.int .i64 0)))] (.block 0 (.loop (ZR [ZO 12 (.bin .lss (.t 11) (.t 10))] (.seq (.cond (.t 12) .skip (.exit 0)) (.seq (.block 1 (ZR [ZO 13 (.iaddr 4 (.t 9) (.t 11)),ZO 14 (.load true 4 (.t 13)),ZO 5 (.alloc [(.str []),.int .i64 0,.int .i64 0,.int .i64 0]),ZN (.store 4 (.t 5) (.t 14))] (ZR [ZO 16 (.faddr 0 (.t 5)),ZO 17 (.load false 1 (.t 16)),ZO 18 (.call 116 [.t 17]),ZM 15 18,ZO 19 (.ext (.t 15) 0),ZO 20 (.ext (.t 15) 1),ZM 6 19,ZM 7 20] (ZR [ZM 21 7] (.cond (.t 21) (.region [ZM 22 3,ZM 23 6,ZO 24 (.bslice 1 1 [(.str [])] [(0,(.t 23))]),ZO 25 (.app 1 16 [(.str [])] false (.t 22) (.t 24)),ZM 3 25] false) .skip))))) (.region [ZO 26 (.bin .add (.t 11) (.c (.int .i64 1))),ZM 11 26] false))))))) (ZR [ZM 27 3,ZM 2 27] .ret))))
theorem sp_Index_string (l:List Str) (s:Str) (hl:l.length≤1000000):Zam Tryz.prog 159 [.sl 1 (strR l),.str s] (pI (idxF (fun x=>s==x) l)):=by
 have hsl:=Za7 l;refine Zad ?_ (cI _) (by intro y hy;simp only [List.mem_cons,List.not_mem_nil,or_false] at hy;rcases hy with rfl|rfl;exact Zbs _;exact cS _);refine Gn (vc:=c_slices_Index_string) [.t 4] Tryz.func159 ?_;unfold c_slices_Index_string;try dsimp only [ZM,ZO,ZN,ZG,ZR,ZU]
 refine Rp0 [0,1] ?_;refine Zaa ?_;refine Rp1 [0,1,7,8] hsl ?_;refine Zab ?_;refine Zak (σ:={ k:Nat//k≤l.length∧∀ (j:Nat) (hj:j<l.length),j<k→(s==l[j])=false }) (fun x=>([(0,.sl 1 (strR l)),(1,.str s),(7,pI l.length),(8,pI x.1)],⟨[],0⟩)) (fun x=>l.length-x.1) ⟨0,Nat.zero_le _,fun j _ h=>by cases h⟩ ?_ ?_ ?_
 ·refine Sp0 ?_;rfl
 ·exact Sc0
 rintro ⟨k,hk,hpre⟩;simp only [];refine Rp0 [0,1,7,8,9] ?_;refine Zaa ?_;refine Zac rfl (fun h1=>?_) (fun h1=>?_)
 ·have ka:k<l.length:=by simp only [Zx3] at h1;omega
  have hrow:(strR l).getD k []=[PV.str l[k]]:=rowm ka;generalize hx:l[k]=y at hrow;refine Kp0 ?_;refine Zaa ?_;refine Zab ?_;refine Rp0 [0,1,5,7,8] ?_;refine Rp1 [0,1,5,7,8,16] (x2 hsl hrow) ?_;refine Ok ?_;cases hq:s==y with
  | true =>
   refine Ct ?_;refine Rp0 [4] ?_;refine Tp0 ?_;rw [idxF_at (fun x=>s==x) l k ka hpre (by rw [hx];exact hq)];exact View.refl _ _
  | false =>
   refine Fp0 ?_;refine rp1 [0,1,7,8] (w64 (n:=(k:Int)+1) (by omega) (by omega)) ?_;refine ⟨⟨k+1,ka,fun j hj hjk=>?_⟩,?_,?_⟩
   ·by_cases e:j=k
    ·subst e;rw [hx];exact hq
    ·exact hpre j hj (by omega)
   ·rfl
   ·simp only [];omega
 ·have ka:k=l.length:=by simp only [Zx2] at h1;omega
  refine Ep0 ?_;refine Rp0 [4] ?_;refine Tp0 ?_;rw [idxF_none (fun x=>s==x) l (fun j hj=>hpre j hj (by omega))];exact View.refl _ _
theorem sp_Contains_string (l:List Str) (s:Str) (hl:l.length≤1000000):Zam Tryz.prog 99 [.sl 1 (strR l),.str s] (.bool (l.contains s)):=by
 have hc:l.contains s=l.any fun x=>s==x:=by
  induction l with
  | nil=>rfl
  | cons a r ih=>rw [List.contains_cons,List.any_cons,ih (by simp at hl;omega)]
 have I:=sp_Index_string l s hl;refine Zad ?_ (cB _) (by intro y hy;simp only [List.mem_cons,List.not_mem_nil,or_false] at hy;rcases hy with rfl|rfl;exact Zbs _;exact cS _);refine Gn (vc:=Zc8) [.t 4] Tryz.func99 ?_;unfold Zc8;try dsimp only [ZM,ZO,ZN,ZG,ZR,ZU]
 refine Rp0 [0,1] ?_;refine Rp0 [4] ?_;refine Ap0 I ?_;refine Tp0 ?_;rw [idxF_any,hc];exact View.refl _ _
theorem sp_con_texts (l:List Wd) (hl:l.length≤1000000):Zam Tryz.prog 105 [.sl 4 (l.map Wd.enc)] (.sl 1 (l.map fun w=>[PV.str w.text])):=by
 refine Gp (vc:=c_concordance_texts) [.t 2] (closed_textsW _) Tryz.func105 ?_;unfold c_concordance_texts;try dsimp only [ZM,ZO,ZN,ZG,ZR,ZU]
 refine Rp0 [0] ?_;refine Rp0 [0,3] ?_;refine Zcx 3 1 rfl ?_;refine Sp0 ?_;refine Zaa ?_;refine Rp1 [3,6,7,8] @xlm ?_;refine Zab ?_;refine Zak (σ:={ x:Nat×Nat×Nat//x.1≤l.length∧x.2.1<x.2.2 }) (fun x=>([(3,.own x.1.2.1 0 x.1.1),(6,.sl 4 (l.map Wd.enc)),(7,pI l.length),(8,pI x.1.1)],⟨[(x.1.2.1,.arr false 1 ((l.take x.1.1).map fun w=>[PV.str w.text]))],x.1.2.2⟩)) (fun x=>l.length-x.1.1) ⟨(0,0,1),Nat.zero_le _,Nat.one_pos⟩ ?_ ?_ ?_
 ·refine Sp0 ?_;rfl
 ·exact Sr0
 rintro ⟨⟨k,id,t⟩,hk,hid⟩;simp only [] at hk hid ⊢;have qq:=N4 id t (t+1) (t+1+1);refine Rp1 [3,6,7,8,9] qq ?_;refine Zaa ?_;refine Zac rfl (fun h1=>?_) (fun h1=>?_)
 ·have ka:k<l.length:=by simp only [Zx3] at h1;omega
  have hst:=texts_step ka;have hB:((l.take k).map fun w=>[PV.str w.text]).length=k:=by simp;omega
  generalize (l.take k).map (fun w=>[PV.str w.text])=B at hst hB ⊢;have tk:List.take k B=B:=List.take_of_length_le (by omega);refine Kp1 qq ?_;refine Zaa ?_;refine Zab ?_;refine Zaa (Zae [3,5,6,7,8] ?_);simp only [vmL,Nat.reduceEqDiff,Nat.reduceAdd,Nat.reduceLT,Nat.reduceLeDiff,Nat.reduceSub,Nat.reduceMul,reduceIte,reduceCtorEq,Int.reduceToNat,List.length_map,rowm ka,Wd.enc,qq];refine Ok ?_;refine rp1 [3,6,7,8] (x3 tk hB qq) ?_;refine ⟨by omega,by omega,?_⟩;refine rp1 [3,6,7,8] (x2 qq (w64 (n:=(k:Int)+1) (by omega) (by omega))) ?_;refine ⟨⟨(k+1,t+2,t+3),by show k+1≤l.length;omega,Nat.lt_succ_self _⟩,⟨rfl,rfl⟩,⟨Nat.le_refl _,?_⟩,by show l.length-(k+1)<l.length-k;omega⟩;show (if t+1+1=t+2 then some (AB.arr false 1 (B++[[PV.str l[k].text]])) else _)=some (AB.arr false 1 ((l.take (k+1)).map fun w=>[PV.str w.text]));rw [if_pos rfl,hst]
 ·have ka:k=l.length:=by simp only [Zx2] at h1;omega
  subst ka;rw [List.take_length];refine Ep1 qq ?_;refine Rp1 [2] qq ?_;refine Tp0 ?_;exact View.own_all (fz:=false) (by simp [Heap.get,HL.get]) (by rw [List.length_map])
theorem sp_con_title (u:Un) (hh:u.head.length≤300):Zam Tryz.prog 60 [.agg u.enc] (.sl 1 (strR (titleT u))):=by
 have NK:=sp_KindName u.kind;have TX:=sp_con_texts u.head (by omega);have CC:=sp_ConcatP_string [[[.str (Zcm u.kind)],[.str u.label]],u.head.map fun w=>[PV.str w.text]] (by
  intro x hx r hr y hy;simp only [List.mem_cons,List.not_mem_nil,or_false] at hx;rcases hx with rfl|rfl
  ·simp only [List.mem_cons,List.not_mem_nil,or_false] at hr;rcases hr with rfl|rfl<;>(rw [List.mem_singleton] at hy;subst hy;exact cS _)
  ·obtain ⟨w,_,rfl⟩:=List.mem_map.1 hr;rw [List.mem_singleton] at hy;subst hy;exact cS _) (by simp) (by simp [Zbb];omega)
 simp only [List.map_cons,List.map_nil,enW,List.flatten_cons,List.flatten_nil,List.append_nil,List.cons_append,List.nil_append] at CC;have hR:strR (titleT u)=[PV.str (Zcm u.kind)]::[PV.str u.label]::u.head.map fun w=>[PV.str w.text]:=by unfold strR titleT;rw [List.map_cons,List.map_cons,List.map_map];rfl
 refine Zad ?_ (Zbs _) (by intro y hy;rw [List.mem_singleton] at hy;subst hy;exact Zao _);refine Gn (vc:=c_concordance_title) [.t 2] Tryz.func60 ?_;unfold c_concordance_title;try dsimp only [ZM,ZO,ZN,ZG,ZR,ZU]
 rw [hR,Un.Zaf u];generalize u.head.map (fun w=>[PV.str w.text])=TT at *;generalize u.head.map Wd.enc=EH at *;generalize u.words.map Wd.enc=EW at *;generalize u.kids.map Un.enc=EK at *;refine Rp0 [1] ?_;refine Zaw [(1,.ro [pI u.act,pI u.item,pI u.n,pI u.kind,.str u.label,.sl 4 EH,.sl 4 EW,.sl 8 EK])] ⟨View.loc (z:=8) (fz:=false) (es:=[[pI u.act,pI u.item,pI u.n,pI u.kind,.str u.label,.sl 4 EH,.sl 4 EW,.sl 8 EK]]) rfl (by simp) rfl (by simp),trivial⟩ ?_;refine Zaa (Zbh [2] (by simp [Heap.le,Heap.get,HL.le,HL.get]) ?_);refine Sp0 ?_;refine ⟨_,.inl NK,?_⟩;refine Sp0 ?_;refine ⟨_,.inl TX,?_⟩;refine Sp0 ?_;refine ⟨_,.inl CC,?_⟩;refine Sp0 ?_;exact Tv0
theorem sp_con_count (u:Un) (hh:u.head.length≤300) (hw:u.words.length≤300):Zam Tryz.prog 101 [.agg u.enc] (pI (rowT u).length):=by
 have T:=sp_con_title u hh;have hTl:=Za7 (titleT u);have hl:=title_len u;have hr:=row_title u;have hrl:((rowT u).length:Int)=(titleT u).length+u.words.length:=by rw [hr,Zx5,List.length_map];omega
 have hWl:(u.words.map Wd.enc).length=u.words.length:=List.length_map _;refine Zad ?_ (cI _) (by intro y hy;rw [List.mem_singleton] at hy;subst hy;exact Zao _);refine Gn (vc:=c_concordance_count) [.t 2] Tryz.func101 ?_;unfold c_concordance_count;try dsimp only [ZM,ZO,ZN,ZG,ZR,ZU]
 rw [Un.Zaf u] at T ⊢;generalize u.head.map Wd.enc=EH at *;generalize u.words.map Wd.enc=EW at *;generalize u.kids.map Un.enc=EK at *;generalize strR (titleT u)=TT at *;generalize (titleT u).length=tl at *;generalize (rowT u).length=rl at *;refine Rp0 [1] ?_;refine Zaw [(1,.ro [pI u.act,pI u.item,pI u.n,pI u.kind,.str u.label,.sl 4 EH,.sl 4 EW,.sl 8 EK])] ⟨View.loc (z:=8) (fz:=false) (es:=[[pI u.act,pI u.item,pI u.n,pI u.kind,.str u.label,.sl 4 EH,.sl 4 EW,.sl 8 EK]]) rfl (by simp) rfl (by simp),trivial⟩ ?_;refine Zaa (Zbh [2] (by simp [Heap.le,Heap.get,HL.le,HL.get]) ?_);refine Sp0 ?_;refine ⟨_,.inl T,?_⟩;refine Sp1 (x3 hTl hWl (w64 (n:=(tl:Int)+(u.words.length:Int)) (by omega) (by omega))) ?_;refine Tp0 ?_;rw [hrl];exact View.refl _ _
theorem sp_Anchors (u:Un) (hw:u.words.length≤300∧∀ w∈u.words,w.text.length≤100):Zam Tryz.prog 100 [.agg u.enc] (.sl 1 (strR (ancW u.words))):=by
 obtain ⟨hw1,hw2⟩:=hw;have PA:=fun (k:Nat) (h:k<u.words.length)=>sp_ParseAnchor u.words[k].text (by have:=hw2 _ (List.getElem_mem h);omega);refine Zad ?_ (Zbs _) (by intro y hy;rw [List.mem_singleton] at hy;subst hy;exact Zao _);refine Gn (vc:=c_footnote_Anchors) [.t 2] Tryz.func100 ?_;unfold c_footnote_Anchors;try dsimp only [ZM,ZO,ZN,ZG,ZR,ZU]
 rw [Un.Zaf u];have hWl:(u.words.map Wd.enc).length=u.words.length:=List.length_map _;have hrow:∀ (k:Nat) (h:k<u.words.length),(u.words.map Wd.enc).getD k []=u.words[k].enc:=fun k h=>rowm h;generalize u.head.map Wd.enc=EH at *;generalize u.words.map Wd.enc=EW at *;generalize u.kids.map Un.enc=EK at *;generalize u.words=W at *;refine Rp0 [1] ?_;refine Zaw [(1,.ro [pI u.act,pI u.item,pI u.n,pI u.kind,.str u.label,.sl 4 EH,.sl 4 EW,.sl 8 EK])] ⟨View.loc (z:=8) (fz:=false) (es:=[[pI u.act,pI u.item,pI u.n,pI u.kind,.str u.label,.sl 4 EH,.sl 4 EW,.sl 8 EK]]) rfl (by simp) rfl (by simp),trivial⟩ ?_;refine Rp0 [1,3] ?_;refine Zcx 3 1 rfl ?_;refine Sp0 ?_;refine Zaa ?_;refine Rp1 [3,9,10,11] hWl ?_;refine Zab ?_;refine Zak (σ:={ x:Nat×Nat×Nat//x.1≤W.length∧x.2.1<x.2.2 }) (fun x=>([(3,.own x.1.2.1 0 (ancW (W.take x.1.1)).length),(9,.sl 4 EW),(10,pI W.length),(11,pI x.1.1)],⟨[(x.1.2.1,.arr false 1 (strR (ancW (W.take x.1.1))))],x.1.2.2⟩)) (fun x=>W.length-x.1.1) ⟨(0,1,2),Nat.zero_le _,by simp⟩ ?_ ?_ ?_
 ·exact Fn0
 ·exact Sr0
 rintro ⟨⟨k,id,t⟩,hk,hid⟩;simp only [] at hk hid ⊢;have qq:=N4 id t (t+1) (t+1+1);refine Rp1 [3,9,10,11,12] qq ?_;refine Zaa ?_;refine Zac rfl (fun h1=>?_) (fun h1=>?_)
 ·have ka:k<W.length:=by simp only [Zx3] at h1;omega
  have hst:=ancW_step ka;have hr:=hrow k ka;have pa:=PA k ka;have hal:=ancW_len (W.take k);rw [List.length_take] at hal;generalize W[k]=v at hst hr pa;have hve:v.enc=[.str v.text,pI v.act,pI v.item,pI v.at']:=rfl;rw [hve] at hr;generalize v.text=s at hst hr pa;refine Kp0 ?_;refine Zaa ?_;refine Zab ?_;refine Rp1 [3,5,9,10,11] (x3 hWl hr qq) ?_;refine Ok ?_;refine Rp1 [3,6,7,9,10,11] qq ?_;refine Zaq pa ?_;unfold ancF;cases ha:ancB s with
  | true =>
   rw [ha,if_pos rfl] at hst;have e2:strR (ancW (W.take (k+1)))=strR (ancW (W.take k))++[[PV.str (s.drop 1)]]:=by rw [hst,← strR_app];rfl
   have e3:(ancW (W.take (k+1))).length=(ancW (W.take k)).length+1:=by rw [hst];simp
   generalize ancW (W.take k)=A at *;have hA:=Za7 A;have hAt:=strR_take A;refine Sp1 qq ?_;refine Rp1 [3,6,9,10,11,21] qq ?_;refine Ct ?_;refine rp1 [3,9,10,11] (x3 hA hAt qq) ?_;refine ⟨by omega,by omega,?_⟩;refine rp1 [3,9,10,11] (x2 (ad1 (a:=k) (by omega)) qq) ?_;refine ⟨⟨(k+1,t+2,t+3),ka,by simp⟩,?_⟩;simp only [e2,e3]
   all_goals exact Fn1 qq
  | false =>
   rw [ha,if_neg Bool.false_ne_true] at hst;refine Sp1 qq ?_;refine Rp1 [3,6,9,10,11,21] qq ?_;refine Fp0 ?_;refine rp1 [3,9,10,11] (x2 (ad1 (a:=k) (by omega)) qq) ?_;refine ⟨⟨(k+1,id,t+1),ka,by show id<t+1;omega⟩,?_⟩;simp only [hst]
   all_goals exact Fn1 qq
 ·have ka:k=W.length:=by simp only [Zx2] at h1;omega
  subst ka;rw [List.take_length];refine Ep1 qq ?_;refine Rp1 [2] qq ?_;refine Tp0 ?_;exact View.own_all (fz:=false) (by simp [Heap.get,HL.get]) (by rw [Za7])
end Go.Proofs.w
namespace Go.VM
open Go Go.Proofs.w
def Sch.enc (s:Sch):List PV:=s.u.enc++[pI s.a,pI s.b]
theorem closed_schs (l:List Sch):Closed (.sl 10 (l.map Sch.enc)):=Zai (fun s _ x hx=>by
 unfold Sch.enc at hx;rcases List.mem_append.1 hx with hx|hx
 ·exact Un.closed s.u x hx
 ·simp only [List.mem_cons,List.not_mem_nil,or_false] at hx;rcases hx with rfl|rfl<;>exact cI _)
theorem rowT_le {u:Un} (h:SmU u):(rowT u).length≤602:=by
 have h1:=rowT_len u;have:=h.head.1;have:=h.words.1;omega
theorem stL_step {p : Un} {L : List Un} {k : Nat} (h : k < L.length) (at' : Nat) : stL p (L.take (k + 1)) at' = if noteB p L[k] = true then stL p (L.take k) at' else
  ((stL p (L.take k) at').1++(⟨L[k],(stL p (L.take k) at').2,(stT L[k] ((stL p (L.take k) at').2+(rowT L[k]).length)).2⟩::(stT L[k] ((stL p (L.take k) at').2+(rowT L[k]).length)).1),(stT L[k] ((stL p (L.take k) at').2+(rowT L[k]).length)).2):=by
 rw [List.take_succ_eq_append_getElem h,stL_app];cases hn:noteB p L[k] with
 | true=>rw [stL_note hn,stL_nil];simp
 | false=>rw [stL_cons hn,stL_nil];simp
theorem st_bd {u:Un} (hu:SmT u):∀ at',at'≤(stT u at').2∧(stT u at').2≤at'+602*(unitsL u.kids).length∧(stT u at').1.length≤(unitsL u.kids).length:=by
 induction hu with
 | mk u h hk hs ih =>
  have key:∀ L:List Un,(∀ k∈L,k∈u.kids)→∀ at',at'≤(stL u L at').2∧(stL u L at').2≤at'+602*(unitsL L).length∧(stL u L at').1.length≤(unitsL L).length:=by
   intro L
   induction L with
   | nil=>intro _ at';rw [stL_nil,unitsL];simp
   | cons a r ihr =>
    intro hL at';have ihr:=ihr fun k hk=>hL k (Zx7 _ hk);have ha:=hL a List.mem_cons_self;have hpos:=unitsT_pos a;rw [unitsL,Zx5];cases hc:noteB u a with
    | true =>
     rw [stL_note hc];have:=ihr at';omega
    | false =>
     have h1:=ih a ha (at'+(rowT a).length);have h2:=ihr (stT a (at'+(rowT a).length)).2;have h3:=rowT_le (hs a ha).u;rw [stL_cons hc,Zaj];simp only [List.length_cons,Zx5];omega
  intro at';rw [stT_eq];exact key u.kids (fun k hk=>hk) at'
theorem stL_bd {u:Un} (hs:∀ k∈u.kids,SmT k):∀ (L:List Un),(∀ k∈L,k∈u.kids)→∀ at',at'≤(stL u L at').2∧(stL u L at').2≤at'+602*(unitsL L).length∧(stL u L at').1.length≤(unitsL L).length:=by
 intro L
 induction L with
 | nil=>intro _ at';rw [stL_nil,unitsL];simp
 | cons a r ihr =>
  intro hL at';have ihr:=ihr fun k hk=>hL k (Zx7 _ hk);have ha:=hL a List.mem_cons_self;have hpos:=unitsT_pos a;rw [unitsL,Zx5];cases hc:noteB u a with
  | true =>
   rw [stL_note hc];have:=ihr at';omega
  | false =>
   have h1:=st_bd (hs a ha) (at'+(rowT a).length);have h2:=ihr (stT a (at'+(rowT a).length)).2;have h3:=rowT_le (hs a ha).u;rw [stL_cons hc,Zaj];simp only [List.length_cons,Zx5];omega
end Go.VM
namespace Go.Proofs.w
open Go Go.VM
def c_concordance_stretches:VC:=(ZR [ZO 2 (.box 8 (.t 0)),ZO 4 (.mv (.c .nilsl)),ZO 5 (.mv (.c (.int .i64 0)))] (ZR [ZO 6 (.mv (.c .nilsl))] (.seq (ZR [ZO 12 (.faddr 7 (.t 2)),ZO 13 (.load false 1 (.t 12)),ZO 14 (.len false (.t 13)),ZO 15 (.mv (.c (.int .i64 0)))] (.block 0 (.loop (ZR [ZO 16 (.bin .lss (.t 15) (.t 14))] (.seq (.cond (.t 16) .skip (.exit 0)) (.seq (.block 1 (ZR [ZO 17 (.iaddr 8 (.t 13) (.t 15)),ZO 18 (.load true 8 (.t 17)),ZO 8 (.alloc ZU),ZN (.store 8 (.t 8) (.t 18))] (ZR [ZM 19 1,ZM 9 19] (.seq (.seq (.region [ZO 20 (.faddr 3 (.t 8)),ZO 21 (.load false 1 (.t 20)),ZO 22 (.bin .eql (.t 21) (.c (.int .i64 7))),ZM 23 22,ZG 24 (.load true 8 (.t 2)) 23 true,ZG 25 (.call 100 [.t 24]) 23 true,ZG 26 (.faddr 4 (.t 8)) 23 true,ZG 27 (.load false 1 (.t 26)) 23 true,ZG 28 (.call 99 [.t 25,.t 27]) 23 true,ZO 29 (.pick (.t 23) (.t 28) (.c (.bool false)))] true) (.cond (.t 29) (.exit 1) .skip)) (.seq (.region [ZO 31 (.load true 8 (.t 8)),ZM 32 1,ZO 33 (.load true 8 (.t 8)),ZO 34 (.call 101 [.t 33]),ZO 35 (.bin .add (.t 32) (.t 34)),ZO 36 (.call 58 [.t 31,.t 35]),ZM 30 36,ZO 37 (.ext (.t 30) 0),ZO 38 (.ext (.t 30) 1),ZM 10 37,ZM 11 38] true) (ZR [ZM 39 6,ZO 40 (.load true 8 (.t 8)),ZM 41 9,ZM 42 11,ZO 43 (.build [.int .i64 0,.int .i64 0,.int .i64 0,.int .i64 0,(.str []),.nilsl,.nilsl,.nilsl,.int .i64 0,.int .i64 0] [(0,(8,(.t 40))),(8,(1,(.t 41))),(9,(1,(.t 42)))]),ZO 44 (.bslice 10 1 [.int .i64 0,.int .i64 0,.int .i64 0,.int .i64 0,(.str []),.nilsl,.nilsl,.nilsl,.int .i64 0,.int .i64 0] [(0,(.t 43))]),ZO 45 (.app 10 136 [.int .i64 0,.int .i64 0,.int .i64 0,.int .i64 0,(.str []),.nilsl,.nilsl,.nilsl,.int .i64 0,.int .i64 0] false (.t 39) (.t 44)),ZM 46 10,ZO 47 (.app 10 136 [.int .i64 0,.int .i64 0,.int .i64 0,.int .i64 0,(.str []),.nilsl,.nilsl,.nilsl,.int .i64 0,.int .i64 0] false (.t 45) (.t 46)),ZM 6 47] (.region [ZM 48 11,ZM 1 48] false))))))) (.region [ZO 49 (.bin .add (.t 15) (.c (.int .i64 1))),ZM 15 49] false))))))) (ZR [ZM 50 6,ZM 51 1,ZM 4 50,ZM 5 51] .ret))))
theorem sp_stretches {u:Un} (hu:SmT u):∀ at':Nat,at'+602*(unitsL u.kids).length≤1000000000→Zam Tryz.prog 58 [.agg u.enc,pI at'] (.tup [.sl 10 ((stT u at').1.map Sch.enc),pI (stT u at').2]):=by
 induction hu with
 | mk u h hk hs ih =>
  intro at' hat
  have AN:=sp_Anchors u h.words;have hal:=ancW_len u.words;have CO:=fun (k:Un)=>sp_Contains_string (ancW u.words) k.label (by have:=h.words.1;omega);have CN:=fun (k:Un) (hk':k∈u.kids)=>sp_con_count k (hs k hk').u.head.1 (hs k hk').u.words.1;have hst:=fun k (hk:k<u.kids.length)=>stL_step (p:=u) hk at';have hum:=fun (k:Un) (hk':k∈u.kids)=>Zbn hk';have hut:=fun (k:Nat)=>unitsL_take u.kids k;have hus:=fun (k:Nat) (hk:k<u.kids.length)=>unitsL_step hk;have hbd:=fun (k:Nat)=>stL_bd hs (u.kids.take k) (fun x hx=>List.mem_of_mem_take hx) at';have hnb:∀ k:Un,noteB u k=((k.kind==7)&&(ancW u.words).contains k.label):=fun k=>rfl;have hrl:=fun (k:Un) (hk':k∈u.kids)=>rowT_le (hs k hk').u;have hsb:=fun (k:Un) (hk':k∈u.kids)=>st_bd (hs k hk');refine Zad ?_ (Zbl (by simp only [List.mem_cons,List.not_mem_nil,or_false,forall_eq_or_imp,forall_eq];exact ⟨closed_schs _,cI _⟩)) (by intro y hy;simp only [List.mem_cons,List.not_mem_nil,or_false] at hy;rcases hy with rfl|rfl;exact Zao _;exact cI _);rw [stT_eq];refine Gn (vc:=c_concordance_stretches) [.t 4,.t 5] Tryz.func58 ?_;unfold c_concordance_stretches;try dsimp only [ZM,ZO,ZN,ZG,ZR,ZU]
  have hkf:stL u (u.kids.take u.kids.length) at'=stL u u.kids at':=by rw [List.take_length]
  rw [Un.Zaf] at AN ⊢;generalize ancW u.words=AW at *;generalize u.head.map Wd.enc=EH at *;generalize u.words.map Wd.enc=EW at *;generalize u.kids=KL at *;refine Rp0 [1,2] ?_;refine Zaw [(1,pI at'),(2,.ro [pI u.act,pI u.item,pI u.n,pI u.kind,.str u.label,.sl 4 EH,.sl 4 EW,.sl 8 (KL.map Un.enc)])] ⟨View.refl _ _,View.loc (z:=8) (fz:=false) (es:=[[pI u.act,pI u.item,pI u.n,pI u.kind,.str u.label,.sl 4 EH,.sl 4 EW,.sl 8 (KL.map Un.enc)]]) rfl (by simp) rfl (by simp),trivial⟩ ?_;refine Rp0 [1,2,6] ?_;refine Zcx 6 10 rfl ?_;refine Sp0 ?_;refine Zaa ?_;refine Rp1 [1,2,6,13,14,15] @xlm ?_;refine Zab ?_;refine Zak (σ:={ x:Nat×Nat×Nat//x.1≤KL.length∧x.2.1<x.2.2 }) (fun x=>([(1,pI (stL u (KL.take x.1.1) at').2),(2,.ro [pI u.act,pI u.item,pI u.n,pI u.kind,.str u.label,.sl 4 EH,.sl 4 EW,.sl 8 (KL.map Un.enc)]),(6,.own x.1.2.1 0 (stL u (KL.take x.1.1) at').1.length),(13,.sl 8 (KL.map Un.enc)),(14,pI KL.length),(15,pI x.1.1)],⟨[(x.1.2.1,.arr false 10 ((stL u (KL.take x.1.1) at').1.map Sch.enc))],x.1.2.2⟩)) (fun x=>KL.length-x.1.1) ⟨(0,1,2),Nat.zero_le _,by simp⟩ ?_ ?_ ?_
  ·simp only [vmL,Nat.reduceEqDiff,Nat.reduceAdd,Nat.reduceLT,Nat.reduceLeDiff,Nat.reduceSub,Nat.reduceMul,reduceIte,reduceCtorEq,Int.reduceToNat,List.take_zero,stL_nil]
   first|done|rfl|exact ⟨rfl,rfl⟩
  ·simp only [vmL,Nat.reduceEqDiff,Nat.reduceAdd,Nat.reduceLT,Nat.reduceLeDiff,Nat.reduceSub,Nat.reduceMul,reduceIte,reduceCtorEq,Int.reduceToNat,List.take_zero,stL_nil]
   first|done|rfl|exact ⟨rfl,rfl⟩
  rintro ⟨⟨k,id,t⟩,hkk,hid⟩;simp only [] at hkk hid ⊢;have qq:=N4 id t (t+1) (t+1+1);refine Rp1 [1,2,6,13,14,15,16] qq ?_;refine Zaa ?_;refine Zac rfl (fun h1=>?_) (fun h1=>?_)
  ·have ka:k<KL.length:=by simp only [Zx3] at h1;omega
   have hrow:(KL.map Un.enc).getD k []=KL[k].enc:=rowm ka;have hmem:=List.getElem_mem ka;have CO:=CO KL[k];have CN:=CN _ hmem;have hst:=hst k ka;have hnb:=hnb KL[k];have hrl:=hrl _ hmem;have hbd:=hbd k;have hut1:=hut (k+1);rw [hus k ka,Zx5,Zaj,List.length_cons] at hut1;generalize hS:stL u (KL.take k) at'=S at *;have IH:=ih _ hmem (S.2+(rowT KL[k]).length) (by omega);have hsb:=hsb _ hmem (S.2+(rowT KL[k]).length);clear ih hum hut hus;generalize KL[k]=v at *;generalize (rowT v).length=rv at *;generalize stT v (S.2+rv)=R at *;generalize hKE:KL.map Un.enc=KE at *;have hKEl:KE.length=KL.length:=by rw [← hKE,List.length_map]
   have hve:Sch.enc ⟨v,S.2,R.2⟩=[pI v.act,pI v.item,pI v.n,pI v.kind,.str v.label,.sl 4 (v.head.map Wd.enc),.sl 4 (v.words.map Wd.enc),.sl 8 (v.kids.map Un.enc),pI S.2,pI R.2]:=by unfold Sch.enc;rw [Un.Zaf v];rfl
   rw [Un.Zaf v] at hrow CN IH;have hk7:(v.kind==7)=true∨(v.kind==7)=false:=by cases (v.kind==7)<;>simp
   have hSl:(S.1.map Sch.enc).length=S.1.length:=List.length_map _;have hSt:List.take S.1.length (S.1.map Sch.enc)=S.1.map Sch.enc:=List.take_of_length_le (by omega);have hRl:(R.1.map Sch.enc).length=R.1.length:=List.length_map _;refine Kp0 ?_;refine Zaa ?_;refine Zab ?_;refine Rp1 [1,2,6,8,13,14,15] (x3 hKEl hrow qq) ?_;refine Ok ?_;refine Rp1 [1,2,6,8,9,13,14,15] qq ?_;refine Zaa ?_;refine Zaa (Zc1 (σ:=Unit) (fun _=>([(1,pI S.2),(2,.ro [pI u.act,pI u.item,pI u.n,pI u.kind,.str u.label,.sl 4 EH,.sl 4 EW,.sl 8 KE]),(6,.own id 0 S.1.length),(8,.loc t 0 0),(9,pI S.2),(13,.sl 8 KE),(14,pI KL.length),(15,pI k),(29,.bool (noteB u v))],⟨[(t,.arr false 8 [[pI v.act,pI v.item,pI v.n,pI v.kind,.str v.label,.sl 4 (v.head.map Wd.enc),.sl 4 (v.words.map Wd.enc),.sl 8 (v.kids.map Un.enc)]]),(id,.arr false 10 (S.1.map Sch.enc))],t+1⟩)) ?_ (fun _=>?_))
   ·rcases hk7 with h7|h7
    ·rw [h7,Bool.true_and] at hnb;refine Zbh [1,2,6,8,9,13,14,15,29] (by simp [Heap.le,Heap.get,HL.le,HL.get,qq]) ?_;refine Sp1 (x2 h7 qq) ?_;refine ⟨_,.inl AN,?_⟩;refine Sp1 qq ?_;refine ⟨_,.inl CO,?_⟩;refine Sp1 qq ?_;refine ⟨(),?_⟩;rw [hnb]
     all_goals exact Fn1 qq
    ·rw [h7,Bool.false_and] at hnb;refine Zbh [1,2,6,8,9,13,14,15,29] (by simp [Heap.le,Heap.get,HL.le,HL.get,qq]) ?_;refine Sp1 (x2 h7 qq) ?_;refine ⟨(),?_⟩;rw [hnb]
     all_goals exact Fn1 qq
   cases hq:noteB u v with
   | true =>
    rw [hq,if_pos rfl] at hst;refine Ct ?_;refine Ep0 ?_;refine rp1 [1,2,6,13,14,15] (x2 (ad1 (a:=k) (by omega)) qq) ?_;refine ⟨⟨(k+1,id,t+1),ka,by show id<t+1;omega⟩,?_⟩;simp only [hst]
    all_goals exact Fn1 qq
   | false =>
    rw [hq,if_neg Bool.false_ne_true] at hst;have hs1:(stL u (KL.take (k+1)) at').1.map Sch.enc=S.1.map Sch.enc++[[pI v.act,pI v.item,pI v.n,pI v.kind,.str v.label,.sl 4 (v.head.map Wd.enc),.sl 4 (v.words.map Wd.enc),.sl 8 (v.kids.map Un.enc),pI S.2,pI R.2]]++R.1.map Sch.enc:=by rw [hst];simp only [List.map_append,List.map_cons,hve,List.append_assoc,List.cons_append,List.nil_append]
    have hs2:(stL u (KL.take (k+1)) at').1.length=S.1.length+1+R.1.length:=by rw [hst];simp only [Zx5,List.length_cons];omega
    have hs3:(stL u (KL.take (k+1)) at').2=R.2:=by rw [hst]
    have hwp:IntKind.i64.wrap ((S.2:Int)+(rv:Int))=((S.2+rv:Nat):Int):=by rw [w64 (by omega) (by omega)];omega
    refine Fp0 ?_;refine Zaa (Zbh [2,6,8,9,10,11,13,14,15] (by simp [Heap.le,Heap.get,HL.le,HL.get,qq]) ?_);refine Sp1 qq ?_;refine ⟨_,.inl CN,?_⟩;refine Sp1 (x2 hwp qq) ?_;refine ⟨_,.inl IH,?_⟩;refine Sp1 qq ?_;refine Zaa (Zae [2,6,11,13,14,15] ?_);have hal2:(S.1.map Sch.enc++[[pI v.act,pI v.item,pI v.n,pI v.kind,.str v.label,.sl 4 (v.head.map Wd.enc),.sl 4 (v.words.map Wd.enc),.sl 8 (v.kids.map Un.enc),pI S.2,pI R.2]]).length=S.1.length+1:=by rw [Zx5,hSl];rfl
    have hat2:List.take (S.1.length+1) (S.1.map Sch.enc++[[pI v.act,pI v.item,pI v.n,pI v.kind,.str v.label,.sl 4 (v.head.map Wd.enc),.sl 4 (v.words.map Wd.enc),.sl 8 (v.kids.map Un.enc),pI S.2,pI R.2]])=S.1.map Sch.enc++[[pI v.act,pI v.item,pI v.n,pI v.kind,.str v.label,.sl 4 (v.head.map Wd.enc),.sl 4 (v.words.map Wd.enc),.sl 8 (v.kids.map Un.enc),pI S.2,pI R.2]]:=List.take_of_length_le (by omega);simp only [vmL,Nat.reduceEqDiff,Nat.reduceAdd,Nat.reduceLT,Nat.reduceLeDiff,Nat.reduceSub,Nat.reduceMul,reduceIte,reduceCtorEq,Int.reduceToNat,hSl,hSt,hal2,hat2,hRl,qq];refine ⟨by omega,by omega,by omega,by omega,?_⟩;refine rp1 [1,2,6,13,14,15] qq ?_;refine rp1 [1,2,6,13,14,15] (x2 (ad1 (a:=k) (by omega)) qq) ?_;refine ⟨⟨(k+1,t+3,t+4),ka,by simp⟩,?_⟩;simp only [hs1,hs2,hs3]
    all_goals exact Fn1 qq
  ·have ka:k=KL.length:=by simp only [Zx2] at h1;omega
   subst ka;rw [hkf];refine Ep0 ?_;refine Rp0 [4,5] ?_;refine Tp0 ?_;exact View.tup2 (View.own_all (fz:=false) (by simp [Heap.get,HL.get]) (by rw [List.length_map])) (View.refl _ _)
end Go.Proofs.w
