import Derived.Test.YtldogpfookkbaaaGreatDoorRdU
import Derived.Test.YtldogpfookkbaaaGreatDoorVmT
import Derived.Shelf.Strings.SlTrimAscii
set_option linter.all false
set_option maxRecDepth 20000
set_option maxHeartbeats 0
namespace Go.VM
open Go
structure SmI (x:It):Prop where
 at':x.at'.length≤12
 tu:x.to.length≤12
 old:x.old.length≤300
 new:x.new.length≤300
 label:x.label.length≤100
 Zib:x.Zib.length≤100
 start:x.start.Zbd.length≤100
 Zbd:x.Zbd.length≤100
 by':x.by'.length≤2
 unit:Z3f x.unit 30=true
 olds:∀s∈x.old,s.length≤100
 news:∀s∈x.new,s.length≤100
 ats:∀s∈x.at',s.label.length≤100
 tos:∀s∈x.to,s.label.length≤100
structure SmA (a:Ac):Prop where
 title:a.title.length≤300
 Zbd:a.start.Zbd.length≤100
 items:∀x∈a.items,SmI x
def Z8b(q:Prop)(p:PV):Prop:=∃b:Bool,p=.bool b∧(b=true→q)
theorem Zd3{h:Heap}{q:Prop}:∃p,View h (.bool false) p∧Z8b q p∧Closed p:=⟨_,Vr,⟨false,rfl,fun h=>by cases h⟩,cB _⟩
theorem Zo6{h:Heap}{q:Prop}(hq:q):∃p,View h (.bool true) p∧Z8b q p∧Closed p:=⟨_,Vr,⟨true,rfl,fun _=>hq⟩,cB _⟩
theorem Z2g(a:Ac):a.enc=[pI a.number,.str a.title,pI a.day,pI a.start.kind,pI a.start.day,.str a.start.Zbd,.sl 25 (a.items.map It.enc)]:=rfl
theorem Xeh(x:It):((x.enc.drop 24).take 1).getD 0 .any=.sl 25 (x.by'.map It.enc):=by rw[It.Zaf];rfl
theorem Z8c(x:It):(x.enc.drop 24).length=1:=by simp[It.Zd8]
theorem Znc(x:It):x.enc.length=25:=It.Zd8 x
theorem Zkj(x:It):List.take 25 x.enc=x.enc:=by rw[It.Zaf];rfl
theorem Z8d{l:List Str}{k:Nat}(h:k<l.length):(l.map fun s=>[PV.str s]).getD k []=[.str l[k]]:=by simp[Zx1,h]
end Go.VM
namespace Go.VM
open Go Go.Proofs.w
def Zbj(u:Un)(x:It):(Idt×Int)×Int:=
 if x.kind=0 then Zkh x.Zff u x.at'
 else if x.kind=6∧Zfc x.Zff=true then
  (if(Zdw u x.at').2=0 then(if(Zdw u x.to).2=0 then(if(Zi4 u (Zdw u x.at').1 (Zdw u x.to).1 x.Zff).2=0 then Zi4 u (Zdw u x.at').1 (Zdw u x.to).1 x.Zff
   else((idZ,0),(Zi4 u (Zdw u x.at').1 (Zdw u x.to).1 x.Zff).2))else((idZ,0),(Zdw u x.to).2))else((idZ,0),(Zdw u x.at').2))
 else((idZ,0),1)
end Go.VM
namespace Go.Proofs.w
open Go Go.VM
theorem Zil{u:Un}(hu:SmT u)(hn:(unitsT u).length≤1000){x:It}(hx:SmI x):
  Tc 115 [.agg u.enc,.agg x.enc] (.tup [.agg (Zbj u x).1.1.enc,pI (Zbj u x).1.2,pI (Zbj u x).2]):=by
 have F1:=Zf2 hu hn x.at' (by have:=hx.at';omega) (fun s hs=>by have:=hx.ats s hs;omega);have F2:=Zf2 hu hn x.to (by have:=hx.tu;omega) (fun s hs=>by have:=hx.tos s hs;omega);have FI:=Zlu hu hn x.at' (by have:=hx.at';omega) (fun s hs=>by have:=hx.ats s hs;omega) x.Zff;have FW:=Zrg x.Zff;have FG:=fun(h:Zfc x.Zff=true) (h2:(Zdw u x.to).2=0)=>Xef hu hn (Zdw u x.at').1 (Zdw u x.to).1 (Zop hu h2) h;refine Zac ?_ (Zvt _ _ _) (CL2 (Zak u) (Zah (It.closed _)));have ex:=It.Zaf x;have hut:=Zaq u;have hul:=Zao u;unfold Zbj;generalize hU:u.enc=U at*;generalize Zkh x.Zff u x.at'=O at*;generalize Zdw u x.at'=O1 at*;generalize Zdw u x.to=O2 at*;generalize Zi4 u O1.1 O2.1 x.Zff=R at*;have hoe:O.1.1.enc=[pI O.1.1.act,pI O.1.1.item,pI O.1.1.n]:=rfl;have h1e:O1.1.enc=[pI O1.1.act,pI O1.1.item,pI O1.1.n]:=rfl;have h2e:O2.1.enc=[pI O2.1.act,pI O2.1.item,pI O2.1.n]:=rfl;have hse:spE R.1=[pI R.1.1.act,pI R.1.1.item,pI R.1.1.n,pI R.1.2]:=rfl;rw[hoe]at FI;rw[h1e]at F1 FG;rw[h2e]at F2 FG;rw[hse]at FG;refine Gn (vc:=Y114) [.c 4 true 3,.t 5,.t 6] Tryz.func115 ?_;simp only[Y114,YY];refine Rp1 [2,3,4] (x2 ex hul) ?_;refine Zaa ?_;refine Zaa (Zad [2,3,4,13] ?_);by_cases k0:x.kind=0
 ·have g0:(x.kind==0)=true:=by simpa using k0
  rw[if_pos k0];simp only[vmL,Nat.reduceEqDiff,Nat.reduceAdd,Nat.reduceLT,Nat.reduceLeDiff,reduceCtorEq,g0];refine Ct ?_;refine Rp1 [4,5,6] (x2 hut hul) ?_;refine Ap0 FI ?_;exact Tv0
 have g0:(x.kind==0)=false:=by simpa using k0
 rw[if_neg k0];simp only[vmL,Nat.reduceEqDiff,Nat.reduceAdd,Nat.reduceLT,Nat.reduceLeDiff,reduceCtorEq,g0];refine Fp0 ?_;refine Zaa ?_;refine Zaa (Zad [2,3,4,31] ?_);by_cases k6:x.kind=6
 case neg=>
  have g6:(x.kind !=6)=true:=by simpa using k6
  rw[if_neg (fun h=>k6 h.1)];refine Sp1 g6 ?_;refine Ct ?_;exact Rv0 [4,5,6]
 have g6:(x.kind !=6)=false:=by simpa using k6
 refine Sp1 g6 ?_;refine Ap0 FW ?_;cases hw:Zfc x.Zff with
 |false=>
  rw[if_neg (fun h=>by cases h.2)];refine Ct ?_;exact Rv0 [4,5,6]
 |true=>
 replace FG:=FG hw
 rw[if_pos ⟨k6,rfl⟩];refine Fp0 ?_;refine Rp1 [2,3,4,7,8] (x2 hut hul) ?_;refine Ap0 F1 ?_;refine Zaa ?_;refine Zaa (Zad [2,3,4,7,8,41] ?_);by_cases c1:O1.2=0
 case neg=>
  have g1:(O1.2 !=0)=true:=by simpa using c1
  rw[if_neg c1];refine Sp1 g1 ?_;refine Ct ?_;exact Rv0 [4,5,6]
 have g1:(O1.2 !=0)=false:=by simpa using c1
 rw[if_pos c1];refine Sp1 g1 ?_;refine Fp0 ?_;refine Rp1 [2,3,4,7,8,9] (x2 hut hul) ?_;refine Ap0 F2 ?_;refine Zaa ?_;refine Zaa (Zad [2,3,4,7,8,9,52] ?_);by_cases c2:O2.2=0
 case neg=>
  have g2:(O2.2 !=0)=true:=by simpa using c2
  rw[if_neg c2];refine Sp1 g2 ?_;refine Ct ?_;exact Rv0 [4,5,6]
 have g2:(O2.2 !=0)=false:=by simpa using c2
 rw[if_pos c2];refine Sp1 g2 ?_;refine Fp0 ?_;refine Rp1 [4,8,10] (x2 hut hul) ?_;refine Ap0 (FG c2) ?_;refine Zaa ?_;refine Zaa (Zad [4,8,10,65] ?_);by_cases c3:R.2=0
 case neg=>
  have g3:(R.2 !=0)=true:=by simpa using c3
  rw[if_neg c3];refine Sp1 g3 ?_;refine Ct ?_;exact Rv0 [4,5,6]
 have g3:(R.2 !=0)=false:=by simpa using c3
 rw[if_pos c3];refine Sp1 g3 ?_;refine Fp0 ?_;refine Zaa (Zfs [4,5,6] ⟨[(5,.arr false 4 [[pI R.1.1.act,pI R.1.1.item,pI R.1.1.n,pI R.1.2]])],27⟩ (by simp[Vh]) ?_);refine Sp0 ?_;refine Tp0 ?_;rw[show R.1.1.enc=[pI R.1.1.act,pI R.1.1.item,pI R.1.1.n]from rfl,c3];exact Vr
end Go.Proofs.w
namespace Go.VM
open Go Go.Proofs.w
def Zgv(W:List Wd)(u:Un):Un:=.mk u.act u.item u.n u.kind u.label u.head W u.kids
def Z0d(W:List Wd)(u:Un):Un:=.mk u.act u.item u.n u.kind u.label W u.words u.kids
def Zhr(l:Str)(u:Un):Un:=.mk u.act u.item u.n u.kind l u.head u.words u.kids
end Go.VM
namespace Go.Proofs.w
open Go Go.VM
def Y115:VC:=(.draw2 [ZM 3 0,ZM 4 0,ZO 5 (.px .nck [.t 4]),Ya 6 7 5,Yl 7 6,Yl 8 1,Yl 9 1,Yu 10 .add 9 1,Yc 11 189 [7,8,10],ZO 12 (.px .nck [.t 3]),Ya 13 7 12,Ys 1 13 11] [true,true,true,true,true,true,true,true,true,true,true,false])
def Y116:VC:=(.region [ZM 3 0,Yl 4 1,ZO 5 (.px .nck [.t 3]),Ya 6 6 5,Ys 1 6 4] false)
def Y117:VC:=(.region [ZM 3 0,Yl 4 1,ZO 5 (.px .nck [.t 3]),Ya 6 6 5,Ys 1 6 4] false)
def Y118:VC:=(.region [ZM 3 0,Yl 4 1,ZO 5 (.px .nck [.t 3]),Ya 6 5 5,Ys 1 6 4] false)
def Y119:VC:=(.region [ZM 3 0,Ya 4 3 1,Ya 5 15 4,Yl 6 5,ZO 7 (.px .nck [.t 3]),Ya 8 4 7,Ys 1 8 6] false)
def Y120:VC:=(.draw2 [ZM 4 0,ZM 5 0,ZO 6 (.px .nck [.t 5]),Ya 7 7 6,Yl 8 7,Yl 9 1,Ym 10 8 2,ZO 11 (.bslice 8 1 ZU [(0,(.t 10))]),Yc 12 126 [8,9,11],ZO 13 (.px .nck [.t 4]),Ya 14 7 13,Ys 1 14 12] [true,true,true,true,true,true,true,true,true,true,true,false])
def Y121:VC:=(.draw2 [ZM 4 0,ZM 5 0,ZO 6 (.px .nck [.t 5]),Ya 7 7 6,Yl 8 7,Yl 9 1,Ym 10 8 2,ZO 11 (.bslice 8 1 ZU [(0,(.t 10))]),Yc 12 126 [8,9,11],ZO 13 (.px .nck [.t 4]),Ya 14 7 13,Ys 1 14 12] [true,true,true,true,true,true,true,true,true,true,true,false])
theorem Xbc(W:List Wd)(v:Un):DoF Tryz.prog 129 [.ro [.sl 4 (W.map Wd.enc)]] (Zgv W) v:=by
 unfold DoF;refine Zam.drop ?_;unfold unK;refine Gn (vc:=Y116) [] Tryz.func129 ?_;simp only[Y116,YY];refine rp0 [] ?_;refine⟨⟨[(4,.arr false 8 (v.kids.map Un.enc)),(0,.arr false 8 [[pI v.act,pI v.item,pI v.n,pI v.kind,.str v.label,.sl 4 (v.head.map Wd.enc),.sl 4 (W.map Wd.enc),.own 4 0 v.kids.length]])],5⟩,⟨Nat.le_refl _,by simp[Vh]⟩,4,5,[],.inl rfl,by omega,Nat.le_refl _,?_⟩;rw[Zyj];rfl
theorem do_put(W:List Wd)(v:Un):DoF Tryz.prog 131 [.ro [.sl 4 (W.map Wd.enc)]] (Zgv W) v:=by
 unfold DoF;refine Zam.drop ?_;unfold unK;refine Gn (vc:=Y117) [] Tryz.func131 ?_;simp only[Y117,YY];refine rp0 [] ?_;refine⟨⟨[(4,.arr false 8 (v.kids.map Un.enc)),(0,.arr false 8 [[pI v.act,pI v.item,pI v.n,pI v.kind,.str v.label,.sl 4 (v.head.map Wd.enc),.sl 4 (W.map Wd.enc),.own 4 0 v.kids.length]])],5⟩,⟨Nat.le_refl _,by simp[Vh]⟩,4,5,[],.inl rfl,by omega,Nat.le_refl _,?_⟩;rw[Zyj];rfl
theorem Z4n(W:List Wd)(v:Un):DoF Tryz.prog 133 [.ro [.sl 4 (W.map Wd.enc)]] (Z0d W) v:=by
 unfold DoF;refine Zam.drop ?_;unfold unK;refine Gn (vc:=Y118) [] Tryz.func133 ?_;simp only[Y118,YY];refine rp0 [] ?_;refine⟨⟨[(4,.arr false 8 (v.kids.map Un.enc)),(0,.arr false 8 [[pI v.act,pI v.item,pI v.n,pI v.kind,.str v.label,.sl 4 (W.map Wd.enc),.sl 4 (v.words.map Wd.enc),.own 4 0 v.kids.length]])],5⟩,⟨Nat.le_refl _,by simp[Vh]⟩,4,5,[],.inl rfl,by omega,Nat.le_refl _,?_⟩;rw[Zyj];rfl
theorem Z4o(d:EI)(v:Un):DoF Tryz.prog 135 [.ro d.enc] (Zhr d.it.label) v:=by
 unfold DoF;have ex:=It.Zaf d.it;unfold EI.enc;rw[ex];refine Zam.drop ?_;unfold unK;refine Gn (vc:=Y119) [] Tryz.func135 ?_;simp only[Y119,YY];refine rp0 [] ?_;refine⟨⟨[(4,.arr false 8 (v.kids.map Un.enc)),(0,.arr false 8 [[pI v.act,pI v.item,pI v.n,pI v.kind,.str d.it.label,.sl 4 (v.head.map Wd.enc),.sl 4 (v.words.map Wd.enc),.own 4 0 v.kids.length]])],5⟩,⟨Nat.le_refl _,by simp[Vh]⟩,4,5,[],.inl rfl,by omega,Nat.le_refl _,?_⟩;rw[Zyj];rfl
theorem Z4p(i:Nat){v:Un}(hk:v.kids.length≤1000)(hi:i<v.kids.length):DoF Tryz.prog 188 [.ro [pI i]] (Zhe i) v:=by
 unfold DoF;have DL:=Z69 (id:=4) (i:=i) (R:=v.kids.map Un.enc) (h:=⟨[(4,.arr false 8 (v.kids.map Un.enc)),(0,.arr false 8 [unK v 4])],5⟩) (by simp[Vh]) (by simpa using hi) (by rw[Zyc];omega);rw[Zyc]at DL;unfold unK at DL;refine Zam.drop ?_;have hl:(Zhe i v).kids.length=v.kids.length-1:=by show(v.kids.take i++v.kids.drop (i+1)).length=_;simp;omega
 have hr:(v.kids.map Un.enc).take i++((v.kids.map Un.enc).drop (i+1)++[Zdh])=(Zhe i v).kids.map Un.enc++[Zdh]:=by
  show _=(v.kids.take i++v.kids.drop (i+1)).map Un.enc++[Zdh];rw[←List.append_assoc,List.map_append,List.map_take,List.map_drop]
 rw[hr]at DL;unfold unK;rw[hl];generalize hRR:(Zhe i v).kids.map Un.enc++[Zdh]=RR at*;refine Gn (vc:=Y115) [] Tryz.func188 ?_;simp only[Y115,YY];refine Zoi [8] [] ⟨[(0,.arr false 8 [[pI v.act,pI v.item,pI v.n,pI v.kind,.str v.label,.sl 4 (v.head.map Wd.enc),.sl 4 (v.words.map Wd.enc),.own 4 0 v.kids.length]])],30⟩ ⟨[],30⟩ rfl (by simp[Vh]) (by simp[Vh]) ?_;simp only[vmL,Nat.reduceEqDiff,Nat.reduceAdd,Nat.reduceLT,reduceCtorEq,Zlm,Zh4,Zfy,List.contains_cons,List.contains_nil,Nat.reduceBEq,Bool.or_false,w64 (n:=(i:Int)+1) (by omega) (by omega)];refine⟨_,_,fun K' k=>Zam.mono DL (by rintro p h' ⟨rfl,rfl⟩;exact k),?_⟩;try simp only[vmL,Nat.reduceAdd,Nat.reduceLT,Nat.reduceLeDiff,reduceCtorEq,Zlm,Zh4,Zfy,List.contains_cons,List.contains_nil,Nat.reduceBEq,Bool.or_false]
 refine⟨fun h=>(by cases h),⟨[(4,.arr false 8 RR),(0,.arr false 8 [[pI v.act,pI v.item,pI v.n,pI v.kind,.str v.label,.sl 4 (v.head.map Wd.enc),.sl 4 (v.words.map Wd.enc),.own 4 0 (v.kids.length-1)]])],5⟩,⟨Nat.le_refl _,by simp[Vh]⟩,4,5,[Zdh],.inl rfl,by omega,Nat.le_refl _,?_⟩;rw[hRR];rfl
theorem Zmg{R:List (List PV)}{x b:List PV}{i:Nat}(hi:i≤R.length)(hR:R.length≤100000){K:PV→Heap→Prop}(k:K (.own 6 0 (R.length+1)) ⟨[(6,.arr false 8 (Zdi R i x)),(0,.arr false 8 [b])],7⟩):
  Zam Tryz.prog 126 [.own 4 0 R.length,pI i,.own 5 0 1] ⟨[(5,.arr false 8 [x]),(4,.arr false 8 R),(0,.arr false 8 [b])],6⟩ K:=by
 refine Zam.frameL (l1:=[(5,.arr false 8 [x]),(4,.arr false 8 R)]) (l2:=[(0,.arr false 8 [b])]) (t:=6) (by simp) (by simp) ((Z3w (id:=4) (k:=5) (t:=6) (by omega) (by omega) (by omega) hi hR).mono ?_);rintro p h' ⟨rfl,rfl⟩;exact⟨by simp,by simp,by simp[AB.live],k⟩
theorem Zvw(L:List Un)(i:Nat)(y:Un):Zdi (L.map Un.enc) i y.enc=(L.take i++y::L.drop i).map Un.enc:=by
 unfold Zdi;rw[List.map_append,List.map_cons,List.map_take,List.map_drop]
theorem Z8e(y:Un)(i:Nat){v:Un}(hk:v.kids.length≤1000)(hi:i≤v.kids.length):DoF Tryz.prog 125 [.ro [pI i],.ro y.enc] (Zsm i y) v:=by
 unfold DoF;refine Zam.drop ?_;have hl:(Zsm i y v).kids.length=v.kids.length+1:=by show(v.kids.take i++y::v.kids.drop i).length=_;simp;omega
 have hr:(Zsm i y v).kids.map Un.enc=Zdi (v.kids.map Un.enc) i y.enc:=(Zvw _ _ _).symm;have IN:=fun(x b:List PV) (K:PV→Heap→Prop) k=>Zmg (R:=v.kids.map Un.enc) (x:=x) (b:=b) (i:=i) (K:=K) (by rw[Zyc];exact hi) (by rw[Zyc];omega) k;rw[Zyc]at IN;unfold unK;rw[hl,hr];rw[Un.Zaf y];refine Gn (vc:=Y120) [] Tryz.func125 ?_;simp only[Y120,YY];refine Zoi [7,8] [] ⟨[(0,.arr false 8 [[pI v.act,pI v.item,pI v.n,pI v.kind,.str v.label,.sl 4 (v.head.map Wd.enc),.sl 4 (v.words.map Wd.enc),.own 4 0 v.kids.length]])],30⟩ ⟨[],30⟩ rfl (by simp[Vh]) (by simp[Vh]) ?_;simp only[vmL,Nat.reduceEqDiff,Nat.reduceAdd,Nat.reduceLT,reduceCtorEq,Zlm,Zh4,Zfy,List.contains_cons,List.contains_nil,Nat.reduceBEq,Bool.or_false,Bool.or_true,Bool.false_or];refine⟨_,_,fun K' k=>k,?_⟩;refine Sp0 ?_;refine⟨_,_,fun K' k=>IN _ _ K' k,?_⟩;refine Sp0 ?_;refine⟨fun h=>(by cases h),⟨[(6,.arr false 8 (Zdi (v.kids.map Un.enc) i [pI y.act,pI y.item,pI y.n,pI y.kind,.str y.label,.sl 4 (y.head.map Wd.enc),.sl 4 (y.words.map Wd.enc),.sl 8 (y.kids.map Un.enc)])),(0,.arr false 8 [[pI v.act,pI v.item,pI v.n,pI v.kind,.str v.label,.sl 4 (v.head.map Wd.enc),.sl 4 (v.words.map Wd.enc),.own 6 0 (v.kids.length+1)]])],7⟩,⟨Nat.le_refl _,by simp[Vh]⟩,6,7,[],.inr (by omega),by omega,by omega,?_⟩;rw[Zyj];rfl
theorem Xei(y:Un)(i:Nat){v:Un}(hk:v.kids.length≤1000)(hi:i≤v.kids.length):DoF Tryz.prog 136 [.ro [pI i],.ro y.enc] (Zsm i y) v:=by
 unfold DoF;refine Zam.drop ?_;have hl:(Zsm i y v).kids.length=v.kids.length+1:=by show(v.kids.take i++y::v.kids.drop i).length=_;simp;omega
 have hr:(Zsm i y v).kids.map Un.enc=Zdi (v.kids.map Un.enc) i y.enc:=(Zvw _ _ _).symm;have IN:=fun(x b:List PV) (K:PV→Heap→Prop) k=>Zmg (R:=v.kids.map Un.enc) (x:=x) (b:=b) (i:=i) (K:=K) (by rw[Zyc];exact hi) (by rw[Zyc];omega) k;rw[Zyc]at IN;unfold unK;rw[hl,hr];rw[Un.Zaf y];refine Gn (vc:=Y121) [] Tryz.func136 ?_;simp only[Y121,YY];refine Zoi [7,8] [] ⟨[(0,.arr false 8 [[pI v.act,pI v.item,pI v.n,pI v.kind,.str v.label,.sl 4 (v.head.map Wd.enc),.sl 4 (v.words.map Wd.enc),.own 4 0 v.kids.length]])],30⟩ ⟨[],30⟩ rfl (by simp[Vh]) (by simp[Vh]) ?_;simp only[vmL,Nat.reduceEqDiff,Nat.reduceAdd,Nat.reduceLT,reduceCtorEq,Zlm,Zh4,Zfy,List.contains_cons,List.contains_nil,Nat.reduceBEq,Bool.or_false,Bool.or_true,Bool.false_or];refine⟨_,_,fun K' k=>k,?_⟩;refine Sp0 ?_;refine⟨_,_,fun K' k=>IN _ _ K' k,?_⟩;refine Sp0 ?_;refine⟨fun h=>(by cases h),⟨[(6,.arr false 8 (Zdi (v.kids.map Un.enc) i [pI y.act,pI y.item,pI y.n,pI y.kind,.str y.label,.sl 4 (y.head.map Wd.enc),.sl 4 (y.words.map Wd.enc),.sl 8 (y.kids.map Un.enc)])),(0,.arr false 8 [[pI v.act,pI v.item,pI v.n,pI v.kind,.str v.label,.sl 4 (v.head.map Wd.enc),.sl 4 (v.words.map Wd.enc),.own 6 0 (v.kids.length+1)]])],7⟩,⟨Nat.le_refl _,by simp[Vh]⟩,6,7,[],.inr (by omega),by omega,by omega,?_⟩;rw[Zyj];rfl
end Go.Proofs.w
namespace Go.VM
open Go Go.Proofs.w
def Zim(p x:Un):Int:=if Zfw p.kind x.kind=true then(if(p.kids.any fun k=>Zdn k x)=true then 10 else 0)else 9
def Z4q(u:Un)(parent:Idt)(x:Un):Bool:=decide ((8:Int)<((Z5j parent u).length:Int)+1+(depthT x:Int))
end Go.VM
namespace Go.Proofs.w
open Go Go.VM
def Y122:VC:=(ZR [Yw 2 8 0,Yv 3 Yf] (ZR [Ya 4 3 2,Yl 5 4,Ya 6 3 1,Yl 7 6,Yr 8 .eql 5 7,ZM 9 8,Yb 10 4 2 9 true,Yk 11 10 9 true,Yb 12 4 1 9 true,Yk 13 12 9 true,ZG 14 (.bin .eql (.t 11) (.t 13)) 9 true,Yz 15 9 14,ZM 3 15] .ret))
def Y123:VC:=(ZR [Yw 2 8 0,Yw 3 8 1,Yv 4 (Yi 0)] (.seq (ZR [Ya 5 3 2,Yl 6 5,Ya 7 3 3,Yl 8 7,Yc 9 176 [6,8],Yn 10 9] (YC 10 (ZR [Yv 4 (Yi 9)] .ret) .skip)) (.seq (ZR [Ya 11 7 2,Yl 12 11,ZO 13 (.mkfn (.func 177) [] [.t 3]),Yc 14 46 [12,13]] (YC 14 (ZR [Yv 4 (Yi 10)] .ret) .skip)) (ZR [Yv 4 (Yi 0)] .ret))))
def Y124:VC:=(ZR [Yw 3 8 0,Yw 4 3 1,Yw 5 8 2,Yv 6 Yf] (.seq (.region [Ym 7 8 3,Ym 8 3 4,Yc 9 178 [7,8],Ye 10 9,Yu 11 .add 10 1,Ym 12 8 5,Yc 13 179 [12],Yr 14 .add 11 13,Yu 15 .gtr 14 8,ZM 6 15] true) .ret))
theorem Zep(u:Un):Closed (.ro u.enc):=Zbf (Un.closed u)
theorem Z4r(k x:Un):Tc 177 [.agg k.enc,.ro x.enc] (.bool (Zdn k x)):=by
 refine Zac ?_ (cB _) (CL2 (Zak k) (Zep x));rw[Un.Zaf k,Un.Zaf x];refine Gn (vc:=Y122) [.t 3] Tryz.func177 ?_;simp only[Y122,YY];refine Rp0 [1,2] ?_;refine Zaa (Zad [3] ?_);unfold Zdn;cases h:(k.kind==x.kind)with
 |false=>
  simp only[vmL,Nat.reduceEqDiff,Nat.reduceAdd,Nat.reduceLT,Nat.reduceLeDiff,h];exact Tv0
 |true=>
  simp only[vmL,Nat.reduceEqDiff,Nat.reduceAdd,Nat.reduceLT,Nat.reduceLeDiff,h];exact Tv0
theorem Zs3{p x:Un}(hk:p.kids.length≤1000):Tc 117 [.agg p.enc,.agg x.enc] (pI (Zim p x)):=by
 have C:=Zjy p.kind x.kind;have F:=Zef p.kids 177 [.ro x.enc] (fun k=>Zdn k x) (by omega) (by intro y hy;rw[Zyr]at hy;subst hy;exact Zep x) (fun k _=>Z4r k x);refine Zac ?_ (cI _) (CL2 (Zak p) (Zak x));unfold Zim;rw[Un.Zaf x]at F;rw[Un.Zaf p,Un.Zaf x];refine Gn (vc:=Y123) [.t 4] Tryz.func117 ?_;simp only[Y123,YY];refine Rp0 [2,3] ?_;refine Zav [(2,.ro [pI p.act,pI p.item,pI p.n,pI p.kind,.str p.label,.sl 4 (p.head.map Wd.enc),.sl 4 (p.words.map Wd.enc),.sl 8 (p.kids.map Un.enc)]),(3,.ro [pI x.act,pI x.item,pI x.n,pI x.kind,.str x.label,.sl 4 (x.head.map Wd.enc),.sl 4 (x.words.map Wd.enc),.sl 8 (x.kids.map Un.enc)])] ⟨View.loc (z:=8) (fz:=false) (es:=[[pI p.act,pI p.item,pI p.n,pI p.kind,.str p.label,.sl 4 (p.head.map Wd.enc),.sl 4 (p.words.map Wd.enc),.sl 8 (p.kids.map Un.enc)]]) rfl (by simp) rfl (by simp),View.loc (z:=8) (fz:=false) (es:=[[pI x.act,pI x.item,pI x.n,pI x.kind,.str x.label,.sl 4 (x.head.map Wd.enc),.sl 4 (x.words.map Wd.enc),.sl 8 (x.kids.map Un.enc)]]) rfl (by simp) rfl (by simp),trivial⟩ ?_;refine Zaa<|Rp0 [2,3,10] ?_;refine Ap0 C ?_;cases Zfw p.kind x.kind with
 |false=>
  refine Ct ?_;exact Rv0 [4]
 | true=>
  refine Fp0 ?_;refine Zaa<|Rp0 [14] ?_;refine Zag F ?_;cases(p.kids.any fun k=>Zdn k x)with
  |true=>
   refine Ct ?_;exact Rv0 [4]
  |false=>
   refine Fp0 ?_;exact Rv0 [4]
theorem Z8f{u x:Un}(hu:SmT u)(hn:(unitsT u).length≤1000)(hx:SmT x)(hm:(unitsT x).length≤1000)(p:Idt):Tc 118 [.agg u.enc,.agg p.enc,.agg x.enc] (.bool (Z4q u p x)):=by
 have A:=Zmc hu hn p;have D:=Zj1 hx hm;have hl:(Z5j p u).length≤1000:=by unfold Z5j;have:=Zli (x:=p) hu;simp;omega
 have hd:=Zjw hx;refine Zac ?_ (cB _) (CL3 (Zak u) (Zah (Idt.closed p)) (Zak x));unfold Z4q;have hut:=Zaq u;have hul:=Zao u;have hxt:=Zaq x;have hxl:=Zao x;have hpe:p.enc=[pI p.act,pI p.item,pI p.n]:=rfl;have hal:((Z5j p u).map Idt.enc).length=(Z5j p u).length:=Zyc _;rw[hpe]at A⊢;generalize Z5j p u=AN at*;generalize u.enc=U at*;generalize x.enc=X at*;refine Gn (vc:=Y124) [.t 6] Tryz.func118 ?_;simp only[Y124,YY];refine Rp1 [3,4,5] (x2 hul hxl) ?_;refine Zaa (Zaw [6] (by simp[Vh]) ?_);refine Sp1 (x4 hut hul hxt hxl) ?_;refine⟨_,.inl A,?_⟩;refine Sp1 (x4 hal hxt hxl (w64 (n:=(AN.length:Int)+1) (by omega) (by omega))) ?_;refine⟨_,.inl D,?_⟩;refine Sp1 (x3 hal (w64 (n:=(AN.length:Int)+1) (by omega) (by omega)) (w64 (n:=(AN.length:Int)+1+(depthT x:Int)) (by omega) (by omega))) ?_;exact Tv0
end Go.Proofs.w
namespace Go.VM
open Go Go.Proofs.w
def Xe8(u:Un)(d:EI):Un×Int:=
  if (Zbj u d.it).2=0 then
    (if Zim (Zbi (Zbj u d.it).1.1 u).1 (Zdj d.act d.item d.it.unit)=0 then
      (if 64≤(Zbi (Zbj u d.it).1.1 u).1.kids.length∨Z4q u (Zbj u d.it).1.1 (Zdj d.act d.item d.it.unit)=true∨1024<(unitsT u).length+(unitsT (Zdj d.act d.item d.it.unit)).length then(u,6)
       else if(Zbc (Zdj d.act d.item d.it.unit)).any (fun y=>(Zbc u).contains y)=true then(u,5)
       else(Zcc (Zbj u d.it).1.1 (Zsm (Zbj u d.it).1.2.toNat (Zdj d.act d.item d.it.unit)) u,0))
     else(u,Zim (Zbi (Zbj u d.it).1.1 u).1 (Zdj d.act d.item d.it.unit)))
  else(u,(Zbj u d.it).2)
def Xe9(u x:Un):Un×Int:=(Zdx (idU x) u,0)
def Zrh(u x:Un)(d:EI):Un×Int:=
 if(Zow x.words d.it.old d.it.new d.it.nth d.act d.item).2=0 then(Zcc (idU x) (Zgv (Zow x.words d.it.old d.it.new d.it.nth d.act d.item).1) u,0)else(u,(Zow x.words d.it.old d.it.new d.it.nth d.act d.item).2)
def Xfa(u x:Un)(d:EI):Un×Int:=
 if(Z7t x.words d.it.old d.it.new d.it.nth d.act d.item).2=0 then(Zcc (idU x) (Zgv (Z7t x.words d.it.old d.it.new d.it.nth d.act d.item).1) u,0)else(u,(Z7t x.words d.it.old d.it.new d.it.nth d.act d.item).2)
def headD(u x:Un)(d:EI):Un×Int:=(Zcc (idU x) (Z0d (Zb4 d.act d.item 0 d.it.new)) u,0)
def Xfb(u x:Un)(d:EI):Un×Int:=
 if Zim (Zbi (Zcv (idU x) u).1 u).1 (Zhr d.it.label x)=10 then(u,10)else(Zcc (idU x) (Zhr d.it.label) u,0)
def Z4s(u x:Un)(d:EI):Un×Int:=
  if (Zbj u d.it).2=0 then
    (if Zim (Zbi (Zbj u d.it).1.1 (Zdx (idU x) u)).1 x=0 then
      (if((Zbj u d.it).1.1≠(Zcv (idU x) u).1∧64≤(Zbi (Zbj u d.it).1.1 (Zdx (idU x) u)).1.kids.length)∨Z4q (Zdx (idU x) u) (Zbj u d.it).1.1 x=true then(u,6)
       else(Zcc (Zbj u d.it).1.1 (Zsm (Zbj u d.it).1.2.toNat x) (Zdx (idU x) u),0))
     else(u,Zim (Zbi (Zbj u d.it).1.1 (Zdx (idU x) u)).1 x))
  else(u,(Zbj u d.it).2)
def doD(u x:Un)(d:EI):Un×Int:=
 if d.it.kind=0 then Xe8 u d else if d.it.kind=1 then Xe9 u x else if d.it.kind=2 then Zrh u x d else if d.it.kind=3 then Xfa u x d
 else if d.it.kind=4 then headD u x d else if d.it.kind=5 then Xfb u x d else Z4s u x d
structure SmD (d:EI):Prop where
 it:SmI d.it
 ok:ItB d.it
 act:i64 d.act
 item:i64 d.item
theorem ItB.unit{x:It}(h:ItB x):UnB x.unit:=by cases h;assumption
theorem SmD.unit{d:EI}(h:SmD d):SmT d.it.unit∧(unitsT d.it.unit).length≤30:=by
 obtain⟨h1,h2⟩:=Zg9 h.ok.unit (by omega) (by omega) h.it.unit;exact⟨h1,by omega⟩
theorem Zkk{n:Nat}(h:n≤1000000):i64 (n:Int):=by
 rw[Zzb];omega
theorem SmD.stamp{d:EI}(h:SmD d):SmT (Zdj d.act d.item d.it.unit)∧(unitsT (Zdj d.act d.item d.it.unit)).length≤30∧(Zbc (Zdj d.act d.item d.it.unit)).Nodup:=by
 obtain⟨h1,h2⟩:=h.unit;obtain⟨_,s2,s3,_⟩:=Zlr h1 d.act d.item (0,0);refine⟨Xaw h1 h.act h.item (fun n hn=>Zkk hn) (0,0) (by simp only[];omega),?_,?_⟩
 ·show(unitsT (stampT d.act d.item d.it.unit (0,0)).1).length≤30;rw[s3];exact h2
 ·show(Zbc (stampT d.act d.item d.it.unit (0,0)).1).Nodup;rw[s2];exact Xd1 _ _ _ _
theorem Zri(W:List Wd)(v:Un):Zbc (Zgv W v)=Zbc v:=by rw[Zb3,Zb3 v];rfl
theorem Z8g(W:List Wd)(v:Un):Zbc (Z0d W v)=Zbc v:=by rw[Zb3,Zb3 v];rfl
theorem Z4t(l:Str)(v:Un):Zbc (Zhr l v)=Zbc v:=by rw[Zb3,Zb3 v];rfl
def SmW(W:List Wd):Prop:=W.length≤300∧∀w∈W,w.text.length≤100
theorem Zvx{W:List Wd}{v:Un}(hv:SmT v)(hW:SmW W):SmT (Zgv W v):=by
 have h:=hv.u;exact .mk _ ⟨h.ok,h.label,h.head,hW⟩ hv.kids.1 hv.kids.2
theorem Xbd{W:List Wd}{v:Un}(hv:SmT v)(hW:SmW W):SmT (Z0d W v):=by
 have h:=hv.u;exact .mk _ ⟨h.ok,h.label,hW,h.words⟩ hv.kids.1 hv.kids.2
theorem Z8h{l:Str}{v:Un}(hv:SmT v)(hl:l.length≤30):SmT (Zhr l v):=by
 have h:=hv.u;exact .mk _ ⟨h.ok,hl,h.head,h.words⟩ hv.kids.1 hv.kids.2
theorem Xbe{l:List Str}{a i f:Int}(h1:l.length≤300)(h2:∀s∈l,s.length≤100):SmW (Zb4 a i f l):=by
 refine⟨by rw[Zez];exact h1,fun w hw=>?_⟩;have h3:w.text∈(Zb4 a i f l).map Wd.text:=List.mem_map_of_mem hw;rw[Zlq]at h3;exact h2 _ h3
theorem Zs4{fresh:List Str}{a i:Int}{g:Nat}{w:List Wd}:∀{l:List Nat} {k:Nat},∀x∈Zpi fresh a i g w l k,x∈w∨x.text∈fresh
 | [],_,x,hx=>.inl hx
 |p::r,k,x,hx=>by
  rw[Zpi]at hx;simp only[List.mem_append]at hx;rcases hx with hx|hx|hx
  ·exact Zs4 x (List.mem_of_mem_take hx)
  ·refine .inr ?_;have h3:=List.mem_map_of_mem (f:=Wd.text) hx;rw[Zlq]at h3;exact h3
  ·exact Zs4 x (List.mem_of_mem_drop hx)
theorem Zo7:SmW []:=⟨by simp,fun w hw=>by cases hw⟩
theorem Z0e{fresh:List Str}{a i:Int}{g:Nat}{w:List Wd}(hw:SmW w)(hf:∀s∈fresh,s.length≤100)(l:List Nat):SmW (Z7m fresh a i g w l).1:=by
 unfold Z7m;split
 ·rename_i h;refine⟨by simp only[];omega,fun x hx=>?_⟩;rcases Zs4 x hx with h|h
  ·exact hw.2 _ h
  ·exact hf _ h
 ·exact Zo7
theorem Xbf{w:List Wd}(hw:SmW w){old new:List Str}(hf:∀s∈new,s.length≤100)(nth a i:Int):SmW (Zow w old new nth a i).1:=by
 unfold Zow;split
 ·exact Zo7
 ·split
  ·exact Zo7
  ·exact Z0e hw hf _
theorem Xej{w:List Wd}(hw:SmW w){old new:List Str}(hf:∀s∈new,s.length≤100)(nth a i:Int):SmW (Z7t w old new nth a i).1:=by
 unfold Z7t;split
 ·exact Zo7
 ·split
  ·exact Z0e hw hf _
  ·split
   ·exact Zo7
   ·exact Z0e hw hf _
theorem Good.same{N:Nat}{u:Un}(g:Good N u){x:Idt}{f:Un→Un}(h1:∀v,SmT v→SmT (f v))(h2:∀v,Zbc (f v)=Zbc v):Good N (Zcc x f u):=
 g.sub fun v hv _=>⟨h1 v (g.sm.units v hv),by rw[h2];exact List.Sublist.refl _⟩
theorem Zvy{x:Idt}{u:Un}(hu:SmT u)(hn:(Zbc u).Nodup)(hp:(Zcv x u).2.2=true):∃k,k∈unitsT u∧Zbi x u=(k,true)∧SmT (Zdx x u)∧(Zbc k++Zbc (Zdx x u)).Perm (Zbc u):=by
 obtain⟨p,p1,p2,i,i1,i2,i3⟩:=Zuv hu hp;have hw:wayT (Zcv x u).1 u≠[]:=(Zi0 hu).2 (p2▸List.mem_map_of_mem p1);obtain⟨v,A,B,v1,v2,v3,v4,v5⟩:=Zfx hu hw;have hvp:v=p:=Zhd hn v1 p1 (v2.trans p2.symm);subst hvp;obtain⟨_,f2,f3,_⟩:=v5 (Zhe (Zcv x u).2.1.toNat);have hi:(Zcv x u).2.1.toNat=i:=by omega
 rw[hi]at f2 f3;have hk:v.kids[i]∈unitsT u:=Zi3 hu v1 (Zbq (Zyl i2) (Za0 _));have e:(Zbc v.kids[i]++Zbc (Zhe i v)).Perm (Zbc v):=by
  unfold Zhe;rw[Zj2,Zdv,Zb3 v];refine List.perm_middle.trans (List.Perm.cons _ ?_);have e2:Zl8 v.kids=Zl8 (v.kids.take i)++(Zbc v.kids[i]++Zl8 (v.kids.drop (i+1))):=by rw[←Zch,←Zdv,←List.drop_eq_getElem_cons i2,List.take_append_drop]
  rw[e2];exact List.perm_append_comm_assoc _ _ _
 refine⟨v.kids[i],hk,Xdv hu hn hk i3,?_,?_⟩
 ·unfold Zdx;rw[hi];exact f3 (Z1u (hu.units v v1))
 ·unfold Zdx;rw[hi,f2,v4];refine(List.perm_append_comm_assoc _ _ _).trans (List.Perm.append_left A ?_);rw[←List.append_assoc];exact List.Perm.append_right B e
theorem Z4u{w:Int}{u:Un}{p:List St}(hu:SmT u)(h:(Zkh w u p).2=0):Fits u (Zkh w u p).1:=by
 unfold Zkh at h⊢;by_cases h1:Zfc w=true
 ·rw[if_pos h1]at h⊢;by_cases h2:(Zdw u p).2=0
  ·rw[if_pos h2]at h⊢;by_cases h3:(Zbx w u (Zdw u p).1).2=0
   ·rw[if_pos h3];exact Zka hu (Zop hu h2) h3
   ·rw[if_neg h3]at h;exact absurd h h3
  ·rw[if_neg h2]at h;exact absurd h h2
 ·rw[if_neg h1]at h;cases h
theorem Xbg{u:Un}{x:It}(hu:SmT u)(hk:x.kind=0)(h:(Zbj u x).2=0):Fits u (Zbj u x).1:=by
 unfold Zbj at h⊢;rw[if_pos hk]at h⊢;exact Z4u hu h
theorem Z8i{u:Un}{x:It}(hu:SmT u)(hn:(Zbc u).Nodup)(hk:x.kind=6)(h:(Zbj u x).2=0):
  (Zdw u x.at').2=0∧(Zcv (Zdw u x.at').1 u).2.2=true∧∀y∈unitsT (Zdx (Zdw u x.at').1 u),idU y=(Zbj u x).1.1→∃n:Nat,(Zbj u x).1.2=(n:Int)∧n≤y.kids.length:=by
 unfold Zbj at h⊢;rw[if_neg (by rw[hk];decide)]at h⊢;by_cases h1:x.kind=6∧Zfc x.Zff=true
 ·rw[if_pos h1]at h⊢;by_cases h2:(Zdw u x.at').2=0
  ·rw[if_pos h2]at h⊢;by_cases h3:(Zdw u x.to).2=0
   ·rw[if_pos h3]at h⊢;by_cases h4:(Zi4 u (Zdw u x.at').1 (Zdw u x.to).1 x.Zff).2=0
    ·rw[if_pos h4];exact⟨h2,Z7b hu hn (Zop hu h3) h4⟩
    ·rw[if_neg h4]at h;exact absurd h h4
   ·rw[if_neg h3]at h;exact absurd h h3
  ·rw[if_neg h2]at h;exact absurd h h2
 ·rw[if_neg h1]at h;cases h
theorem Zrj(v:Un):v.kids.length+1≤(unitsT v).length:=by
 rw[Zap,Zyd];have:=Zgg v.kids;omega
theorem Xek{N:Nat}{u:Un}(g:Good N u){s:Idt×Int}(h:Fits u s):∃n:Nat,s.2=(n:Int)∧∀v∈unitsT u,idU v=s.1→n≤v.kids.length:=by
 obtain⟨q,q1,q2,n,n1,n2⟩:=h;refine⟨n,n1,fun v hv he=>?_⟩;rw[Zhd g.nd hv q1 (he.trans q2.symm)];exact n2
theorem Xbh{N:Nat}{u:Un}(g:Good N u)(hN:N≤900){d:EI}(hd:SmD d):Good (30+N) (Xe8 u d).1:=by
 have hs:=hd.stamp;have g':Good (30+N) u:=g.mono (by omega);unfold Xe8;generalize Zdj d.act d.item d.it.unit=x at*;split
 ·split
  ·split
   ·exact g'
   ·split
    ·exact g'
    ·rename_i h;have hdis:((Zbc x)++Zbc u).Nodup:=by
      rw[List.nodup_append];refine⟨hs.2.2,g.nd,fun a ha b hb e=>?_⟩;subst e;exact h (List.any_eq_true.2 ⟨a,ha,by rw[List.contains_iff_mem];exact hb⟩)
     have:=g.more (x:=(Zbj u d.it).1.1) (f:=Zsm (Zbj u d.it).1.2.toNat x) (C:=Zbc x) (fun v hv _=>⟨Z6w (g.sm.units v hv) hs.1 (by have:=Zrj v;have:=Zh1 g.sm v hv;have:=g.len;omega),Z1t _ _ _⟩) hdis;refine this.mono ?_;rw[Zdg];omega
  ·exact g'
 ·exact g'
theorem Xbi{N:Nat}{u:Un}(g:Good N u)(x:Un):Good N (Xe9 u x).1:=by
 unfold Xe9 Zdx;exact g.sub fun v hv _=>⟨Z1u (g.sm.units v hv),Z6v _ _⟩
theorem Z4v{N:Nat}{u:Un}(g:Good N u){x:Un}(hx:SmT x){d:EI}(hd:SmD d):Good N (Zrh u x d).1:=by
 unfold Zrh;split
 ·exact g.same (fun v hv=>Zvx hv (Xbf hx.u.words hd.it.news _ _ _)) (fun v=>Zri _ v)
 ·exact g
theorem Xbj{N:Nat}{u:Un}(g:Good N u){x:Un}(hx:SmT x){d:EI}(hd:SmD d):Good N (Xfa u x d).1:=by
 unfold Xfa;split
 ·exact g.same (fun v hv=>Zvx hv (Xej hx.u.words hd.it.news _ _ _)) (fun v=>Zri _ v)
 ·exact g
theorem Z8j{N:Nat}{u:Un}(g:Good N u)(x:Un){d:EI}(hd:SmD d):Good N (headD u x d).1:=by
 unfold headD;exact g.same (fun v hv=>Xbd hv (Xbe hd.it.new hd.it.news)) (fun v=>Z8g _ v)
theorem Xbk{N:Nat}{u:Un}(g:Good N u)(x:Un){d:EI}(hl:d.it.label.length≤30):Good N (Xfb u x d).1:=by
 unfold Xfb;split
 ·exact g
 ·exact g.same (fun v hv=>Z8h hv hl) (fun v=>Z4t _ v)
theorem Z8k{N:Nat}{u:Un}(g:Good N u)(hN:N≤900){x:Un}(hp:(Zcv (idU x) u).2.2=true)(hx:Zbi (idU x) u=(x,true))(d:EI):Good N (Z4s u x d).1:=by
 unfold Z4s;split
 ·split
  ·split
   ·exact g
   ·obtain⟨k,k1,k2,k3,k4⟩:=Zvy g.sm g.nd hp;have e:x=k:=congrArg Prod.fst (hx.symm.trans k2);subst e;have hl:=k4.length_eq;rw[Zx5,Zdg,Zdg,Zdg]at hl;have gl:=g.len;have gr:Good (unitsT (Zdx (idU x) u)).length (Zdx (idU x) u):=⟨k3,((List.nodup_append.1 (k4.nodup_iff.2 g.nd)).2.1),Nat.le_refl _⟩;have:=gr.more (x:=(Zbj u d.it).1.1) (f:=Zsm (Zbj u d.it).1.2.toNat x) (C:=Zbc x) (fun v hv _=>⟨Z6w (k3.units v hv) (g.sm.units x k1) (by have:=Zrj v;have:=Zh1 k3 v hv;omega),Z1t _ _ _⟩) (k4.nodup_iff.2 g.nd);refine this.mono ?_;rw[Zdg];omega
  ·exact g
 ·exact g
end Go.VM
namespace Go.Proofs.w
open Go Go.VM
def Y125:VC:=(ZR [Yw 2 8 0,Yw 3 3 1,ZO 4 (.alloc ZU)] (ZR [Ym 9 8 2,Ym 10 3 3,Yc 11 134 [9,10],ZM 8 11,Yp 12 8 0,Yp 13 8 1,Yp 14 8 2,ZO 5 (.alloc [Yo,Yo,Yo]),ZO 6 (.alloc [Yo]),Ys 3 5 12,Ys 1 6 13,ZM 7 14] (ZR [Ym 15 8 2,Ym 16 3 5,ZO 17 (.mkfn (.func 188) [] [.t 6]),Yc 18 124 [15,16,17],Ys 8 4 18] .ret)))
def Y126:VC:=(ZR [Yw 3 8 0,Yw 4 8 1,Yw 5 28 2,ZO 6 (.alloc ZU),Yv 7 (Yi 0)] (ZR [Ym 8 8 3,Ya 9 0 4,Ym 10 3 9,Yc 11 127 [8,10],Ys 8 6 11,Yv 7 (Yi 0)] .ret))
def Y127:VC:=(ZR [Yw 3 8 0,Yw 4 8 1,Yw 5 28 2,ZO 6 (.alloc ZU),Yv 7 (Yi 0)] (ZR [Ya 9 3 5,Ya 10 14 9,Yl 11 10,Ya 12 0 5,Yl 13 12,Ya 14 1 5,Yl 15 14,ZO 16 (.call 132 [.t 11,.t 13,.t 15,(Yi 0)]),ZO 8 (.alloc [.nilsl]),Ys 1 8 16] (ZR [Ym 17 8 3,Ya 18 0 4,Ym 19 3 18,ZO 20 (.mkfn (.func 133) [] [.t 8]),Yc 21 124 [17,19,20],Ys 8 6 21,Yv 7 (Yi 0)] .ret)))
def Y128:VC:=(ZR [Yw 3 8 0,Yw 4 8 1,Yw 5 28 2,ZO 6 (.alloc ZU),Yv 7 (Yi 0)] (ZR [Ya 11 6 4,Yl 12 11,Ya 13 3 5,Ya 14 13 13,Yl 15 14,Ya 16 3 5,Ya 17 14 16,Yl 18 17,Ya 19 3 5,Ya 20 4 19,Yl 21 20,Ya 22 0 5,Yl 23 22,Ya 24 1 5,Yl 25 24,Yc 26 128 [12,15,18,21,23,25],ZM 10 26,Yp 27 10 0,Yp 28 10 1,ZO 8 (.alloc [.nilsl]),Ys 1 8 27,ZM 9 28] (.seq (ZR [ZM 29 9,Yu 30 .neq 29 0] (YC 30 (ZR [Ym 31 8 3,ZM 32 9,Ys 8 6 31,ZM 7 32] .ret) .skip)) (ZR [Ym 33 8 3,Ya 34 0 4,Ym 35 3 34,ZO 36 (.mkfn (.func 129) [] [.t 8]),Yc 37 124 [33,35,36],Ys 8 6 37,Yv 7 (Yi 0)] .ret))))
def Y129:VC:=(ZR [Yw 3 8 0,Yw 4 8 1,Yw 5 28 2,ZO 6 (.alloc ZU),Yv 7 (Yi 0)] (ZR [Ya 11 6 4,Yl 12 11,Ya 13 3 5,Ya 14 13 13,Yl 15 14,Ya 16 3 5,Ya 17 14 16,Yl 18 17,Ya 19 3 5,Ya 20 4 19,Yl 21 20,Ya 22 0 5,Yl 23 22,Ya 24 1 5,Yl 25 24,Yc 26 130 [12,15,18,21,23,25],ZM 10 26,Yp 27 10 0,Yp 28 10 1,ZO 8 (.alloc [.nilsl]),Ys 1 8 27,ZM 9 28] (.seq (ZR [ZM 29 9,Yu 30 .neq 29 0] (YC 30 (ZR [Ym 31 8 3,ZM 32 9,Ys 8 6 31,ZM 7 32] .ret) .skip)) (ZR [Ym 33 8 3,Ya 34 0 4,Ym 35 3 34,ZO 36 (.mkfn (.func 131) [] [.t 8]),Yc 37 124 [33,35,36],Ys 8 6 37,Yv 7 (Yi 0)] .ret))))
def Y130:VC:=(ZR [Yw 3 8 0,Yw 4 8 1,Yw 5 28 2,ZO 6 (.alloc ZU),Yv 7 (Yi 0)] (ZR [Ym 14 8 3,Ya 15 0 4,Ym 16 3 15,Yc 17 134 [14,16],ZM 13 17,Yp 18 13 0,Yp 19 13 1,Yp 20 13 2,ZO 8 (.alloc [Yo,Yo,Yo]),Ys 3 8 18,ZM 9 19,ZM 10 20] (ZR [Ym 22 8 3,Ym 23 3 8,Yc 24 74 [22,23],ZM 21 24,Yp 25 21 0,Yp 26 21 1,ZO 11 (.alloc ZU),Ys 8 11 25,ZM 12 26] (ZR [Ya 27 3 5,Ya 28 15 27,Yl 29 28,Ya 30 4 4,Ys 1 30 29] (.seq (ZR [Ym 31 8 11,Ym 32 8 4,Yc 33 117 [31,32],Yu 34 .eql 33 10] (YC 34 (ZR [Ym 35 8 3,Ys 8 6 35,Yv 7 (Yi 10)] .ret) .skip)) (ZR [Ym 36 8 3,Ya 37 0 4,Ym 38 3 37,ZO 39 (.mkfn (.func 135) [] [.t 5]),Yc 40 124 [36,38,39],Ys 8 6 40,Yv 7 (Yi 0)] .ret))))))
theorem Zdd(u:Un)(e:Int):Closed (.tup [.agg u.enc,pI e]):=Zbb (by simp only[Zyb,Zya,or_false,Zyv,forall_eq];exact⟨Zak _,cI _⟩)
theorem Zd0(u x:Un)(d:EI):Za8 [.agg u.enc,.agg x.enc,.agg d.enc]:=by
 intro y hy;simp only[Zyb,Zya,or_false]at hy;rcases hy with rfl|rfl|rfl
 ·exact Zak u
 ·exact Zak x
 ·exact Zah (EI.closed d)
theorem Zgn{h:Heap}{F:FuncId}{id:Nat}{c:List PV}(hg:h.get id=some (.arr false c.length [c])):View h (.fn (.func F) [] [.loc id 0 0]) (.fn (.func F) [] [.ro c]):=by
 refine View.fn rfl rfl (fun j hj=>absurd hj (Nat.not_lt_zero _)) (fun j hj=>?_);obtain rfl:j=0:=by simp at hj;omega
 exact View.loc hg (by simp) rfl (Nat.le_refl _)
theorem Zs5{h:Heap}{F:FuncId}{i k:Nat}{a b:List PV}(ha:h.get i=some (.arr false a.length [a]))(hb:h.get k=some (.arr false b.length [b])):View h (.fn (.func F) [] [.loc i 0 0,.loc k 0 0]) (.fn (.func F) [] [.ro a,.ro b]):=by
 refine View.fn rfl rfl (fun j hj=>absurd hj (Nat.not_lt_zero _)) (fun j hj=>?_);obtain rfl|rfl:j=0∨j=1:=by simp at hj;omega
 ·exact View.loc ha (by simp) rfl (Nat.le_refl _)
 ·exact View.loc hb (by simp) rfl (Nat.le_refl _)
theorem Zs6(d:EI):d.enc.length=28:=by unfold EI.enc;simp[It.Zd8]
def zU:List PV:=[pI 0,pI 0,pI 0,pI 0,.str [],.nilsl,.nilsl,.nilsl]
theorem Zrk{u:Un}(hu:SmT u)(hd:(Zbc u).Nodup)(hn:(unitsT u).length≤1000){x:Idt}(hp:(Zcv x u).2.2=true):Tc 127 [.agg u.enc,.agg x.enc] (.agg (Zdx x u).enc):=by
 obtain⟨p,p1,p2,i,i1,hi,_⟩:=Zuv hu hp;have PA:=Zcz hu hn x;have WI:=Zi1 (F:=188) (Zfj:=[.ro [pI i]]) (fun z hz=>by rw[Zyr]at hz;subst hz;exact Zbf (by intro y hy;rw[Zyr]at hy;subst hy;exact cI _)) (f:=Zhe i) (x:=(Zcv x u).1) hu hn (fun v hv he=>by
  have:v=p:=Zhd hd hv p1 (he.trans p2.symm);subst this;exact Z4p i (hu.units v hv).kids.1 hi)
 refine Zac ?_ (Zak _) (CL2 (Zak u) (Zah (Idt.closed x)));have hrest:Zdx x u=Zcc (Zcv x u).1 (Zhe i) u:=by unfold Zdx;rw[i1];rfl
 rw[hrest];have hut:=Zaq u;have hul:=Zao u;have hxe:x.enc=[pI x.act,pI x.item,pI x.n]:=rfl;rw[i1,hp]at PA;have hw:=Un.Zaf (Zcc (Zcv x u).1 (Zhe i) u);generalize Zcc (Zcv x u).1 (Zhe i) u=R at*;rw[hw]at WI⊢;generalize(Zcv x u).1=Q at*;have hqe:Q.enc=[pI Q.act,pI Q.item,pI Q.n]:=rfl;rw[hqe]at PA WI;rw[hxe]at PA⊢;generalize u.enc=U at*;refine Gn (vc:=Y125) [.c 4 true 8] Tryz.func127 ?_;simp only[Y125,YY];refine Rp1 [2,3,4] hul ?_;refine Rp1 [2,4,5,6] (x2 hut hul) ?_;refine Ap0 PA ?_;refine Rp1 [4] (x2 hut hul) ?_;refine Zco (q:=[.agg U,.agg [pI Q.act,pI Q.item,pI Q.n],.fn (.func 188) [] [.ro [pI i]]]) [(4,.arr false 1 [[pI i]])] [(2,.arr false 8 [zU])] 5 (by simp[Vh,zU]) (by simp) ⟨Vr,Vr,Zgn (c:=[pI i]) rfl,trivial⟩ WI ?_;simp only[vmL,Nat.reduceAdd,Nat.reduceLT,zU];exact Tv0
theorem Z8l{u x:Un}(hu:SmT u)(hd:(Zbc u).Nodup)(hn:(unitsT u).length≤1000)(hp:(Zcv (idU x) u).2.2=true)(d:EI):Tc 93 [.agg u.enc,.agg x.enc,.agg d.enc] (.tup [.agg (Xe9 u x).1.enc,pI (Xe9 u x).2]):=by
 have W:=Zrk hu hd hn hp;refine Zac ?_ (Zdd _ _) (Zd0 u x d);unfold Xe9;have hut:=Zaq u;have hul:=Zao u;have hw:=Un.Zaf (Zdx (idU x) u);have hxe:(idU x).enc=[pI x.act,pI x.item,pI x.n]:=rfl;rw[hxe]at W;generalize Zdx (idU x) u=R at*;simp only[];rw[hw]at W⊢;rw[Un.Zaf x];generalize u.enc=U at*;have hdl:=Zs6 d;generalize d.enc=DE at*;refine Gn (vc:=Y126) [.c 6 true 8,.t 7] Tryz.func93 ?_;simp only[Y126,YY];refine Rp1 [3,4,6] (x2 hul hdl) ?_;refine Rp1 [6,7] (x2 hut hul) ?_;refine Ap0 W ?_;exact Tv0
theorem Z4w{u x:Un}(hu:SmT u)(hn:(unitsT u).length≤1000){d:EI}(hd:SmD d):Tc 96 [.agg u.enc,.agg x.enc,.agg d.enc] (.tup [.agg (headD u x d).1.enc,pI (headD u x d).2]):=by
 have MK:=Zzs d.it.new d.act d.item 0 (by have:=hd.it.new;omega);have WI:=Zi1 (F:=133) (Zfj:=[.ro [.sl 4 ((Zb4 d.act d.item 0 d.it.new).map Wd.enc)]]) (fun z hz=>by rw[Zyr]at hz;subst hz;exact Zbf (by intro y hy;rw[Zyr]at hy;subst hy;exact Za9 _)) (f:=Z0d (Zb4 d.act d.item 0 d.it.new)) (x:=idU x) hu hn (fun v _ _=>Z4n _ v);refine Zac ?_ (Zdd _ _) (Zd0 u x d);unfold headD;have hut:=Zaq u;have hul:=Zao u;have hw:=Un.Zaf (Zcc (idU x) (Z0d (Zb4 d.act d.item 0 d.it.new)) u);have hxe:(idU x).enc=[pI x.act,pI x.item,pI x.n]:=rfl;rw[hxe]at WI;generalize Zcc (idU x) (Z0d (Zb4 d.act d.item 0 d.it.new)) u=R at*;simp only[];rw[hw]at WI⊢;have hie:=It.Zaf d.it;unfold EI.enc;rw[Un.Zaf x,hie];generalize u.enc=U at*;generalize(Zb4 d.act d.item 0 d.it.new).map Wd.enc=MW at*;refine Gn (vc:=Y127) [.c 6 true 8,.t 7] Tryz.func96 ?_;simp only[Y127,YY];refine Rp1 [3,4,5,6] hul ?_;refine Rp0 [3,4,6,8] ?_;refine Ap0 (MK (by omega)) ?_;refine Rp1 [6,7] (x2 hut hul) ?_;refine Zco (q:=[.agg U,.agg [pI x.act,pI x.item,pI x.n],.fn (.func 133) [] [.ro [.sl 4 MW]]]) [(4,.arr false 1 [[.sl 4 MW]])] [(3,.arr false 8 [zU])] 5 (by simp[Vh,zU]) (by simp) ⟨Vr,Vr,Zgn (c:=[.sl 4 MW]) rfl,trivial⟩ WI ?_;simp only[vmL,Nat.reduceAdd,Nat.reduceLT,zU];exact Tv0
theorem Zp3{u x:Un}(hu:SmT u)(hn:(unitsT u).length≤1000)(hx:SmT x){d:EI}(hd:SmD d):Tc 94 [.agg u.enc,.agg x.enc,.agg d.enc] (.tup [.agg (Zrh u x d).1.enc,pI (Zrh u x d).2]):=by
 have RP:=Z36 x.words d.it.old d.it.new d.it.nth d.act d.item (by have:=hx.u.words.1;omega) (by have:=hd.it.old;omega) (by have:=hd.it.new;omega);have WI:=Zi1 (F:=129) (Zfj:=[.ro [.sl 4 ((Zow x.words d.it.old d.it.new d.it.nth d.act d.item).1.map Wd.enc)]]) (fun z hz=>by rw[Zyr]at hz;subst hz;exact Zbf (by intro y hy;rw[Zyr]at hy;subst hy;exact Za9 _)) (f:=Zgv (Zow x.words d.it.old d.it.new d.it.nth d.act d.item).1) (x:=idU x) hu hn (fun v _ _=>Xbc _ v);refine Zac ?_ (Zdd _ _) (Zd0 u x d);unfold Zrh;have hut:=Zaq u;have hul:=Zao u;have hxe:(idU x).enc=[pI x.act,pI x.item,pI x.n]:=rfl;rw[hxe]at WI;generalize Zow x.words d.it.old d.it.new d.it.nth d.act d.item=RR at*;have hw:=Un.Zaf (Zcc (idU x) (Zgv RR.1) u);generalize Zcc (idU x) (Zgv RR.1) u=R at*;rw[hw]at WI;have hie:=It.Zaf d.it;unfold EI.enc;rw[Un.Zaf x,hie];generalize RR.1.map Wd.enc=MW at*;refine Gn (vc:=Y128) [.c 6 true 8,.t 7] Tryz.func94 ?_;simp only[Y128,YY];by_cases he:RR.2=0
 case neg=>
  have g:(RR.2 !=0)=true:=by simpa using he
  rw[if_neg he];simp only[];generalize u.enc=U at*;refine Rp1 [3,4,5,6] hul ?_;refine Rp0 [3,4,6,8,9] ?_;refine Ap0 RP ?_;refine Zaa<|Rp1 [3,4,6,8,9,30] g ?_;refine Ct ?_;refine Rp1 [6,7] (x3 hut hul @xan) ?_;exact Tv1 (x3 hut hul @xan)
 have g:(RR.2 !=0)=false:=by simpa using he
 rw[if_pos he];simp only[];rw[hw];generalize u.enc=U at*;refine Rp1 [3,4,5,6] hul ?_;refine Rp0 [3,4,6,8,9] ?_;refine Ap0 RP ?_;refine Zaa<|Rp1 [3,4,6,8,9,30] g ?_;refine Fp0 ?_;refine Rp1 [6,7] (x2 hut hul) ?_;refine Zco (q:=[.agg U,.agg [pI x.act,pI x.item,pI x.n],.fn (.func 129) [] [.ro [.sl 4 MW]]]) [(4,.arr false 1 [[.sl 4 MW]])] [(3,.arr false 8 [zU])] 5 (by simp[Vh,zU]) (by simp) ⟨Vr,Vr,Zgn (c:=[.sl 4 MW]) rfl,trivial⟩ WI ?_;simp only[vmL,Nat.reduceAdd,Nat.reduceLT,zU];exact Tv0
theorem Zvz{u x:Un}(hu:SmT u)(hn:(unitsT u).length≤1000)(hx:SmT x){d:EI}(hd:SmD d):Tc 95 [.agg u.enc,.agg x.enc,.agg d.enc] (.tup [.agg (Xfa u x d).1.enc,pI (Xfa u x d).2]):=by
 have RP:=Zpz x.words d.it.old d.it.new d.it.nth d.act d.item (by have:=hx.u.words.1;omega) (by have:=hd.it.old;omega) (by have:=hd.it.new;omega);have WI:=Zi1 (F:=131) (Zfj:=[.ro [.sl 4 ((Z7t x.words d.it.old d.it.new d.it.nth d.act d.item).1.map Wd.enc)]]) (fun z hz=>by rw[Zyr]at hz;subst hz;exact Zbf (by intro y hy;rw[Zyr]at hy;subst hy;exact Za9 _)) (f:=Zgv (Z7t x.words d.it.old d.it.new d.it.nth d.act d.item).1) (x:=idU x) hu hn (fun v _ _=>do_put _ v);refine Zac ?_ (Zdd _ _) (Zd0 u x d);unfold Xfa;have hut:=Zaq u;have hul:=Zao u;have hxe:(idU x).enc=[pI x.act,pI x.item,pI x.n]:=rfl;rw[hxe]at WI;generalize Z7t x.words d.it.old d.it.new d.it.nth d.act d.item=RR at*;have hw:=Un.Zaf (Zcc (idU x) (Zgv RR.1) u);generalize Zcc (idU x) (Zgv RR.1) u=R at*;rw[hw]at WI;have hie:=It.Zaf d.it;unfold EI.enc;rw[Un.Zaf x,hie];generalize RR.1.map Wd.enc=MW at*;refine Gn (vc:=Y129) [.c 6 true 8,.t 7] Tryz.func95 ?_;simp only[Y129,YY];by_cases he:RR.2=0
 case neg=>
  have g:(RR.2 !=0)=true:=by simpa using he
  rw[if_neg he];simp only[];generalize u.enc=U at*;refine Rp1 [3,4,5,6] hul ?_;refine Rp0 [3,4,6,8,9] ?_;refine Ap0 RP ?_;refine Zaa<|Rp1 [3,4,6,8,9,30] g ?_;refine Ct ?_;refine Rp1 [6,7] (x3 hut hul @xan) ?_;exact Tv1 (x3 hut hul @xan)
 have g:(RR.2 !=0)=false:=by simpa using he
 rw[if_pos he];simp only[];rw[hw];generalize u.enc=U at*;refine Rp1 [3,4,5,6] hul ?_;refine Rp0 [3,4,6,8,9] ?_;refine Ap0 RP ?_;refine Zaa<|Rp1 [3,4,6,8,9,30] g ?_;refine Fp0 ?_;refine Rp1 [6,7] (x2 hut hul) ?_;refine Zco (q:=[.agg U,.agg [pI x.act,pI x.item,pI x.n],.fn (.func 131) [] [.ro [.sl 4 MW]]]) [(4,.arr false 1 [[.sl 4 MW]])] [(3,.arr false 8 [zU])] 5 (by simp[Vh,zU]) (by simp) ⟨Vr,Vr,Zgn (c:=[.sl 4 MW]) rfl,trivial⟩ WI ?_;simp only[vmL,Nat.reduceAdd,Nat.reduceLT,zU];exact Tv0
end Go.Proofs.w
namespace Go.VM
open Go
def Zv0(x:Un):PV:=.agg [pI x.kind,.str x.label]
def Zin(l:List Un):List (PV×PV):=l.map fun x=>(Zv0 x,.bool true)
theorem Z0f(a b:Un):Zc4 (Zv0 a) (Zv0 b)=Zdn b a:=by
 simp only[Zc4,Zv0,PV.cells,Zay,Zbo,Zdn,Bool.and_true];rw[Bool.eq_iff_iff];simp only[Zx4,beq_iff_eq];exact⟨fun h=>⟨h.1.symm,h.2.symm⟩,fun h=>⟨h.1.symm,h.2.symm⟩⟩
theorem Zrl(k:Un):∀l:List Un,(l.any fun x=>Zdn x k)=true→Zbn (Zv0 k) (Zin l)=some (.bool true)
 | [],h=>by cases h
 | a::r,h=>by
  show(if Zc4 (Zv0 k) (Zv0 a)then some (.bool true)else Zbn (Zv0 k) (Zin r))=_;rw[Z0f];by_cases h1:Zdn a k=true
  ·rw[if_pos h1]
  ·rw[if_neg h1];have h2:Zdn a k=false:=by simpa using h1
   rw[List.any_cons,h2,Bool.false_or]at h;exact Zrl k r h
theorem Zrm(k:Un):∀l:List Un,(l.any fun x=>Zdn x k)=false→Zbn (Zv0 k) (Zin l)=none
 | [],_=>rfl
 |a::r,h=>by
  rw[List.any_cons,Bool.or_eq_false_iff]at h;show(if Zc4 (Zv0 k) (Zv0 a)then some (.bool true)else Zbn (Zv0 k) (Zin r))=_;rw[Z0f,h.1,if_neg (by simp)];exact Zrm k r h.2
theorem Z2h(k:Un):∀l:List Un,(l.any fun x=>Zdn x k)=false→Zdo (Zv0 k) (.bool true) (Zin l)=Zin (l++[k])
 | [],_=>rfl
 |a::r,h=>by
  rw[List.any_cons,Bool.or_eq_false_iff]at h;have ih:=Z2h k r h.2;simp only[Zin,List.map_cons,Zdo,List.cons_append,Z0f]at ih⊢;rw[h.1,if_neg (by simp),ih]
theorem Z8m(k:Un)(l:List Un):Zlz (.st [.i,.s]) (Zv0 k) (Zin l):=by
 refine⟨by simp[Zc3,Zc3.isAggP',Zv0,PV.cells,Zf7,Zgw],fun p hp=>?_⟩;obtain⟨x,_,rfl⟩:=List.mem_map.1 hp;simp[Zc3,Zc3.isAggP',Zv0,PV.cells,Zf7,Zgw]
def Zio(l:List Idt):List (PV×PV):=l.map fun x=>(.agg x.enc,.bool true)
def Z8n(l:List Idt)(x:Idt):List Idt:=if x∈l then l else l++[x]
theorem Zv1(a b:Idt):Zc4 (.agg a.enc) (.agg b.enc)=decide (a=b):=by
 cases a;cases b;simp only[Zc4,Idt.enc,PV.cells,Zay,Zbo,Bool.and_true];rw[Bool.eq_iff_iff];simp
theorem Zv2(x:Idt):∀l:List Idt,Zbn (.agg x.enc) (Zio l)=if x∈l then some (.bool true)else none
 | []=>rfl
 | a::r=>by
  have ih:=Zv2 x r;simp only[Zio,List.map_cons,Zbn,Zv1]at ih⊢;by_cases h:x=a
  ·rw[Zyf h,if_pos rfl,if_pos (by rw[h];exact List.mem_cons_self)]
  ·rw[Zyg h,if_neg (by simp),ih];by_cases hr:x∈r
   ·rw[if_pos hr,if_pos (Zx7 _ hr)]
   ·rw[if_neg hr,if_neg (fun hm=>by rcases List.mem_cons.1 hm with e|e;exact h e;exact hr e)]
theorem Z2i(x:Idt):∀l:List Idt,Zdo (.agg x.enc) (.bool true) (Zio l)=Zio (Z8n l x)
 | []=>rfl
 | a::r=>by
  have ih:=Z2i x r;simp only[Zio,List.map_cons,Zdo,Zv1]at ih⊢;by_cases h:x=a
  ·subst h;rw[Zyf rfl,if_pos rfl];unfold Z8n;rw[if_pos List.mem_cons_self];rfl
  ·rw[Zyg h,if_neg (by simp),ih];unfold Z8n;by_cases hr:x∈r
   ·rw[if_pos hr,if_pos (Zx7 _ hr)];rfl
   ·rw[if_neg hr,if_neg (fun hm=>by rcases List.mem_cons.1 hm with e|e;exact h e;exact hr e)];rfl
theorem Zv3(x:Idt)(l:List Idt):Zlz (.st [.i,.i,.i]) (.agg x.enc) (Zio l):=by
 refine⟨by simp[Zc3,Zc3.isAggP',Idt.enc,PV.cells,Zf7,Zgw],fun p hp=>?_⟩;obtain⟨y,_,rfl⟩:=List.mem_map.1 hp;simp[Zc3,Zc3.isAggP',Idt.enc,PV.cells,Zf7,Zgw]
def Zd1(l:List Idt):List Idt:=l.foldl Z8n []
theorem Z8o{l:List Idt}{k:Nat}(h:k<l.length):Zd1 (l.take (k+1))=Z8n (Zd1 (l.take k)) l[k]:=by
 unfold Zd1;rw[List.take_add_one,Zye h,List.foldl_append];rfl
theorem Zs7:∀(l acc:List Idt),acc.Nodup→(l.foldl Z8n acc).Nodup∧(∀x,x∈l.foldl Z8n acc↔x∈acc∨x∈l)∧(l.foldl Z8n acc).length≤acc.length+l.length∧((l.foldl Z8n acc).length=acc.length+l.length↔(acc++l).Nodup)
 | [],acc,h=>⟨h,fun x=>by simp,by simp,by simp[h]⟩
 | a::r,acc,h=>by
  rw[List.foldl_cons];by_cases ha:a∈acc
  ·have e:Z8n acc a=acc:=if_pos ha;rw[e];obtain⟨h1,h2,h3,h4⟩:=Zs7 r acc h;refine⟨h1,fun x=>?_,by rw[Zyd];omega,⟨fun hl=>?_,fun hn=>?_⟩⟩
   ·rw[h2,Zyb];exact⟨fun hx=>hx.imp id .inr,fun hx=>by rcases hx with h|rfl|h;exact .inl h;exact .inl ha;exact .inr h⟩
   ·rw[Zyd]at hl;omega
   ·exfalso
    rw[List.nodup_append]at hn;exact hn.2.2 a ha a List.mem_cons_self rfl
  ·have e:Z8n acc a=acc++[a]:=if_neg ha;rw[e];have hn':(acc++[a]).Nodup:=by
    rw[List.nodup_append];exact⟨h,by simp,fun x hx y hy e'=>by rw[Zyr]at hy;rw[e',hy]at hx;exact ha hx⟩
   obtain⟨h1,h2,h3,h4⟩:=Zs7 r (acc++[a]) hn';rw[Zx5,List.length_singleton]at h3 h4;refine⟨h1,fun x=>?_,by rw[Zyd];omega,?_⟩
   ·rw[h2,List.mem_append,Zyr,Zyb,or_assoc]
   ·rw[Zyd];have e2:acc++a::r=acc++[a]++r:=by simp
    rw[e2,←h4];omega
theorem Zv4(l:List Idt):(Zd1 l).Nodup∧(∀x,x∈Zd1 l↔x∈l)∧(Zd1 l).length≤l.length∧((Zd1 l).length=l.length↔l.Nodup):=by
 obtain⟨h1,h2,h3,h4⟩:=Zs7 l [] (by simp);exact⟨h1,fun x=>by unfold Zd1;rw[h2];simp,by unfold Zd1;simpa using h3,by unfold Zd1;simpa using h4⟩
def idsP(u:Un):Bool:=(decide (idZ∈Zd1 (Zbc u))&&decide ((Zd1 (Zbc u)).length=1))||(decide ((Zd1 (Zbc u)).length=(Zbc u).length)&&((u.kind==0)==decide (idU u=idZ)))
theorem Xel(u:Un):idsP u=Xdr u:=by
 unfold idsP Xdr;obtain⟨h1,h2,h3,h4⟩:=Zv4 (Zbc u);have ha:(decide (idZ∈Zd1 (Zbc u))&&decide ((Zd1 (Zbc u)).length=1))=(Zbc u).all fun x=>decide (x=idZ):=by
  rw[Bool.eq_iff_iff];simp only[Zx4,Zx3,List.all_eq_true];constructor
  ·rintro⟨hz,hl⟩ x hx;obtain⟨y,hy⟩:=List.length_eq_one_iff.1 hl;have a:=(h2 x).2 hx;rw[hy,Zyr]at a hz;rw[a,hz]
  ·intro H;have hz:idZ∈Zbc u:=by
    rw[Zld];have:=H (idU u) (by rw[Zld];exact List.mem_cons_self);rw[this];exact List.mem_cons_self
   refine⟨(h2 _).2 hz,?_⟩;have hall:∀x∈Zd1 (Zbc u),x=idZ:=fun x hx=>H x ((h2 x).1 hx);have hm:=(h2 idZ).2 hz
   revert h1 hall hm
   generalize Zd1 (Zbc u)=S;intro h1 hall hm
   match S,h1,hall,hm with
   | [a],_,_,_=>rfl
   |a::b::r,h1,hall,_=>
    have e1:=hall a List.mem_cons_self;have e2:=hall b (Zx7 _ List.mem_cons_self);rw[List.nodup_cons]at h1;exact absurd (by rw[e1,←e2];exact List.mem_cons_self) h1.1
 have hb:decide ((Zd1 (Zbc u)).length=(Zbc u).length)=decide (Zbc u).Nodup:=decide_eq_decide.2 h4;rw[ha,hb,Bool.and_comm (decide _) (_==_)]
theorem lenI(l:List Idt):(Zio l).length=l.length:=Zyc _
end Go.VM
namespace Go.Proofs.w
open Go Go.VM
def Y131:VC:=(ZR [Yw 1 8 0,Yv 2 Yf] (.seq (ZR [Ya 7 3 1,Yl 8 7,Yu 9 .eql 8 0] (YC 9 (ZR [Ya 10 4 1,Yl 11 10,ZO 12 (.bin .neq (.t 11) (.c (.str []))),ZM 13 12,Yb 14 5 1 13 false,Yk 15 14 13 false,Yd 16 15 13 false,Yb 17 6 1 13 false,Yk 18 17 13 false,Yd 19 18 13 false,ZG 20 (.bin .add (.t 16) (.t 19)) 13 false,ZG 21 (.bin .gtr (.t 20) (Yi 0)) 13 false,Yh 22 13 21] (YC 22 (ZR [Yv 2 Yf] .ret) .skip)) (ZR [Ya 23 3 1,Yl 24 23,Yc 25 262 [24],ZO 26 (.bin .eql (.t 25) (.c (.str []))),ZM 27 26,Yb 28 4 1 27 false,Yk 29 28 27 false,ZG 30 (.call 153 [.t 29]) 27 false,Yq 31 30 27 false,Yh 32 27 31,ZM 33 32,Yb 34 5 1 33 false,Yk 35 34 33 false,ZG 36 (.call 266 [.t 35]) 33 false,Yq 37 36 33 false,Yh 38 33 37,ZM 39 38,Yb 40 6 1 39 false,Yk 41 40 39 false,ZG 42 (.call 266 [.t 41]) 39 false,Yq 43 42 39 false,Yh 44 39 43] (YC 44 (ZR [Yv 2 Yf] .ret) .skip)))) (ZR [ZO 45 .mkmap,ZM 3 45] (.seq (ZR [Ya 46 7 1,Yl 47 46,Ye 48 47,Yv 49 (Yi 0)] (.block 0 (.loop (ZR [Yr 50 .lss 49 48] (.seq (YC 50 .skip (.exit 0)) (.seq (.block 1 (ZR [Yx 51 8 47 49,Ym 52 8 51,ZO 5 (.alloc ZU),Ys 8 5 52] (ZR [Ya 53 3 5,Yl 54 53,Ya 55 4 5,Yl 56 55,ZO 57 (.build [Yo,(.str [])] [(0,(1,(.t 54))),(1,(1,(.t 56)))]),ZO 6 (.alloc [Yo,(.str [])]),Ys 2 6 57] (.seq (ZR [Ya 58 3 1,Yl 59 58,Ya 60 3 5,Yl 61 60,Yc 62 176 [59,61],Yn 63 62,ZM 64 63,Yg 65 3 64 false,Yj 66 2 6 64 false,ZG 67 (.lookup (.st [.i,.s]) (.bool false) false (.t 65) (.t 66)) 64 false,Yh 68 64 67] (YC 68 (ZR [Yv 2 Yf] .ret) .skip)) (.region [ZM 69 3,Ym 70 2 6,ZN (.mapset (.st [.i,.s]) (.t 69) (.t 70) Yt)] false))))) (.region [Yu 71 .add 49 1,ZM 49 71] false))))))) (ZR [Ya 72 7 1,Yl 73 72,Ye 74 73,Yu 75 .leq 74 64,ZM 2 75] .ret)))))
theorem Xbl{p:Int}{L:List Un}{i:Nat}(h:i<L.length):Zto p (L.take i) (L.drop i)=(Zfw p L[i].kind&&((!((L.take i).any fun x=>Zdn x L[i]))&&Zto p (L.take (i+1)) (L.drop (i+1)))):=by
 have hd:L.drop i=L[i]::L.drop (i+1):=List.drop_eq_getElem_cons h;have ht:L.take i++[L[i]]=L.take (i+1):=by rw[List.take_add_one,Zye h];rfl
 rw[hd,Zto,ht]
theorem Zs8{u:Un}(h:SmU u)(hk:u.kids.length≤1000):Tc 250 [.agg u.enc] (.bool (Zn9 u)):=by
 have H:=Zn6 u.head (by have:=h.head.1;omega) (fun w hw=>by have:=h.head.2 w hw;omega);have W:=Zn6 u.words (by have:=h.words.1;omega) (fun w hw=>by have:=h.words.2 w hw;omega);have M:=Zfg u.label (by have:=h.label;omega);have KN:=Zn3 u.kind;have hh:=h.head.1;have hw:=h.words.1;unfold Zn9;refine Gp (vc:=Y131) [.t 2] (cB _) Tryz.func250 ?_;simp only[Y131,YY];rw[Un.Zaf];refine Rp0 [1] ?_;refine Zav [(1,.ro [pI u.act,pI u.item,pI u.n,pI u.kind,.str u.label,.sl 4 (u.head.map Wd.enc),.sl 4 (u.words.map Wd.enc),.sl 8 (u.kids.map Un.enc)])] ⟨View.loc (z:=8) (fz:=false) (es:=[[pI u.act,pI u.item,pI u.n,pI u.kind,.str u.label,.sl 4 (u.head.map Wd.enc),.sl 4 (u.words.map Wd.enc),.sl 8 (u.kids.map Un.enc)]]) rfl (by simp) rfl (by simp),trivial⟩ ?_;generalize hEH:u.head.map Wd.enc=EH at H⊢;generalize hEW:u.words.map Wd.enc=EW at W⊢;have lEH:EH.length=u.head.length:=by rw[←hEH,Zyc]
 have lEW:EW.length=u.words.length:=by rw[←hEW,Zyc]
 have hb:Xaf u=if u.kind=0 then(u.label==[]) && !(decide (0<u.head.length+u.words.length))else(Zgh u.kind !=[])&&(may u.label&&(Zm6 u.head&&Zm6 u.words)):=rfl;generalize Xaf u=hdB at hb⊢;generalize u.kids=L at hk⊢;have fin:∀{h:Heap} (b c:Bool),b=(hdB&&c)→View h (PV.bool b) (.bool (hdB&&c)):=fun b c e=>by rw[e];exact Vr
 refine Zaa (Zfa (σ:={ x:Unit//hdB=true }) (fun _=>([(1,.ro [pI u.act,pI u.item,pI u.n,pI u.kind,.str u.label,.sl 4 EH,.sl 4 EW,.sl 8 (L.map Un.enc)])],⟨[],1⟩)) ?_ (fun hx=>?_))
 ·refine Rp0 [1,9] ?_;by_cases hk0:u.kind=0
  ·rw[if_pos hk0]at hb;refine Zae rfl (fun _=>?_) (fun h=>by simp[hk0]at h);cases e1:u.label==[]with
   |false=>
    have e1':(u.label !=[])=true:=by rw[bne,e1];rfl
    rw[e1]at hb;refine Rp1 [1,22] e1' ?_;refine Ct ?_;refine Rp0 [2] ?_;refine Tp0 ?_;exact fin _ _ (by rw[hb];rfl)
   |true=>
   have e1':(u.label !=[])=false:=by rw[bne,e1];rfl
   rw[e1,Zyt]at hb;have e2:decide ((0:Int)<(u.head.length:Int)+(u.words.length:Int))=decide (0<u.head.length+u.words.length):=decide_eq_decide.2 (by omega);refine Rp1 [1,22] (x5 e1' lEH lEW (w64 (n:=(u.head.length:Int)+(u.words.length:Int)) (by omega) (by omega)) e2) ?_;cases e3:decide (0<u.head.length+u.words.length)with
   |true=>
    rw[e3]at hb;refine Ct ?_;refine Rp0 [2] ?_;refine Tp0 ?_;exact fin _ _ (by rw[hb];rfl)
   |false=>
    rw[e3]at hb;refine Fp0 ?_;exact⟨⟨(),hb⟩,trivial⟩
  ·rw[if_neg hk0]at hb;refine Zae rfl (fun h=>absurd (by simpa using h) hk0) (fun _=>?_);refine Zaa (Zfa (σ:=Unit) (fun _=>([(1,.ro [pI u.act,pI u.item,pI u.n,pI u.kind,.str u.label,.sl 4 EH,.sl 4 EW,.sl 8 (L.map Un.enc)]),(44,.bool (!hdB))],⟨[],1⟩)) ?_ (fun _=>?_))
   ·cases e1:Zgh u.kind==[]with
    |true=>
     have e1':(Zgh u.kind !=[])=false:=by rw[bne,e1];rfl
     rw[e1']at hb;refine rp0 [1,44] ?_;refine Ap1 KN e1 ?_;exact⟨(),by rw[hb];rfl⟩
    |false=>
    have e1':(Zgh u.kind !=[])=true:=by rw[bne,e1];rfl
    rw[e1',Zyt]at hb;cases e2:may u.label with
    |false=>
     rw[e2]at hb M;refine rp0 [1,44] ?_;refine Ap1 KN e1 ?_;refine Ap0 M ?_;exact⟨(),by rw[hb];rfl⟩
    |true=>
    rw[e2,Zyt]at hb;rw[e2]at M;cases e3:Zm6 u.head with
    |false=>
     rw[e3]at hb H;refine rp0 [1,44] ?_;refine Ap1 KN e1 ?_;refine Ap0 M ?_;refine Ap0 H ?_;exact⟨(),by rw[hb];rfl⟩
    |true=>
    rw[e3,Zyt]at hb;rw[e3]at H;refine rp0 [1,44] ?_;refine Ap1 KN e1 ?_;refine Ap0 M ?_;refine Ap0 H ?_;refine Ap0 W ?_;exact⟨(),by rw[hb]⟩
   cases hdB with
   |false=>
    refine Ct ?_;refine Rp0 [2] ?_;refine Tp0 ?_;exact fin _ _ rfl
   |true=>
    refine Fp0 ?_;exact⟨⟨(),rfl⟩,trivial⟩
 obtain⟨_,hx⟩:=hx;subst hx;clear H W M KN hb;refine Rp0 [1,3] ?_;refine Zaa<|Rp1 [1,3,47,48,49] @xlm ?_;refine Zab ?_;refine Zai (σ:={ x:Nat×Nat//x.1≤L.length∧1<x.2∧Zto u.kind [] L=Zto u.kind (L.take x.1) (L.drop x.1) }) (fun x=>([(1,.ro [pI u.act,pI u.item,pI u.n,pI u.kind,.str u.label,.sl 4 EH,.sl 4 EW,.sl 8 (L.map Un.enc)]),(3,.mp 1),(47,.sl 8 (L.map Un.enc)),(48,pI L.length),(49,pI x.1.1)],⟨[(1,.map (Zin (L.take x.1.1)))],x.1.2⟩)) (fun x=>L.length-x.1.1) ⟨(0,2),Zyw _,by simp,rfl⟩ ?_ ?_ ?_
 ·exact Sr0
 ·exact Sr0
 rintro⟨⟨i,t⟩,hii,ht1,hpre⟩;simp only[]at hii ht1 hpre⊢;have qq:=N4 1 t (t+1) (t+1+1);refine Rp1 [1,3,47,48,49,50] qq ?_;refine Zaa<|Zae rfl (fun h1=>?_) (fun h1=>?_)
 ·have ia:i<L.length:=by have h1:=oT h1;omega
  rw[Xbl ia]at hpre;have hrow:(L.map Un.enc).getD i []=L[i].enc:=Zcs ia;have htk:L.take i++[L[i]]=L.take (i+1):=by rw[List.take_add_one,Zye ia];rfl
  generalize hv:L[i]=v at hpre hrow htk;rw[Un.Zaf]at hrow;have N:=Zjy u.kind v.kind;have hf1:=Zrl v (L.take i);have hf0:=Zrm v (L.take i);have hkk:=Z8m v (L.take i);have hput:=Z2h v (L.take i);rw[htk]at hput;refine Kp1 qq ?_;refine Zaa<|Zab ?_;refine Rp1 [1,3,5,47,48,49] (x3 @xlm hrow qq) ?_;refine Ok ?_;refine Rp1 [1,3,5,6,47,48,49] qq ?_;refine Zaa ?_;unfold Zv0 at hf1 hf0 hkk hput;generalize hM:Zin (L.take i)=Mp at hf1 hf0 hkk hput⊢;cases hnst:Zfw u.kind v.kind with
  |false=>
   rw[hnst]at N hpre;refine Rp1 [1,3,5,6,47,48,49,68] qq ?_;refine Ap1 N qq ?_;refine Ct ?_;refine Rp1 [2] qq ?_;refine Tp0 ?_;rw[hpre];exact Vr
  |true=>
  rw[hnst,Zyt]at hpre;rw[hnst]at N;cases hany:(L.take i).any fun x=>Zdn x v with
  |true=>
   have hf:=hf1 hany;rw[hany]at hpre;refine Rp1 [1,3,5,6,47,48,49,68] qq ?_;refine Zag N ?_;try simp only[Ze9,Zjs,Znw,Zau,pok,Zcq,VA.ev,Env.get,Env.put,Zpl,isBool,Z2v,Zba,Zfl,PV.nth,PV.row,Zkz,Zbl,Zg2,Heap.get,HL.get,Nat.le_refl,Nat.succ_ne_self,List.length,List.getD_cons_zero,List.take,List.drop,List.take_succ_cons,Nat.reduceEqDiff,Nat.reduceAdd,Nat.reduceLT,Zyu,Bool.true_eq_false,ite_true,ite_false,true_and,and_true,Nat.zero_add,Zyd,imp_self,Bool.not_true,hf,qq]
   refine⟨hkk,?_⟩
   skip
   refine Ct ?_;refine Rp1 [2] qq ?_;refine Tp0 ?_;rw[hpre];exact Vr
  |false=>
  have hf:=hf0 hany;have hp:=hput hany;rw[hany,Bool.not_false,Zyt]at hpre;refine Rp1 [1,3,5,6,47,48,49,68] qq ?_;refine Zag N ?_;try simp only[Ze9,Zjs,Znw,Zau,pok,Zcq,VA.ev,Env.get,Env.put,Zpl,isBool,Z2v,Zba,Zfl,PV.nth,PV.row,Zkz,Zbl,Zg2,Heap.get,HL.get,Nat.le_refl,Nat.succ_ne_self,List.length,List.getD_cons_zero,List.take,List.drop,List.take_succ_cons,Nat.reduceEqDiff,Nat.reduceAdd,Nat.reduceLT,Zyu,Bool.true_eq_false,ite_true,ite_false,true_and,and_true,Nat.zero_add,Zyd,imp_self,Bool.not_true,hf,qq]
  refine⟨hkk,?_⟩
  skip
  refine Fp1 qq ?_;refine Zad [1,3,47,48,49] ?_;simp only[Ze9,Zjs,Zau,pok,Zcq,VA.ev,Env.get,Env.put,Env.keep,Zg4,Zii,Z2v,Zba,Zfl,PV.nth,PV.row,Zbl,Zfm,Zcu,Heap.get,Heap.set,HL.get,HL.set,HL.del,Nat.le_refl,Nat.succ_ne_self,List.length,List.getD_cons_zero,List.take,List.drop,List.take_succ_cons,Nat.reduceEqDiff,Nat.reduceAdd,Nat.reduceLT,Bool.true_eq_false,ite_true,ite_false,true_and,and_true,Nat.zero_add,Zyd,imp_self,hp,qq];refine⟨hkk,?_⟩
  skip
  refine rp1 [1,3,47,48,49] (x2 (ad1 (a:=i) (by omega)) qq) ?_;exact⟨⟨(i+1,t+2),ia,by show 1<t+2;omega,hpre⟩,rfl,⟨Nat.le_refl _,rfl⟩,by show L.length-(i+1)<L.length-i;omega⟩
 ·have ka:i=L.length:=by have h1:=oF h1;omega
  subst ka;rw[List.drop_length,Zto]at hpre;have e64:decide ((L.length:Int)≤64)=decide (L.length≤64):=decide_eq_decide.2 (by omega);rw[hpre];refine Ep1 qq ?_;refine Rp1 [2] (x3 qq @xlm e64) ?_;exact Tv0
def Y132:VC:=(ZR [Yw 1 8 0,Yv 2 Yf] (ZR [Ym 8 8 1,Yc 9 120 [8],ZM 3 9] (ZR [ZO 10 .mkmap,ZM 4 10] (.seq (ZR [ZM 11 3,Ye 12 11,Yv 13 (Yi 0)] (.block 0 (.loop (ZR [Yr 14 .lss 13 12] (.seq (YC 14 .skip (.exit 0)) (.seq (.block 1 (ZR [Yx 15 3 11 13,Ym 16 3 15,ZO 6 (.alloc [Yo,Yo,Yo]),Ys 3 6 16] (.region [ZM 17 4,Ym 18 3 6,ZN (.mapset (.st [.i,.i,.i]) (.t 17) (.t 18) Yt)] false))) (.region [Yu 19 .add 13 1,ZM 13 19] false))))))) (ZR [ZM 20 4,ZO 21 (.build [Yo,Yo,Yo] []),ZO 22 (.lookup (.st [.i,.i,.i]) (.bool false) false (.t 20) (.t 21)),ZM 7 22] (.seq (.region [ZM 23 7,ZM 24 23,Yg 25 4 24 true,ZG 26 (.mlen (.t 25)) 24 true,ZG 27 (.bin .eql (.t 26) (Yi 1)) 24 true,Yz 28 24 27,ZM 29 28,Yg 30 4 29 false,ZG 31 (.mlen (.t 30)) 29 false,Yg 32 3 29 false,Yd 33 32 29 false,ZG 34 (.bin .eql (.t 31) (.t 33)) 29 false,Yg 35 34 29 false,Yb 36 3 1 35 true,Yk 37 36 35 true,ZG 38 (.bin .eql (.t 37) (Yi 0)) 35 true,Yb 39 0 1 35 true,Yj 40 3 39 35 true,ZG 41 (.build [Yo,Yo,Yo] []) 35 true,ZG 42 (.eqs false [.i,.i,.i] (.t 40) (.t 41)) 35 true,ZG 43 (.binb .eql (.t 38) (.t 42)) 35 true,ZG 44 (.pick (.t 35) (.t 43) Yf) 29 false,Yh 45 29 44,ZM 2 45] true) .ret))))))
def Y133:VC:=(ZR [Yw 1 8 0,Yv 2 Yf] (ZR [Ym 3 8 1,ZO 4 (.call 180 [.t 3,(.c (.fn (.func 250) [] []))]),ZM 5 4,Yj 6 8 1 5 true,ZG 7 (.call 179 [.t 6]) 5 true,ZG 8 (.bin .leq (.t 7) (Yi 8)) 5 true,Yz 9 5 8,ZM 10 9,Yj 11 8 1 10 true,ZG 12 (.call 119 [.t 11]) 10 true,ZG 13 (.bin .leq (.t 12) (Yi 1024)) 10 true,Yz 14 10 13,ZM 15 14,Yj 16 8 1 15 true,ZG 17 (.call 251 [.t 16]) 15 true,Yz 18 15 17,ZM 2 18] .ret))
theorem Z0g{u:Un}(hu:SmT u)(hn:(unitsT u).length≤1000):Tc 251 [.agg u.enc] (.bool (Xdr u)):=by
 have A:=Zi2 hu hn;have hil:(Zbc u).length=(unitsT u).length:=by unfold Zbc;simp
 rw[←Xel];unfold idsP;refine Gp (vc:=Y132) [.t 2] (cB _) Tryz.func251 ?_;simp only[Y132,YY];rw[Un.Zaf]at A⊢;refine Rp0 [1] ?_;refine Zav [(1,.ro [pI u.act,pI u.item,pI u.n,pI u.kind,.str u.label,.sl 4 (u.head.map Wd.enc),.sl 4 (u.words.map Wd.enc),.sl 8 (u.kids.map Un.enc)])] ⟨View.loc (z:=8) (fz:=false) (es:=[[pI u.act,pI u.item,pI u.n,pI u.kind,.str u.label,.sl 4 (u.head.map Wd.enc),.sl 4 (u.words.map Wd.enc),.sl 8 (u.kids.map Un.enc)]]) rfl (by simp) rfl (by simp),trivial⟩ ?_;generalize u.head.map Wd.enc=EH at A⊢;generalize u.words.map Wd.enc=EW at A⊢;generalize u.kids.map Un.enc=EK at A⊢;have hsp:=Zv4 (Zbc u);generalize Zbc u=I at A hil hsp⊢;refine Rp0 [1,3] ?_;refine Ap0 A ?_;refine Rp0 [1,3,4] ?_;refine Zaa<|Rp1 [1,3,4,11,12,13] @xlm ?_;refine Zab ?_;refine Zai (σ:={ x:Nat×Nat//x.1≤I.length∧1<x.2 }) (fun x=>([(1,.ro [pI u.act,pI u.item,pI u.n,pI u.kind,.str u.label,.sl 4 EH,.sl 4 EW,.sl 8 EK]),(3,.sl 3 (I.map Idt.enc)),(4,.mp 1),(11,.sl 3 (I.map Idt.enc)),(12,pI I.length),(13,pI x.1.1)],⟨[(1,.map (Zio (Zd1 (I.take x.1.1))))],x.1.2⟩)) (fun x=>I.length-x.1.1) ⟨(0,2),Zyw _,by simp⟩ ?_ ?_ ?_
 ·exact Sr0
 ·exact Sr0
 rintro⟨⟨k,t⟩,hk,ht1⟩;simp only[]at hk ht1⊢;have qq:=N4 1 t (t+1) (t+1+1);refine Rp1 [1,3,4,11,12,13,14] qq ?_;refine Zaa<|Zae rfl (fun h1=>?_) (fun h1=>?_)
 ·have ka:k<I.length:=by have h1:=oT h1;omega
  have hrow:(I.map Idt.enc).getD k []=[pI I[k].act,pI I[k].item,pI I[k].n]:=by rw[Zcs ka];rfl
  have hst:=Z8o ka;have hkk:=Zv3 I[k] (Zd1 (I.take k));have hput:=Z2i I[k] (Zd1 (I.take k));rw[←hst]at hput;generalize I[k]=x at hrow hkk hput;unfold Idt.enc at hkk hput;generalize Zio (Zd1 (I.take k))=Mp at hkk hput⊢;refine Kp1 qq ?_;refine Zaa<|Zab ?_;refine Rp1 [1,3,4,6,11,12,13] (x3 @xlm hrow qq) ?_;refine Ok ?_;refine Zad [1,3,4,11,12,13] ?_;simp only[Xdm,Ze9,Zjs,Znw,Zr9,Zsa,Z1h,Zau,guardOf,Zjt,Zsd,Zsb,Zm4,Zm5,Zsc,Zem,VOp.isIaddr,QW,dok,Zw9,VOp.pure,VOp.simple,VOp.det,pok,Zcq,VA.ev,Env.get,Env.put,Env.keep,Zed,Zg4,Zii,Z5g,Ztn,Zia,RS.ev,RS.ok,gd,Zpl,isBool,Z2v,Zmn,Zwt,Zdf,Z02,Zpm,Zrw,Zfk,unV,Z5f,Zts,isInt,isStr,numOf,loV,hiV,Zmo,Zds,Zgq,Zer,Zjd,Zie,Zba,Zfl,Za6,Ze4,Zif,Zf8,Z92,Ztt,Zis,Xci,Zrx,Zgx,Ze5,mmV,PV.cells,PV.fits,overlay,PV.nth,PV.row,Zkz,Zbl,Zg2,Zc3,Zc4,Zbn,Zfm,Zcu,Heap.get,Heap.set,Heap.del,Heap.le,HL.get,HL.set,HL.del,HL.le,Heap.push,Heap.nil,Nat.le_refl,Nat.add_eq_left,Nat.left_eq_add,Nat.succ_ne_self,Nat.one_ne_zero,Env.le,Zbp,Zga,Zbz,Zk4,Zax,Zf9,Zb6,Zct,Zf7,Zgw,Zay,Zbo,Zec,Zfe,AB.live,pxV,Ztm,fxV,Zr3,Zne,Zig,isNil,notNil,List.map,List.set,List.replicate,List.length,List.getD_cons_zero,List.getD_cons_succ,List.getD_nil,List.take,List.drop,List.take_zero,List.drop_zero,List.take_succ_cons,List.drop_succ_cons,List.append,List.cons_append,List.nil_append,Option.map,Nat.reduceEqDiff,Nat.reduceAdd,Nat.reduceLT,Nat.reduceLeDiff,Nat.reduceSub,Nat.reduceMul,reduceIte,Zyu,Bool.true_eq_false,ite_true,ite_false,if_true,if_false,true_and,and_true,implies_true,forall_const,ne_eq,not_false_eq_true,reduceCtorEq,BEq.rfl,beq_self_eq_true,Zx0,Nat.zero_add,Nat.add_zero,Zyd,Zyn,true_implies,imp_self,Int.reduceToNat,Zyk,Bool.not_false,Bool.not_true,hput,qq];refine⟨hkk,?_⟩;refine Sp1 qq ?_;refine rp1 [1,3,4,11,12,13] (x2 (ad1 (a:=k) (by omega)) qq) ?_;exact⟨⟨(k+1,t+1),ka,by show 1<t+1;omega⟩,rfl,⟨Nat.le_refl _,rfl⟩,by show I.length-(k+1)<I.length-k;omega⟩
 ·have ka:k=I.length:=by have h1:=oF h1;omega
  subst ka;rw[List.take_length];have hfd:=Zv2 idZ (Zd1 I);have hkk:=Zv3 idZ (Zd1 I);have hml:=lenI (Zd1 I);have hez:idZ.enc=[pI 0,pI 0,pI 0]:=rfl;rw[hez]at hfd hkk;generalize Zio (Zd1 I)=Mp at hfd hkk hml⊢;generalize Zd1 I=S at hfd hml hsp⊢;refine Ep1 qq ?_;have e1:((S.length:Int)==1)=decide (S.length=1):=by rw[Bool.eq_iff_iff];simp;omega
  have e2:((S.length:Int)==(I.length:Int))=decide (S.length=I.length):=by rw[Bool.eq_iff_iff];simp;omega
  have he:((u.act==0&&(u.item==0&&(u.n==0&&true))) !=false)=decide (idU u=idZ):=Zgu (idU u) idZ;by_cases hz:idZ∈S
  ·rw[if_pos hz]at hfd;rw[Zyf hz,Zyt];refine Zaa (Zad [1,3,4,7] ?_);simp only[Xdm,Ze9,Zjs,Znw,Zr9,Zsa,Z1h,Zau,guardOf,Zjt,Zsd,Zsb,Zm4,Zm5,Zsc,Zem,VOp.isIaddr,QW,dok,Zw9,VOp.pure,VOp.simple,VOp.det,pok,Zcq,VA.ev,Env.get,Env.put,Env.keep,Zed,Zg4,Zii,Z5g,Ztn,Zia,RS.ev,RS.ok,gd,Zpl,isBool,Z2v,Zmn,Zwt,Zdf,Z02,Zpm,Zrw,Zfk,unV,Z5f,Zts,isInt,isStr,numOf,loV,hiV,Zmo,Zds,Zgq,Zer,Zjd,Zie,Zba,Zfl,Za6,Ze4,Zif,Zf8,Z92,Ztt,Zis,Xci,Zrx,Zgx,Ze5,mmV,PV.cells,PV.fits,overlay,PV.nth,PV.row,Zkz,Zbl,Zg2,Zc3,Zc4,Zdo,Zfm,Zcu,Heap.get,Heap.set,Heap.del,Heap.le,HL.get,HL.set,HL.del,HL.le,Heap.push,Heap.nil,Nat.le_refl,Nat.add_eq_left,Nat.left_eq_add,Nat.succ_ne_self,Nat.one_ne_zero,Env.le,Zbp,Zga,Zbz,Zk4,Zax,Zf9,Zb6,Zct,Zf7,Zgw,Zay,Zbo,Zec,Zfe,AB.live,pxV,Ztm,fxV,Zr3,Zne,Zig,isNil,notNil,List.map,List.set,List.replicate,List.length,List.getD_cons_zero,List.getD_cons_succ,List.getD_nil,List.take,List.drop,List.take_zero,List.drop_zero,List.take_succ_cons,List.drop_succ_cons,List.append,List.cons_append,List.nil_append,Option.map,Nat.reduceEqDiff,Nat.reduceAdd,Nat.reduceLT,Nat.reduceLeDiff,Nat.reduceSub,Nat.reduceMul,reduceIte,Zyu,Bool.true_eq_false,ite_true,ite_false,if_true,if_false,true_and,and_true,implies_true,forall_const,ne_eq,not_false_eq_true,reduceCtorEq,BEq.rfl,beq_self_eq_true,Zx0,Nat.zero_add,Nat.add_zero,Zyd,Zyn,true_implies,imp_self,Int.reduceToNat,Zyk,Bool.not_false,Bool.not_true,hfd,qq];refine⟨hkk,?_⟩;refine Sp0 ?_;cases d1:decide (S.length=1)with
   |true=>
    rw[d1]at e1;refine Zaa (Zaw [2] (by simp[Vh]) ?_);refine Sp1 (x3 hml @xlm e1) ?_;refine Tp0 ?_
    (try rw[he])
    exact Vr
   |false=>
   rw[d1]at e1;cases d2:decide (S.length=I.length)with
   |false=>
    rw[d2]at e2;refine Zaa (Zaw [2] (by simp[Vh]) ?_);refine Sp1 (x4 hml @xlm e1 e2) ?_;refine Tp0 ?_
    (try rw[he])
    exact Vr
   |true=>
    rw[d2]at e2;refine Zaa (Zaw [2] (by simp[Vh]) ?_);refine Sp1 (x4 hml @xlm e1 e2) ?_;refine Tp0 ?_
    (try rw[he])
    exact Vr
  ·rw[if_neg hz]at hfd;rw[Zyg hz,Bool.false_and,Bool.false_or];refine Zaa (Zad [1,3,4,7] ?_);simp only[Xdm,Ze9,Zjs,Znw,Zr9,Zsa,Z1h,Zau,guardOf,Zjt,Zsd,Zsb,Zm4,Zm5,Zsc,Zem,VOp.isIaddr,QW,dok,Zw9,VOp.pure,VOp.simple,VOp.det,pok,Zcq,VA.ev,Env.get,Env.put,Env.keep,Zed,Zg4,Zii,Z5g,Ztn,Zia,RS.ev,RS.ok,gd,Zpl,isBool,Z2v,Zmn,Zwt,Zdf,Z02,Zpm,Zrw,Zfk,unV,Z5f,Zts,isInt,isStr,numOf,loV,hiV,Zmo,Zds,Zgq,Zer,Zjd,Zie,Zba,Zfl,Za6,Ze4,Zif,Zf8,Z92,Ztt,Zis,Xci,Zrx,Zgx,Ze5,mmV,PV.cells,PV.fits,overlay,PV.nth,PV.row,Zkz,Zbl,Zg2,Zc3,Zc4,Zdo,Zfm,Zcu,Heap.get,Heap.set,Heap.del,Heap.le,HL.get,HL.set,HL.del,HL.le,Heap.push,Heap.nil,Nat.le_refl,Nat.add_eq_left,Nat.left_eq_add,Nat.succ_ne_self,Nat.one_ne_zero,Env.le,Zbp,Zga,Zbz,Zk4,Zax,Zf9,Zb6,Zct,Zf7,Zgw,Zay,Zbo,Zec,Zfe,AB.live,pxV,Ztm,fxV,Zr3,Zne,Zig,isNil,notNil,List.map,List.set,List.replicate,List.length,List.getD_cons_zero,List.getD_cons_succ,List.getD_nil,List.take,List.drop,List.take_zero,List.drop_zero,List.take_succ_cons,List.drop_succ_cons,List.append,List.cons_append,List.nil_append,Option.map,Nat.reduceEqDiff,Nat.reduceAdd,Nat.reduceLT,Nat.reduceLeDiff,Nat.reduceSub,Nat.reduceMul,reduceIte,Zyu,Bool.true_eq_false,ite_true,ite_false,if_true,if_false,true_and,and_true,implies_true,forall_const,ne_eq,not_false_eq_true,reduceCtorEq,BEq.rfl,beq_self_eq_true,Zx0,Nat.zero_add,Nat.add_zero,Zyd,Zyn,true_implies,imp_self,Int.reduceToNat,Zyk,Bool.not_false,Bool.not_true,hfd,qq];refine⟨hkk,?_⟩;refine Sp0 ?_;cases d2:decide (S.length=I.length)with
   |false=>
    rw[d2]at e2;refine Zaa (Zaw [2] (by simp[Vh]) ?_);refine Sp1 (x4 hml @xlm e1 e2) ?_;refine Tp0 ?_
    (try rw[he])
    exact Vr
   |true=>
    rw[d2]at e2;refine Zaa (Zaw [2] (by simp[Vh]) ?_);refine Sp1 (x4 hml @xlm e1 e2) ?_;refine Tp0 ?_
    (try rw[he])
    exact Vr
theorem Zgo{u:Un}(hu:SmT u)(hn:(unitsT u).length≤1000):Tc 220 [.agg u.enc] (.bool (Zeg u)):=by
 have R:=Zj8 (f:=250) (p:=Zn9) hu (fun x hx=>by have:=hu.units x hx;exact Zs8 this.u this.kids.1);rw[Z6l hu]at R;have D:=Zj1 hu hn;have C:=Zgk hu hn;have I:=Z0g hu hn;have hd:=Zjw hu;have e8:decide ((depthT u:Int)≤8)=decide (depthT u≤8):=decide_eq_decide.2 (by omega);have e1:decide (((unitsT u).length:Int)≤1024)=true:=Vt;have e2:decide ((unitsT u).length≤1024)=true:=Vt;unfold Zeg;rw[e2,Zyt];refine Gp (vc:=Y133) [.t 2] (cB _) Tryz.func220 ?_;simp only[Y133,YY];rw[Un.Zaf]at R D C I⊢;refine Rp0 [1] ?_;refine Zav [(1,.ro [pI u.act,pI u.item,pI u.n,pI u.kind,.str u.label,.sl 4 (u.head.map Wd.enc),.sl 4 (u.words.map Wd.enc),.sl 8 (u.kids.map Un.enc)])] ⟨View.loc (z:=8) (fz:=false) (es:=[[pI u.act,pI u.item,pI u.n,pI u.kind,.str u.label,.sl 4 (u.head.map Wd.enc),.sl 4 (u.words.map Wd.enc),.sl 8 (u.kids.map Un.enc)]]) rfl (by simp) rfl (by simp),trivial⟩ ?_;generalize u.head.map Wd.enc=EH at*;generalize u.words.map Wd.enc=EW at*;generalize u.kids.map Un.enc=EK at*;cases hr:rightT u with
 |false=>
  rw[hr]at R;refine Rp0 [2] ?_;refine Ap0 R ?_;exact Tv0
 |true=>
 rw[hr]at R;cases hd8:decide (depthT u≤8)with
 |false=>
  rw[hd8]at e8;refine Rp0 [2] ?_;refine Ap0 R ?_;refine Ap1 D e8 ?_;exact Tv0
 |true=>
 rw[hd8]at e8;refine Rp0 [2] ?_;refine Ap0 R ?_;refine Ap1 D e8 ?_;refine Ap1 C e1 ?_;refine Ap0 I ?_;exact Tv0
end Go.Proofs.w
namespace Go.VM
open Go
def Z0h:Str:=[97,98,99,100,101,102,103,104,105,106,107,108,109,110,111,112,113,114,115,116,117,118,119,120,121,122,48,49,50,51,52,53,54,55,56,57,45]
def Z0i(s:Str):Str:=Lib.trimS s Z0h
end Go.VM
namespace Go.Proofs.w
open Go Go.VM
theorem Zlv(s:Str)(n:Nat)(hn:n≤1000000)(hs:s.length≤1000):Tc 261 [.str s,pI n] (.str (Lib.repeatL s n)):=by
 refine Zju (by kernel_rfl) (by intro x hx;simp only[Zyb,Zya,or_false]at hx;rcases hx with rfl|rfl;exact cS _;exact cI _) fun g w vals r ha=>?_;obtain⟨v,u,rfl,hv,hu⟩:=Zuf ha;obtain⟨z,rfl,hz⟩:=hv.str_inv;obtain rfl:=hu.int_inv;rw[Znx hz];have hm:s.length*n≤1000*1000000:=Nat.mul_le_mul hs hn;refine(Tryz.strings_Repeat ⟨s.toArray⟩ n w (by omega) (by show s.toArray.size*n≤_;rw[List.size_toArray];omega)).mono ?_;rintro e w' ⟨rfl,hb⟩;exact⟨_,rfl,fun g=>.str _ _ rfl,hb⟩
theorem Xem(s:Str)(hs:s.length≤1000000):Tc 163 [.str s,.str Z0h] (.str (Z0i s)):=by
 refine Zju (by kernel_rfl) (by intro x hx;simp only[Zyb,Zya,or_false]at hx;rcases hx with rfl|rfl<;>exact cS _) fun g w vals r ha=>?_;obtain⟨v,u,rfl,hv,hu⟩:=Zuf ha;obtain⟨z,rfl,hz⟩:=hv.str_inv;obtain⟨y,rfl,hy⟩:=hu.str_inv;rw[Znx hz,Znx hy];refine(Any.strings_Trim_laid Tryz.lays160 (by kernel_rfl) ⟨s.toArray⟩ ⟨Z0h.toArray⟩ w (by show s.toArray.size≤_;rw[List.size_toArray];omega) (by decide) (ascii_of_all (by decide))).mono ?_;rintro e w' ⟨rfl,hb⟩;exact⟨_,rfl,fun g=>.str _ _ rfl,hb⟩
end Go.Proofs.w
namespace Go.VM
open Go Go.Proofs.w
def Z4x:Str→Str
 | []=>[]
 |c::r=>if c=124∨c=92 then 92::c::r else c::r
def Z0j(line:Str)(w:List Wd):Str:=w.foldl (fun l x=>l++32::Z4x x.text) line
theorem Z8p(line:Str){w:List Wd}{k:Nat}(h:k<w.length):Z0j line (w.take (k+1))=Z0j line (w.take k)++32::Z4x w[k].text:=by
 unfold Z0j;rw[List.take_add_one,Zye h,List.foldl_append];rfl
theorem Xbm(s:Str):(Z4x s).length≤s.length+1:=by
 cases s with
 |nil=>simp[Z4x]
 |cons c r=>rw[Z4x];split<;>simp
theorem Znd(line:Str):∀{w:List Wd},(∀x∈w,x.text.length≤100)→(Z0j line w).length≤line.length+102*w.length:=by
 intro w
 induction w generalizing line with
 |nil=>intro _;simp[Z0j]
 |cons x r ih=>
  intro h;have h1:=ih (line++32::Z4x x.text) (fun y hy=>h y (Zx7 _ hy));have h2:=h x List.mem_cons_self;have h3:=Xbm x.text;rw[Zx5,Zyd]at h1;show(Z0j (line++32::Z4x x.text) r).length≤_;rw[Zyd];omega
def Z8q(u:Un):Un:=.mk 0 0 0 u.kind u.label u.head u.words []
def Xcz(u:Un)(d:Nat):Bool:=decide (d≤8)&&Zeg (strpU (Z8q u))
def Z0k(u:Un)(d:Nat):Str:=
 if Xcz u d=true then
  let a:=Lib.repeatL [32,32] d++Zgh u.kind
  let b:=if u.kind≠0 then a++32::u.label else a
  let c:=if u.head≠[]then Z0j (b++[58]) u.head else b
  if u.words≠[]then Z0j (c++[32,124]) u.words else c
 else[]
mutual
def linesD:Nat→Un→List Str
 |d, .mk a i n k l h w ks=>Z0k (.mk a i n k l h w ks) d::linesK (d+1) ks
def linesK:Nat→List Un→List Str
 |_,[]=>[]
 |d,k::r=>linesD d k++linesK d r
end
theorem Zkl(d:Nat)(u:Un):linesD d u=Z0k u d::linesK (d+1) u.kids:=by cases u;rw[linesD];rfl
theorem Zgp(d:Nat):∀l:List Un,linesK d l=l.flatMap (linesD d)
 | []=>by rw[linesK];rfl
 |k::r=>by rw[linesK,Zgp d r,List.flatMap_cons]
theorem Z0l(d:Nat){l:List Un}{k:Nat}(h:k<l.length):linesK d (l.take (k+1))=linesK d (l.take k)++linesD d l[k]:=by
 rw[Zgp,Zgp,List.take_add_one,Zye h,List.flatMap_append];simp
theorem Zrn{u:Un}(hu:SmT u):∀d,(linesD d u).length=(unitsT u).length:=by
 induction hu with
 | mk u h hk hs ih=>
  intro d;have key:∀(L:List Un),(∀k∈L,k∈u.kids)→(linesK (d+1) L).length=(unitsL L).length:=by
   intro L
   induction L with
   |nil=>intro _;rfl
   |cons k r ihr=>
    intro hL;rw[linesK,unitsL,Zx5,Zx5,ih k (hL k List.mem_cons_self),ihr fun y hy=>hL y (Zx7 _ hy)]
  rw[Zkl,Zap,Zyd,Zyd,key u.kids fun k hk=>hk]
theorem Zv5(k:Int):(Zgh k).length≤20:=by
 unfold Zgh;split
 ·rename_i h;obtain⟨i,rfl⟩:∃i:Nat,k=(i:Int):=⟨k.toNat,by omega⟩;have:i=0∨i=1∨i=2∨i=3∨i=4∨i=5∨i=6∨i=7:=by omega
  rcases this with rfl|rfl|rfl|rfl|rfl|rfl|rfl|rfl<;>decide
 ·simp
theorem Z2j(d:Nat):(Lib.repeatL [32,32] d:Str).length=2*d:=by
 induction d with
 |zero=>rfl
 |succ d ih=>simp[Lib.repeatL]at ih⊢;omega
theorem Z8r{u:Un}(h:SmU u)(d:Nat):(Z0k u d).length≤100000:=by
 have hn:=Zv5 u.kind;have hl:=h.label;have p1:=fun line=>Znd line h.head.2;have p2:=fun line=>Znd line h.words.2;have hh:=h.head.1;have hw:=h.words.1;unfold Z0k;split
 ·rename_i hm;have hd:d≤8:=by unfold Xcz at hm;rw[Zx4,Zx3]at hm;exact hm.1
  have hr:=Z2j d;simp only[];generalize(Lib.repeatL [32,32] d:Str)=R at*;generalize Zgh u.kind=K at*;have ha:(R++K).length≤36:=by rw[Zx5];omega
  generalize R++K=a at*;have hb:(if u.kind≠0 then a++32::u.label else a).length≤67:=by
   split
   ·rw[Zx5,Zyd];omega
   ·omega
  generalize(if u.kind≠0 then a++32::u.label else a)=b at*;have hc:(if u.head≠[]then Z0j (b++[58]) u.head else b).length≤68+102*300:=by
   split
   ·have:=p1 (b++[58]);rw[Zx5,List.length_singleton]at this;omega
   ·omega
  generalize(if u.head≠[]then Z0j (b++[58]) u.head else b)=c at*;split
  ·have:=p2 (c++[32,124]);rw[Zx5]at this;simp only[Zyd,Zyn]at this;omega
  ·omega
 ·simp
theorem Z4y{u:Un}(hu:SmT u):∀d,∀s∈linesD d u,s.length≤100000:=by
 induction hu with
 |mk u h hk hs ih=>
  intro d s hm;rw[Zkl]at hm;rcases List.mem_cons.1 hm with rfl|hm
  ·exact Z8r h d
  ·rw[Zgp]at hm;obtain⟨k,k1,k2⟩:=List.mem_flatMap.1 hm;exact ih k k1 (d+1) s k2
theorem Z4z{u:Un}{d:Nat}(h:Xcz u d=true):(∀w∈u.head,w.text≠[])∧∀w∈u.words,w.text≠[]:=by
 unfold Xcz Zeg at h;simp only[Zx4]at h;have hr:=h.2.1;rw[Zsr,Zj0,Zx4]at hr;have ha:=hr.1;unfold Zl6 at ha;simp only[Zx4]at ha;have key:∀l:List Wd,Zm6 (l.map Zfh)=true→∀w∈l,w.text≠[]:=by
  intro l hl w hw e;unfold Zm6 Zgs at hl;rw[Zx4,List.all_eq_true]at hl;have:=hl.2 (Zfh w).text (List.mem_map_of_mem (List.mem_map_of_mem hw));rw[show(Zfh w).text=w.text from rfl,e]at this;simp[Zmq]at this
 exact⟨key _ ha.2.2.1,key _ ha.2.2.2.1⟩
def Zs9(u:Un):Int:=if Zeg (strpU u)=true then(if(Lib.join (linesD 0 u) [10]++[10]).length≤16384 then 0 else 6)else 1
def Z0m(u:Un):Str:=if Zeg (strpU u)=true then(if(Lib.join (linesD 0 u) [10]++[10]).length≤16384 then Lib.join (linesD 0 u) [10]++[10]else[])else[]
def Zv6(w:Wd):Bool:=!(decide (w.act=0)&&(decide (w.item=0)&&decide (w.at'=0)))
def Z2k(u:Un):Bool:=decide (idU u=idZ)&&(!(u.head.any Zv6) && !(u.words.any Zv6))
def Xbn(u:Un):Bool:=Zeg u&&(unitsT u).all Z2k
def Zta(u:Un):Bool:=Xbn u&&(decide (u.kind≠0)&&decide (Zs9 u=0))
def Zd6(n a b:Int):Bool:=decide (a≤n)&&decide (n≤b)
def Zf3:Un:=.mk 0 0 0 0 [] [] [] []
def Xc0:It:=.mk 0 [] [] 0 0 Zf3 [] [] [] [] ⟨0,0,[]⟩ 0 0 0 [] []
def Zi6(s:Str):Bool:=match s with
 | []=>false
 |c::r=>decide ((c::r).length≤16)&&(decide (97≤c)&&(decide (c≤122)&&decide (Z0i (c::r)=[])))
def Zi7(s:Sta):Bool:=
 if s.kind=0∨s.kind=2 then decide (s.day=0)&&(s.Zbd==[])
 else if s.kind=1 then Zd6 s.day 0 1048576&&(s.Zbd==[])
 else if s.kind=3 then decide (s.day=0)&&Zi6 s.Zbd else false
def Zwq(l:List Str)(least:Nat):Bool:=Zgs l&&decide (least≤l.length)
def Zpj(x:It):It:=
 if x.kind=0 then .mk 0 [] [] x.Zff 0 x.unit [] [] [] [] ⟨0,0,[]⟩ 0 0 0 [] []
 else if x.kind=1 then Xc0
 else if x.kind=2∨x.kind=3 then .mk 0 [] [] 0 x.nth Zf3 x.old x.new [] [] ⟨0,0,[]⟩ 0 0 0 [] []
 else if x.kind=4 then .mk 0 [] [] 0 0 Zf3 [] x.new [] [] ⟨0,0,[]⟩ 0 0 0 [] []
 else if x.kind=5 then .mk 0 [] [] 0 0 Zf3 [] [] x.label [] ⟨0,0,[]⟩ 0 0 0 [] []
 else .mk 0 [] x.to x.Zff 0 Zf3 [] [] [] [] ⟨0,0,[]⟩ 0 0 0 [] []
def Zi8(x h:It):It:=.mk x.kind x.at' h.to h.Zff h.nth h.unit h.old h.new h.label x.Zib x.start h.act h.item h.day h.Zbd h.by'
def mayI(x:It):Bool:=
 if x.kind=0 then Zd6 x.Zff 0 3&&Zta x.unit
 else if x.kind=1 then true
 else if x.kind=2 then Zwq x.old 1&&(Zwq x.new 0&&Zd6 x.nth 0 256)
 else if x.kind=3 then Zwq x.old 0&&(Zwq x.new 1&&(Zd6 x.nth 0 256&&(decide (0<x.old.length)||decide (x.nth=0))))
 else if x.kind=4 then Zwq x.new 0
 else if x.kind=5 then may x.label
 else Zd6 x.Zff 0 3&&Zlo x.to
noncomputable def Zmh (x:It):Bool:=(Zlo x.at'&&((x.Zib==[]||Zi6 x.Zib)&&Zi7 x.start))&&(eqB x (Zi8 x (Zpj x))&&mayI x)
theorem Xen{s:Str}(h:may s=true):s.length≤7:=by
 unfold may at h;simp only[Zx4,Zx3]at h;have:=Zze s;omega
theorem Z0n{x:It}(h:Zmh x=true)(h5:x.kind=5):x.label.length≤30:=by
 unfold Zmh mayI at h;simp only[Zx4]at h;have h2:=h.2.2;rw[h5]at h2;have:=Xen (s:=x.label) (by simpa using h2);omega
def Zc1(k:Int):Bool:=decide (0≤k)&&decide (k≤6)
end Go.VM
namespace Go.Proofs.w
open Go Go.VM
def Y134:VC:=(ZR [ZO 4 (.mv (.c (.str [])))] (.seq (ZR [ZM 7 1,Ye 8 7,Yv 9 (Yi 0)] (.block 0 (.loop (ZR [Yr 10 .lss 9 8] (.seq (YC 10 .skip (.exit 0)) (.seq (.block 1 (ZR [Yx 11 4 7 9,Ym 12 4 11,ZO 6 (.alloc [(.str []),Yo,Yo,Yo]),Ys 4 6 12] (ZR [ZM 13 0,ZO 14 (.bin .add (.t 13) (.c (.str [32]))),ZM 0 14] (.seq (ZR [Ya 15 0 6,Yl 16 15,ZO 17 (.idx (.t 16) (Yi 0)),ZO 18 (.bin .eql (.t 17) (.c (.int .u8 124))),ZM 19 18,Yb 20 0 6 19 false,Yk 21 20 19 false,ZG 22 (.idx (.t 21) (Yi 0)) 19 false,ZG 23 (.bin .eql (.t 22) (.c (.int .u8 92))) 19 false,Yh 24 19 23] (YC 24 (.region [ZM 25 0,ZO 26 (.bin .add (.t 25) (.c (.str [92]))),ZM 0 26] false) .skip)) (.region [ZM 27 0,Ya 28 0 6,Yl 29 28,Yr 30 .add 27 29,ZM 0 30] false))))) (.region [Yu 31 .add 9 1,ZM 9 31] false))))))) (ZR [ZM 32 0,ZM 4 32] .ret)))
def Y135:VC:=(ZR [Yw 2 8 0,Yv 4 Yf] (ZR [ZO 5 (.build [Yo,Yo,Yo] []),Ya 6 0 2,Ys 3 6 5,Ya 7 7 2,ZN (.store 1 (.t 7) (.c .nilsl))] (ZR [ZM 8 1,Yu 9 .geq 8 0,ZM 10 9,Yg 11 1 10 true,ZG 12 (.bin .leq (.t 11) (Yi 8)) 10 true,Yz 13 10 12,ZM 14 13,Yj 15 8 2 14 true,ZG 16 (.call 244 [.t 15]) 14 true,ZG 17 (.call 220 [.t 16]) 14 true,Yz 18 14 17,ZM 4 18] .ret)))
theorem Zv7(line:Str)(w:List Wd)(hw:w.length≤300)(ht:∀x∈w,x.text≠[]∧x.text.length≤100)(hl:line.length≤100000):Tc 263 [.str line,.sl 4 (w.map Wd.enc)] (.str (Z0j line w)):=by
 have hL:(w.map Wd.enc).length=w.length:=Zyc _;have hpl:=fun(k:Nat)=>Znd line (w:=w.take k) fun x hx=>(ht x (List.mem_of_mem_take hx)).2;refine Zac ?_ (cS _) (CL2 (cS _) (Za9 _));refine Gn (vc:=Y134) [.t 4] Tryz.func263 ?_;simp only[Y134,YY];refine Rp0 [0,1] ?_;refine Zaa<|Rp1 [0,7,8,9] hL ?_;refine Zab ?_;refine Zai (σ:={ x:Nat×Nat//x.1≤w.length }) (fun x=>([(0,.str (Z0j line (w.take x.1.1))),(7,.sl 4 (w.map Wd.enc)),(8,pI w.length),(9,pI x.1.1)],⟨[],x.1.2⟩)) (fun x=>w.length-x.1.1) ⟨(0,0),Zyw _⟩ ?_ ?_ ?_
 ·refine Sp0 ?_;exact⟨rfl,rfl⟩
 ·exact Sr0
 rintro⟨⟨k,t⟩,hk⟩;simp only[]at hk⊢;refine Rp0 [0,7,8,9,10] ?_;refine Zaa<|Zae rfl (fun h1=>?_) (fun h1=>?_)
 ·have ka:k<w.length:=by have h1:=oT h1;omega
  have hst:=Z8p line ka;have hrow:(w.map Wd.enc).getD k []=w[k].enc:=Zcs ka;have hx:=ht w[k] (Zyl ka);have hb:=hpl k;have hlt:(w.take k).length≤300:=by rw[Zyh];omega
  generalize w[k]=v at*;generalize Z0j line (w.take k)=A at*;have hve:v.enc=[.str v.text,pI v.act,pI v.item,pI v.at']:=rfl;rw[hve]at hrow;obtain⟨c,r,hcr⟩:∃c r,v.text=c::r:=by
   cases h:v.text with
   |nil=>exact absurd h hx.1
   |cons c r=>exact⟨c,r,rfl⟩
  rw[hcr]at hrow hst hx;refine Kp0 ?_;refine Zaa<|Zab ?_;refine Rp1 [0,6,7,8,9] (x2 hL hrow) ?_;refine Ok ?_;refine Rp0 [0,6,7,8,9] ?_;refine⟨by omega,?_⟩;refine Zaa<|Rp0 [0,6,7,8,9,24] ?_;refine⟨⟨by omega,by omega⟩,?_⟩;refine Za1 rfl (fun g1=>?_) (fun g1=>?_)
  ·have c1:c≠124:=fun h=>by subst h;cases g1
   refine Sp1 g1 ?_;refine⟨⟨by omega,by omega⟩,?_⟩;by_cases c2:c=92
   ·have g2:((c.toNat:Int)==92)=true:=by subst c2;rfl
    have hesc:Z4x (c::r)=92::c::r:=by rw[Z4x,if_pos (.inr c2)]
    rw[hesc]at hst;refine Sp1 g2 ?_;refine Ct ?_;refine Zad [0,6,7,8,9] ?_;simp only[vmL,Nat.reduceEqDiff,Nat.reduceLeDiff,reduceCtorEq]
    try refine⟨by rw[Zx5];simp only[Zyd,Zyn];omega,?_⟩
    refine rp0 [0,7,8,9] ?_;refine⟨by simp only[Zx5,Zyd,Zyn]at hx⊢;omega,?_⟩;refine rp1 [0,7,8,9] (ad1 (a:=k) (by omega)) ?_;refine⟨⟨(k+1,t+1),ka⟩,?_⟩;simp only[hst,List.append_assoc,List.cons_append,List.nil_append]
    all_goals exact Fn0
   ·have g2:((c.toNat:Int)==92)=false:=by
     rw[beq_eq_false_iff_ne];intro h;have e:(92:UInt8).toNat=92:=rfl;exact c2 (UInt8.toNat_inj.1 (by omega))
    have hesc:Z4x (c::r)=c::r:=by rw[Z4x,if_neg (fun h=>h.elim c1 c2)]
    rw[hesc]at hst;refine Sp1 g2 ?_;refine Fp0 ?_;refine rp0 [0,7,8,9] ?_;refine⟨by simp only[Zx5,Zyd,Zyn]at hx⊢;omega,?_⟩;refine rp1 [0,7,8,9] (ad1 (a:=k) (by omega)) ?_;refine⟨⟨(k+1,t+1),ka⟩,?_⟩;simp only[hst,List.append_assoc,List.cons_append,List.nil_append]
    all_goals exact Fn0
  ·have c1:c=124:=UInt8.toNat_inj.1 (by have:=beq_iff_eq.1 g1;have e:(124:UInt8).toNat=124:=rfl;omega);have hesc:Z4x (c::r)=92::c::r:=by rw[Z4x,if_pos (.inl c1)]
   rw[hesc]at hst;refine Sp1 g1 ?_;refine Ct ?_;refine Zad [0,6,7,8,9] ?_;simp only[vmL,Nat.reduceEqDiff,Nat.reduceLeDiff,reduceCtorEq]
   try refine⟨by rw[Zx5];simp only[Zyd,Zyn];omega,?_⟩
   refine rp0 [0,7,8,9] ?_;refine⟨by simp only[Zx5,Zyd,Zyn]at hx⊢;omega,?_⟩;refine rp1 [0,7,8,9] (ad1 (a:=k) (by omega)) ?_;refine⟨⟨(k+1,t+1),ka⟩,?_⟩;simp only[hst,List.append_assoc,List.cons_append,List.nil_append]
   all_goals exact Fn0
 ·have ka:k=w.length:=by have h1:=oF h1;omega
  subst ka;rw[List.take_length];refine Ep0 ?_;exact Rv0 [4]
theorem z64:i64 0:=by rw[Zzb];decide
theorem Ztb{u:Un}(h:SmU u):SmT (Z8q u):=.mk _ ⟨⟨z64,z64,z64,h.ok.2.2.2⟩,h.label,h.head,h.words⟩ (Zyw _) (fun k hk=>by cases hk)
theorem Ztc{u:Un}(h:SmT u):SmT (strpU u)∧(unitsT (strpU u)).length=(unitsT u).length:=by
 have z:i64 0:=by rw[Zzb];decide
 induction h with
 | mk u h hk hs ih=>
  have tx:∀l:List Wd,(l.length≤300∧∀w∈l,w.text.length≤100)→((l.map Zfh).length≤300∧∀w∈l.map Zfh,w.text.length≤100):=by
   intro l ⟨h1,h2⟩;refine⟨by rw[Zyc];exact h1,fun w hw=>?_⟩;obtain⟨y,hy,rfl⟩:=List.mem_map.1 hw;exact h2 y hy
  have key:∀L:List Un,(∀k∈L,k∈u.kids)→(unitsL (L.map strpU)).length=(unitsL L).length:=by
   intro L
   induction L with
   |nil=>intro _;rfl
   |cons k r ihr=>
    intro hL;rw[List.map_cons,unitsL,unitsL,Zx5,Zx5,(ih k (hL k List.mem_cons_self)).2,ihr fun y hy=>hL y (Zx7 _ hy)]
  rw[Zsr];refine⟨.mk _ ⟨⟨z,z,z,h.ok.2.2.2⟩,h.label,tx _ h.head,tx _ h.words⟩ (by show(u.kids.map strpU).length≤1000;rw[Zyc];exact hk) (fun k hk=>?_),?_⟩
  ·obtain⟨y,hy,rfl⟩:=List.mem_map.1 (show k∈u.kids.map strpU from hk);exact(ih y hy).1
  ·rw[Zap,Zap u,Zyd,Zyd];show(unitsL (u.kids.map strpU)).length+1=_;rw[key u.kids fun k hk=>hk]
theorem Z8s{u:Un}(h:SmU u)(d:Nat)(hd:d≤100000):Tc 260 [.agg u.enc,pI d] (.bool (Xcz u d)):=by
 have S:=Z12 (Ztb h);have V:=Zgo (Ztc (Ztb h)).1 (by rw[(Ztc (Ztb h)).2,Zap];show 1≤1000;omega);refine Zac ?_ (cB _) (CL2 (Zak u) (cI _));unfold Xcz;have hse:(Z8q u).enc=[pI 0,pI 0,pI 0,pI u.kind,.str u.label,.sl 4 (u.head.map Wd.enc),.sl 4 (u.words.map Wd.enc),.sl 8 []]:=Un.Zaf _;rw[hse]at S;have hve:=Un.Zaf (strpU (Z8q u));rw[hve]at S V;rw[Un.Zaf u];generalize strpU (Z8q u)=v at*;refine Gn (vc:=Y135) [.t 4] Tryz.func260 ?_;simp only[Y135,YY];refine Rp0 [1,2] ?_;refine Rp0 [1,2] ?_;refine Zaa (Zad [4] ?_);have h0:decide ((0:Int)≤(d:Int))=true:=Vt;have h8:decide ((d:Int)≤8)=decide (d≤8):=decide_eq_decide.2 (by omega);cases hd8:decide (d≤8)with
 |false=>
  rw[hd8]at h8;refine Sp1 (x2 h0 h8) ?_;exact Tv0
 |true=>
  rw[hd8]at h8;refine Sp1 (x2 h0 h8) ?_;refine Zsf [.agg [pI 0,pI 0,pI 0,pI u.kind,.str u.label,.sl 4 (u.head.map Wd.enc),.sl 4 (u.words.map Wd.enc),.sl 8 []]] ⟨Zj5 (View.nil _ _),trivial⟩ (Zag S ?_);refine Sp0 ?_;refine Zag V ?_;exact Tv0
theorem Z0o{u:Un}(hu:SmT u)(x:Idt):SmT (Zbi x u).1∧(unitsT (Zbi x u).1).length≤(unitsT u).length:=by
 by_cases hw:wayT x u=[]
 ·have e:(Zbi x u).1=.mk 0 0 0 0 [] [] [] []:=by unfold Zbi;rw[hw];rfl
  rw[e];refine⟨.mk _ ⟨⟨z64,z64,z64,z64⟩,by simp[Un.label],⟨by simp[Un.head],fun w hw=>by cases hw⟩,⟨by simp[Un.words],fun w hw=>by cases hw⟩⟩ (by simp[Un.kids]) (fun k hk=>by cases hk),?_⟩;have:=Zeo u;rw[Zap];exact this
 ·obtain⟨h1,_⟩:=Zj4 hu hw;exact⟨hu.units _ h1,Zh1 hu _ h1⟩
theorem Z40{u x:Un}(hu:SmT u)(hn:(unitsT u).length≤1000)(d:EI):Tc 97 [.agg u.enc,.agg x.enc,.agg d.enc] (.tup [.agg (Xfb u x d).1.enc,pI (Xfb u x d).2]):=by
 have PA:=Zcz hu hn (idU x);have FI:=Zdb hu hn (Zcv (idU x) u).1;have TK:=Zs3 (p:=(Zbi (Zcv (idU x) u).1 u).1) (x:=Zhr d.it.label x) (Z0o hu _).1.kids.1;have WI:=Zi1 (F:=135) (Zfj:=[.ro d.enc]) (fun z hz=>by rw[Zyr]at hz;subst hz;exact Zbf (EI.closed d)) (f:=Zhr d.it.label) (x:=idU x) hu hn (fun v _ _=>Z4o d v);refine Zac ?_ (Zdd _ _) (Zd0 u x d);unfold Xfb;have hut:=Zaq u;have hul:=Zao u;have hxe:(idU x).enc=[pI x.act,pI x.item,pI x.n]:=rfl;have hle:(Zhr d.it.label x).enc=[pI x.act,pI x.item,pI x.n,pI x.kind,.str d.it.label,.sl 4 (x.head.map Wd.enc),.sl 4 (x.words.map Wd.enc),.sl 8 (x.kids.map Un.enc)]:=Un.Zaf _;rw[hxe]at WI PA;rw[hle]at TK;have hw:=Un.Zaf (Zcc (idU x) (Zhr d.it.label) u);generalize Zcc (idU x) (Zhr d.it.label) u=R at*;rw[hw]at WI;generalize Zim (Zbi (Zcv (idU x) u).1 u).1 (Zhr d.it.label x)=T at*;have hpe:=Un.Zaf (Zbi (Zcv (idU x) u).1 u).1;generalize Zbi (Zcv (idU x) u).1 u=Pp at*;rw[hpe]at FI TK;generalize Zcv (idU x) u=Q at*;have hqe:Q.1.enc=[pI Q.1.act,pI Q.1.item,pI Q.1.n]:=rfl;rw[hqe]at PA FI;have hie:=It.Zaf d.it;have hde:d.enc=pI d.act::pI d.item::pI d.day::d.it.enc:=rfl;rw[hie]at hde;rw[hde]at WI;rw[Un.Zaf x,hde];refine Gn (vc:=Y130) [.c 6 true 8,.t 7] Tryz.func97 ?_;simp only[Y130,YY];have e10:(T==10)=decide (T=10):=by by_cases h:T=10<;>simp[h]
 generalize hU:u.enc=U at*;refine Rp1 [3,4,5,6] hul ?_;refine Rp1 [3,4,5,6,8] (x2 hut hul) ?_;refine Ap0 PA ?_;refine Rp1 [3,4,5,6,11] (x2 hut hul) ?_;refine Ap0 FI ?_;refine Rp0 [3,4,5,6,11] ?_;refine Zaa<|Rp0 [3,4,5,6,34] ?_;refine Ap1 TK e10 ?_;by_cases he:T=10
 ·rw[if_pos he];rw[Zyf he];simp only[];rw[hU];refine Ct ?_;refine Rp1 [6,7] (x3 hut hul @xan) ?_;exact Tv1 (x3 hut hul @xan)
 ·rw[if_neg he];rw[Zyg he];simp only[];rw[hw];refine Fp0 ?_;refine Rp1 [6,7] (x2 hut hul) ?_;rw[←hde]at WI⊢;generalize hDE:d.enc=DE at*;have hdl:DE.length=28:=by rw[←hDE];exact Zs6 d
  refine Zco (q:=[.agg U,.agg [pI x.act,pI x.item,pI x.n],.fn (.func 135) [] [.ro DE]]) [(2,.arr false DE.length [DE])] [(3,.arr false 8 [zU])] 6 (by simp[Vh,zU,hdl]) (by simp) ⟨Vr,Vr,Zgn (c:=DE) rfl,trivial⟩ WI ?_;simp only[vmL,Nat.reduceAdd,Nat.reduceLT,zU];exact Tv0
def Y136:VC:=(ZR [Yw 2 3 0,Yv 3 Yf] (ZR [Yl 4 1,Ym 5 3 2,Yc 6 123 [4,5],ZM 3 6] .ret))
def Y137:VC:=(ZR [Yw 3 8 0,Yw 4 8 1,Yw 5 28 2,ZO 6 (.alloc ZU),Yv 7 (Yi 0)] (ZR [Ym 17 8 3,Ya 18 3 5,Ym 19 25 18,Yc 20 115 [17,19],ZM 16 20,Yp 21 16 0,Yp 22 16 1,Yp 23 16 2,ZO 8 (.alloc [Yo,Yo,Yo]),ZO 9 (.alloc [Yo]),Ys 3 8 21,Ys 1 9 22,ZM 10 23] (.seq (ZR [ZM 24 10,Yu 25 .neq 24 0] (YC 25 (ZR [Ym 26 8 3,ZM 27 10,Ys 8 6 26,ZM 7 27] .ret) .skip)) (ZR [Ym 29 8 3,Ym 30 3 8,Yc 31 74 [29,30],ZM 28 31,Yp 32 28 0,Yp 33 28 1,ZO 11 (.alloc ZU),Ys 8 11 32,ZM 12 33] (ZR [Ya 34 3 5,Ya 35 5 34,Ym 36 8 35,Ya 37 0 5,Yl 38 37,Ya 39 1 5,Yl 40 39,Yc 41 116 [36,38,40],ZO 13 (.alloc ZU),Ys 8 13 41] (.seq (ZR [Ym 42 8 11,Ym 43 8 13,Yc 44 117 [42,43],ZM 14 44] (ZR [ZM 45 14,Yu 46 .neq 45 0] (YC 46 (ZR [Ym 47 8 3,ZM 48 14,Ys 8 6 47,ZM 7 48] .ret) .skip))) (.seq (.seq (.region [Ya 49 7 11,Yl 50 49,Ye 51 50,Yu 52 .geq 51 64,ZM 53 52,Yj 54 8 3 53 false,Yj 55 3 8 53 false,Yj 56 8 13 53 false,ZG 57 (.call 118 [.t 54,.t 55,.t 56]) 53 false,Yh 58 53 57,ZM 59 58,Yj 60 8 3 59 false,ZG 61 (.call 119 [.t 60]) 59 false,Yj 62 8 13 59 false,ZG 63 (.call 119 [.t 62]) 59 false,ZG 64 (.bin .add (.t 61) (.t 63)) 59 false,ZG 65 (.bin .gtr (.t 64) (Yi 1024)) 59 false,Yh 66 59 65] true) (YC 66 (ZR [Ym 67 8 3,Ys 8 6 67,Yv 7 (Yi 6)] .ret) .skip)) (ZR [Ym 68 8 3,Yc 69 120 [68],ZO 15 (.alloc [.nilsl]),Ys 1 15 69] (.seq (ZR [Ym 70 8 13,Yc 71 120 [70],ZO 72 (.mkfn (.func 122) [] [.t 15]),Yc 73 121 [71,72]] (YC 73 (ZR [Ym 74 8 3,Ys 8 6 74,Yv 7 (Yi 5)] .ret) .skip)) (ZR [Ym 75 8 3,Ym 76 3 8,ZO 77 (.mkfn (.func 125) [] [.t 9,.t 13]),Yc 78 124 [75,76,77],Ys 8 6 78,Yv 7 (Yi 0)] .ret))))))))))
theorem Zmi(l:List Idt):Closed (.ro [.sl 3 (l.map Idt.enc)]):=Zbf (by intro y hy;rw[Zyr]at hy;subst hy;exact Zaj (fun a _ x hx=>by exact Idt.closed a x hx))
theorem Z0p(y:Idt)(l:List Idt)(hl:l.length≤1000000):Tc 122 [.agg y.enc,.ro [.sl 3 (l.map Idt.enc)]] (.bool (l.contains y)):=by
 have C:=Zik l y hl;have hye:y.enc=[pI y.act,pI y.item,pI y.n]:=rfl;refine Zac ?_ (cB _) (by intro z hz;simp only[Zyb,Zya,or_false]at hz;rcases hz with rfl|rfl;exact Zah (Idt.closed y);exact Zmi l);rw[hye]at C⊢;refine Gn (vc:=Y136) [.t 3] Tryz.func122 ?_;simp only[Y136,YY];refine Rp0 [1,2] ?_;refine Rp0 [3] ?_;refine Zag C ?_;exact Tv0
theorem Z8t{N:Nat}{u:Un}(g:VM.Good N u)(hN:N≤900)(x:Un){d:EI}(hd:SmD d)(h0:d.it.kind=0):Tc 92 [.agg u.enc,.agg x.enc,.agg d.enc] (.tup [.agg (Xe8 u d).1.enc,pI (Xe8 u d).2]):=by
 have hu:=g.sm;have hn:(unitsT u).length≤1000:=by have:=g.len;omega
 have hs:=hd.stamp;have hut0:=hd.unit;have DS:=Zil hu hn hd.it;have ST:=Xa1 hut0.1 (by have:=hut0.2;omega) d.act d.item;have FI:=Zdb hu hn (Zbj u d.it).1.1;have TK:=Zs3 (p:=(Zbi (Zbj u d.it).1.1 u).1) (x:=Zdj d.act d.item d.it.unit) (Z0o hu _).1.kids.1;have DP:=Z8f hu hn hs.1 (by have:=hs.2.1;omega) (Zbj u d.it).1.1;have CU:=Zgk hu hn;have CS:=Zgk hs.1 (by have:=hs.2.1;omega);have IU:=Zi2 hu hn;have IS:=Zi2 hs.1 (by have:=hs.2.1;omega);have CF:=Zjx (Zbc (Zdj d.act d.item d.it.unit)) 122 [.ro [.sl 3 ((Zbc u).map Idt.enc)]] (fun y=>(Zbc u).contains y) (by rw[Zdg];have:=hs.2.1;omega) (by intro y hy;rw[Zyr]at hy;subst hy;exact Zmi _) (fun y _=>Z0p y _ (by rw[Zdg];omega));have hfit:=fun h=>Xek g (Xbg hu h0 h);have WI:=fun(n:Nat) (hn':∀v∈unitsT u,idU v=(Zbj u d.it).1.1→n≤v.kids.length)=>Zi1 (F:=125) (Zfj:=[.ro [pI n],.ro (Zdj d.act d.item d.it.unit).enc]) (fun z hz=>by simp only[Zyb,Zya,or_false]at hz;rcases hz with rfl|rfl;exact Zbf (by intro y hy;rw[Zyr]at hy;subst hy;exact cI _);exact Zep _) (f:=Zsm n (Zdj d.act d.item d.it.unit)) (x:=(Zbj u d.it).1.1) hu hn (fun v hv he=>Z8e _ n (hu.units v hv).kids.1 (hn' v hv he));refine Zac ?_ (Zdd _ _) (Zd0 u x d);unfold Xe8;have hut:=Zaq u;have hul:=Zao u;have hxl:=Zao x;have hcu:(unitsT u).length≤1000:=hn;have hcs:(unitsT (Zdj d.act d.item d.it.unit)).length≤30:=hs.2.1;have hse:=Un.Zaf (Zdj d.act d.item d.it.unit);have hpe:=Un.Zaf (Zbi (Zbj u d.it).1.1 u).1;generalize Zdj d.act d.item d.it.unit=S at*;generalize hT:Zim (Zbi (Zbj u d.it).1.1 u).1 S=T at*;generalize Zbi (Zbj u d.it).1.1 u=Pp at*;rw[hpe]at FI TK;generalize Zbj u d.it=Q at*;have hqe:Q.1.1.enc=[pI Q.1.1.act,pI Q.1.1.item,pI Q.1.1.n]:=rfl;rw[hqe]at DS FI DP;generalize Z4q u Q.1.1 S=DB at*;have hie:=It.Zaf d.it;have hue:=Un.Zaf d.it.unit;have hde:d.enc=pI d.act::pI d.item::pI d.day::d.it.enc:=rfl;rw[hie]at hde DS;rw[hue]at ST;rw[hde];generalize hU:u.enc=U at*;generalize x.enc=X at*;generalize hSE:S.enc=SE at*;refine Gn (vc:=Y137) [.c 6 true 8,.t 7] Tryz.func92 ?_;simp only[Y137,YY];refine Rp1 [3,5,6] (x2 hul hxl) ?_;refine Rp1 [3,5,6,8,9,10] (x2 hut hul) ?_;refine Ap0 DS ?_;refine Zaa ?_;refine Zaa (Zad [3,5,6,8,9,10,25] ?_);by_cases c1:Q.2=0
 case neg=>
  have g1:(Q.2 !=0)=true:=by simpa using c1
  rw[if_neg c1];refine Sp1 g1 ?_;refine Ct ?_;refine Rp1 [6,7] (x3 hut hul @xan) ?_;refine Tp1 (x3 hut hul @xan) ?_;rw[hU];exact Vr
 have g1:(Q.2 !=0)=false:=by simpa using c1
 rw[if_pos c1];obtain⟨n,n1,n2⟩:=hfit c1
 replace WI:=WI n n2
 rw[n1]at DS⊢;refine Sp1 g1 ?_;refine Fp0 ?_;refine Rp1 [3,5,6,8,9,11] (x2 hut hul) ?_;refine Ap0 FI ?_;have hsl:SE.length=8:=by rw[hse];rfl
 have hst8:List.take 8 SE=SE:=by rw[hse];rfl
 refine Rp0 [3,6,8,9,11,13] ?_;refine Ap1 ST (x2 hsl @xan) ?_;refine Zaa<|Rp1 [3,6,8,9,11,13,14] (x3 hsl hst8 @xan) ?_;refine Zag TK ?_;refine Zaa (Zad [3,6,8,9,11,13,14,46] ?_);by_cases c2:T=0
 case neg=>
  have g2:(T !=0)=true:=by simpa using c2
  rw[if_neg c2];refine Sp1 g2 ?_;refine Ct ?_;refine Rp1 [6,7] (x3 hut hul @xan) ?_;refine Tp1 (x3 hut hul @xan) ?_;rw[hU];exact Vr
 have g2:(T !=0)=false:=by simpa using c2
 rw[if_pos c2];refine Sp1 g2 ?_;refine Fp0 ?_;refine Zaa ?_;refine Zaa (Zaw [3,6,8,9,13,66] (by simp[Vh]) ?_);have hkl:(Pp.1.kids.map Un.enc).length=Pp.1.kids.length:=Zyc _;have e64:decide ((64:Int)≤(Pp.1.kids.length:Int))=decide (64≤Pp.1.kids.length):=decide_eq_decide.2 (by omega);have w1:=w64 (n:=((unitsT u).length:Int)+((unitsT S).length:Int)) (by omega) (by omega);have e1:decide ((1024:Int)<((unitsT u).length:Int)+((unitsT S).length:Int))=decide (1024<(unitsT u).length+(unitsT S).length):=decide_eq_decide.2 (by omega);cases k1:decide (64≤Pp.1.kids.length)with
 |true=>
  rw[k1]at e64;rw[if_pos (.inl (of_decide_eq_true k1))];refine Sp1 (x2 hkl e64) ?_;refine Ct ?_;refine Rp1 [6,7] (x3 hut hul @xan) ?_;refine Tp1 (x3 hut hul @xan) ?_;rw[hU];exact Vr
 |false=>
 rw[k1]at e64;cases DB with
 |true=>
  rw[if_pos (.inr (.inl rfl))];simp only[vmL,Nat.reduceEqDiff,Nat.reduceAdd,Nat.reduceLT,reduceCtorEq,hkl,e64,hut,hul,hsl,hst8,Zyj];refine⟨_,.inl DP,?_⟩;refine Sp0 ?_;refine Ct ?_;refine Rp1 [6,7] (x3 hut hul @xan) ?_;refine Tp1 (x3 hut hul @xan) ?_;rw[hU];exact Vr
 |false=>
 simp only[vmL,Nat.reduceEqDiff,Nat.reduceAdd,Nat.reduceLT,reduceCtorEq,hkl,e64,hut,hul,hsl,hst8,Zyj];refine⟨_,.inl DP,?_⟩;try simp only[vmL,Nat.reduceEqDiff,Nat.reduceLT,reduceCtorEq,hkl,e64,hut,hul,hsl,hst8,Zyj]
 refine⟨_,.inl CU,?_⟩
 skip
 refine⟨_,.inl CS,?_⟩;refine Sp1 (x2 w1 e1) ?_;cases k3:decide (1024<(unitsT u).length+(unitsT S).length)with
 |true=>
  rw[if_pos (.inr (.inr (of_decide_eq_true k3)))];refine Ct ?_;refine Rp1 [6,7] (x3 hut hul @xan) ?_;refine Tp1 (x3 hut hul @xan) ?_;rw[hU];exact Vr
 |false=>
 rw[if_neg (fun h=>h.elim (of_decide_eq_false k1) fun h=>h.elim (fun h=>by cases h) (of_decide_eq_false k3))];refine Fp0 ?_;refine Rp1 [3,6,8,9,13,15] (x2 hut hul) ?_;refine Ap0 IU ?_;refine Zaa<|Rp1 [3,6,8,9,13,73] (x3 hsl hst8 @xan) ?_;refine Zag IS ?_;refine Zco (q:=[.sl 3 ((Zbc S).map Idt.enc),.fn (.func 122) [] [.ro [.sl 3 ((Zbc u).map Idt.enc)]]]) [(8,.arr false 1 [[.sl 3 ((Zbc u).map Idt.enc)]])] [(7,.arr false 8 [SE]),(5,.arr false 1 [[pI n]]),(4,.arr false 3 [[pI Q.1.1.act,pI Q.1.1.item,pI Q.1.1.n]]),(3,.arr false 8 [zU]),(0,.arr false 8 [U])] 9 (by simp[Vh,zU]) (by simp) ⟨Vr,Zgn (c:=[.sl 3 ((Zbc u).map Idt.enc)]) rfl,trivial⟩ CF ?_;try simp only[zU]
 cases k4:(Zbc S).any fun y=>(Zbc u).contains y with
 |true=>
  rw[if_pos rfl];refine Ct ?_;refine Rp1 [6,7] (x3 hut hul @xan) ?_;refine Tp1 (x3 hut hul @xan) ?_;rw[hU];exact Vr
 |false=>
 rw[if_neg (by decide)];refine Fp0 ?_;have hwe:=Un.Zaf (Zcc Q.1.1 (Zsm n S) u);rw[hqe]at WI;generalize Zcc Q.1.1 (Zsm n S) u=R at*;try simp only[]
 rw[hwe]at WI⊢;refine Rp1 [6,7] (x2 hut hul) ?_;refine Zco (q:=[.agg U,.agg [pI Q.1.1.act,pI Q.1.1.item,pI Q.1.1.n],.fn (.func 125) [] [.ro [pI n],.ro SE]]) [(7,.arr false SE.length [SE]),(5,.arr false 1 [[pI n]])] [(3,.arr false 8 [zU])] 9 (by simp[Vh,zU,hsl]) (by simp) ⟨Vr,Vr,Zs5 (a:=[pI n]) (b:=SE) rfl rfl,trivial⟩ WI ?_;simp only[vmL,Nat.reduceAdd,Nat.reduceLT,zU];exact Tv0
end Go.Proofs.w
