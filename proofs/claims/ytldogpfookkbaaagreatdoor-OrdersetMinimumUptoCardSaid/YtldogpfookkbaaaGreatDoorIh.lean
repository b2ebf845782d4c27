import Derived.Test.YtldogpfookkbaaaGreatDoorF0
set_option linter.all false
set_option maxRecDepth 20000
set_option maxHeartbeats 0
namespace Go.Proofs.w
open Go Go.VM
def Y138:VC:=(ZR [Yw 3 8 0,Yw 4 8 1,Yw 5 28 2,ZO 6 (.alloc ZU),Yv 7 (Yi 0)] (ZR [Ym 19 8 3,Ya 20 3 5,Ym 21 25 20,Yc 22 115 [19,21],ZM 18 22,Yp 23 18 0,Yp 24 18 1,Yp 25 18 2,ZO 8 (.alloc [Yo,Yo,Yo]),ZO 9 (.alloc [Yo]),Ys 3 8 23,Ys 1 9 24,ZM 10 25] (.seq (ZR [ZM 26 10,Yu 27 .neq 26 0] (YC 27 (ZR [Ym 28 8 3,ZM 29 10,Ys 8 6 28,ZM 7 29] .ret) .skip)) (ZR [Ym 31 8 3,Ya 32 0 4,Ym 33 3 32,Yc 34 134 [31,33],ZM 30 34,Yp 35 30 0,Yp 36 30 1,Yp 37 30 2,ZO 11 (.alloc [Yo,Yo,Yo]),Ys 3 11 35,ZM 12 36,ZM 13 37] (ZR [Ym 38 8 3,Ya 39 0 4,Ym 40 3 39,Yc 41 127 [38,40],ZO 14 (.alloc ZU),Ys 8 14 41] (ZR [Ym 43 8 14,Ym 44 3 8,Yc 45 74 [43,44],ZM 42 45,Yp 46 42 0,Yp 47 42 1,ZO 15 (.alloc ZU),Ys 8 15 46,ZM 16 47] (.seq (ZR [Ym 48 8 15,Ym 49 8 4,Yc 50 117 [48,49],ZM 17 50] (ZR [ZM 51 17,Yu 52 .neq 51 0] (YC 52 (ZR [Ym 53 8 3,ZM 54 17,Ys 8 6 53,ZM 7 54] .ret) .skip))) (.seq (ZR [Ym 55 3 8,Ym 56 3 11,ZO 57 (.eqs true [.i,.i,.i] (.t 55) (.t 56)),ZM 58 57,Yb 59 7 15 58 true,Yk 60 59 58 true,Yd 61 60 58 true,ZG 62 (.bin .geq (.t 61) (Yi 64)) 58 true,Yz 63 58 62,ZM 64 63,Yj 65 8 14 64 false,Yj 66 3 8 64 false,Yj 67 8 4 64 false,ZG 68 (.call 118 [.t 65,.t 66,.t 67]) 64 false,Yh 69 64 68] (YC 69 (ZR [Ym 70 8 3,Ys 8 6 70,Yv 7 (Yi 6)] .ret) .skip)) (ZR [Ym 71 8 14,Ym 72 3 8,ZO 73 (.mkfn (.func 136) [] [.t 9,.t 4]),Yc 74 124 [71,72,73],Ys 8 6 74,Yv 7 (Yi 0)] .ret)))))))))
theorem Xeo{N:Nat}{u x:Un}(g:VM.Good N u)(hN:N≤900)(hf:Zbi (idU x) u=(x,true))(hm:x∈unitsT u)(hp:(Zcv (idU x) u).2.2=true){d:EI}(hd:SmD d)(h6:d.it.kind=6)(ho:(Zdw u d.it.at').1=idU x):Tc 98 [.agg u.enc,.agg x.enc,.agg d.enc] (.tup [.agg (Z4s u x d).1.enc,pI (Z4s u x d).2]):=by
 have hu:=g.sm;have hn:(unitsT u).length≤1000:=by have:=g.len;omega
 have hx:=hu.units x hm;have hxn:(unitsT x).length≤1000:=by have:=Zh1 hu x hm;omega
 obtain⟨k,_,hk2,hr,hperm⟩:=Zvy hu g.nd hp;have hrn:(unitsT (Zdx (idU x) u)).length≤1000:=by
  have:=hperm.length_eq;rw[Zx5,Zdg,Zdg,Zdg]at this;omega
 have DS:=Zil hu hn hd.it;have PA:=Zcz hu hn (idU x);have WO:=Zrk hu g.nd hn hp;have FI:=Zdb hr hrn (Zbj u d.it).1.1;have TK:=Zs3 (p:=(Zbi (Zbj u d.it).1.1 (Zdx (idU x) u)).1) (x:=x) (Z0o hr _).1.kids.1;have DP:=Z8f hr hrn hx hxn (Zbj u d.it).1.1;have hfit:=fun h=>Z8i hu g.nd h6 h;rw[ho]at hfit;have WI:=fun(hn':∀v∈unitsT (Zdx (idU x) u),idU v=(Zbj u d.it).1.1→∃n:Nat,(Zbj u d.it).1.2=(n:Int)∧n≤v.kids.length)=>Zi1 (F:=136) (Zfj:=[.ro [pI (Zbj u d.it).1.2],.ro x.enc]) (fun z hz=>by simp only[Zyb,Zya,or_false]at hz;rcases hz with rfl|rfl;exact Zbf (by intro y hy;rw[Zyr]at hy;subst hy;exact cI _);exact Zep _) (f:=Zsm (Zbj u d.it).1.2.toNat x) (x:=(Zbj u d.it).1.1) hr hrn (fun v hv he=>by
  obtain⟨n,n1,n2⟩:=hn' v hv he;rw[n1,Zyk];exact Xei _ n (hr.units v hv).kids.1 n2)
 refine Zac ?_ (Zdd _ _) (Zd0 u x d);unfold Z4s;have hut:=Zaq u;have hul:=Zao u;have hxt:=Zaq x;have hxl:=Zao x;have hrt:=Zaq (Zdx (idU x) u);have hrl:=Zao (Zdx (idU x) u);have hxe:(idU x).enc=[pI x.act,pI x.item,pI x.n]:=rfl;rw[hxe]at PA WO;have hxc:=Un.Zaf x;generalize hRU:Zdx (idU x) u=RU at*;have hpe:=Un.Zaf (Zbi (Zbj u d.it).1.1 RU).1;generalize hT:Zim (Zbi (Zbj u d.it).1.1 RU).1 x=T at*;generalize Zbi (Zbj u d.it).1.1 RU=Pp at*;rw[hpe]at FI TK;generalize Zbj u d.it=Q at*;have hqe:Q.1.1.enc=[pI Q.1.1.act,pI Q.1.1.item,pI Q.1.1.n]:=rfl;rw[hqe]at DS FI DP;generalize Z4q RU Q.1.1 x=DB at*;generalize Zcv (idU x) u=PR at*;have hpre:PR.1.enc=[pI PR.1.act,pI PR.1.item,pI PR.1.n]:=rfl;rw[hpre]at PA;have e0:=Zgu Q.1.1 PR.1;have hie:=It.Zaf d.it;have hde:d.enc=pI d.act::pI d.item::pI d.day::d.it.enc:=rfl;rw[hie]at hde DS;rw[hde];generalize hU:u.enc=U at*;generalize hRE:RU.enc=RE at*;generalize hX:x.enc=X at*;refine Gn (vc:=Y138) [.c 6 true 8,.t 7] Tryz.func98 ?_;simp only[Y138,YY];refine Rp1 [3,4,5,6] (x2 hul hxl) ?_;refine Rp1 [3,4,6,8,9,10] (x2 hut hul) ?_;refine Ap0 DS ?_;refine Zaa ?_;refine Zaa (Zad [3,4,6,8,9,10,27] ?_);by_cases c1:Q.2=0
 case neg=>
  have g1:(Q.2 !=0)=true:=by simpa using c1
  rw[if_neg c1];refine Sp1 g1 ?_;refine Ct ?_;refine Rp1 [6,7] (x3 hut hul @xan) ?_;refine Tp1 (x3 hut hul @xan) ?_;rw[hU];exact Vr
 have g1:(Q.2 !=0)=false:=by simpa using c1
 rw[if_pos c1];obtain⟨_,_,hfy⟩:=hfit c1;refine Sp1 g1 ?_;refine Fp0 ?_
 replace WI:=WI hfy
 have hwe:=Un.Zaf (Zcc Q.1.1 (Zsm Q.1.2.toNat x) RU);rw[hqe]at WI;generalize Zcc Q.1.1 (Zsm Q.1.2.toNat x) RU=R at*;rw[hwe]at WI;refine Zaa (Zad [3,4,6,8,9,11] ?_);rw[hxc]at*;refine Sp1 (x2 hut hul) ?_;refine Ap0 PA ?_;refine Rp1 [3,4,6,8,9,11,14] (x2 hut hul) ?_;refine Ap1 WO hrl ?_;refine Rp1 [3,4,6,8,9,11,14,15] (x3 hrt hrl @xan) ?_;refine Ap0 FI ?_;refine Zaa<|Rp0 [3,4,6,8,9,11,14,15,17] ?_;refine Zag TK ?_;refine Zaa (Zad [3,4,6,8,9,11,14,15,17,52] ?_);by_cases c2:T=0
 case neg=>
  have g2:(T !=0)=true:=by simpa using c2
  rw[if_neg c2];refine Sp1 g2 ?_;refine Ct ?_;refine Rp1 [6,7] (x3 hut hul @xan) ?_;refine Tp1 (x3 hut hul @xan) ?_;rw[hU];exact Vr
 have g2:(T !=0)=false:=by simpa using c2
 rw[if_pos c2];refine Sp1 g2 ?_;refine Fp0 ?_;refine Zaa ?_;refine Zaa (Zad [3,4,6,8,9,14,69] ?_);have hkl:(Pp.1.kids.map Un.enc).length=Pp.1.kids.length:=Zyc _;have e64:decide ((64:Int)≤(Pp.1.kids.length:Int))=decide (64≤Pp.1.kids.length):=decide_eq_decide.2 (by omega);have e1:((Q.1.1.act==PR.1.act&&(Q.1.1.item==PR.1.item&&(Q.1.1.n==PR.1.n&&true))) !=true)= !decide (Q.1.1=PR.1):=by rw[←e0];cases(Q.1.1.act==PR.1.act&&(Q.1.1.item==PR.1.item&&(Q.1.1.n==PR.1.n&&true)))<;>rfl
 by_cases c3:Q.1.1=PR.1
 ·rw[Zyf c3,show(!true)=false from rfl]at e1;refine Sp1 (x4 e1 hrt hrl @xan) ?_;refine Zag DP ?_;cases DB with
  |true=>
   rw[if_pos (.inr rfl)];refine Ct ?_;refine Rp1 [6,7] (x3 hut hul @xan) ?_;refine Tp1 (x3 hut hul @xan) ?_;rw[hU];exact Vr
  |false=>
   rw[if_neg (fun h=>h.elim (fun h=>h.1 c3) (fun h=>by cases h))];try simp only[]
   rw[hwe];refine Fp0 ?_;refine Rp1 [6,7] (x2 hrt hrl) ?_;refine Zco (q:=[.agg RE,.agg [pI Q.1.1.act,pI Q.1.1.item,pI Q.1.1.n],.fn (.func 136) [] [.ro [pI Q.1.2],.ro [pI x.act,pI x.item,pI x.n,pI x.kind,.str x.label,.sl 4 (x.head.map Wd.enc),.sl 4 (x.words.map Wd.enc),.sl 8 (x.kids.map Un.enc)]]]) [(5,.arr false 1 [[pI Q.1.2]]),(1,.arr false 8 [[pI x.act,pI x.item,pI x.n,pI x.kind,.str x.label,.sl 4 (x.head.map Wd.enc),.sl 4 (x.words.map Wd.enc),.sl 8 (x.kids.map Un.enc)]])] [(3,.arr false 8 [zU])] 30 (by simp[Vh,zU]) (by simp) ⟨Vr,Vr,Zs5 (a:=[pI Q.1.2]) rfl rfl,trivial⟩ WI ?_;simp only[vmL,Nat.reduceAdd,Nat.reduceLT,zU];exact Tv0
 ·rw[Zyg c3,show(!false)=true from rfl]at e1;cases k1:decide (64≤Pp.1.kids.length)with
  |true=>
   rw[k1]at e64;rw[if_pos (.inl ⟨c3,of_decide_eq_true k1⟩)];refine Sp1 (x3 e1 hkl e64) ?_;refine Ct ?_;refine Rp1 [6,7] (x3 hut hul @xan) ?_;refine Tp1 (x3 hut hul @xan) ?_;rw[hU];exact Vr
  | false=>
   rw[k1]at e64;simp only[vmL,Nat.reduceEqDiff,Nat.reduceAdd,Nat.reduceLT,reduceCtorEq,e1,hkl,e64,hrt,hrl,Zyj];refine Zag DP ?_;cases DB with
   |true=>
    rw[if_pos (.inr rfl)];refine Ct ?_;refine Rp1 [6,7] (x3 hut hul @xan) ?_;refine Tp1 (x3 hut hul @xan) ?_;rw[hU];exact Vr
   |false=>
    rw[if_neg (fun h=>h.elim (fun h=>of_decide_eq_false k1 h.2) (fun h=>by cases h))];try simp only[]
    rw[hwe];refine Fp0 ?_;refine Rp1 [6,7] (x2 hrt hrl) ?_;refine Zco (q:=[.agg RE,.agg [pI Q.1.1.act,pI Q.1.1.item,pI Q.1.1.n],.fn (.func 136) [] [.ro [pI Q.1.2],.ro [pI x.act,pI x.item,pI x.n,pI x.kind,.str x.label,.sl 4 (x.head.map Wd.enc),.sl 4 (x.words.map Wd.enc),.sl 8 (x.kids.map Un.enc)]]]) [(5,.arr false 1 [[pI Q.1.2]]),(1,.arr false 8 [[pI x.act,pI x.item,pI x.n,pI x.kind,.str x.label,.sl 4 (x.head.map Wd.enc),.sl 4 (x.words.map Wd.enc),.sl 8 (x.kids.map Un.enc)]])] [(3,.arr false 8 [zU])] 30 (by simp[Vh,zU]) (by simp) ⟨Vr,Vr,Zs5 (a:=[pI Q.1.2]) rfl rfl,trivial⟩ WI ?_;simp only[vmL,Nat.reduceAdd,Nat.reduceLT,zU];exact Tv0
def Y139:VC:=(ZR [Yw 2 8 0,ZO 4 (.mv (.c (.str [])))] (.seq (ZR [Ym 6 8 2,ZM 7 1,Yc 8 260 [6,7],Yn 9 8] (YC 9 (ZR [ZO 4 (.mv (.c (.str [])))] .ret) .skip)) (.seq (.region [ZM 10 1,ZO 11 (.call 261 [(.c (.str [32,32])),.t 10]),Ya 12 3 2,Yl 13 12,Yc 14 262 [13],Yr 15 .add 11 14,ZM 5 15] true) (.seq (ZR [Ya 16 3 2,Yl 17 16,Yu 18 .neq 17 0] (YC 18 (.region [ZM 19 5,Ya 20 4 2,Yl 21 20,ZO 22 (.bin .add (.c (.str [32])) (.t 21)),Yr 23 .add 19 22,ZM 5 23] false) .skip)) (.seq (ZR [Ya 24 5 2,Yl 25 24,Ye 26 25,Yu 27 .gtr 26 0] (YC 27 (.region [ZM 28 5,ZO 29 (.bin .add (.t 28) (.c (.str [58]))),Ya 30 5 2,Yl 31 30,Yc 32 263 [29,31],ZM 5 32] false) .skip)) (.seq (ZR [Ya 33 6 2,Yl 34 33,Ye 35 34,Yu 36 .gtr 35 0] (YC 36 (.region [ZM 37 5,ZO 38 (.bin .add (.t 37) (.c (.str [32,124]))),Ya 39 6 2,Yl 40 39,Yc 41 263 [38,40],ZM 5 41] false) .skip)) (ZR [ZM 42 5,ZM 4 42] .ret)))))))
theorem Ztd{u:Un}(h:SmU u)(d:Nat)(hd:d≤100000):Tc 246 [.agg u.enc,pI d] (.str (Z0k u d)):=by
 have M:=Z8s h d hd;have K:=Zn3 u.kind;have hn:=Zv5 u.kind;have hl:=h.label;have hh:=h.head;have hw:=h.words;have hhl:(u.head.map Wd.enc).length=u.head.length:=Zyc _;have hwl:(u.words.map Wd.enc).length=u.words.length:=Zyc _;have p1:=fun line=>Znd line h.head.2;have SW:=Z4z (u:=u) (d:=d);refine Zac ?_ (cS _) (CL2 (Zak u) (cI _));unfold Z0k;rw[Un.Zaf u]at M⊢;refine Gn (vc:=Y139) [.t 4] Tryz.func246 ?_;simp only[Y139,YY];refine Rp0 [1,2] ?_;refine Zaa<|Rp0 [1,2,9] ?_;refine Ap0 M ?_;cases hm:Xcz u d with
 |false=>
  refine Ct ?_;exact Rv0 [4]
 |true=>
 have hd8:d≤8:=by unfold Xcz at hm;rw[Zx4,Zx3]at hm;exact hm.1
 obtain⟨sw1,sw2⟩:=SW hm;have R:=Zlv [32,32] d (by omega) (by decide);have hr:=Z2j d;have P1:=fun(line:Str) hl=>Zv7 line u.head hh.1 (fun x hx=>⟨sw1 x hx,hh.2 x hx⟩) hl;have P2:=fun(line:Str) hl=>Zv7 line u.words hw.1 (fun x hx=>⟨sw2 x hx,hw.2 x hx⟩) hl;clear M SW;simp only[if_true];generalize(Lib.repeatL [32,32] d:Str)=RX at*;generalize Zgh u.kind=KN at*;refine Fp0 ?_;refine Zaa (Zaw [2,5] (by simp[Vh]) ?_);refine Sp0 ?_;refine⟨_,.inl R,?_⟩
 skip
 refine⟨_,.inl K,?_⟩;refine Sp0 ?_;refine⟨by omega,?_⟩;have ha:(RX++KN).length≤36:=by rw[Zx5];omega
 refine Zaa ?_;have hb:(if u.kind≠0 then(RX++KN)++32::u.label else RX++KN).length≤67:=by
  split
  ·rw[Zx5,Zyd];omega
  ·omega
 generalize hbe:(if u.kind≠0 then(RX++KN)++32::u.label else RX++KN)=b at*;refine Zfa (σ:=Unit) (fun _=>([(2,.loc 0 0 0),(5,.str b)],⟨[(0,.arr false 8 [[pI u.act,pI u.item,pI u.n,pI u.kind,.str u.label,.sl 4 (u.head.map Wd.enc),.sl 4 (u.words.map Wd.enc),.sl 8 (u.kids.map Un.enc)]])],1⟩)) ?_ (fun _=>?_)
 ·refine Rp0 [2,5,18] ?_;by_cases hk:u.kind=0
  ·have g:(u.kind !=0)=false:=by simpa using hk
   rw[if_neg (fun h=>h hk)]at hbe;rw[g,←hbe];refine Fp0 ?_;exact⟨(),trivial⟩
  ·have g:(u.kind !=0)=true:=by simpa using hk
   rw[if_pos hk]at hbe;rw[g,←hbe];refine Ct ?_;refine rp0 [2,5] ?_;exact⟨by omega,by omega,(),trivial⟩
 simp only[];clear ha hbe;refine Zaa ?_;have hc:(if u.head≠[]then Z0j (b++[58]) u.head else b).length≤68+102*300:=by
  split
  ·have:=p1 (b++[58]);rw[Zx5,List.length_singleton]at this;omega
  ·omega
 generalize hce:(if u.head≠[]then Z0j (b++[58]) u.head else b)=c at*;refine Zfa (σ:=Unit) (fun _=>([(2,.loc 0 0 0),(5,.str c)],⟨[(0,.arr false 8 [[pI u.act,pI u.item,pI u.n,pI u.kind,.str u.label,.sl 4 (u.head.map Wd.enc),.sl 4 (u.words.map Wd.enc),.sl 8 (u.kids.map Un.enc)]])],1⟩)) ?_ (fun _=>?_)
 ·refine Rp1 [2,5,27] hhl ?_;by_cases hk:u.head=[]
  ·have g:decide ((0:Int)<(u.head.length:Int))=false:=Zyg (by rw[hk];decide);rw[if_neg (fun h=>h hk)]at hce;rw[g,←hce];refine Fp0 ?_;exact⟨(),trivial⟩
  ·have g:decide ((0:Int)<(u.head.length:Int))=true:=Zyf (by have:=List.length_pos_iff.2 hk;omega);rw[if_pos hk]at hce;rw[g,←hce];refine Ct ?_;refine rp0 [2,5] ?_;refine⟨by omega,?_⟩;refine Ap0 (P1 (b++[58]) (by rw[Zx5,List.length_singleton];omega)) ?_;exact⟨(),trivial⟩
 simp only[];clear hce;refine Zaa<|Rp1 [2,5,36] hwl ?_;by_cases hk:u.words=[]
 ·have g:decide ((0:Int)<(u.words.length:Int))=false:=Zyg (by rw[hk];decide);rw[if_neg (fun h=>h hk),g];refine Fp0 ?_;exact Rv0 [4]
 ·have g:decide ((0:Int)<(u.words.length:Int))=true:=Zyf (by have:=List.length_pos_iff.2 hk;omega);rw[if_pos hk,g];refine Ct ?_;refine rp0 [5] ?_;refine⟨by omega,?_⟩;refine Zag (P2 (c++[32,124]) (by rw[Zx5];simp only[Zyd,Zyn];omega)) ?_;exact Rv0 [4]
end Go.Proofs.w
namespace Go.VM
open Go
theorem Xbo(x y:Str)(r:List Str)(sep:Str):Lib.join (x::y::r) sep=x++sep++Lib.join (y::r) sep:=by
 simp[Lib.join,List.intercalate]
theorem Z2l:∀(l:List Str) (c:UInt8) (B:Nat),(∀s∈l,s.length≤B)→(Lib.join l [c]).length≤l.length*(B+1)
 | [],_,_,_=>by simp[Lib.join,List.intercalate]
 | [x],c,B,h=>by rw[Lib.join_one];have:=h x List.mem_cons_self;simp;omega
 |x::y::r,c,B,h=>by
  rw[Xbo];have h1:=h x List.mem_cons_self;have h2:=Z2l (y::r) c B fun s hs=>h s (Zx7 _ hs);simp only[Zx5,Zyd,Zyn]at h2⊢;have e:(r.length+1+1)*(B+1)=(r.length+1)*(B+1)+(B+1):=by rw[Nat.add_mul (r.length+1) 1];omega
  omega
end Go.VM
namespace Go.Proofs.w
open Go Go.VM
theorem Xbp:Ztr Tryz.prog 219=true:=by kernel_rfl
theorem Z8u(a:Option Addr)(cap:Nat)(sep:Str)(w:World):Calls Tryz.prog 219 #[.slice a 0 cap,.string ⟨sep.toArray⟩] w fun e w'=>∃v,e=.returned v∧(∀g,Rep g v (.str (Lib.join [] sep)))∧RowKit.Below w.heap.size w w':=by
 refine(Tryz.strings_Join_none a cap _ w).mono ?_;rintro e w' ⟨rfl,rfl⟩;exact⟨_,rfl,fun g=>.str _ _ (by simp[Lib.join,List.intercalate]),RowKit.Below.refl _ _⟩
theorem Z8v(l:List Str)(sep:Str)(hl:l.length≤1000000)(hlen:(Lib.join l sep).length≤140737488355328)(b o cap:Nat)(w:World)(hc:l.length≤cap)(hb:b<w.heap.size)
    (hcells:∀(j:Nat) (x:ByteArray),(l.map fun s=>(⟨s.toArray⟩:ByteArray))[j]?=some x→w.cell? ⟨b,o+j,none⟩=some (.string x)):
    Calls Tryz.prog 219 #[.slice (some ⟨b,o,none⟩) (l.map fun s=>(⟨s.toArray⟩:ByteArray)).length cap,.string ⟨sep.toArray⟩] w fun e w'=>∃v,e=.returned v∧(∀g,Rep g v (.str (Lib.join l sep)))∧RowKit.Below w.heap.size w w':=by
  have e2:((l.map fun s=>(⟨s.toArray⟩:ByteArray)).map (·.data.toList))=l:=by rw[List.map_map];simp[Function.comp_def]
  generalize(l.map fun s=>(⟨s.toArray⟩:ByteArray))=xs at hcells e2⊢;have hx:xs.length=l.length:=by rw[←e2];simp
  have hj:Lib.join (xs.map (·.data.toList)) (ByteArray.mk sep.toArray).data.toList=Lib.join l sep:=by rw[e2]
  refine(Tryz.strings_Join b o cap xs ⟨sep.toArray⟩ w hcells hb (by omega) (by omega) (by rw[hj];exact hlen)).mono ?_;rintro e w' ⟨rfl,hw⟩;exact⟨_,rfl,fun g=>.str _ _ (by rw[hj]),hw⟩
theorem Zo8(l:List Str)(sep:Str)(hl:l.length≤1000000)(hlen:(Lib.join l sep).length≤140737488355328):Tc 219 [It.strs l,.str sep] (.str (Lib.join l sep)):=by
 refine Zju Xbp (by intro x hx;simp only[Zyb,Zya,or_false]at hx;rcases hx with rfl|rfl;exact Zb0 _;exact cS _) ?_;intro g w vals r ha;obtain⟨v,u,rfl,hv,hu⟩:=Zuf ha;obtain⟨s,rfl,hs⟩:=hu.str_inv;rw[Znx hs];rcases Z3b r hv with⟨a,cap,rfl,rfl⟩|⟨b,o,cap,rfl,hc,hb,hcells⟩
 ·exact Z8u a cap sep w
 ·exact Z8v l sep hl hlen b o cap w hc hb hcells
def Y140:VC:=(ZR [Yw 4 8 0] (.seq (.draw2 [Yl 8 2,Ym 9 8 4,ZM 10 1,Yc 11 246 [9,10],ZO 12 (.bslice 1 1 [(.str [])] [(0,(.t 11))]),ZO 13 (.app 1 16 [(.str [])] false (.t 8) (.t 12)),Ys 1 2 13] [true,true,true,true,true,false,false]) (ZR [Ya 14 7 4,Yl 15 14,Ye 16 15,Yv 17 (Yi 0)] (.block 0 (.loop (ZR [Yr 18 .lss 17 16] (.seq (YC 18 .skip (.exit 0)) (.seq (.block 1 (ZR [Yx 19 8 15 17,Ym 20 8 19,ZO 7 (.alloc ZU),Ys 8 7 20] (.region [Yl 21 3,Ym 22 8 7,ZM 23 1,Yu 24 .add 23 1,ZO 25 (.callv (.t 21) [.t 22,.t 24])] false))) (.region [Yu 26 .add 17 1,ZM 17 26] false)))))))))
def Y141:VC:=(ZR [Yw 1 8 0,ZO 2 (.mv (.c .nilsl))] (.seq (ZR [Ym 5 8 1,Yc 6 244 [5],Yc 7 220 [6],Yn 8 7] (YC 8 (ZR [ZO 2 (.mv (.c .nilsl))] .ret) .skip)) (ZR [ZO 3 (.alloc [.nilsl])] (ZR [ZO 4 (.alloc [.nilfn])] (ZR [ZO 9 (.mkfn (.func 245) [] [.t 3,.t 4]),Ys 1 4 9] (ZR [Yl 10 4,Ym 11 8 1,ZO 12 (.callv (.t 10) [.t 11,(Yi 0)])] (ZR [Yl 13 3,ZM 2 13] .ret)))))))
def Y142:VC:=(ZR [Yw 1 8 0,ZO 2 (.mv (.c (.str []))),Yv 3 (Yi 0)] (ZR [Ym 6 8 1,Yc 7 218 [6],ZM 4 7] (.seq (ZR [ZM 8 4,Ye 9 8,Yu 10 .eql 9 0] (YC 10 (ZR [ZO 2 (.mv (.c (.str []))),Yv 3 (Yi 1)] .ret) .skip)) (ZR [ZM 11 4,ZO 12 (.call 219 [.t 11,(.c (.str [10]))]),ZO 13 (.bin .add (.t 12) (.c (.str [10]))),ZM 5 13] (.seq (ZR [ZM 14 5,ZO 15 (.len true (.t 14)),Yu 16 .gtr 15 16384] (YC 16 (ZR [ZO 2 (.mv (.c (.str []))),Yv 3 (Yi 6)] .ret) .skip)) (ZR [ZM 17 5,ZM 2 17,Yv 3 (Yi 0)] .ret))))))
def clD:PV:=.fn (.func 245) [] [.loc 1 0 0,.loc 2 0 0]
def lhD(A:List Str)(id t:Nat):Heap:=⟨[(id,.arr false 1 (A.map fun s=>[PV.str s])),(2,.arr false 1 [[clD]]),(1,.arr false 1 [[.own id 0 A.length]])],t⟩
theorem Zv8{u:Un}(hu:SmT u):∀(d:Nat) (A:List Str) (id t:Nat),2<id→id<t→d+(unitsT u).length≤100000→A.length+(unitsT u).length≤10000000→
  Zam Tryz.prog 245 [.agg u.enc,pI d,.loc 1 0 0,.loc 2 0 0] (lhD A id t) (fun _ h'=>∃id' t',t≤t'∧2<id'∧id'<t'∧h'=lhD (A++linesD d u) id' t'):=by
 induction hu with
 | mk u h hk hs ih=>
  intro d A id t h3 hid hdn hle;have FL:=Ztd h d (by omega);rw[Zkl];generalize Z0k u d=LV at*;refine Zam.drop ?_;refine Gn (vc:=Y140) [] Tryz.func245 ?_;simp only[Y140,YY];rw[Un.Zaf]at FL⊢;have qq:=N6 0 1 2 id t (t+1);have hale:(A.map fun s=>[PV.str s]).length=A.length:=Zyc _;have hatk:List.take A.length (A.map fun s=>[PV.str s])=A.map fun s=>[PV.str s]:=Zyi (by omega);refine Zaa (Zad [1,2,3,4] ?_);simp only[vmL,Nat.reduceEqDiff,Nat.reduceAdd,reduceCtorEq,lhD,qq];refine Zaa (Zny (t+10) [1,3,4] ?_ ?_)
  ·exact Fn1 qq
  simp only[vmL,Nat.reduceEqDiff,Nat.reduceAdd,Nat.reduceLT,Nat.reduceLeDiff,reduceCtorEq,Ziw,VOp.writes,false_implies,implies_true,qq];refine⟨_,.inl FL,?_⟩;simp only[vmL,Ziw,VOp.writes,false_implies,implies_true,hale,hatk,qq];refine⟨by omega,by omega,by omega,by omega,?_⟩;refine Rp1 [1,3,15,16,17] (x2 @xlm qq) ?_;have hB:∃B,B=A++[LV]:=⟨_,rfl⟩;obtain⟨B,hB⟩:=hB;have hBl:B.length=A.length+1:=by rw[hB];simp
  have hBm:(A.map fun s=>[PV.str s])++[[PV.str LV]]=B.map fun s=>[PV.str s]:=by rw[hB];simp
  have hBA:A++LV::linesK (d+1) u.kids=B++linesK (d+1) u.kids:=by rw[hB];simp
  rw[hBm,hBA,←hBl];have hid1:2<t+1:=by omega
  rw[Zap,Zyd]at hdn hle;have hle':B.length+(unitsL u.kids).length≤10000000:=by omega
  clear hB hBm hBA hale hatk FL;generalize u.kids=KL at*;refine Zab ?_;refine Zai (σ:={ x:Nat×Nat×Nat//x.1≤KL.length∧t≤x.2.2∧2<x.2.1∧x.2.1<x.2.2 }) (fun x=>([(1,pI d),(3,.loc 2 0 0),(15,.sl 8 (KL.map Un.enc)),(16,pI KL.length),(17,pI x.1.1)],lhD (B++linesK (d+1) (KL.take x.1.1)) x.1.2.1 x.1.2.2)) (fun x=>KL.length-x.1.1) ⟨(0,t+1,t+2),Zyw _,by show t≤t+2;omega,hid1,Nat.lt_succ_self _⟩ ?_ ?_ ?_
  ·exact Sr0
  ·have e0:B++linesK (d+1) (KL.take 0)=B:=by simp[linesK]
   show Heap.le (lhD (B++linesK (d+1) (KL.take 0)) (t+1) (t+2)) _;rw[e0];simp only[vmL,Nat.reduceEqDiff,lhD,Heap.le,HL.le,Heap.get,HL.get,qq]
   try trivial
  rintro⟨⟨k,id1,t1⟩,hkk,ht1,h31,hid1⟩;simp only[]at hkk ht1 h31 hid1⊢;clear hid h3;have qq:=N6 0 1 2 id1 t1 (t1+1);refine Zaa (Zad [1,3,15,16,17,18] ?_);simp only[vmL,Nat.reduceEqDiff,lhD,qq];refine Zaa<|Zae rfl (fun h1=>?_) (fun h1=>?_)
  ·have ka:k<KL.length:=by have h1:=oT h1;omega
   have hst:=Z0l (d+1) ka;have hu1:=Zey KL (k+1);have hrow:(KL.map Un.enc).getD k []=KL[k].enc:=Zcs ka;have R:=ih _ (Zyl ka);rw[Zex ka,Zx5]at hu1;have hlk:(linesK (d+1) (KL.take k)).length=(unitsL (KL.take k)).length:=by
    have key:∀L:List Un,(∀y∈L,SmT y)→(linesK (d+1) L).length=(unitsL L).length:=by
     intro L
     induction L with
     |nil=>intro _;rfl
     |cons y r ihr=>intro hy;rw[linesK,unitsL,Zx5,Zx5,Zrn (hy y List.mem_cons_self),ihr fun z hz=>hy z (Zx7 _ hz)]
    exact key _ fun y hy=>hs y (List.mem_of_mem_take hy)
   generalize KL[k]=v at*;rw[Un.Zaf v]at hrow R;have hCl:(B++linesK (d+1) (KL.take k)).length=B.length+(unitsL (KL.take k)).length:=by rw[Zx5,hlk]
   have hst':B++linesK (d+1) (KL.take (k+1))=(B++linesK (d+1) (KL.take k))++linesD (d+1) v:=by rw[hst,List.append_assoc]
   generalize B++linesK (d+1) (KL.take k)=C at*;have R':=R (d+1) C id1 (t1+1) h31 (by omega) (by omega) (by omega);refine Kp0 ?_;refine Zaa<|Zab ?_;refine Rp1 [1,3,7,15,16,17] (x3 @xlm hrow qq) ?_;refine Ok ?_;refine rp1 [1,3,15,16,17] (x2 (ad1 (a:=d) (by omega)) qq) ?_;refine(Zam.weakenL (h0:=lhD C id1 (t1+1)) ?_ (Zam.mono R' ?_):Zam Tryz.prog 245 [_,_,.loc 1 0 0,.loc 2 0 0] _ _)
   ·simp only[vmL,Nat.reduceEqDiff,lhD,Heap.le,HL.le,Heap.get,HL.get,qq]
    try trivial
   rintro _ _ ⟨id2,t2,ht2,h32,hid2,rfl⟩
   skip
   refine rp1 [1,3,15,16,17] (x2 (ad1 (a:=k) (by omega)) qq) ?_;refine⟨⟨(k+1,id2,t2),ka,by show t≤t2;omega,h32,hid2⟩,?_⟩;simp only[hst'];have qq:=N4 0 1 2 id2;try simp only[vmL,Nat.reduceEqDiff,lhD,qq]
   all_goals (repeat' (first|rfl|trivial|omega|(simp only[];omega)|refine And.intro ?_ ?_))
  ·have ka:k=KL.length:=by have h1:=oF h1;omega
   subst ka;rw[List.take_length];refine Ep0 ?_;refine⟨_,⟨Nat.le_refl _,?_⟩,id1,t1,ht1,h31,hid1,rfl⟩;exact Sc1 qq
theorem Z41{u:Un}(hu:SmT u)(hn:(unitsT u).length≤1000):Tc 218 [.agg u.enc] (It.strs (if Zeg (strpU u)=true then linesD 0 u else[])):=by
 have S:=Z12 hu;have hs2:=Ztc hu;have V:=Zgo hs2.1 (by rw[hs2.2];exact hn);have L1:=Zv8 hu 0 [] 3 4 (by omega) (by omega) (by omega) (by simp only[Zyn];omega);refine Zac ?_ (Zb0 _) (by intro y hy;rw[Zyr]at hy;subst hy;exact Zak u);refine Gn (vc:=Y141) [.t 2] Tryz.func218 ?_;simp only[Y141,YY];unfold It.strs;rw[List.nil_append]at L1;have hut:=Zaq u;have hul:=Zao u;have hst:=Zaq (strpU u);generalize(strpU u).enc=SE at*;generalize u.enc=U at*;generalize linesD 0 u=R at*;refine Rp1 [1,2] hul ?_;refine Zaa<|Rp1 [1,2,8] (x2 hut hul) ?_;refine Zag S ?_;refine Ap0 V ?_;cases Zeg (strpU u)with
 |false=>
  refine Ct ?_;refine Rp0 [2] ?_;refine Tp0 ?_;exact View.nil _ _
 |true=>
  refine Fp0 ?_;refine Rp0 [1,3] ?_;refine Rp0 [1,3,4] ?_;refine Rp0 [1,3,4] ?_;refine Z1j 1 1 rfl ?_;refine Sp0 ?_;refine Rp1 [3] (x2 hut hul) ?_;refine(Zam.weakenL (h0:=lhD [] 3 4) ?_ (Zam.mono L1 ?_):Zam Tryz.prog 245 [_,_,.loc 1 0 0,.loc 2 0 0] _ _)
  ·simp only[vmL,Nat.reduceEqDiff,reduceCtorEq,lhD,clD,Heap.le,HL.le,Heap.get,HL.get]
  rintro _ _ ⟨id2,t2,ht2,h32,hid2,rfl⟩;have qq:=N3 1 2 id2
  skip
  refine Zaa (Zad [2] ?_);simp only[vmL,Nat.reduceEqDiff,Nat.reduceLT,lhD,qq];refine Tp0 ?_;exact View.own_all (fz:=false) (by simp[Vh,qq]) (by simp)
theorem Z0q{u:Un}(hu:SmT u)(hn:(unitsT u).length≤1000):Tc 193 [.agg u.enc] (.tup [.str (Z0m u),pI (Zs9 u)]):=by
 have L:=Z41 hu hn;have hll:(linesD 0 u).length≤1000:=by rw[Zrn hu];exact hn
 have hjl:=Z2l (linesD 0 u) 10 100000 (Z4y hu 0);have hjb:(linesD 0 u).length*(100000+1)≤1000*100001:=Nat.mul_le_mul_right _ hll;have J:=Zo8 (linesD 0 u) [10] (by omega) (by omega);have hne:linesD 0 u≠[]:=by rw[Zkl];simp
 refine Zac ?_ (Zbb (by simp only[Zyb,Zya,or_false,Zyv,forall_eq];exact⟨cS _,cI _⟩)) (by intro y hy;rw[Zyr]at hy;subst hy;exact Zak u);refine Gn (vc:=Y142) [.t 2,.t 3] Tryz.func193 ?_;simp only[Y142,YY];unfold Z0m Zs9;unfold It.strs at J L;have hut:=Zaq u;have hul:=Zao u;generalize u.enc=U at*;generalize hRR:linesD 0 u=R at*;have hRl:(R.map fun s=>[PV.str s]).length=R.length:=Zyc _;have hR0:0<R.length:=List.length_pos_iff.2 hne;refine Rp1 [1] hul ?_;refine Rp1 [4] (x2 hut hul) ?_;refine Zag L ?_;refine Zaa ?_;refine Zaa (Zad [4,10] ?_);cases Zeg (strpU u)with
 |false=>
  refine Sp0 ?_;refine Ct ?_;exact Rv0 [2,3]
 |true=>
  have g0:((R.length:Int)==0)=false:=by rw[beq_eq_false_iff_ne];omega
  simp only[vmL,Nat.reduceEqDiff,hRl,g0];refine Fp0 ?_;refine Rp0 [5] ?_;refine Ap0 J ?_;refine⟨by omega,?_⟩;have hTl:(Lib.join R [10]++[10]).length=(Lib.join R [10]).length+1:=by rw[Zx5];rfl
  have hlim:(Lib.join R [10]++[10]).length≤200000000:=by omega
  generalize Lib.join R [10]++[10]=T at*;refine Zaa<|Rp0 [5,16] ?_;by_cases hc:T.length≤16384
  ·have g:decide ((16384:Int)<(T.length:Int))=false:=Vf;rw[if_pos hc,if_pos hc,g];refine Fp0 ?_;exact Rv0 [2,3]
  ·have g:decide ((16384:Int)<(T.length:Int))=true:=Vt;rw[if_neg hc,if_neg hc,g];refine Ct ?_;exact Rv0 [2,3]
def Y143:VC:=(ZR [Yw 1 4 0,Yv 2 Yf] (ZR [Ya 3 1 1,Ym 4 3 3,ZO 5 (.build [Yo,Yo,Yo] []),ZO 6 (.eqs true [.i,.i,.i] (.t 4) (.t 5)),ZM 2 6] .ret))
def Y144:VC:=(ZR [Yw 1 8 0,Yv 2 Yf] (ZR [ZO 3 (.mv (.c (.fn (.func 222) [] [])))] (ZR [Ya 4 0 1,Ym 5 3 4,ZO 6 (.build [Yo,Yo,Yo] []),ZO 7 (.eqs false [.i,.i,.i] (.t 5) (.t 6)),ZM 8 7,Yb 9 5 1 8 true,Yk 10 9 8 true,Yg 11 3 8 true,ZG 12 (.call 223 [.t 10,.t 11]) 8 true,Yq 13 12 8 true,Yz 14 8 13,ZM 15 14,Yb 16 6 1 15 true,Yk 17 16 15 true,Yg 18 3 15 true,ZG 19 (.call 223 [.t 17,.t 18]) 15 true,Yq 20 19 15 true,Yz 21 15 20,ZM 2 21] .ret)))
def Y145:VC:=(ZR [Yw 1 8 0,Yv 2 Yf] (ZR [Ym 3 8 1,Yc 4 220 [3],ZM 5 4,Yj 6 8 1 5 true,ZG 7 (.call 180 [.t 6,(.c (.fn (.func 221) [] []))]) 5 true,Yz 8 5 7,ZM 2 8] .ret))
def Y146:VC:=(ZR [Yw 1 8 0,Yv 2 Yf] (ZR [Ym 6 8 1,Yc 7 193 [6],ZM 5 7,Yp 8 5 0,Yp 9 5 1,ZM 3 8,ZM 4 9] (ZR [Ym 10 8 1,Yc 11 194 [10],ZM 12 11,Yb 13 3 1 12 true,Yk 14 13 12 true,ZG 15 (.bin .neq (.t 14) (Yi 0)) 12 true,Yz 16 12 15,ZM 17 16,Yg 18 4 17 true,ZG 19 (.bin .eql (.t 18) (Yi 0)) 17 true,Yz 20 17 19,ZM 2 20] .ret)))
theorem mark_eq(w:Wd):((w.act==0&&(w.item==0&&(w.at'==0&&true))) !=true)=Zv6 w:=by
 unfold Zv6;by_cases h1:w.act=0
 ·by_cases h2:w.item=0
  ·by_cases h3:w.at'=0
   ·simp[h1,h2,h3]
   ·simp[h1,h2,h3]
  ·simp[h1,h2]
 ·simp[h1]
theorem Zkm(w:Wd):Tc 222 [.agg w.enc] (.bool (Zv6 w)):=by
 rw[←mark_eq];refine Zac ?_ (cB _) (by intro y hy;rw[Zyr]at hy;subst hy;exact Zah (Wd.closed w));have hwe:w.enc=[.str w.text,pI w.act,pI w.item,pI w.at']:=rfl;rw[hwe];refine Gn (vc:=Y143) [.t 2] Tryz.func222 ?_;simp only[Y143,YY];refine Rp0 [1] ?_;exact Rv0 [2]
theorem Z0r{x:Un}(h:SmU x):Tc 221 [.agg x.enc] (.bool (Z2k x)):=by
 have C1:=Zee x.head 222 [] Zv6 (by have:=h.head.1;omega) (by intro y hy;cases hy) (fun w _=>Zkm w);have C2:=Zee x.words 222 [] Zv6 (by have:=h.words.1;omega) (by intro y hy;cases hy) (fun w _=>Zkm w);refine Zac ?_ (cB _) (by intro y hy;rw[Zyr]at hy;subst hy;exact Zak x);have e0:=Zgu (idU x) idZ;have hid:(idU x).act=x.act∧(idU x).item=x.item∧(idU x).n=x.n∧idZ.act=0∧idZ.item=0∧idZ.n=0:=⟨rfl,rfl,rfl,rfl,rfl,rfl⟩;rw[hid.1,hid.2.1,hid.2.2.1,hid.2.2.2.1,hid.2.2.2.2.1,hid.2.2.2.2.2]at e0;unfold Z2k;rw[Un.Zaf x];refine Gn (vc:=Y144) [.t 2] Tryz.func221 ?_;simp only[Y144,YY];refine Rp0 [1] ?_;refine Rp0 [1,3] ?_;refine Zaa (Zad [2] ?_);cases h0:decide (idU x=idZ)with
 |false=>
  rw[h0]at e0;refine Sp1 e0 ?_;exact Tv0
 | true=>
  rw[h0]at e0;refine Sp1 e0 ?_;refine Ap0 C1 ?_;cases x.head.any Zv6 with
  |true=>
   refine Sp0 ?_;exact Tv0
  |false=>
   refine Sp0 ?_;refine Ap0 C2 ?_;exact Tv0
theorem Z8w{u:Un}(hu:SmT u)(hn:(unitsT u).length≤1000):Tc 194 [.agg u.enc] (.bool (Xbn u)):=by
 have V:=Zgo hu hn;have E:=Zj8 (f:=221) (p:=Z2k) hu (fun x hx=>Z0r (hu.units x hx).u);refine Zac ?_ (cB _) (by intro y hy;rw[Zyr]at hy;subst hy;exact Zak u);unfold Xbn;have hut:=Zaq u;have hul:=Zao u;generalize u.enc=U at*;refine Gn (vc:=Y145) [.t 2] Tryz.func194 ?_;simp only[Y145,YY];refine Rp1 [1] hul ?_;refine Rp1 [2] (x2 hut hul) ?_;refine Zag V ?_;cases Zeg u with
 |false=>
  refine Sp0 ?_;exact Tv0
 |true=>
  refine Sp1 (x2 hut hul) ?_;refine Zag E ?_;exact Tv0
theorem Z8x{u:Un}(hu:SmT u)(hn:(unitsT u).length≤1000):Tc 140 [.agg u.enc] (.bool (Zta u)):=by
 have F:=Z0q hu hn;have B:=Z8w hu hn;refine Zac ?_ (cB _) (by intro y hy;rw[Zyr]at hy;subst hy;exact Zak u);unfold Zta;rw[Un.Zaf u]at F B⊢;generalize Z0m u=FS at*;generalize Zs9 u=FE at*;refine Gn (vc:=Y146) [.t 2] Tryz.func140 ?_;simp only[Y146,YY];refine Rp0 [1] ?_;refine Rp0 [1,4] ?_;refine Ap0 F ?_;refine Rp0 [2] ?_;refine Zag B ?_;cases Xbn u with
 |false=>
  refine Sp0 ?_;exact Tv0
 | true=>
  have e2:(FE==0)=decide (FE=0):=by by_cases h:FE=0<;>simp[h]
  by_cases hk:u.kind=0
  ·have g:(u.kind !=0)=false:=by simpa using hk
   have g2:decide (u.kind≠0)=false:=by simp[hk]
   rw[g2];refine Sp1 g ?_;exact Tv0
  ·have g:(u.kind !=0)=true:=by simpa using hk
   have g2:decide (u.kind≠0)=true:=by simp[hk]
   rw[g2];refine Sp1 g ?_;refine Tp0 ?_;rw[e2];exact Vr
def Y147:VC:=(ZR [Yv 6 Yf] (ZR [ZM 7 0,ZM 8 1,Yr 9 .geq 7 8,ZM 10 9,Yg 11 0 10 true,Yg 12 2 10 true,ZG 13 (.bin .leq (.t 11) (.t 12)) 10 true,Yz 14 10 13,ZM 6 14] .ret))
def Y148:VC:=(ZR [Yv 2 Yf] (.seq (ZR [ZM 3 0,ZO 4 (.len true (.t 3)),Yu 5 .lss 4 1,ZM 6 5,Yg 7 0 6 false,ZG 8 (.len true (.t 7)) 6 false,ZG 9 (.bin .gtr (.t 8) (Yi 16)) 6 false,Yh 10 6 9,ZM 11 10,Yg 12 0 11 false,ZG 13 (.idx (.t 12) (Yi 0)) 11 false,ZG 14 (.bin .lss (.t 13) (.c (.int .u8 97))) 11 false,Yh 15 11 14,ZM 16 15,Yg 17 0 16 false,ZG 18 (.idx (.t 17) (Yi 0)) 16 false,ZG 19 (.bin .gtr (.t 18) (.c (.int .u8 122))) 16 false,Yh 20 16 19] (YC 20 (ZR [Yv 2 Yf] .ret) .skip)) (ZR [ZM 21 0,ZO 22 (.call 163 [.t 21,(.c (.str [97,98,99,100,101,102,103,104,105,106,107,108,109,110,111,112,113,114,115,116,117,118,119,120,121,122,48,49,50,51,52,53,54,55,56,57,45]))]),ZO 23 (.bin .eql (.t 22) (.c (.str []))),ZM 2 23] .ret)))
def Y149:VC:=(ZR [Yw 1 3 0,Yv 2 Yf] (.seq (ZR [Ya 3 0 1,Yl 4 3] (.block 0 (.seq (ZR [Yu 6 .eql 4 0,ZM 5 6] (YC 5 .skip (.region [Yu 7 .eql 4 2,ZM 5 7] false))) (YC 5 (ZR [Ya 8 1 1,Yl 9 8,Yu 10 .eql 9 0,ZM 11 10,Yb 12 2 1 11 true,Yk 13 12 11 true,ZG 14 (.bin .eql (.t 13) (.c (.str []))) 11 true,Yz 15 11 14,ZM 2 15] .ret) (ZR [Yu 17 .eql 4 1,ZM 16 17] (YC 16 (ZR [Ya 18 1 1,Yl 19 18,ZO 20 (.call 158 [.t 19,(Yi 0),(Yi 1048576)]),ZM 21 20,Yb 22 2 1 21 true,Yk 23 22 21 true,ZG 24 (.bin .eql (.t 23) (.c (.str []))) 21 true,Yz 25 21 24,ZM 2 25] .ret) (ZR [Yu 27 .eql 4 3,ZM 26 27] (YC 26 (ZR [Ya 28 1 1,Yl 29 28,Yu 30 .eql 29 0,ZM 31 30,Yb 32 2 1 31 true,Yk 33 32 31 true,ZG 34 (.call 101 [.t 33]) 31 true,Yz 35 31 34,ZM 2 35] .ret) .skip)))))))) (ZR [Yv 2 Yf] .ret)))
def Y150:VC:=(ZR [Yv 4 Yf] (ZR [ZM 5 0,Yc 6 195 [5],ZM 7 6,Yg 8 0 7 true,Yd 9 8 7 true,Yg 10 1 7 true,ZG 11 (.bin .geq (.t 9) (.t 10)) 7 true,Yz 12 7 11,ZM 4 12] .ret))
def Y151:VC:=(ZR [Yv 2 Yf] (ZR [ZM 3 0,ZO 4 (.call 158 [.t 3,(Yi 0),(Yi 3)]),ZM 2 4] .ret))
def Y152:VC:=(ZR [Yw 1 25 0,Yv 2 Yf] (ZR [Ya 3 4 1,Yl 4 3,ZO 5 (.call 158 [.t 4,(Yi 0),(Yi 256)]),ZM 2 5] .ret))
theorem Zo9(n a b:Int):Tc 158 [pI n,pI a,pI b] (.bool (Zd6 n a b)):=by
 refine Gp (vc:=Y147) [.t 6] (cB _) Tryz.func158 ?_;simp only[Y147,YY];unfold Zd6;refine Rp0 [0,1,2] ?_;refine Zaa (Zad [6] ?_);cases h:decide (a≤n)with
 |false=>
  simp only[vmL,Nat.reduceEqDiff,reduceCtorEq,h];exact Tv0
 |true=>
  simp only[vmL,Nat.reduceEqDiff,reduceCtorEq,h];exact Tv0
theorem Z2m(n:Int):Tc 139 [pI n] (.bool (Zd6 n 0 3)):=by
 have W:=Zo9 n 0 3;refine Gp (vc:=Y151) [.t 2] (cB _) Tryz.func139 ?_;simp only[Y151,YY];refine Rp0 [0] ?_;refine Rp0 [2] ?_;refine Zag W ?_;exact Tv0
theorem Xc1(x:It):Tc 146 [.agg x.enc] (.bool (Zd6 x.nth 0 256)):=by
 have W:=Zo9 x.nth 0 256;refine Gp (vc:=Y152) [.t 2] (cB _) Tryz.func146 ?_;simp only[Y152,YY];rw[It.Zaf x];refine Rp0 [1] ?_;refine Rp0 [2] ?_;refine Zag W ?_;exact Tv0
theorem Zv9(l:List Str)(least:Nat)(hl:l.length≤1000000)(ht:∀s∈l,s.length≤1000000):Tc 145 [It.strs l,pI least] (.bool (Zwq l least)):=by
 have V:=Zgt l hl ht;refine Gp (vc:=Y150) [.t 4] (cB _) Tryz.func145 ?_;simp only[Y150,YY];unfold Zwq It.strs;have hL:(l.map fun s=>[PV.str s]).length=l.length:=Zyc _;have e:decide ((least:Int)≤(l.length:Int))=decide (least≤l.length):=decide_eq_decide.2 (by omega);refine Rp0 [0,1] ?_;refine Rp0 [4] ?_;refine Zag V ?_;cases Zgs l with
 |false=>
  refine Sp0 ?_;exact Tv0
 |true=>
  refine Sp1 (x2 hL e) ?_;exact Tv0
theorem Zwa(s:Str)(hs:s.length≤1000000):Tc 101 [.str s] (.bool (Zi6 s)):=by
 have T:=Xem s hs;refine Zac ?_ (cB _) (by intro y hy;rw[Zyr]at hy;subst hy;exact cS _);refine Gn (vc:=Y148) [.t 2] Tryz.func101 ?_;simp only[Y148,YY];refine Rp0 [0] ?_;refine Zaa ?_;refine Zaa (Zad [0,20] ?_);cases s with
 |nil=>
  have g:decide (((0:Nat):Int)<1)=true:=rfl;refine Sp1 g ?_;refine Ct ?_;exact Rv0 [2]
 |cons c r=>
 have g1:decide (((r.length+1:Nat):Int)<1)=false:=Vf;have g2:decide ((16:Int)<((r.length+1:Nat):Int))= !decide (r.length+1≤16):=by
  by_cases h:r.length+1≤16
  ·rw[Zyf h,Vf];rfl
  ·rw[Zyg h,Vt];rfl
 have g3:decide ((c.toNat:Int)<97)= !decide (97≤c):=by
  have e:(97:UInt8)≤c↔97≤c.toNat:=UInt8.le_iff_toNat_le;generalize c.toNat=cn at*;by_cases h:97≤c
  ·rw[Zyf h,Zyg (by have:=e.1 h;omega)];rfl
  ·rw[Zyg h,Zyf (by have:¬97≤cn:=fun q=>h (e.2 q);omega)];rfl
 have g4:decide ((122:Int)<(c.toNat:Int))= !decide (c≤122):=by
  have e:c≤(122:UInt8)↔c.toNat≤122:=UInt8.le_iff_toNat_le;generalize c.toNat=cn at*;by_cases h:c≤122
  ·rw[Zyf h,Zyg (by have:=e.1 h;omega)];rfl
  ·rw[Zyg h,Zyf (by have:¬cn≤122:=fun q=>h (e.2 q);omega)];rfl
 have e1:Zi6 (c::r)=(decide (r.length+1≤16)&&(decide (97≤c)&&(decide (c≤122)&&decide (Z0i (c::r)=[])))):=rfl;rw[e1];have e2:(Z0i (c::r)==[])=decide (Z0i (c::r)=[]):=by cases Z0i (c::r)<;>rfl
 generalize Z0i (c::r)=TR at*;cases h2:decide (r.length+1≤16)with
 |false=>
  rw[h2]at g2;refine Sp1 (x2 g1 g2) ?_;refine Ct ?_;exact Rv0 [2]
 |true=>
 rw[h2]at g2;cases h3:decide (97≤c)with
 |false=>
  rw[h3]at g3;refine Sp1 (x3 g1 g2 g3) ?_;refine Ok ?_;refine Ct ?_;exact Rv0 [2]
 |true=>
 rw[h3]at g3;cases h4:decide (c≤122)with
 |false=>
  rw[h4]at g4;refine Sp1 (x4 g1 g2 g3 g4) ?_;refine Ok ?_;refine Ct ?_;exact Rv0 [2]
 |true=>
 rw[h4]at g4;refine Sp1 (x4 g1 g2 g3 g4) ?_;refine Ok ?_;refine Fp0 ?_;refine Rp0 [2] ?_;refine Ap0 T ?_;rw[e2];exact Tv0
theorem Z8y(x:Sta)(hx:x.Zbd.length≤1000000):Tc 102 [.agg x.enc] (.bool (Zi7 x)):=by
 have W:=Zo9 x.day 0 1048576;have NM:=Zwa x.Zbd hx;refine Zac ?_ (cB _) (by intro y hy;rw[Zyr]at hy;subst hy;exact Zah (by intro z hz;simp only[Sta.enc,Zyb,Zya,or_false]at hz;rcases hz with rfl|rfl|rfl;exact cI _;exact cI _;exact cS _));have hxe:x.enc=[pI x.kind,pI x.day,.str x.Zbd]:=rfl;rw[hxe];unfold Zi7;have e0:(x.day==0)=decide (x.day=0):=by by_cases h:x.day=0<;>simp[h]
 refine Gn (vc:=Y149) [.t 2] Tryz.func102 ?_;simp only[Y149,YY];refine Rp0 [1] ?_;refine Zaa<|Rp0 [1,4] ?_;refine Zab ?_;refine Zaa ?_;by_cases k02:x.kind=0∨x.kind=2
 ·rw[if_pos k02];refine Zfa (σ:=Unit) (fun _=>([(1,.loc 0 0 0),(4,pI x.kind),(5,.bool true)],⟨[(0,.arr false 3 [[pI x.kind,pI x.day,.str x.Zbd]])],1⟩)) ?_ (fun _=>?_)
  ·refine Zaa (Zad [1,4,5] ?_);rcases k02 with k|k
   ·rw[k];refine Sp0 ?_;refine Ct ?_;refine Znr ?_;try simp only[vmL,Nat.reduceEqDiff]
    try exact⟨(),trivial⟩
   ·rw[k];refine Sp0 ?_;refine Cf ?_;refine Zad [1,4,5] ?_;simp only[vmL,Nat.reduceEqDiff]
    try exact⟨(),trivial⟩
  simp only[];refine Ct ?_;refine Zaa (Zad [2] ?_);cases h0:decide (x.day=0)with
  |false=>
   rw[h0]at e0;refine Sp1 e0 ?_;exact Tv0
  |true=>
   rw[h0]at e0;refine Sp1 e0 ?_;exact Tv0
 rw[if_neg k02];have n0:(x.kind==0)=false:=by rw[beq_eq_false_iff_ne];exact fun h=>k02 (.inl h)
 have n2:(x.kind==2)=false:=by rw[beq_eq_false_iff_ne];exact fun h=>k02 (.inr h)
 refine Rp1 [1,4,5] n0 ?_;refine Cf ?_;refine rp1 [1,4,5] n2 ?_;refine Cf ?_;refine Zaa (Zad [1,4,16] ?_);by_cases k1:x.kind=1
 ·have n1:(x.kind==1)=true:=by rw[beq_iff_eq];exact k1
  rw[if_pos k1];refine Sp1 n1 ?_;refine Ct ?_;refine Rp0 [2] ?_;refine Zag W ?_;cases Zd6 x.day 0 1048576 with
  |false=>
   refine Sp0 ?_;exact Tv0
  |true=>
   refine Sp0 ?_;exact Tv0
 have n1:(x.kind==1)=false:=by rw[beq_eq_false_iff_ne];exact k1
 rw[if_neg k1];refine Sp1 n1 ?_;refine Cf ?_;refine Zaa (Zad [1,26] ?_);by_cases k3:x.kind=3
 ·have n3:(x.kind==3)=true:=by rw[beq_iff_eq];exact k3
  rw[if_pos k3];refine Sp1 n3 ?_;refine Ct ?_;refine Zaa (Zad [2] ?_);cases h0:decide (x.day=0)with
  |false=>
   rw[h0]at e0;refine Sp1 e0 ?_;exact Tv0
  |true=>
   rw[h0]at e0;refine Sp1 e0 ?_;refine Zag NM ?_;exact Tv0
 have n3:(x.kind==3)=false:=by rw[beq_eq_false_iff_ne];exact k3
 rw[if_neg k3];refine Sp1 n3 ?_;refine Fp0 ?_;exact Rv0 [2]
end Go.Proofs.w
namespace Go.VM
open Go Go.Proofs.w
def Zei(T:PV)(W N:Int)(U:List PV)(O NW:PV)(LB:Str):List PV:=
 [pI 0,.nilsl,T,pI W,pI N]++U++[O,NW,.str LB,.str [],pI 0,pI 0,.str [],pI 0,pI 0,pI 0,.str [],.nilsl]
end Go.VM
namespace Go.Proofs.w
open Go Go.VM
def Y153:VC:=(ZR [Yw 1 25 0,ZO 2 (.alloc YI)] (ZR [Ya 3 3 1,Yl 4 3,Ya 5 5 1,Ym 6 8 5,ZO 7 (.build YI [(3,(1,(.t 4))),(5,(8,(.t 6)))]),Ys 25 2 7] .ret))
def Y154:VC:=(ZR [Yw 1 25 0,Yv 2 Yf] (ZR [Ya 3 3 1,Yl 4 3,Yc 5 139 [4],ZM 6 5,Yb 7 5 1 6 true,Yj 8 8 7 6 true,ZG 9 (.call 140 [.t 8]) 6 true,Yz 10 6 9,ZM 2 10] .ret))
def Y155:VC:=(ZR [Yw 1 25 0,ZO 2 (.alloc YI)] (ZR [ZO 3 (.build YI []),Ys 25 2 3] .ret))
def Y156:VC:=(ZR [Yw 1 25 0,Yv 2 Yf] (ZR [Yv 2 Yt] .ret))
def Y157:VC:=(ZR [Yw 1 25 0,ZO 2 (.alloc YI)] (ZR [Ya 3 13 1,Yl 4 3,Ya 5 14 1,Yl 6 5,Ya 7 4 1,Yl 8 7,ZO 9 (.build YI [(13,(1,(.t 4))),(14,(1,(.t 6))),(4,(1,(.t 8)))]),Ys 25 2 9] .ret))
def Y158:VC:=(ZR [Yw 1 25 0,Yv 2 Yf] (ZR [Ya 3 13 1,Yl 4 3,ZO 5 (.call 145 [.t 4,(Yi 1)]),ZM 6 5,Yb 7 14 1 6 true,Yk 8 7 6 true,ZG 9 (.call 145 [.t 8,(Yi 0)]) 6 true,Yz 10 6 9,ZM 11 10,Yj 12 25 1 11 true,ZG 13 (.call 146 [.t 12]) 11 true,Yz 14 11 13,ZM 2 14] .ret))
def Y159:VC:=(ZR [Yw 1 25 0,ZO 2 (.alloc YI)] (ZR [Ya 3 13 1,Yl 4 3,Ya 5 14 1,Yl 6 5,Ya 7 4 1,Yl 8 7,ZO 9 (.build YI [(13,(1,(.t 4))),(14,(1,(.t 6))),(4,(1,(.t 8)))]),Ys 25 2 9] .ret))
def Y160:VC:=(ZR [Yw 1 25 0,Yv 2 Yf] (ZR [Ya 3 13 1,Yl 4 3,ZO 5 (.call 145 [.t 4,(Yi 0)]),ZM 6 5,Yb 7 14 1 6 true,Yk 8 7 6 true,ZG 9 (.call 145 [.t 8,(Yi 1)]) 6 true,Yz 10 6 9,ZM 11 10,Yj 12 25 1 11 true,ZG 13 (.call 146 [.t 12]) 11 true,Yz 14 11 13,ZM 15 14,Yb 16 13 1 15 true,Yk 17 16 15 true,Yd 18 17 15 true,ZG 19 (.bin .gtr (.t 18) (Yi 0)) 15 true,Yg 20 19 15 true,Yb 21 4 1 20 false,Yk 22 21 20 false,ZG 23 (.bin .eql (.t 22) (Yi 0)) 20 false,ZG 24 (.pick (.t 20) Yt (.t 23)) 15 true,Yz 25 15 24,ZM 2 25] .ret))
def Y161:VC:=(ZR [Yw 1 25 0,ZO 2 (.alloc YI)] (ZR [Ya 3 14 1,Yl 4 3,ZO 5 (.build YI [(14,(1,(.t 4)))]),Ys 25 2 5] .ret))
def Y162:VC:=(ZR [Yw 1 25 0,Yv 2 Yf] (ZR [Ya 3 14 1,Yl 4 3,ZO 5 (.call 145 [.t 4,(Yi 0)]),ZM 2 5] .ret))
def Y163:VC:=(ZR [Yw 1 25 0,ZO 2 (.alloc YI)] (ZR [Ya 3 15 1,Yl 4 3,ZO 5 (.build YI [(15,(1,(.t 4)))]),Ys 25 2 5] .ret))
def Y164:VC:=(ZR [Yw 1 25 0,Yv 2 Yf] (ZR [Ya 3 15 1,Yl 4 3,Yc 5 153 [4],ZM 2 5] .ret))
def Y165:VC:=(ZR [Yw 1 25 0,ZO 2 (.alloc YI)] (ZR [Ya 3 2 1,Yl 4 3,Ya 5 3 1,Yl 6 5,ZO 7 (.build YI [(2,(1,(.t 4))),(3,(1,(.t 6)))]),Ys 25 2 7] .ret))
def Y166:VC:=(ZR [Yw 1 25 0,Yv 2 Yf] (ZR [Ya 3 3 1,Yl 4 3,Yc 5 139 [4],ZM 6 5,Yb 7 2 1 6 true,Yk 8 7 6 true,ZG 9 (.call 100 [.t 8]) 6 true,Yz 10 6 9,ZM 2 10] .ret))
theorem Zro(l:List St):Closed (.sl 2 (l.map St.enc)):=Zaj fun a _=>St.closed a
theorem Zcj{T O NW:PV}(W N:Int){U:List PV}(LB:Str)(hT:Closed T)(hU:∀y∈U,Closed y)(hO:Closed O)(hN:Closed NW):Closed (.agg (Zei T W N U O NW LB)):=Zah (by
 intro y hy;unfold Zei at hy;simp only[List.mem_append,Zyb,Zya,or_false]at hy;rcases hy with(((rfl|rfl|rfl|rfl|rfl)|h)|(rfl|rfl|rfl|rfl|rfl|rfl|rfl|rfl|rfl|rfl|rfl|rfl))
 all_goals first|exact hT|exact hO|exact hN|exact cI _|exact cS _|exact Zar|exact hU _ h)
theorem Zf4:∀y∈zU,Closed y:=by
 intro y hy;simp only[zU,Zyb,Zya,or_false]at hy;rcases hy with rfl|rfl|rfl|rfl|rfl|rfl|rfl|rfl<;>first|exact cI _|exact cS _|exact Zar
theorem Xbq(x:It):Tc 137 [.agg x.enc] (.agg (Zei .nilsl x.Zff 0 x.unit.enc .nilsl .nilsl [])):=by
 refine Zac ?_ (Zcj _ _ _ (Zar) (Un.closed x.unit) (Zar) (Zar)) (by intro y hy;rw[Zyr]at hy;subst hy;exact Zah (It.closed x));rw[It.Zaf x];rw[Un.Zaf x.unit];unfold Zei It.strs;refine Gn (vc:=Y153) [.c 2 true 25] Tryz.func137 ?_;simp only[Y153,YY];refine Rp0 [1,2] ?_;exact Rv0 [2]
theorem Xbr(x:It):Tc 141 [.agg x.enc] (.agg (Zei .nilsl 0 0 zU .nilsl .nilsl [])):=by
 refine Zac ?_ (Zcj _ _ _ (Zar) Zf4 (Zar) (Zar)) (by intro y hy;rw[Zyr]at hy;subst hy;exact Zah (It.closed x));rw[It.Zaf x];unfold zU;unfold Zei It.strs;refine Gn (vc:=Y155) [.c 2 true 25] Tryz.func141 ?_;simp only[Y155,YY];refine Rp0 [2] ?_;exact Rv0 [2]
theorem Xbs(x:It):Tc 143 [.agg x.enc] (.agg (Zei .nilsl 0 x.nth zU (It.strs x.old) (It.strs x.new) [])):=by
 refine Zac ?_ (Zcj _ _ _ (Zar) Zf4 (Zb0 _) (Zb0 _)) (by intro y hy;rw[Zyr]at hy;subst hy;exact Zah (It.closed x));rw[It.Zaf x];unfold zU;unfold Zei It.strs;refine Gn (vc:=Y157) [.c 2 true 25] Tryz.func143 ?_;simp only[Y157,YY];refine Rp0 [1,2] ?_;exact Rv0 [2]
theorem Xbt(x:It):Tc 147 [.agg x.enc] (.agg (Zei .nilsl 0 x.nth zU (It.strs x.old) (It.strs x.new) [])):=by
 refine Zac ?_ (Zcj _ _ _ (Zar) Zf4 (Zb0 _) (Zb0 _)) (by intro y hy;rw[Zyr]at hy;subst hy;exact Zah (It.closed x));rw[It.Zaf x];unfold zU;unfold Zei It.strs;refine Gn (vc:=Y159) [.c 2 true 25] Tryz.func147 ?_;simp only[Y159,YY];refine Rp0 [1,2] ?_;exact Rv0 [2]
theorem Xbu(x:It):Tc 149 [.agg x.enc] (.agg (Zei .nilsl 0 0 zU .nilsl (It.strs x.new) [])):=by
 refine Zac ?_ (Zcj _ _ _ (Zar) Zf4 (Zar) (Zb0 _)) (by intro y hy;rw[Zyr]at hy;subst hy;exact Zah (It.closed x));rw[It.Zaf x];unfold zU;unfold Zei It.strs;refine Gn (vc:=Y161) [.c 2 true 25] Tryz.func149 ?_;simp only[Y161,YY];refine Rp0 [1,2] ?_;exact Rv0 [2]
theorem Z8z(x:It):Tc 151 [.agg x.enc] (.agg (Zei .nilsl 0 0 zU .nilsl .nilsl x.label)):=by
 refine Zac ?_ (Zcj _ _ _ (Zar) Zf4 (Zar) (Zar)) (by intro y hy;rw[Zyr]at hy;subst hy;exact Zah (It.closed x));rw[It.Zaf x];unfold zU;unfold Zei It.strs;refine Gn (vc:=Y163) [.c 2 true 25] Tryz.func151 ?_;simp only[Y163,YY];refine Rp0 [1,2] ?_;exact Rv0 [2]
theorem Z80(x:It):Tc 154 [.agg x.enc] (.agg (Zei (.sl 2 (x.to.map St.enc)) x.Zff 0 zU .nilsl .nilsl [])):=by
 refine Zac ?_ (Zcj _ _ _ (Zro _) Zf4 (Zar) (Zar)) (by intro y hy;rw[Zyr]at hy;subst hy;exact Zah (It.closed x));rw[It.Zaf x];unfold zU;unfold Zei It.strs;refine Gn (vc:=Y165) [.c 2 true 25] Tryz.func154 ?_;simp only[Y165,YY];refine Rp0 [1,2] ?_;exact Rv0 [2]
theorem Xbv{x:It}(hu:SmT x.unit)(hn:(unitsT x.unit).length≤1000):Tc 138 [.agg x.enc] (.bool (Zd6 x.Zff 0 3&&Zta x.unit)):=by
 have W:=Z2m x.Zff;have I:=Z8x hu hn;refine Gp (vc:=Y154) [.t 2] (cB _) Tryz.func138 ?_;simp only[Y154,YY];rw[It.Zaf x];rw[Un.Zaf x.unit]at I;refine Rp0 [1] ?_;refine Rp0 [2] ?_;refine Zag W ?_;cases Zd6 x.Zff 0 3 with
 |false=>
  refine Sp0 ?_;exact Tv0
 |true=>
  refine Sp0 ?_;refine Zag I ?_;exact Tv0
theorem Xbw(x:It):Tc 142 [.agg x.enc] (.bool true):=by
 refine Gp (vc:=Y156) [.t 2] (cB _) Tryz.func142 ?_;simp only[Y156,YY];rw[It.Zaf x];refine Rp0 [] ?_;exact Rv0 [2]
theorem Xbx{x:It}(h:SmI x):Tc 144 [.agg x.enc] (.bool (Zwq x.old 1&&(Zwq x.new 0&&Zd6 x.nth 0 256))):=by
 have A:=Zv9 x.old 1 (by have:=h.old;omega) (fun s hs=>by have:=h.olds s hs;omega);have B:=Zv9 x.new 0 (by have:=h.new;omega) (fun s hs=>by have:=h.news s hs;omega);have C:=Xc1 x;refine Gp (vc:=Y158) [.t 2] (cB _) Tryz.func144 ?_;simp only[Y158,YY];rw[It.Zaf x]at C⊢;refine Rp0 [1] ?_;refine Rp0 [2] ?_;refine Zag A ?_;cases Zwq x.old 1 with
 |false=>
  refine Sp0 ?_;exact Tv0
 |true=>
 refine Sp0 ?_;refine Zag B ?_;cases Zwq x.new 0 with
 |false=>
  refine Sp0 ?_;exact Tv0
 |true=>
 refine Sp0 ?_;refine Zag C ?_;exact Tv0
theorem Xby{x:It}(h:SmI x):Tc 148 [.agg x.enc] (.bool (Zwq x.old 0&&(Zwq x.new 1&&(Zd6 x.nth 0 256&&(decide (0<x.old.length)||decide (x.nth=0)))))):=by
 have A:=Zv9 x.old 0 (by have:=h.old;omega) (fun s hs=>by have:=h.olds s hs;omega);have B:=Zv9 x.new 1 (by have:=h.new;omega) (fun s hs=>by have:=h.news s hs;omega);have C:=Xc1 x;have hl:(x.old.map fun s=>[PV.str s]).length=x.old.length:=Zyc _;have e1:decide ((0:Int)<(x.old.length:Int))=decide (0<x.old.length):=decide_eq_decide.2 (by omega);have e2:(x.nth==0)=decide (x.nth=0):=by by_cases h:x.nth=0<;>simp[h]
 refine Gp (vc:=Y160) [.t 2] (cB _) Tryz.func148 ?_;simp only[Y160,YY];rw[It.Zaf x]at C⊢;unfold It.strs at*;refine Rp0 [1] ?_;refine Rp0 [2] ?_;refine Zag A ?_;cases Zwq x.old 0 with
 |false=>
  refine Sp0 ?_;exact Tv0
 |true=>
 refine Sp0 ?_;refine Zag B ?_;cases Zwq x.new 1 with
 |false=>
  refine Sp0 ?_;exact Tv0
 |true=>
 refine Sp0 ?_;refine Zag C ?_;cases Zd6 x.nth 0 256 with
 |false=>
  refine Sp0 ?_;exact Tv0
 |true=>
 refine Sp1 (x2 hl e1) ?_;cases decide (0<x.old.length)with
 |true=>
  refine Sp0 ?_;exact Tv0
 |false=>
 refine Sp1 e2 ?_;exact Tv0
theorem Z81{x:It}(h:SmI x):Tc 150 [.agg x.enc] (.bool (Zwq x.new 0)):=by
 have B:=Zv9 x.new 0 (by have:=h.new;omega) (fun s hs=>by have:=h.news s hs;omega);refine Gp (vc:=Y162) [.t 2] (cB _) Tryz.func150 ?_;simp only[Y162,YY];rw[It.Zaf x];refine Rp0 [1] ?_;refine Rp0 [2] ?_;refine Zag B ?_;exact Tv0
theorem Z82{x:It}(h:SmI x):Tc 152 [.agg x.enc] (.bool (may x.label)):=by
 have B:=Zfg x.label (by have:=h.label;omega);refine Gp (vc:=Y164) [.t 2] (cB _) Tryz.func152 ?_;simp only[Y164,YY];rw[It.Zaf x];refine Rp0 [1] ?_;refine Rp0 [2] ?_;refine Zag B ?_;exact Tv0
theorem Z83{x:It}(h:SmI x):Tc 155 [.agg x.enc] (.bool (Zd6 x.Zff 0 3&&Zlo x.to)):=by
 have W:=Z2m x.Zff;have A:=Zea x.to (by have:=h.tu;omega) (fun s hs=>by have:=h.tos s hs;omega);refine Gp (vc:=Y166) [.t 2] (cB _) Tryz.func155 ?_;simp only[Y166,YY];rw[It.Zaf x];refine Rp0 [1] ?_;refine Rp0 [2] ?_;refine Zag W ?_;cases Zd6 x.Zff 0 3 with
 |false=>
  refine Sp0 ?_;exact Tv0
 |true=>
  refine Sp0 ?_;refine Zag A ?_;exact Tv0
def Y167:VC:=(ZR [ZO 0 (.mv (.c .nilmp))] (ZR [ZO 1 .mkmap,ZO 2 (.build [.nilfn,.nilfn] [(0,(1,(.c (.fn (.func 137) [] [])))),(1,(1,(.c (.fn (.func 138) [] []))))]),ZN (.mapset (.one .i) (.t 1) (Yi 0) (.t 2)),ZO 3 (.build [.nilfn,.nilfn] [(0,(1,(.c (.fn (.func 141) [] [])))),(1,(1,(.c (.fn (.func 142) [] []))))]),ZN (.mapset (.one .i) (.t 1) (Yi 1) (.t 3)),ZO 4 (.build [.nilfn,.nilfn] [(0,(1,(.c (.fn (.func 143) [] [])))),(1,(1,(.c (.fn (.func 144) [] []))))]),ZN (.mapset (.one .i) (.t 1) (Yi 2) (.t 4)),ZO 5 (.build [.nilfn,.nilfn] [(0,(1,(.c (.fn (.func 147) [] [])))),(1,(1,(.c (.fn (.func 148) [] []))))]),ZN (.mapset (.one .i) (.t 1) (Yi 3) (.t 5)),ZO 6 (.build [.nilfn,.nilfn] [(0,(1,(.c (.fn (.func 149) [] [])))),(1,(1,(.c (.fn (.func 150) [] []))))]),ZN (.mapset (.one .i) (.t 1) (Yi 4) (.t 6)),ZO 7 (.build [.nilfn,.nilfn] [(0,(1,(.c (.fn (.func 151) [] [])))),(1,(1,(.c (.fn (.func 152) [] []))))]),ZN (.mapset (.one .i) (.t 1) (Yi 5) (.t 7)),ZO 8 (.build [.nilfn,.nilfn] [(0,(1,(.c (.fn (.func 154) [] [])))),(1,(1,(.c (.fn (.func 155) [] []))))]),ZN (.mapset (.one .i) (.t 1) (Yi 6) (.t 8)),ZO 9 (.load true 2 (.c (.ro [(.fn (.func 299) [] []),(.fn (.func 300) [] [])]))),ZN (.mapset (.one .i) (.t 1) (Yi 7) (.t 9)),ZO 10 (.load true 2 (.c (.ro [(.fn (.func 299) [] []),(.fn (.func 300) [] [])]))),ZN (.mapset (.one .i) (.t 1) (Yi 8) (.t 10)),ZO 11 (.load true 2 (.c (.ro [(.fn (.func 299) [] []),(.fn (.func 300) [] [])]))),ZN (.mapset (.one .i) (.t 1) (Yi 9) (.t 11)),ZO 12 (.build [.nilfn,.nilfn] [(0,(1,(.c (.fn (.func 156) [] [])))),(1,(1,(.c (.fn (.func 157) [] []))))]),ZN (.mapset (.one .i) (.t 1) (Yi 10) (.t 12)),ZO 13 (.build [.nilfn,.nilfn] [(0,(1,(.c (.fn (.func 159) [] [])))),(1,(1,(.c (.fn (.func 160) [] []))))]),ZN (.mapset (.one .i) (.t 1) (Yi 11) (.t 13)),ZM 14 1,ZM 0 14] .ret))
def Y168:VC:=(ZR [ZO 0 (.mv (.c .nilmp))] (ZR [ZO 1 .mkmap,ZN (.mapset (.one .i) (.t 1) (Yi 0) (.c (.fn (.func 92) [] []))),ZN (.mapset (.one .i) (.t 1) (Yi 1) (.c (.fn (.func 93) [] []))),ZN (.mapset (.one .i) (.t 1) (Yi 2) (.c (.fn (.func 94) [] []))),ZN (.mapset (.one .i) (.t 1) (Yi 3) (.c (.fn (.func 95) [] []))),ZN (.mapset (.one .i) (.t 1) (Yi 4) (.c (.fn (.func 96) [] []))),ZN (.mapset (.one .i) (.t 1) (Yi 5) (.c (.fn (.func 97) [] []))),ZN (.mapset (.one .i) (.t 1) (Yi 6) (.c (.fn (.func 98) [] []))),ZM 2 1,ZM 0 2] .ret))
def Zmj:List (PV×PV):=[(pI 0,.fn (.func 92) [] []),(pI 1,.fn (.func 93) [] []),(pI 2,.fn (.func 94) [] []),(pI 3,.fn (.func 95) [] []),(pI 4,.fn (.func 96) [] []),(pI 5,.fn (.func 97) [] []),(pI 6,.fn (.func 98) [] [])]
def Zrp:List (PV×PV):=[(pI 0,.agg [.fn (.func 137) [] [],.fn (.func 138) [] []]),(pI 1,.agg [.fn (.func 141) [] [],.fn (.func 142) [] []]),(pI 2,.agg [.fn (.func 143) [] [],.fn (.func 144) [] []]),(pI 3,.agg [.fn (.func 147) [] [],.fn (.func 148) [] []]),(pI 4,.agg [.fn (.func 149) [] [],.fn (.func 150) [] []]),(pI 5,.agg [.fn (.func 151) [] [],.fn (.func 152) [] []]),(pI 6,.agg [.fn (.func 154) [] [],.fn (.func 155) [] []]),(pI 7,.agg [.fn (.func 299) [] [],.fn (.func 300) [] []]),(pI 8,.agg [.fn (.func 299) [] [],.fn (.func 300) [] []]),(pI 9,.agg [.fn (.func 299) [] [],.fn (.func 300) [] []]),(pI 10,.agg [.fn (.func 156) [] [],.fn (.func 157) [] []]),(pI 11,.agg [.fn (.func 159) [] [],.fn (.func 160) [] []])]
theorem Z84{L:List (PV×PV)}{h:Heap}{n:Nat}(hg:h.get n=some (.map L)):View h (.mp n) (.rmp L):=
 View.map hg rfl (fun i a b h1 h2=>by rw[h1]at h2;cases h2;exact⟨Vr,Vr⟩)
theorem Zwb:Closed (.rmp Zmj):=Zla fun e he=>by
 simp only[Zmj,Zyb,Zya,or_false]at he;rcases he with rfl|rfl|rfl|rfl|rfl|rfl|rfl<;>exact⟨cI _,Zfr _⟩
theorem Zwc:Closed (.rmp Zrp):=Zla fun e he=>by
 simp only[Zrp,Zyb,Zya,or_false]at he;rcases he with rfl|rfl|rfl|rfl|rfl|rfl|rfl|rfl|rfl|rfl|rfl|rfl<;>exact⟨cI _,Zah (by intro z hz;simp only[Zyb,Zya,or_false]at hz;rcases hz with rfl|rfl<;>exact Zfr _)⟩
theorem Xbz:Tc 71 [] (.rmp Zmj):=by
 refine Zac ?_ Zwb (by intro y hy;cases hy);refine Gn (vc:=Y168) [.t 0] Tryz.func71 ?_;simp only[Y168,YY];refine Rp0 [] ?_;refine Zaa (Zad [0] ?_);simp only[vmL,Nat.reduceEqDiff,Nat.reduceAdd,Nat.reduceLT,Nat.reduceLeDiff,Nat.reduceSub,Nat.reduceMul,reduceIte,reduceCtorEq,Int.reduceToNat,Zyb,Zya,or_false,Zyv,forall_eq,Int.reduceBEq,Bool.false_and,false_implies,implies_true,Bool.and_true];refine Tp0 ?_;exact Z84 rfl
theorem Xb0:Tc 99 [] (.rmp Zrp):=by
 refine Zac ?_ Zwc (by intro y hy;cases hy);refine Gn (vc:=Y167) [.t 0] Tryz.func99 ?_;simp only[Y167,YY];refine Rp0 [] ?_;refine Zaa (Zad [0] ?_);simp only[Ze9,Zjs,Zau,pok,Zcq,VA.ev,Env.get,Env.put,Env.keep,Zg4,Z2v,Zba,Zfl,Zgx,Ze5,PV.cells,PV.fits,overlay,PV.nth,Zbl,Zlz,Zc3,Zc4,Zdo,Zfm,Zcu,Heap.get,Heap.set,HL.get,HL.set,HL.del,Heap.push,Nat.le_refl,Nat.succ_ne_self,Zgw,Zay,Zbo,List.length,List.getD_cons_zero,List.take,List.drop,List.take_succ_cons,List.drop_succ_cons,List.cons_append,List.nil_append,Nat.reduceEqDiff,Nat.reduceAdd,Nat.reduceLeDiff,Zyu,Bool.true_eq_false,ite_true,ite_false,true_and,and_true,implies_true,reduceCtorEq,BEq.rfl,Nat.zero_add,Zyd,imp_self,Zyb,Zya,or_false,Zyv,forall_eq,Int.reduceBEq,Bool.false_and,false_implies,implies_true,Bool.and_true];refine Tp0 ?_;exact Z84 rfl
def Y169:VC:=(ZR [Yv 4 Yf] (.seq (ZR [ZM 6 0,Ye 7 6,ZM 8 1,Ye 9 8,Yr 10 .neq 7 9] (YC 10 (ZR [Yv 4 Yf] .ret) .skip)) (.seq (ZR [ZM 11 0,Ye 12 11,Yv 13 (Yi 0)] (.block 0 (.loop (ZR [Yr 14 .lss 13 12] (.seq (YC 14 .skip (.exit 0)) (.seq (.block 1 (ZR [ZM 15 13,ZM 5 15] (.seq (.region [ZM 16 0,ZM 17 5,Yx 18 2 16 17,Ym 19 2 18,ZM 20 1,ZM 21 5,Yx 22 2 20 21,Ym 23 2 22,ZO 24 (.eqs true [.i,.s] (.t 19) (.t 23))] true) (YC 24 (ZR [Yv 4 Yf] .ret) .skip)))) (.region [Yu 25 .add 13 1,ZM 13 25] false))))))) (ZR [Yv 4 Yt] .ret))))
def Y170:VC:=(ZR [Yv 4 Yf] (.seq (ZR [ZM 6 0,Ye 7 6,ZM 8 1,Ye 9 8,Yr 10 .neq 7 9] (YC 10 (ZR [Yv 4 Yf] .ret) .skip)) (.seq (ZR [ZM 11 0,Ye 12 11,Yv 13 (Yi 0)] (.block 0 (.loop (ZR [Yr 14 .lss 13 12] (.seq (YC 14 .skip (.exit 0)) (.seq (.block 1 (ZR [ZM 15 13,ZM 5 15] (.seq (.region [ZM 16 0,ZM 17 5,Yx 18 4 16 17,Ym 19 4 18,ZM 20 1,ZM 21 5,Yx 22 4 20 21,Ym 23 4 22,ZO 24 (.eqs true [.s,.i,.i,.i] (.t 19) (.t 23))] true) (YC 24 (ZR [Yv 4 Yf] .ret) .skip)))) (.region [Yu 25 .add 13 1,ZM 13 25] false))))))) (ZR [Yv 4 Yt] .ret))))
def sts(l:List St):PV:=.sl 2 (l.map St.enc)
def wds(l:List Wd):PV:=.sl 4 (l.map Wd.enc)
theorem st_ext{a b:St}(h1:a.kind=b.kind)(h2:a.label=b.label):a=b:=by cases a;cases b;simp_all
theorem wd_ext{a b:Wd}(h1:a.text=b.text)(h2:a.act=b.act)(h3:a.item=b.item)(h4:a.at'=b.at'):a=b:=by cases a;cases b;simp_all
theorem Zkn(l m:List St)(hl0:l.length≤maxLen):Tc 164 [sts l,sts m] (.bool (eqB l m)):=by
 have hl:l.length≤9223372036854775807:=hl0;refine Gp (vc:=Y169) [.t 4] (Closed.of_scalar (Zbs _)) Tryz.func164 ?_;simp only[Y169,YY];refine Zaa (Zad [0,1] ?_);simp only[vmL,Nat.reduceEqDiff,reduceCtorEq,sts];refine Zaa<|Rp1 [0,1,10] @xlm ?_;refine Zae rfl (fun h1=>?_) (fun h1=>?_)
 ·refine Rp0 [4] ?_;refine Tp0 ?_;simp only[bne_iff_ne,ne_eq,Int.natCast_inj]at h1;rw[Zel (Z1f h1)];exact Vr
 simp only[bne_eq_false_iff_eq,Int.natCast_inj]at h1;refine Kp0 ?_;refine Zaa<|Rp1 [0,1,12,13] @xlm ?_;refine Zab ?_;refine Zai (σ:={ k:Nat//k≤l.length∧l.take k=m.take k }) (fun s=>([(0,.sl 2 (l.map St.enc)),(1,.sl 2 (m.map St.enc)),(12,pI l.length),(13,pI s.1)],Heap.nil)) (fun s=>l.length-s.1) ⟨0,by simp⟩ ?_ ?_ ?_
 ·simp only[vmL,Nat.reduceEqDiff,reduceCtorEq]
  first|rfl|exact⟨rfl,rfl⟩
 ·exact⟨Nat.le_refl _,trivial⟩
 rintro⟨k,hk,he⟩;simp only[];refine Rp1 [0,1,12,13,14] @xlm ?_;refine Zaa<|Zae rfl (fun h2=>?_) (fun h2=>?_)
 ·refine Kp0 ?_;have h2:=oT h2;have ka:k<l.length:=by omega
  have kb:k<m.length:=by omega
  refine Zaa<|Zab ?_;refine Rp0 [0,1,5,12,13] ?_;refine Zaa (Zaw [0,1,12,13,24] (by simp[Vh]) ?_);simp only[vmL,Nat.reduceEqDiff,Nat.reduceAdd,reduceCtorEq,Zyc,Zcs ka,Zcs kb,St.enc];refine Ok ?_;refine Zae rfl (fun h3=>?_) (fun h3=>?_)
  ·refine Rp0 [4] ?_;refine Tp0 ?_;have h4:l[k]≠m[k]:=by
    intro e;rw[e]at h3;simp at h3
   rw[Zel (Z1g ka kb h4)];exact Vr
  have h4:l[k]=m[k]:=by
   simp at h3;exact st_ext h3.1 h3.2
  refine Kp0 ?_;refine rp1 [0,1,12,13] (w64 (n:=(k:Int)+1) (by omega) (by omega)) ?_;refine⟨⟨k+1,by omega,Zg6 he ka kb h4⟩,?_,?_⟩
  ·simp
  ·dsimp only;omega
 ·have h2:=oF h2;obtain rfl:k=l.length:=by omega
  refine Ep0 ?_;refine Rp0 [4] ?_;refine Tp0 ?_;rw[Zmp (Zm3 h1 he)];exact Vr
theorem Zko(l m:List Wd)(hl0:l.length≤maxLen):Tc 48 [wds l,wds m] (.bool (eqB l m)):=by
 have hl:l.length≤9223372036854775807:=hl0;refine Gp (vc:=Y170) [.t 4] (Closed.of_scalar (Zbs _)) Tryz.func48 ?_;simp only[Y170,YY];refine Zaa (Zad [0,1] ?_);simp only[vmL,Nat.reduceEqDiff,reduceCtorEq,wds];refine Zaa<|Rp1 [0,1,10] @xlm ?_;refine Zae rfl (fun h1=>?_) (fun h1=>?_)
 ·refine Rp0 [4] ?_;refine Tp0 ?_;simp only[bne_iff_ne,ne_eq,Int.natCast_inj]at h1;rw[Zel (Z1f h1)];exact Vr
 simp only[bne_eq_false_iff_eq,Int.natCast_inj]at h1;refine Kp0 ?_;refine Zaa<|Rp1 [0,1,12,13] @xlm ?_;refine Zab ?_;refine Zai (σ:={ k:Nat//k≤l.length∧l.take k=m.take k }) (fun s=>([(0,.sl 4 (l.map Wd.enc)),(1,.sl 4 (m.map Wd.enc)),(12,pI l.length),(13,pI s.1)],Heap.nil)) (fun s=>l.length-s.1) ⟨0,by simp⟩ ?_ ?_ ?_
 ·simp only[vmL,Nat.reduceEqDiff,reduceCtorEq]
  first|rfl|exact⟨rfl,rfl⟩
 ·exact⟨Nat.le_refl _,trivial⟩
 rintro⟨k,hk,he⟩;simp only[];refine Rp1 [0,1,12,13,14] @xlm ?_;refine Zaa<|Zae rfl (fun h2=>?_) (fun h2=>?_)
 ·refine Kp0 ?_;have h2:=oT h2;have ka:k<l.length:=by omega
  have kb:k<m.length:=by omega
  refine Zaa<|Zab ?_;refine Rp0 [0,1,5,12,13] ?_;refine Zaa (Zaw [0,1,12,13,24] (by simp[Vh]) ?_);simp only[vmL,Nat.reduceEqDiff,Nat.reduceAdd,reduceCtorEq,Zyc,Zcs ka,Zcs kb,Wd.enc];refine Ok ?_;refine Zae rfl (fun h3=>?_) (fun h3=>?_)
  ·refine Rp0 [4] ?_;refine Tp0 ?_;have h4:l[k]≠m[k]:=by
    intro e;rw[e]at h3;simp at h3
   rw[Zel (Z1g ka kb h4)];exact Vr
  have h4:l[k]=m[k]:=by
   simp at h3;exact wd_ext h3.1 h3.2.1 h3.2.2.1 h3.2.2.2
  refine Kp0 ?_;refine rp1 [0,1,12,13] (w64 (n:=(k:Int)+1) (by omega) (by omega)) ?_;refine⟨⟨k+1,by omega,Zg6 he ka kb h4⟩,?_,?_⟩
  ·simp
  ·dsimp only;omega
 ·have h2:=oF h2;obtain rfl:k=l.length:=by omega
  refine Ep0 ?_;refine Rp0 [4] ?_;refine Tp0 ?_;rw[Zmp (Zm3 h1 he)];exact Vr
end Go.Proofs.w
namespace Go.VM
open Go
inductive LenU:Un→Prop
 |mk (u:Un) (hh:u.head.length≤maxLen) (hw:u.words.length≤maxLen) (hk:u.kids.length≤maxLen) (hs:∀k∈u.kids,LenU k):LenU u
end Go.VM
namespace Go.Proofs.w
open Go Go.VM
def Y171:VC:=(ZR [Yv 6 Yf] (.seq (ZR [ZM 10 0,Ye 11 10,ZM 12 1,Ye 13 12,Yr 14 .neq 11 13] (YC 14 (ZR [Yv 6 Yf] .ret) .skip)) (.seq (ZR [ZM 15 0,Ye 16 15,Yv 17 (Yi 0)] (.block 0 (.loop (ZR [Yr 18 .lss 17 16] (.seq (YC 18 .skip (.exit 0)) (.seq (.block 1 (ZR [ZM 19 17,Yx 20 8 15 17,Ym 21 8 20,ZO 8 (.alloc ZU),ZM 7 19,Ys 8 8 21] (ZR [ZM 22 1,ZM 23 7,Yx 24 8 22 23,Ym 25 8 24,ZO 9 (.alloc ZU),Ys 8 9 25] (ZR [ZM 26 2,Ym 27 8 8,Ym 28 8 9,ZO 29 (.callv (.t 26) [.t 27,.t 28]),Yn 30 29] (YC 30 (ZR [Yv 6 Yf] .ret) .skip))))) (.region [Yu 31 .add 17 1,ZM 17 31] false))))))) (ZR [Yv 6 Yt] .ret))))
def Y172:VC:=(ZR [Yw 2 8 0,Yw 3 8 1,Yv 4 Yf] (ZR [Ya 5 0 2,Ym 6 3 5,Ya 7 0 3,Ym 8 3 7,ZO 9 (.eqs false [.i,.i,.i] (.t 6) (.t 8)),ZM 10 9,Yb 11 3 2 10 true,Yk 12 11 10 true,Yb 13 3 3 10 true,Yk 14 13 10 true,ZG 15 (.bin .eql (.t 12) (.t 14)) 10 true,Yz 16 10 15,ZM 17 16,Yb 18 4 2 17 true,Yk 19 18 17 true,Yb 20 4 3 17 true,Yk 21 20 17 true,ZG 22 (.bin .eql (.t 19) (.t 21)) 17 true,Yz 23 17 22,ZM 24 23,Yb 25 5 2 24 true,Yk 26 25 24 true,Yb 27 5 3 24 true,Yk 28 27 24 true,ZG 29 (.call 48 [.t 26,.t 28]) 24 true,Yz 30 24 29,ZM 31 30,Yb 32 6 2 31 true,Yk 33 32 31 true,Yb 34 6 3 31 true,Yk 35 34 31 true,ZG 36 (.call 48 [.t 33,.t 35]) 31 true,Yz 37 31 36,ZM 38 37,Yb 39 7 2 38 true,Yk 40 39 38 true,Yb 41 7 3 38 true,Yk 42 41 38 true,ZG 43 (.call 49 [.t 40,.t 42,(.c (.fn (.func 25) [] []))]) 38 true,Yz 44 38 43,ZM 4 44] .ret))
theorem Zlw(u:Un):u.enc.length=8:=by rw[Un.Zaf];rfl
theorem Z0s(u:Un):u.enc.take 8=u.enc:=Zyi (by rw[Zlw];exact Nat.le_refl _)
theorem Xep{u:Un}{k:Nat}(h:k<u.kids.length):SizeOf.sizeOf u.kids[k]<SizeOf.sizeOf u:=by
 match u,h with
 | .mk a i n kd l hd w ks,h=>
  have h1:SizeOf.sizeOf ks[k]<SizeOf.sizeOf ks:=List.sizeOf_lt_of_mem (Zyl h);rw[Un.mk.sizeOf_spec];show SizeOf.sizeOf ks[k]<_;omega
theorem un_eq{a b:Un}(q1:a.act=b.act)(q2:a.item=b.item)(q3:a.n=b.n)(q4:a.kind=b.kind)(q5:a.label=b.label)(q6:a.head=b.head)(q7:a.words=b.words)(q8:a.kids=b.kids):a=b:=by
 cases a;cases b;simp_all [Un.act,Un.item,Un.n,Un.kind,Un.label,Un.head,Un.words,Un.kids]
theorem LenU.kids{u:Un}(h:LenU u):u.kids.length≤maxLen∧∀k∈u.kids,LenU k:=by cases h;exact⟨by assumption,by assumption⟩
theorem LenU.head{u:Un}(h:LenU u):u.head.length≤maxLen:=by cases h;assumption
theorem LenU.words{u:Un}(h:LenU u):u.words.length≤maxLen:=by cases h;assumption
theorem SmT.lens{u:Un}(h:SmT u):LenU u:=by
 induction h with
 |mk u h hk hs ih=>exact .mk u (by have:=h.head.1;unfold maxLen;omega) (by have:=h.words.1;unfold maxLen;omega) (by unfold maxLen;omega) ih
theorem UnB.lens{u:Un}(h:UnB u):LenU u:=by
 induction h with
 |mk u h hl hh hw hk hs ih=>exact .mk u (by have:=hh.1;unfold maxLen;omega) (by have:=hw.1;unfold maxLen;omega) (by unfold maxLen;omega) ih
theorem Zf5(l m:List Un)(hl0:l.length≤maxLen)(hf:∀k (ka:k<l.length) (kb:k<m.length),Tc 25 [.agg l[k].enc,.agg m[k].enc] (.bool (eqB l[k] m[k]))):
  Tc 49 [.sl 8 (l.map Un.enc),.sl 8 (m.map Un.enc),.fn (.func 25) [] []] (.bool (eqB l m)):=by
 have hl:l.length≤9223372036854775807:=hl0;refine Gp (vc:=Y171) [.t 6] (Closed.of_scalar (Zbs _)) Tryz.func49 ?_;simp only[Y171,YY];refine Rp0 [0,1,2] ?_;refine Zaa<|Rp1 [0,1,2,14] @xlm ?_;refine Zae rfl (fun h1=>?_) (fun h1=>?_)
 ·refine Rp0 [6] ?_;refine Tp0 ?_;simp only[bne_iff_ne,ne_eq,Int.natCast_inj]at h1;rw[Zel (Z1f h1)];exact Vr
 simp only[bne_eq_false_iff_eq,Int.natCast_inj]at h1;refine Kp0 ?_;refine Zaa<|Rp1 [1,2,15,16,17] @xlm ?_;refine Zab ?_;refine Zai (σ:={ s:Nat×Nat//s.1≤l.length∧l.take s.1=m.take s.1 }) (fun s=>([(1,.sl 8 (m.map Un.enc)),(2,.fn (.func 25) [] []),(15,.sl 8 (l.map Un.enc)),(16,pI l.length),(17,pI s.1.1)],⟨[],s.1.2⟩)) (fun s=>l.length-s.1.1) ⟨(0,0),by simp⟩ ?_ ?_ ?_
 ·simp only[vmL,Nat.reduceEqDiff]
  first|rfl|exact⟨rfl,rfl⟩
 ·exact⟨Nat.le_refl _,trivial⟩
 rintro⟨⟨k,n⟩,hk,he⟩;simp only[]at hk he⊢;refine Rp1 [1,2,15,16,17,18] @xlm ?_;refine Zaa<|Zae rfl (fun h2=>?_) (fun h2=>?_)
 ·refine Kp0 ?_;have h2:=oT h2;have ka:k<l.length:=by omega
  have kb:k<m.length:=by omega
  refine Zaa<|Zab ?_;refine Zaa (Zad [1,2,7,8,15,16,17] ?_);simp only[vmL,Nat.reduceEqDiff,Nat.reduceAdd,Nat.reduceLT,Zyc,Zcs ka,Z0s,Zlw];refine Ok ?_;try simp only[Zlw,Zyj]
  refine Zaa (Zad [1,2,8,9,15,16,17] ?_);simp only[vmL,Nat.reduceEqDiff,Nat.reduceAdd,Nat.reduceLT,Zyc,Zcs kb,Z0s,Zlw];refine Ok ?_;try simp only[Zlw,Zyj]
  refine Zaa (Zad [1,2,15,16,17,30] ?_);simp only[vmL,Nat.reduceEqDiff,Nat.reduceLT,Z0s,Zlw];refine Ok ?_;refine Ap0 (hf k ka kb) ?_;refine Zae rfl (fun h3=>?_) (fun h3=>?_)
  ·refine Rp0 [6] ?_;refine Tp0 ?_;have h4:l[k]≠m[k]:=fun e=>by rw[e]at h3;simp[eqB]at h3
   rw[Zel (Z1g ka kb h4)];exact Vr
  have h4:l[k]=m[k]:=by simpa[eqB]using h3
  refine Kp0 ?_;refine rp1 [1,2,15,16,17] (w64 (n:=(k:Int)+1) (by omega) (by omega)) ?_;refine⟨⟨(k+1,n+2),by simp only[];omega,Zg6 he ka kb h4⟩,?_,?_,?_⟩
  ·simp
  ·exact Sc0
  ·dsimp only;omega
 ·have h2:=oF h2;obtain rfl:k=l.length:=by omega
  refine Ep0 ?_;refine Rp0 [6] ?_;refine Tp0 ?_;rw[Zmp (Zm3 h1 he)];exact Vr
theorem Zdm(a b:Un)(ha:LenU a)(hb:LenU b):Tc 25 [.agg a.enc,.agg b.enc] (.bool (eqB a b)):=by
 have ea:=Un.Zaf a;have eb:=Un.Zaf b;refine Gp (vc:=Y172) [.t 4] (Closed.of_scalar (Zbs _)) Tryz.func25 ?_;simp only[Y172,YY];refine Rp1 [2,3] (x2 ea eb) ?_
 skip
 skip
 refine Rp0 [4] ?_;refine Ok ?_;refine Za1 rfl (fun g1=>?_) (fun g1=>?_)
 rotate_left
 ·simp only[vmL,Nat.reduceEqDiff,g1,];refine Zd4 ?_;try simp only[vmL]
  rw[Zel (fun e=>by subst e;simp[eqB]at g1)];exact Vr
 simp only[vmL,Nat.reduceEqDiff,Nat.reduceAdd,Nat.reduceLT,Nat.reduceLeDiff,reduceCtorEq,g1,];refine Ok ?_;refine Za1 rfl (fun g2=>?_) (fun g2=>?_)
 rotate_left
 ·simp only[vmL,Nat.reduceEqDiff,g2,];refine Zd4 ?_;try simp only[vmL]
  rw[Zel (fun e=>by subst e;simp[eqB]at g2)];exact Vr
 simp only[vmL,Nat.reduceEqDiff,Nat.reduceAdd,Nat.reduceLT,Nat.reduceLeDiff,reduceCtorEq,g2,];refine Ok ?_;refine Za1 rfl (fun g3=>?_) (fun g3=>?_)
 rotate_left
 ·simp only[vmL,Nat.reduceEqDiff,g3,];refine Zd4 ?_;try simp only[vmL]
  rw[Zel (fun e=>by subst e;simp[eqB]at g3)];exact Vr
 simp only[vmL,Nat.reduceEqDiff,Nat.reduceAdd,Nat.reduceLT,Nat.reduceLeDiff,reduceCtorEq,g3,];refine Ok ?_;refine Zag (Zko _ _ (LenU.head ha)) ?_;refine Za1 rfl (fun g4=>?_) (fun g4=>?_)
 rotate_left
 ·simp only[vmL,Nat.reduceEqDiff,g4,];refine Zd4 ?_;try simp only[vmL]
  rw[Zel (fun e=>by subst e;simp[eqB]at g4)];exact Vr
 simp only[vmL,Nat.reduceEqDiff,Nat.reduceAdd,Nat.reduceLT,Nat.reduceLeDiff,reduceCtorEq,g4,];refine Ok ?_;refine Zag (Zko _ _ (LenU.words ha)) ?_;refine Za1 rfl (fun g5=>?_) (fun g5=>?_)
 rotate_left
 ·simp only[vmL,Nat.reduceEqDiff,g5,];refine Zd4 ?_;try simp only[vmL]
  rw[Zel (fun e=>by subst e;simp[eqB]at g5)];exact Vr
 simp only[vmL,Nat.reduceEqDiff,Nat.reduceLT,reduceCtorEq,g5,];refine Ok ?_;refine Zag (Zf5 _ _ (LenU.kids ha).1 (fun k ka kb=>Zdm _ _ ((LenU.kids ha).2 _ (Zyl ka)) ((LenU.kids hb).2 _ (Zyl kb)))) ?_;refine Tp0 ?_;have e1:eqB a.kids b.kids=eqB a b:=by
  simp[eqB]at g1 g2 g3 g4 g5;by_cases h:a.kids=b.kids
  ·rw[Zmp h,Zmp (un_eq g1.1 g1.2.1 g1.2.2 g2 g3 g4 g5 h)]
  ·rw[Zel h,Zel (fun e=>h (by rw[e]))]
 rw[e1];exact Vr
termination_by SizeOf.sizeOf a
decreasing_by exact Xep ka
def Y173:VC:=(ZR [Yv 6 Yf] (.seq (ZR [ZM 10 0,Ye 11 10,ZM 12 1,Ye 13 12,Yr 14 .neq 11 13] (YC 14 (ZR [Yv 6 Yf] .ret) .skip)) (.seq (ZR [ZM 15 0,Ye 16 15,Yv 17 (Yi 0)] (.block 0 (.loop (ZR [Yr 18 .lss 17 16] (.seq (YC 18 .skip (.exit 0)) (.seq (.block 1 (ZR [ZM 19 17,Yx 20 25 15 17,Ym 21 25 20,ZO 8 (.alloc YI),ZM 7 19,Ys 25 8 21] (ZR [ZM 22 1,ZM 23 7,Yx 24 25 22 23,Ym 25 25 24,ZO 9 (.alloc YI),Ys 25 9 25] (ZR [ZM 26 2,Ym 27 25 8,Ym 28 25 9,ZO 29 (.callv (.t 26) [.t 27,.t 28]),Yn 30 29] (YC 30 (ZR [Yv 6 Yf] .ret) .skip))))) (.region [Yu 31 .add 17 1,ZM 17 31] false))))))) (ZR [Yv 6 Yt] .ret))))
def Y174:VC:=(ZR [Yw 2 25 0,Yw 3 25 1,Yv 4 Yf] (ZR [Ya 8 0 2,Yl 9 8,Ya 10 0 3,Yl 11 10,Yr 12 .eql 9 11,ZM 13 12,Yb 14 3 2 13 true,Yk 15 14 13 true,Yb 16 3 3 13 true,Yk 17 16 13 true,ZG 18 (.bin .eql (.t 15) (.t 17)) 13 true,Yz 19 13 18,ZM 20 19,Yb 21 4 2 20 true,Yk 22 21 20 true,Yb 23 4 3 20 true,Yk 24 23 20 true,ZG 25 (.bin .eql (.t 22) (.t 24)) 20 true,Yz 26 20 25,ZM 27 26,Yb 28 20 2 27 true,Yk 29 28 27 true,Yb 30 20 3 27 true,Yk 31 30 27 true,ZG 32 (.bin .eql (.t 29) (.t 31)) 27 true,Yz 33 27 32,ZM 34 33,Yb 35 21 2 34 true,Yk 36 35 34 true,Yb 37 21 3 34 true,Yk 38 37 34 true,ZG 39 (.bin .eql (.t 36) (.t 38)) 34 true,Yz 40 34 39,ZM 41 40,Yb 42 22 2 41 true,Yk 43 42 41 true,Yb 44 22 3 41 true,Yk 45 44 41 true,ZG 46 (.bin .eql (.t 43) (.t 45)) 41 true,Yz 47 41 46,ZM 5 47] (ZR [Ya 48 15 2,Yl 49 48,Ya 50 15 3,Yl 51 50,Yr 52 .eql 49 51,ZM 53 52,Yb 54 16 2 53 true,Yk 55 54 53 true,Yb 56 16 3 53 true,Yk 57 56 53 true,ZG 58 (.bin .eql (.t 55) (.t 57)) 53 true,Yz 59 53 58,ZM 60 59,Yb 61 23 2 60 true,Yk 62 61 60 true,Yb 63 23 3 60 true,Yk 64 63 60 true,ZG 65 (.bin .eql (.t 62) (.t 64)) 60 true,Yz 66 60 65,ZM 67 66,Yb 68 17 2 67 true,Yj 69 3 68 67 true,Yb 70 17 3 67 true,Yj 71 3 70 67 true,ZG 72 (.eqs false [.i,.i,.s] (.t 69) (.t 71)) 67 true,Yz 73 67 72,ZM 6 73] (ZR [Ya 74 1 2,Yl 75 74,Ya 76 1 3,Yl 77 76,Yc 78 164 [75,77],ZM 79 78,Yb 80 2 2 79 true,Yk 81 80 79 true,Yb 82 2 3 79 true,Yk 83 82 79 true,ZG 84 (.call 164 [.t 81,.t 83]) 79 true,Yz 85 79 84,ZM 86 85,Yb 87 13 2 86 true,Yk 88 87 86 true,Yb 89 13 3 86 true,Yk 90 89 86 true,ZG 91 (.call 165 [.t 88,.t 90]) 86 true,Yz 92 86 91,ZM 93 92,Yb 94 14 2 93 true,Yk 95 94 93 true,Yb 96 14 3 93 true,Yk 97 96 93 true,ZG 98 (.call 165 [.t 95,.t 97]) 93 true,Yz 99 93 98,ZM 7 99] (ZR [ZM 100 5,ZM 101 100,Yg 102 6 101 true,Yz 103 101 102,ZM 104 103,Yg 105 7 104 true,Yz 106 104 105,ZM 107 106,Yb 108 5 2 107 true,Yj 109 8 108 107 true,Yb 110 5 3 107 true,Yj 111 8 110 107 true,ZG 112 (.call 25 [.t 109,.t 111]) 107 true,Yz 113 107 112,ZM 114 113,Yb 115 24 2 114 true,Yk 116 115 114 true,Yb 117 24 3 114 true,Yk 118 117 114 true,ZG 119 (.call 166 [.t 116,.t 118,(.c (.fn (.func 103) [] []))]) 114 true,Yz 120 114 119,ZM 4 120] .ret)))))
inductive LenI:It→Prop
 |mk (x:It) (h1:x.at'.length≤maxLen) (h2:x.to.length≤maxLen) (h3:LenU x.unit) (h4:x.old.length≤1048576) (h5:x.new.length≤1048576) (h6:x.by'.length≤maxLen) (h7:∀k∈x.by',LenI k):LenI x
structure ItOk (x:It):Prop where
 at':x.at'.length≤maxLen
 tu:x.to.length≤maxLen
 unit:LenU x.unit
 old:x.old.length≤1048576
 new:x.new.length≤1048576
 len:x.by'.length≤maxLen
 by':∀k∈x.by',LenI k
theorem Xeq{x:It}(h:LenI x):ItOk x:=by
 cases h with
 |mk _ h1 h2 h3 h4 h5 h6 h7=>exact⟨h1,h2,h3,h4,h5,h6,h7⟩
theorem ItB.lens{x:It}(h:ItB x):LenI x:=by
 induction h with
 |mk x h1 h2 h3 h4 h5 h6 h7 h8 h9 h10 h11 h12 h13 h14 h15 h16 h17 ih=>
  exact .mk x (by have:=h2.1;unfold maxLen;omega) (by have:=h3.1;unfold maxLen;omega) (UnB.lens h6) h7.1 h8.1 (by unfold maxLen;omega) ih
theorem Z0t(u:It):u.enc.take 25=u.enc:=Zyi (by rw[It.Zd8];exact Nat.le_refl _)
theorem Xer{u:It}{k:Nat}(h:k<u.by'.length):SizeOf.sizeOf u.by'[k]<SizeOf.sizeOf u:=by
 match u,h with
 | .mk k1 a t w n u o e l f s ac it d ev b,h=>
  have h1:SizeOf.sizeOf b[k]<SizeOf.sizeOf b:=List.sizeOf_lt_of_mem (Zyl h);rw[It.mk.sizeOf_spec];show SizeOf.sizeOf b[k]<_;omega
def It.flat(a b:It):Prop:=a.kind=b.kind∧a.Zff=b.Zff∧a.nth=b.nth∧a.label=b.label∧a.Zib=b.Zib∧a.start=b.start∧a.act=b.act∧a.item=b.item∧a.day=b.day∧a.Zbd=b.Zbd
def It.deep(a b:It):Prop:=a.at'=b.at'∧a.to=b.to∧a.old=b.old∧a.new=b.new∧a.unit=b.unit∧a.by'.length=b.by'.length
theorem it_eq{a b:It}(h1:It.flat a b)(h2:It.deep a b)(h3:a.by'=b.by'):a=b:=by
 obtain⟨q1,q2,q3,q4,q5,q6,q7,q8,q9,q10⟩:=h1;obtain⟨p1,p2,p3,p4,p5,p6⟩:=h2;cases a;cases b;simp_all [It.kind,It.Zff,It.nth,It.label,It.Zib,It.start,It.act,It.item,It.day,It.Zbd,It.at',It.to,It.old,It.new,It.unit,It.by']
theorem Xes{a b:Sta}(h1:a.kind=b.kind)(h2:a.day=b.day)(h3:a.Zbd=b.Zbd):a=b:=by cases a;cases b;simp_all
theorem Z85(l m:List Str)(hl:l.length≤1048576):Tc 165 [It.strs l,It.strs m] (.bool (eqB l m)):=by
 have h:=Zhk l m hl;have e:eqB l m=decide (l=m):=by by_cases h:l=m<;>simp[eqB,h]
 rw[e];exact h
theorem Zf6(l m:List It)(hl0:l.length≤maxLen)(hf:∀k (ka:k<l.length) (kb:k<m.length),Tc 103 [.agg l[k].enc,.agg m[k].enc] (.bool (eqB l[k] m[k]))):
  Tc 166 [.sl 25 (l.map It.enc),.sl 25 (m.map It.enc),.fn (.func 103) [] []] (.bool (eqB l m)):=by
 have hl:l.length≤9223372036854775807:=hl0;refine Gp (vc:=Y173) [.t 6] (Closed.of_scalar (Zbs _)) Tryz.func166 ?_;simp only[Y173,YY];refine Rp0 [0,1,2] ?_;refine Zaa<|Rp1 [0,1,2,14] @xlm ?_;refine Zae rfl (fun h1=>?_) (fun h1=>?_)
 ·refine Rp0 [6] ?_;refine Tp0 ?_;simp only[bne_iff_ne,ne_eq,Int.natCast_inj]at h1;rw[Zel (Z1f h1)];exact Vr
 simp only[bne_eq_false_iff_eq,Int.natCast_inj]at h1;refine Kp0 ?_;refine Zaa<|Rp1 [1,2,15,16,17] @xlm ?_;refine Zab ?_;refine Zai (σ:={ s:Nat×Nat//s.1≤l.length∧l.take s.1=m.take s.1 }) (fun s=>([(1,.sl 25 (m.map It.enc)),(2,.fn (.func 103) [] []),(15,.sl 25 (l.map It.enc)),(16,pI l.length),(17,pI s.1.1)],⟨[],s.1.2⟩)) (fun s=>l.length-s.1.1) ⟨(0,0),by simp⟩ ?_ ?_ ?_
 ·simp only[vmL,Nat.reduceEqDiff]
  first|rfl|exact⟨rfl,rfl⟩
 ·exact⟨Nat.le_refl _,trivial⟩
 rintro⟨⟨k,n⟩,hk,he⟩;simp only[]at hk he⊢;refine Rp1 [1,2,15,16,17,18] @xlm ?_;refine Zaa<|Zae rfl (fun h2=>?_) (fun h2=>?_)
 ·refine Kp0 ?_;have h2:=oT h2;have ka:k<l.length:=by omega
  have kb:k<m.length:=by omega
  refine Zaa<|Zab ?_;refine Zaa (Zad [1,2,7,8,15,16,17] ?_);simp only[vmL,Nat.reduceEqDiff,Nat.reduceAdd,Nat.reduceLT,Zyc,Zcs ka,Z0t,It.Zd8];refine Ok ?_;try simp only[It.Zd8,Zyj]
  refine Zaa (Zad [1,2,8,9,15,16,17] ?_);simp only[vmL,Nat.reduceEqDiff,Nat.reduceAdd,Nat.reduceLT,Zyc,Zcs kb,Z0t,It.Zd8];refine Ok ?_;try simp only[It.Zd8,Zyj]
  refine Zaa (Zad [1,2,15,16,17,30] ?_);simp only[vmL,Nat.reduceEqDiff,Nat.reduceLT,Z0t,It.Zd8];refine Ok ?_;refine Ap0 (hf k ka kb) ?_;refine Zae rfl (fun h3=>?_) (fun h3=>?_)
  ·refine Rp0 [6] ?_;refine Tp0 ?_;have h4:l[k]≠m[k]:=fun e=>by rw[e]at h3;simp[eqB]at h3
   rw[Zel (Z1g ka kb h4)];exact Vr
  have h4:l[k]=m[k]:=by simpa[eqB]using h3
  refine Kp0 ?_;refine rp1 [1,2,15,16,17] (w64 (n:=(k:Int)+1) (by omega) (by omega)) ?_;refine⟨⟨(k+1,n+2),by simp only[];omega,Zg6 he ka kb h4⟩,?_,?_,?_⟩
  ·simp
  ·exact Sc0
  ·dsimp only;omega
 ·have h2:=oF h2;obtain rfl:k=l.length:=by omega
  refine Ep0 ?_;refine Rp0 [6] ?_;refine Tp0 ?_;rw[Zmp (Zm3 h1 he)];exact Vr
def It.nums(a b:It):Prop:=a.kind=b.kind∧a.Zff=b.Zff∧a.nth=b.nth∧a.act=b.act∧a.item=b.item∧a.day=b.day
def It.texts(a b:It):Prop:=a.label=b.label∧a.Zib=b.Zib∧a.Zbd=b.Zbd∧a.start=b.start
def It.rws(a b:It):Prop:=a.at'=b.at'∧a.to=b.to∧a.old=b.old∧a.new=b.new
theorem Zhs(a b:It)(ha:LenI a)(hb:LenI b):Tc 103 [.agg a.enc,.agg b.enc] (.bool (eqB a b)):=by
 have ea:=It.Zaf a;have eb:=It.Zaf b;have oa:=Xeq ha;have ob:=Xeq hb;have hu:=Zdm a.unit b.unit oa.unit ob.unit;rw[Un.Zaf a.unit,Un.Zaf b.unit]at hu;refine Gp (vc:=Y174) [.t 4] (Closed.of_scalar (Zbs _)) Tryz.func103 ?_;simp only[Y174,YY];refine Rp1 [2,3] (x2 ea eb) ?_
 skip
 skip
 refine Zc6 (σ:={r:Bool//(r=true→It.nums a b)∧(r=false→a≠b)}) [2,3,5] (fun s=>[(2,.loc 0 0 0),(3,.loc 1 0 0),(5,.bool s.1)]) ?_ ?_
 ·refine Sp0 ?_;refine Ok ?_;refine Za1 rfl (fun g1=>?_) (fun g1=>?_)
  rotate_left
  ·simp only[vmL,Nat.reduceEqDiff,g1,];refine⟨⟨false,(fun h=>by cases h),fun _ e=>?_⟩,by simp⟩;subst e;simp[eqB]at g1
  simp only[vmL,Nat.reduceEqDiff,Nat.reduceAdd,Nat.reduceLT,Nat.reduceLeDiff,reduceCtorEq,g1,];refine Ok ?_;refine Za1 rfl (fun g2=>?_) (fun g2=>?_)
  rotate_left
  ·simp only[vmL,Nat.reduceEqDiff,g2,];refine⟨⟨false,(fun h=>by cases h),fun _ e=>?_⟩,by simp⟩;subst e;simp[eqB]at g2
  simp only[vmL,Nat.reduceEqDiff,Nat.reduceAdd,Nat.reduceLT,Nat.reduceLeDiff,reduceCtorEq,g2,];refine Ok ?_;refine Za1 rfl (fun g3=>?_) (fun g3=>?_)
  rotate_left
  ·simp only[vmL,Nat.reduceEqDiff,g3,];refine⟨⟨false,(fun h=>by cases h),fun _ e=>?_⟩,by simp⟩;subst e;simp[eqB]at g3
  simp only[vmL,Nat.reduceEqDiff,Nat.reduceAdd,Nat.reduceLT,Nat.reduceLeDiff,reduceCtorEq,g3,];refine Ok ?_;refine Za1 rfl (fun g4=>?_) (fun g4=>?_)
  rotate_left
  ·simp only[vmL,Nat.reduceEqDiff,g4,];refine⟨⟨false,(fun h=>by cases h),fun _ e=>?_⟩,by simp⟩;subst e;simp[eqB]at g4
  simp only[vmL,Nat.reduceEqDiff,Nat.reduceAdd,Nat.reduceLT,Nat.reduceLeDiff,reduceCtorEq,g4,];refine Ok ?_;refine Za1 rfl (fun g5=>?_) (fun g5=>?_)
  rotate_left
  ·simp only[vmL,Nat.reduceEqDiff,g5,];refine⟨⟨false,(fun h=>by cases h),fun _ e=>?_⟩,by simp⟩;subst e;simp[eqB]at g5
  simp only[vmL,Nat.reduceEqDiff,Nat.reduceAdd,Nat.reduceLT,Nat.reduceLeDiff,reduceCtorEq,g5,];refine Ok ?_;refine⟨⟨a.day==b.day,fun h=>?_,fun h e=>?_⟩,?_⟩
  ·simp at g1 g2 g3 g4 g5 h;exact⟨g1,g2,g3,g4,g5,h⟩
  ·subst e;simp at h
  ·simp
 rintro⟨r1,n1,n0⟩;refine Zc6 (σ:={r:Bool//(r=true→It.texts a b)∧(r=false→a≠b)}) [2,3,5,6] (fun s=>[(2,.loc 0 0 0),(3,.loc 1 0 0),(5,.bool r1),(6,.bool s.1)]) ?_ ?_
 ·refine Sp0 ?_;refine Ok ?_;refine Za1 rfl (fun g1=>?_) (fun g1=>?_)
  rotate_left
  ·simp only[vmL,Nat.reduceEqDiff,g1,];refine⟨⟨false,(fun h=>by cases h),fun _ e=>?_⟩,by simp⟩;subst e;simp[eqB]at g1
  simp only[vmL,Nat.reduceEqDiff,Nat.reduceAdd,Nat.reduceLT,Nat.reduceLeDiff,reduceCtorEq,g1,];refine Ok ?_;refine Za1 rfl (fun g2=>?_) (fun g2=>?_)
  rotate_left
  ·simp only[vmL,Nat.reduceEqDiff,g2,];refine⟨⟨false,(fun h=>by cases h),fun _ e=>?_⟩,by simp⟩;subst e;simp[eqB]at g2
  simp only[vmL,Nat.reduceEqDiff,Nat.reduceAdd,Nat.reduceLT,Nat.reduceLeDiff,reduceCtorEq,g2,];refine Ok ?_;refine Za1 rfl (fun g3=>?_) (fun g3=>?_)
  rotate_left
  ·simp only[vmL,Nat.reduceEqDiff,g3,];refine⟨⟨false,(fun h=>by cases h),fun _ e=>?_⟩,by simp⟩;subst e;simp[eqB]at g3
  simp only[vmL,Nat.reduceEqDiff,Nat.reduceAdd,Nat.reduceLT,Nat.reduceLeDiff,reduceCtorEq,g3,];refine Ok ?_;refine⟨⟨a.start.kind==b.start.kind&&(a.start.day==b.start.day&&a.start.Zbd==b.start.Zbd),fun h=>?_,fun h e=>?_⟩,?_⟩
  ·simp at g1 g2 g3 h;exact⟨g1,g2,g3,Xes h.1 h.2.1 h.2.2⟩
  ·subst e;simp at h
  ·simp
 rintro⟨r2,t1,t0⟩;refine Zc6 (σ:={r:Bool//(r=true→It.rws a b)∧(r=false→a≠b)}) [2,3,5,6,7] (fun s=>[(2,.loc 0 0 0),(3,.loc 1 0 0),(5,.bool r1),(6,.bool r2),(7,.bool s.1)]) ?_ ?_
 ·refine Sp0 ?_;refine Ok ?_;refine Zag (Zkn _ _ oa.at') ?_;refine Za1 rfl (fun g1=>?_) (fun g1=>?_)
  rotate_left
  ·simp only[vmL,Nat.reduceEqDiff,g1,];refine⟨⟨false,(fun h=>by cases h),fun _ e=>?_⟩,by simp⟩;subst e;simp[eqB]at g1
  simp only[vmL,Nat.reduceEqDiff,Nat.reduceAdd,Nat.reduceLT,Nat.reduceLeDiff,reduceCtorEq,g1,];refine Ok ?_;refine Zag (Zkn _ _ oa.tu) ?_;refine Za1 rfl (fun g2=>?_) (fun g2=>?_)
  rotate_left
  ·simp only[vmL,Nat.reduceEqDiff,g2,];refine⟨⟨false,(fun h=>by cases h),fun _ e=>?_⟩,by simp⟩;subst e;simp[eqB]at g2
  simp only[vmL,Nat.reduceEqDiff,Nat.reduceAdd,Nat.reduceLT,Nat.reduceLeDiff,reduceCtorEq,g2,];refine Ok ?_;refine Zag (Z85 _ _ oa.old) ?_;refine Za1 rfl (fun g3=>?_) (fun g3=>?_)
  rotate_left
  ·simp only[vmL,Nat.reduceEqDiff,g3,];refine⟨⟨false,(fun h=>by cases h),fun _ e=>?_⟩,by simp⟩;subst e;simp[eqB]at g3
  simp only[vmL,Nat.reduceEqDiff,Nat.reduceAdd,Nat.reduceLT,Nat.reduceLeDiff,reduceCtorEq,g3,];refine Ok ?_;refine Ap0 (Z85 _ _ oa.new) ?_;refine⟨⟨eqB a.new b.new,fun h=>?_,fun h e=>?_⟩,?_⟩
  ·simp[eqB]at g1 g2 g3 h;exact⟨g1,g2,g3,h⟩
  ·subst e;simp[eqB]at h
  ·simp
 rintro⟨r3,s1,s0⟩;simp only[];refine Rp0 [4] ?_;refine Za1 rfl (fun g1=>?_) (fun g1=>?_)
 rotate_left
 ·refine Sp1 g1 ?_;refine Tp0 ?_;rw[Zel (n0 (by simpa using g1))];exact Vr
 refine Sp1 g1 ?_;refine Za1 rfl (fun g2=>?_) (fun g2=>?_)
 rotate_left
 ·refine Sp1 g2 ?_;refine Tp0 ?_;rw[Zel (t0 (by simpa using g2))];exact Vr
 refine Sp1 g2 ?_;refine Za1 rfl (fun g3=>?_) (fun g3=>?_)
 rotate_left
 ·refine Sp1 g3 ?_;refine Tp0 ?_;rw[Zel (s0 (by simpa using g3))];exact Vr
 refine Sp1 g3 ?_;refine Ok ?_;refine Zag hu ?_;refine Za1 rfl (fun g4=>?_) (fun g4=>?_)
 rotate_left
 ·simp only[vmL,Nat.reduceEqDiff,g4,];refine Zd4 ?_;try simp only[vmL]
  rw[Zel (fun e=>by subst e;simp[eqB]at g4)];exact Vr
 simp only[vmL,Nat.reduceEqDiff,Nat.reduceLT,reduceCtorEq,g4,];refine Ok ?_;refine Zag (Zf6 _ _ oa.len (fun k ka kb=>Zhs _ _ (oa.by' _ (Zyl ka)) (ob.by' _ (Zyl kb)))) ?_;refine Tp0 ?_;obtain⟨q1,q2,q3,q4,q5,q6⟩:=n1 g1;obtain⟨u1,u2,u3,u4⟩:=t1 g2;obtain⟨v1,v2,v3,v4⟩:=s1 g3;have e1:eqB a.by' b.by'=eqB a b:=by
  simp[eqB]at g4;by_cases h:a.by'=b.by'
  ·rw[Zmp h,Zmp (it_eq ⟨q1,q2,q3,u1,u2,u4,q4,q5,q6,u3⟩ ⟨v1,v2,v3,v4,g4,by rw[h]⟩ h)]
  ·rw[Zel h,Zel (fun e=>h (by rw[e]))]
 rw[e1];exact Vr
termination_by SizeOf.sizeOf a
decreasing_by exact Xer ka
end Go.Proofs.w
