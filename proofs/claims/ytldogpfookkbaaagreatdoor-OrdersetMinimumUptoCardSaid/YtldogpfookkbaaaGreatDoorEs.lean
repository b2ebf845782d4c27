import Derived.Test.YtldogpfookkbaaaGreatDoorEr
import Derived.Test.YtldogpfookkbaaaGreatDoorVmBl
set_option linter.all false
set_option maxRecDepth 20000
set_option maxHeartbeats 0
namespace Go.VM
open Go Go.Proofs.w
theorem Zov{g n:Nat}(hg:1≤g):∀{l:List Nat} {b:Nat},Zhh g n b l→b≤n→b+l.length≤n
 | [],b,_,h=>h
 |p::r,b,⟨h1,h2,h3⟩,h=>by
  have:=Zov hg h3 h2;rw[Zyd];omega
theorem Zme{g n:Nat}:∀{l:List Nat} {b:Nat},Zhh g n b l→Zhh 0 n b (l.map (·+g))
  | [],b,_=>trivial
  |p::r,b,⟨h1,h2,h3⟩=>⟨by show b≤p+g;omega,h2,Zme h3⟩
def Zow(w:List Wd)(old new:List Str)(nth a i:Int):List Wd×Int:=
 if old=[]∨nth<0 then([],1)else if Zcw w old nth=[]then([],4)else Z7m new a i old.length w (Zcw w old nth)
def Z7t(w:List Wd)(part new:List Str)(nth a i:Int):List Wd×Int:=
  if new=[]∨nth<0∨(part=[]∧nth≠0)then([],1)else if part=[]then Z7m new a i 0 w [0]
  else if Zcw w part nth=[]then([],4)else Z7m new a i 0 w ((Zcw w part nth).map (·+part.length))
def Z9x(l:List Nat)(g j:Nat):List (List PV):=nR ((l.take j).map (·+g)++l.drop j)
theorem midN_0(l:List Nat)(g:Nat):Z9x l g 0=nR l:=rfl
theorem Xa4(l:List Nat)(g j:Nat):(Z9x l g j).length=l.length:=by unfold Z9x;rw[Zbw];simp;omega
theorem Xa5(l:List Nat)(g:Nat):Z9x l g l.length=nR (l.map (·+g)):=by unfold Z9x;rw[List.take_length,List.drop_length,Zyj]
theorem Xd9(l:List Nat)(g:Nat){j:Nat}(h:j<l.length):∃A B:List (List PV),A.length=j∧Z9x l g j=A++[pI l[j]]::B∧Z9x l g (j+1)=A++[pI ((l[j]+g:Nat):Int)]::B:=by
  refine⟨nR ((l.take j).map (·+g)),nR (l.drop (j+1)),by rw[Zbw];simp;omega,?_,?_⟩
  · unfold Z9x nR
    rw[List.drop_eq_getElem_cons h,List.map_append,List.map_cons]
  · unfold Z9x nR
    rw[List.take_add_one,Zye h,List.map_append,List.map_append,List.map_append,List.append_assoc];rfl
end Go.VM
namespace Go.Proofs.w
open Go Go.VM
def Y85:VC:=(ZR [ZO 12 (.mv (.c .nilsl)),Yv 13 (Yi 0)] (.seq (ZR [ZM 15 1,Ye 16 15,Yu 17 .eql 16 0,ZM 18 17,Yg 19 3 18 false,ZG 20 (.bin .lss (.t 19) (Yi 0)) 18 false,Yh 21 18 20] (YC 21 (ZR [ZO 12 (.mv (.c .nilsl)),Yv 13 (Yi 1)] .ret) .skip)) (ZR [ZM 22 0,ZM 23 1,ZM 24 3,Yc 25 190 [22,23,24],ZM 14 25] (.seq (ZR [ZM 26 14,Ye 27 26,Yu 28 .eql 27 0] (YC 28 (ZR [ZO 12 (.mv (.c .nilsl)),Yv 13 (Yi 4)] .ret) .skip)) (ZR [ZM 29 0,ZM 30 14,ZM 31 1,Ye 32 31,ZM 33 2,ZM 34 4,ZM 35 5,Yc 36 191 [29,30,32,33,34,35],Yp 37 36 0,Yp 38 36 1,ZM 12 37,ZM 13 38] .ret)))))
def Y86:VC:=(ZR [ZO 12 (.mv (.c .nilsl)),Yv 13 (Yi 0)] (.seq (ZR [ZM 16 2,Ye 17 16,Yu 18 .eql 17 0,ZM 19 18,Yg 20 3 19 false,ZG 21 (.bin .lss (.t 20) (Yi 0)) 19 false,Yh 22 19 21,ZM 23 22,Yg 24 1 23 false,Yd 25 24 23 false,ZG 26 (.bin .eql (.t 25) (Yi 0)) 23 false,Yg 27 26 23 false,Yg 28 3 27 true,ZG 29 (.bin .neq (.t 28) (Yi 0)) 27 true,ZG 30 (.pick (.t 27) (.t 29) Yf) 23 false,Yh 31 23 30] (YC 31 (ZR [ZO 12 (.mv (.c .nilsl)),Yv 13 (Yi 1)] .ret) .skip)) (.seq (ZR [ZM 32 1,Ye 33 32,Yu 34 .eql 33 0] (YC 34 (ZR [ZM 35 0,ZO 36 (.bslice 1 1 [Yo] [(0,(Yi 0))]),ZM 37 2,ZM 38 4,ZM 39 5,ZO 40 (.call 191 [.t 35,.t 36,(Yi 0),.t 37,.t 38,.t 39]),Yp 41 40 0,Yp 42 40 1,ZM 12 41,ZM 13 42] .ret) .skip)) (ZR [ZM 43 0,ZM 44 1,ZM 45 3,Yc 46 190 [43,44,45],Yc 47 34 [46],ZM 14 47] (.seq (ZR [ZM 48 14,Ye 49 48,Yu 50 .eql 49 0] (YC 50 (ZR [ZO 12 (.mv (.c .nilsl)),Yv 13 (Yi 4)] .ret) .skip)) (.seq (ZR [ZM 51 14,Ye 52 51,Yv 53 (Yi 0)] (.block 0 (.loop (ZR [Yr 54 .lss 53 52] (.seq (YC 54 .skip (.exit 0)) (.seq (.block 1 (ZR [ZM 55 53,ZM 15 55] (.region [ZM 56 14,ZM 57 15,Yx 58 1 56 57,Yl 59 58,ZM 60 1,Ye 61 60,Yr 62 .add 59 61,Yx 63 1 56 57,Ys 1 63 62] false))) (.region [Yu 64 .add 53 1,ZM 53 64] false))))))) (ZR [ZM 65 0,ZM 66 14,ZM 67 2,ZM 68 4,ZM 69 5,ZO 70 (.call 191 [.t 65,.t 66,(Yi 0),.t 67,.t 68,.t 69]),Yp 71 70 0,Yp 72 70 1,ZM 12 71,ZM 13 72] .ret)))))))
theorem Z35{L:List (Nat×AB)}{t:Nat}(hd:HL.dec L t)(l:List Nat)(hl:l.length≤1048576):Zam Tryz.prog 34 [.sl 1 (nR l)] ⟨L,t⟩ (fun p h'=>p=.own (t+1) 0 l.length∧h'=⟨(t+1,.arr false 1 (nR l))::L,t+2⟩):=by
 have d0:HL.del L t=L:=HL.del_ge hd (Nat.le_refl t);have d1:HL.del L (t+1)=L:=HL.del_ge hd (Nat.le_succ t);have hnl:=Zbw l;refine Zam.own0 1 ?_;refine Zam.drop ?_;have qq:=N2 t (t+1);refine Gn (vc:=Y84) [.t 2] Tryz.func34 ?_;simp only[Y84,YY];refine Rp0 [0] ?_;refine Zaa<|Rp0 [0,4] ?_;intro b hb1 hb2;cases b with
 | true=>
  skip
  refine Zae rfl (fun h1=>?_) (fun h1=>by cases h1);refine Rp0 [2] ?_;refine Tp0 ?_;cases l with
  |nil=>
   exact⟨⟨L,t⟩,HOk.le_refl (h:=⟨L,t⟩) hd,.inl ⟨⟨L,t+1⟩,⟨Nat.le_succ _,(HOk.le_refl (h:=⟨L,t⟩) hd).2⟩,rfl,rfl⟩⟩
  |cons a r=>simp[nR]at hb2
 |false=>
  skip
  refine Zae rfl (fun h1=>by cases h1) (fun h1=>?_);refine Kp0 ?_;refine Rp1 [2] (x4 hnl d0 d1 qq) ?_;refine Ok ?_;refine Tp0 ?_;refine⟨⟨(t+1,.arr false 1 (nR l))::L,t+2⟩,⟨Nat.le_refl _,?_⟩,.inr rfl⟩;exact(HOk.le_refl (h:=⟨(t+1,.arr false 1 (nR l))::L,t+2⟩) ⟨Nat.lt_succ_self (t+1),HL.dec_mono hd (by omega)⟩).2
theorem Zvh(X:List Wd)(e:Int):Closed (.tup [.sl 4 (X.map Wd.enc),pI e]):=Zbb (by simp only[Zyb,Zya,or_false,Zyv,forall_eq];exact⟨Za9 _,cI _⟩)
theorem Z36(w:List Wd)(old new:List Str)(nth a i:Int)(hw:w.length≤1000)(ho:old.length≤900)(hn:new.length≤900):
  Tc 128 [.sl 4 (w.map Wd.enc),.sl 1 (sR old),.sl 1 (sR new),pI nth,pI a,pI i] (.tup [.sl 4 ((Zow w old new nth a i).1.map Wd.enc),pI (Zow w old new nth a i).2]):=by
 have PL:=fun h0=>Zq7 w old nth (by omega) (by omega) h0;have PT:=fun(h1:old≠[])=>Z7n w (Zcw w old nth) old.length new a i (Zfd w h1 nth) hw (by have:=Zov (List.length_pos_iff.2 h1) (Zfd w h1 nth) (Zyw _);omega) (by omega) hn;have hol:=Zhj old;have hpl:=Zbw (Zcw w old nth);refine Zac ?_ (Zvh _ _) (by intro y hy;simp only[Zyb,Zya,or_false]at hy;rcases hy with rfl|rfl|rfl|rfl|rfl|rfl;exact Za9 _;exact Zb9 _;exact Zb9 _;exact cI _;exact cI _;exact cI _);unfold Zow;generalize Zcw w old nth=L at*;generalize Z7m new a i old.length w L=R at*;refine Gn (vc:=Y85) [.t 12,.t 13] Tryz.func128 ?_;simp only[Y85,YY];refine Rp0 [0,1,2,3,4,5] ?_;refine Zaa ?_;refine Zaa (Zad [0,1,2,3,4,5,21] ?_);by_cases c1:old=[]
 case pos=>
  have g1:((old.length:Int)==0)=true:=by rw[beq_iff_eq,c1];rfl
  rw[if_pos (.inl c1)];refine Sp1 (x2 hol g1) ?_;refine Ct ?_;refine Rp0 [12,13] ?_;refine Tp0 ?_;exact View.tup2 (View.nil _ _) (Vr)
 have g1:((old.length:Int)==0)=false:=by rw[beq_eq_false_iff_ne];intro h;exact c1 (List.length_eq_zero_iff.1 (by omega))
 by_cases c2:nth<0
 case pos=>
  have g2:decide (nth<0)=true:=Zyf c2;rw[if_pos (.inr c2)];refine Sp1 (x3 hol g1 g2) ?_;refine Ct ?_;refine Rp0 [12,13] ?_;refine Tp0 ?_;exact View.tup2 (View.nil _ _) (Vr)
 have g2:decide (nth<0)=false:=Zyg c2;rw[if_neg (fun h=>h.elim c1 c2)];refine Sp1 (x3 hol g1 g2) ?_;refine Fp0 ?_;refine Rp0 [0,1,2,4,5,14] ?_;refine Zag (PL (by omega)) ?_;refine Zaa ?_;refine Zaa (Zad [0,1,2,4,5,14,28] ?_);by_cases c3:L=[]
 case pos=>
  have g3:((L.length:Int)==0)=true:=by rw[beq_iff_eq,c3];rfl
  rw[if_pos c3];refine Sp1 (x2 hpl g3) ?_;refine Ct ?_;refine Rp0 [12,13] ?_;refine Tp0 ?_;exact View.tup2 (View.nil _ _) (Vr)
 have g3:((L.length:Int)==0)=false:=by rw[beq_eq_false_iff_ne];intro h;exact c3 (List.length_eq_zero_iff.1 (by omega))
 rw[if_neg c3];refine Sp1 (x2 hpl g3) ?_;refine Fp0 ?_;refine Rp1 [12,13] hol ?_;refine Ap0 (PT c1) ?_;exact Tv0
theorem Zpz(w:List Wd)(part new:List Str)(nth a i:Int)(hw:w.length≤1000)(ho:part.length≤900)(hn:new.length≤900):
    Tc 130 [.sl 4 (w.map Wd.enc),.sl 1 (sR part),.sl 1 (sR new),pI nth,pI a,pI i] (.tup [.sl 4 ((Z7t w part new nth a i).1.map Wd.enc),pI (Z7t w part new nth a i).2]):=by
  have PL:=fun h0=>Zq7 w part nth (by omega) (by omega) h0;have P0:=Z7n w [0] 0 new a i ⟨Zyw _,by omega,trivial⟩ hw (by simp) (by omega) hn;have hnL:=fun(h1:part≠[])=>Zov (List.length_pos_iff.2 h1) (Zfd w h1 nth) (Zyw _);have hvL:=fun(h1:part≠[])=>Zfd w h1 nth;have PT:=fun(h1:part≠[])=>Z7n w ((Zcw w part nth).map (·+part.length)) 0 new a i (Zme (hvL h1)) hw (by rw[Zyc];have:=hnL h1;omega) (by omega) hn;have hb:=fun(h1:part≠[]) (j:Nat) (hj:j<(Zcw w part nth).length)=>(Zsu hj (hvL h1)).1;have hpl:=Zhj part;have hql:=Zhj new;have hLl:=Zbw (Zcw w part nth);refine Zac ?_ (Zvh _ _) (by intro y hy;simp only[Zyb,Zya,or_false]at hy;rcases hy with rfl|rfl|rfl|rfl|rfl|rfl;exact Za9 _;exact Zb9 _;exact Zb9 _;exact cI _;exact cI _;exact cI _);unfold Z7t;have CL:=Z35 (L:=[]) (t:=0) trivial (Zcw w part nth);generalize Zcw w part nth=L at*;generalize Z7m new a i 0 w (L.map (·+part.length))=R at*;generalize Z7m new a i 0 w [0]=R0 at*;refine Gn (vc:=Y86) [.t 12,.t 13] Tryz.func130 ?_;simp only[Y86,YY];refine Rp0 [0,1,2,3,4,5] ?_;refine Zaa ?_;refine Zaa (Zad [0,1,2,3,4,5,31] ?_);by_cases c1:new=[]
  case pos=>
    have g1:((new.length:Int)==0)=true:=by rw[beq_iff_eq,c1];rfl
    rw[if_pos (.inl c1)];refine Sp1 (x2 hql g1) ?_;refine Ct ?_;refine Rp0 [12,13] ?_;refine Tp0 ?_;exact View.tup2 (View.nil _ _) (Vr)
  have g1:((new.length:Int)==0)=false:=by rw[beq_eq_false_iff_ne];intro h;exact c1 (List.length_eq_zero_iff.1 (by omega))
  by_cases c2:nth<0
  case pos=>
    have g2:decide (nth<0)=true:=Zyf c2;rw[if_pos (.inr (.inl c2))];refine Sp1 (x3 hql g1 g2) ?_;refine Ct ?_;refine Rp0 [12,13] ?_;refine Tp0 ?_;exact View.tup2 (View.nil _ _) (Vr)
  have g2:decide (nth<0)=false:=Zyg c2;by_cases c3:part=[]
  case pos=>
    have g3:((part.length:Int)==0)=true:=by rw[beq_iff_eq,c3];rfl
    by_cases c4:nth=0
    case neg=>
      have g4:(nth !=0)=true:=by simpa using c4
      rw[if_pos (.inr (.inr ⟨c3,c4⟩))];simp only[vmL,Nat.reduceEqDiff,reduceCtorEq,hql,hpl,g1,g2,g3,g4];refine Ct ?_;refine Rp0 [12,13] ?_;refine Tp0 ?_;exact View.tup2 (View.nil _ _) (Vr)
    have g4:(nth !=0)=false:=by simpa using c4
    rw[if_neg (fun h=>h.elim c1 fun h=>h.elim c2 fun h=>h.2 c4),if_pos c3];simp only[vmL,Nat.reduceEqDiff,reduceCtorEq,hql,hpl,g1,g2,g3,g4];refine Fp0 ?_;refine Zaa<|Rp1 [0,1,2,3,4,5,34] (x2 hpl g3) ?_;refine Ct ?_;refine Rp0 [12,13] ?_;refine Zco (q:=[.sl 4 (w.map Wd.enc),.sl 1 (nR [0]),pI (0:Nat),.sl 1 (sR new),pI a,pI i]) [(0,.arr false 1 [[pI 0]])] [] 1 (by simp[Vh]) (by simp) ⟨Vr,View.own_all (fz:=false) rfl rfl,Vr,Vr,Vr,Vr,trivial⟩ P0 ?_;refine Sp0 ?_;exact Tv0
  have g3:((part.length:Int)==0)=false:=by rw[beq_eq_false_iff_ne];intro h;exact c3 (List.length_eq_zero_iff.1 (by omega))
  rw[if_neg (fun h=>h.elim c1 fun h=>h.elim c2 fun h=>c3 h.1),if_neg c3];refine Sp1 (x5 hql hpl g1 g2 g3) ?_;refine Fp0 ?_;refine Zaa<|Rp1 [0,1,2,3,4,5,34] (x2 hpl g3) ?_;refine Fp0 ?_;refine Rp0 [0,1,2,4,5,14] ?_;refine Zag (PL (by omega)) ?_;refine(CL (by have:=hnL c3;omega)).mono ?_;rintro p h' ⟨rfl,rfl⟩;refine Sp0 ?_;refine Zaa ?_;refine Zaa (Zad [0,1,2,4,5,14,50] ?_);by_cases c5:L=[]
  case pos=>
    have g5:((L.length:Int)==0)=true:=by rw[beq_iff_eq,c5];rfl
    rw[if_pos c5];refine Sp1 g5 ?_;refine Ct ?_;refine Rp0 [12,13] ?_;refine Tp0 ?_;exact View.tup2 (View.nil _ _) (Vr)
  have g5:((L.length:Int)==0)=false:=by rw[beq_eq_false_iff_ne];intro h;exact c5 (List.length_eq_zero_iff.1 (by omega))
  rw[if_neg c5];refine Sp1 g5 ?_;refine Fp0 ?_;refine Zaa<|Rp0 [0,1,2,4,5,14,52,53] ?_;refine Zab ?_;refine Zai (σ:={ x:Nat×Nat//x.1≤L.length∧2≤x.2 }) (fun x=>([(0,.sl 4 (w.map Wd.enc)),(1,.sl 1 (sR part)),(2,.sl 1 (sR new)),(4,pI a),(5,pI i),(14,.own 1 0 L.length),(52,pI L.length),(53,pI x.1.1)],⟨[(1,.arr false 1 (Z9x L part.length x.1.1))],x.1.2⟩)) (fun x=>L.length-x.1.1) ⟨(0,2),Zyw _,Nat.le_refl _⟩ ?_ ?_ ?_
  · simp only[vmL,Nat.reduceEqDiff,reduceCtorEq]
    repeat' (first|rfl|refine And.intro ?_ ?_)
  · simp only[vmL,midN_0]
    try trivial
  rintro⟨⟨j,T⟩,hj,hT⟩;simp only[]at hj hT⊢;refine Rp0 [0,1,2,4,5,14,52,53,54] ?_;refine Zaa<|Zae rfl (fun h2=>?_) (fun h2=>?_)
  · have ja:j<L.length:=by have h2:=oT h2;omega
    obtain⟨PA,RB,p1,p2,p3⟩:=Xd9 L part.length ja;have hle:(PA++RB).length+1=L.length:=by rw[←Xa4 L part.length j,p2];simp;omega
    have hbj:=hb c3 j ja;have hLn:=hnL c3;generalize L[j]=q at*;have hM1:=fun(x:List PV) (d:List PV)=>Zom PA x RB d p1;have hM2:=fun(x y:List PV)=>Zon PA x y RB p1;have hl2:∀y:List PV,j<(PA++y::RB).length:=fun y=>by rw[Zx5,Zyd];rw[Zx5]at hle;omega
    simp only[p2];refine Kp0 ?_;refine Zaa<|Zab ?_;refine Rp0 [0,1,2,4,5,14,15,52,53] ?_;refine rp1 [0,1,2,4,5,14,52,53] (x4 hpl hM1 hM2 (w64 (n:=(q:Int)+(part.length:Int)) (by omega) (by omega))) ?_;refine⟨⟨by omega,by omega⟩,hl2 _,⟨by omega,by omega⟩,hl2 _,?_⟩;refine rp1 [0,1,2,4,5,14,52,53] (x3 (ad1 (a:=j) (by omega)) hM1 hM2) ?_;refine⟨⟨(j+1,T),ja,hT⟩,?_⟩;simp only[p3,Int.natCast_add]
    all_goals exact Fn0
  · have ja:j=L.length:=by have h2:=oF h2;omega
    subst ja;rw[Xa5];refine Ep0 ?_;refine Zav [(0,.sl 4 (w.map Wd.enc)),(2,.sl 1 (sR new)),(4,pI a),(5,pI i),(14,.sl 1 (nR (L.map (·+part.length))))] ⟨Vr,Vr,Vr,Vr,View.own_all (fz:=false) rfl (by rw[Zbw,Zyc]),trivial⟩ ?_;refine Rp0 [12,13] ?_;refine Ap0 (PT c3) ?_;exact Tv0
end Go.Proofs.w
namespace Go.VM
open Go
theorem Zsy(s:St):s.enc.length=2:=rfl
theorem Zm9(s:St):List.take 2 s.enc=s.enc:=rfl
theorem Z7u(s:St):s.enc=[pI s.kind,.str s.label]:=rfl
theorem Zf1(l:List St):Closed (.sl 2 (l.map St.enc)):=Zaj fun s _=>St.closed s
end Go.VM
namespace Go.Proofs.w
open Go Go.VM
def Y87:VC:=(ZR [Yw 1 2 0,Yv 2 Yf] (ZR [Ya 3 0 1,Yl 4 3,Yu 5 .eql 4 0,ZM 6 5,Yb 7 1 1 6 true,Yk 8 7 6 true,ZG 9 (.bin .eql (.t 8) (.c (.str []))) 6 true,Yz 10 6 9,ZM 2 10] .ret))
def Y88:VC:=(ZR [Yv 2 Yf] (.seq (ZR [ZM 5 0,Ye 6 5,Yv 7 (Yi 0)] (.block 0 (.loop (ZR [Yr 8 .lss 7 6] (.seq (YC 8 .skip (.exit 0)) (.seq (.block 1 (ZR [ZM 9 7,Yx 10 2 5 7,Ym 11 2 10,ZO 4 (.alloc [Yo,(.str [])]),ZM 3 9,Ys 2 4 11] (.seq (ZR [ZM 12 3,Yu 13 .eql 12 0,ZM 14 13,Yj 15 2 4 14 true,ZG 16 (.call 162 [.t 15]) 14 true,Yz 17 14 16] (YC 17 (.exit 1) .skip)) (ZR [Ya 18 0 4,Yl 19 18,Yu 20 .leq 19 0,ZM 21 20,Yb 22 0 4 21 false,Yk 23 22 21 false,ZG 24 (.bin .gtr (.t 23) (Yi 7)) 21 false,Yh 25 21 24,ZM 26 25,Yb 27 1 4 26 false,Yk 28 27 26 false,ZG 29 (.call 153 [.t 28]) 26 false,Yq 30 29 26 false,Yh 31 26 30] (YC 31 (ZR [Yv 2 Yf] .ret) .skip))))) (.region [Yu 32 .add 7 1,ZM 7 32] false))))))) (ZR [ZM 33 0,Ye 34 33,Yu 35 .leq 34 9,ZM 2 35] .ret)))
def Y89:VC:=(ZR [Yw 2 8 0] (ZR [ZM 6 1,Ym 7 8 2,ZO 8 (.callv (.t 6) [.t 7])] (ZR [Ya 9 7 2,Yl 10 9,Ye 11 10,Yv 12 (Yi 0)] (.block 0 (.loop (ZR [Yr 13 .lss 12 11] (.seq (YC 13 .skip (.exit 0)) (.seq (.block 1 (ZR [Yx 14 8 10 12,Ym 15 8 14,ZO 5 (.alloc ZU),Ys 8 5 15] (.region [Ym 16 8 5,ZM 17 1,Yc 18 206 [16,17]] false))) (.region [Yu 19 .add 12 1,ZM 12 19] false)))))))))
theorem Zho(s:St):Tc 162 [.agg s.enc] (.bool (Zln s)):=by
 refine Zac ?_ (cB _) (by intro y hy;rw[Zyr]at hy;subst hy;exact Zah (St.closed s));rw[Z7u];refine Gn (vc:=Y87) [.t 2] Tryz.func162 ?_;simp only[Y87,YY];refine Rp0 [1] ?_;by_cases h:s.kind=0
 ·have g:(s.kind==0)=true:=by rw[beq_iff_eq];exact h
  refine Rp1 [2] g ?_;refine Tp0 ?_;unfold Zln;rw[Zyf h];exact Vr
 ·have g:(s.kind==0)=false:=by rw[beq_eq_false_iff_ne];exact h
  refine Rp1 [2] g ?_;refine Tp0 ?_;unfold Zln;rw[Zyg h];exact Vr
theorem Zea(p:List St)(hl:p.length≤1000000)(hs:∀s∈p,s.label.length≤1000000):Tc 100 [.sl 2 (p.map St.enc)] (.bool (Zlo p)):=by
 refine Zac ?_ (cB _) (by intro y hy;rw[Zyr]at hy;subst hy;exact Zf1 p);refine Gn (vc:=Y88) [.t 2] Tryz.func100 ?_;simp only[Y88,YY];refine Rp0 [0] ?_;refine Zaa<|Rp1 [0,5,6,7] @xlm ?_;refine Zab ?_;refine Zai (σ:={ x:Nat×Nat//x.1≤p.length∧∀(j:Nat) (hj:j<p.length),j<x.1→(Zj9 p[j]||(decide (j=0)&&Zln p[j]))=true }) (fun x=>([(0,.sl 2 (p.map St.enc)),(5,.sl 2 (p.map St.enc)),(6,pI p.length),(7,pI x.1.1)],⟨[],x.1.2⟩)) (fun x=>p.length-x.1.1) ⟨(0,0),Zyw _,fun j _ h=>by cases h⟩ ?_ ?_ ?_
 ·exact Fn0
 ·exact Fn0
 rintro⟨⟨k,t⟩,hk,hpre⟩;simp only[]at hk hpre⊢;refine Rp0 [0,5,6,7,8] ?_;refine Zaa<|Zae rfl (fun h1=>?_) (fun h1=>?_)
 ·have ka:k<p.length:=by have h1:=oT h1;omega
  have hrow:=Zcs (enc:=St.enc) ka;have hlb:=hs _ (Zyl ka);have hno:(Zj9 p[k]||(decide (k=0)&&Zln p[k]))=false→Zlo p=false:=fun h=>by
   unfold Zlo;rw[Bool.and_eq_false_iff]
   left
   rw[Bool.or_eq_false_iff]at h;cases p with
   |nil=>simp at ka
   | cons a r=>
    simp only[];rw[Bool.and_eq_false_iff];cases k with
    |zero=>
     left
     have h2:Zln a=false:=by simpa using h.2
     have h3:Zj9 a=false:=h.1;rw[h2,h3];rfl
    |succ k=>
     right
     have hkr:k<r.length:=by simpa using ka
     refine List.all_eq_false.2 ⟨r[k],Zyl _,?_⟩;have h3:Zj9 r[k]=false:=h.1;rw[h3];exact Bool.false_ne_true
  generalize hx:p[k]=s at hrow hlb hno;have LV:=Zfg s.label hlb;have BK:=Zho s;have es:=Z7u s;refine Kp0 ?_;refine Zaa<|Zab ?_;refine Rp1 [0,3,4,5,6,7] (x4 @xlm hrow @Zsy @Zm9) ?_;refine Ok ?_;refine Zaa<|Zc6 (σ:={ b:Bool//b=(decide (k=0)&&Zln s) }) [0,4,5,6,7,17] (fun b=>[(0,.sl 2 (p.map St.enc)),(4,.loc t 0 0),(5,.sl 2 (p.map St.enc)),(6,pI p.length),(7,pI k),(17,.bool b.1)]) ?_ (fun b=>?_)
  ·by_cases h0:k=0
   ·have g0:((k:Int)==0)=true:=by rw[beq_iff_eq];omega
    rw[es]at BK;simp only[vmL,Nat.reduceEqDiff,Nat.reduceAdd,Nat.reduceLT,reduceCtorEq,g0,es];refine Ap0 BK ?_;exact⟨⟨Zln s,by rw[Zyf h0];rfl⟩,by first|trivial|rfl⟩
   ·have g0:((k:Int)==0)=false:=by rw[beq_eq_false_iff_ne];omega
    simp only[vmL,Nat.reduceEqDiff,reduceCtorEq,g0];exact⟨⟨false,by rw[Zyg h0];rfl⟩,by first|trivial|rfl⟩
  obtain⟨b,rfl⟩:=b;simp only[];refine Zae rfl (fun h2=>?_) (fun h2=>?_)
  ·refine Ep0 ?_;refine rp1 [0,5,6,7] (ad1 (a:=k) (by omega)) ?_;refine⟨⟨(k+1,t+1),ka,fun j hj hji=>?_⟩,?_⟩
   ·by_cases e:j=k
    ·subst e;rw[hx,h2,Bool.or_true]
    ·exact hpre j hj (by omega)
   ·exact Fn0
  refine Kp0 ?_;refine Zc6 (σ:={ b:Bool//b= !(Zj9 s) }) [0,5,6,7,31] (fun b=>[(0,.sl 2 (p.map St.enc)),(5,.sl 2 (p.map St.enc)),(6,pI p.length),(7,pI k),(31,.bool b.1)]) ?_ (fun b=>?_)
  ·by_cases c1:s.kind≤0
   ·have g1:decide (s.kind≤0)=true:=Zyf c1;refine Sp1 (x2 es g1) ?_;exact⟨⟨true,by unfold Zj9;rw[Vf];rfl⟩,by first|trivial|rfl⟩
   have g1:decide (s.kind≤0)=false:=Zyg c1;by_cases c2:7<s.kind
   ·have g2:decide (7<s.kind)=true:=Zyf c2;refine Sp1 (x3 es g1 g2) ?_;exact⟨⟨true,by unfold Zj9;rw[Zyg (show ¬s.kind≤7 by omega),Bool.false_and,Bool.and_false];rfl⟩,by first|trivial|rfl⟩
   have g2:decide (7<s.kind)=false:=Zyg c2;refine Sp1 (x3 es g1 g2) ?_;refine Ap0 LV ?_;exact⟨⟨!(may s.label),by unfold Zj9;rw[Zyf (show 0<s.kind by omega),Zyf (show s.kind≤7 by omega)];rfl⟩,by first|trivial|rfl⟩
  obtain⟨b,rfl⟩:=b;simp only[];refine Zae rfl (fun h3=>?_) (fun h3=>?_)
  ·have h4:Zj9 s=false:=by simpa using h3
   refine Rp0 [2] ?_;refine Tp0 ?_;rw[hno (by rw[h4,h2];rfl)];exact Vr
  have h4:Zj9 s=true:=by simpa using h3
  refine Kp0 ?_;refine rp1 [0,5,6,7] (ad1 (a:=k) (by omega)) ?_;refine⟨⟨(k+1,t+1),ka,fun j hj hji=>?_⟩,?_⟩
  ·by_cases e:j=k
   ·subst e;rw[hx,h4,Bool.true_or]
   ·exact hpre j hj (by omega)
  ·exact Fn0
 ·have ka:k=p.length:=by have h1:=oF h1;omega
  subst ka;refine Ep0 ?_;refine Rp1 [2] @xlm ?_;refine Tp0 ?_;have e:Zlo p=decide ((p.length:Int)≤9):=by
   unfold Zlo;have h9:decide (p.length≤9)=decide ((p.length:Int)≤9):=by
    rw[Bool.eq_iff_iff,Zx3,Zx3];omega
   rw[h9];cases p with
   |nil=>rfl
   | cons a r=>
    have ha:(Zln a||Zj9 a)=true:=by
     have:=hpre 0 (by simp) (by simp);simp only[List.getElem_cons_zero,decide_true,Zyt]at this;rw[Bool.or_comm];exact this
    have hr:r.all Zj9=true:=by
     rw[List.all_eq_true];intro x hx;obtain⟨j,hj,rfl⟩:=List.getElem_of_mem hx;have:=hpre (j+1) (by simpa using hj) (by simpa using hj)
     simpa using this
    simp only[];rw[ha,hr];rfl
  rw[e];exact Vr
def EaB(f:FuncId)(cap:List PV)(S:List Un→List (Nat×AB)→Prop)(N:Nat):Prop:=
 ∀(pre:List Un) (u:Un),pre.length<N→SmT u→∀(L:List (Nat×AB)) (t:Nat),S pre L→(∀q∈L,q.1<t)→Nod L→(∀q∈L,q.2.live=true)→
  Zam Tryz.prog f (.agg u.enc::cap) ⟨L,t⟩ (fun r h'=>r=.tup []∧Aft L t (S (pre++[u])) h')
theorem Z37{f:FuncId}{cap:List PV}{S:List Un→List (Nat×AB)→Prop}{N:Nat}(hB:EaB f cap S N)(hN:N≤1000){u:Un}(hu:SmT u):∀(pre:List Un),pre.length+(unitsT u).length≤N→∀(L:List (Nat×AB)) (t:Nat),S pre L→(∀q∈L,q.1<t)→Nod L→(∀q∈L,q.2.live=true)→
  Zam Tryz.prog 206 [.agg u.enc,.fn (.func f) [] cap] ⟨L,t⟩ (fun r h'=>r=.tup []∧Aft L t (S (pre++unitsT u)) h'):=by
 induction hu with
 | mk u h hk hs ih=>
  intro pre hpre L t0 hS hlt hnod hlive;rw[Zap,Zyd]at hpre;have hB0:=hB pre u (by omega) (.mk u h hk hs);rw[Zap];have ih':∀k∈u.kids, ∀(pre:List Un),pre.length+(unitsT k).length≤N→ ∀(L:List (Nat×AB)) (t:Nat),S pre L→(∀q∈L,q.1<t)→Nod L→(∀q∈L,q.2.live=true)→
    Zam Tryz.prog 206 [.agg k.enc,.fn (.func f) [] cap] ⟨L,t⟩ (fun r h'=>r=.tup []∧Aft L t (S (pre++unitsT k)) h'):=ih
  clear ih;refine Zam.drop ?_;refine Gn (vc:=Y89) [] Tryz.func206 ?_;simp only[Y89,YY];rw[Un.Zaf]at hB0⊢;have o0:Off L t0:=Off.lt hlt (Nat.le_refl _);have g0':=o0.get;have d0':=o0.del;refine Rp0 [1,2] ?_;refine Rp1 [1,2] (x2 g0' d0') ?_;refine Zh5 (R:=fun r=>r=.tup []) (Q:=S (pre++[u])) hnod o0 (Nat.lt_succ_self _) (fun fz z e=>by cases e) (hB0 L (t0+1) hS (fun q hq=>by have:=hlt q hq;omega) hnod hlive) ?_;rintro r L1 t1 rfl ht1 hS1 hnod1 hlt1 o1 hold1 hlive1;have G1:=HL.get_off (P:=[(t0,AB.arr false 8 [[pI u.act,pI u.item,pI u.n,pI u.kind,.str u.label,.sl 4 (u.head.map Wd.enc),.sl 4 (u.words.map Wd.enc),.sl 8 (u.kids.map Un.enc)]])]) o1
  skip
  refine Rp1 [1,10,11,12] (x2 G1 @xlm) ?_;refine Zab ?_;clear hS hlt hnod hlive hB0 g0' d0';generalize u.kids=KL at hk hpre ih'⊢;refine Zai (σ:={ x:Nat×List (Nat×AB)×Nat//x.1≤KL.length∧t0<x.2.2∧S (pre++u::unitsL (KL.take x.1)) x.2.1∧Nod x.2.1∧(∀q∈x.2.1,q.1<x.2.2)∧(∀q∈x.2.1,(∃r∈L,r.1=q.1)∨t0+1≤q.1)∧∀q∈x.2.1,q.2.live=true })
   (fun x=>([(1,.fn (.func f) [] cap),(10,.sl 8 (KL.map Un.enc)),(11,pI KL.length),(12,pI x.1.1)],⟨x.1.2.1,x.1.2.2⟩)) (fun x=>KL.length-x.1.1) ⟨(0,L1,t1),Zyw _,ht1,by simpa[unitsL]using hS1,hnod1,hlt1,hold1,hlive1⟩ ?_ ?_ ?_
  ·refine Sp0 ?_;rfl
  ·refine Sp0 ?_;exact HL.le_app hnod1 _
  rintro⟨⟨k,L2,t2⟩,hkk,ht2,hS2,hnod2,hlt2,hold2,hlive2⟩;simp only[]at hkk ht2 hS2 hnod2 hlt2 hold2 hlive2⊢;have o2:Off L2 t2:=Off.lt hlt2 (Nat.le_refl _);have g2:=o2.get;have d2:=o2.del;refine Rp0 [1,10,11,12,13] ?_;refine Zaa<|Zae rfl (fun h1=>?_) (fun h1=>?_)
  ·have ka:k<KL.length:=by have h1:=oT h1;omega
   have hst:=Zex ka;have htk:=Zey KL (k+1);have hrow:(KL.map Un.enc).getD k []=KL[k].enc:=Zcs ka;have R:=ih' _ (Zyl ka) (pre++u::unitsL (KL.take k));rw[hst,Zx5]at htk;generalize KL[k]=v at hst hrow R htk;rw[Un.Zaf]at hrow R;refine Kp0 ?_;refine Zaa<|Zab ?_;refine Rp1 [1,5,10,11,12] (x4 @xlm hrow g2 d2) ?_;refine Ok ?_;refine rp1 [1,10,11,12] (x2 g2 d2) ?_;have hlen:(pre++u::unitsL (KL.take k)).length+(unitsT v).length≤N:=by
    rw[Zx5,Zyd];omega
   refine Zh5 (R:=fun r=>r=.tup []) (Q:=S (pre++u::unitsL (KL.take k)++unitsT v)) hnod2 o2 (Nat.lt_succ_self _) (fun fz z e=>by cases e) (R hlen L2 (t2+1) hS2 (fun q hq=>by have:=hlt2 q hq;omega) hnod2 hlive2) ?_;rintro r L3 t3 rfl ht3 hS3 hnod3 hlt3 o3 hold3 hlive3
   skip
   refine rp1 [1,10,11,12] (ad1 (a:=k) (by omega)) ?_;refine⟨⟨(k+1,L3,t3),ka,by show t0<t3;omega,by show S (pre++u::unitsL (KL.take (k+1))) L3;rw[hst];simpa using hS3,hnod3,hlt3,fun q hq=>?_,hlive3⟩,?_⟩
   ·rcases hold3 q hq with⟨r,hr,er⟩|h
    ·rcases hold2 r hr with⟨r',hr',er'⟩|h'
     ·exact .inl ⟨r',hr',er'.trans er⟩
     ·exact .inr (by omega)
    ·exact .inr (by omega)
   ·refine⟨rfl,⟨Nat.le_refl _,HL.le_app hnod3 _⟩,?_⟩;show KL.length-(k+1)<KL.length-k;omega
  ·have ka:k=KL.length:=by have h1:=oF h1;omega
   subst ka;rw[List.take_length]at hS2;refine Ep0 ?_;refine⟨⟨L2,t2⟩,⟨Nat.le_refl _,by simpa using HL.le_app (P:=[]) hnod2 t2⟩,L2,t2,by omega,rfl,hS2,hnod2,hlt2,fun q hq=>?_,hlive2⟩;rcases hold2 q hq with h|h
   ·exact .inl h
   ·exact .inr (by omega)
end Go.Proofs.w
