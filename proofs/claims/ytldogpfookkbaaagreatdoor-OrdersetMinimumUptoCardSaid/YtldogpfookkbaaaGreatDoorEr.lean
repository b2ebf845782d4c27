import Derived.Test.YtldogpfookkbaaaGreatDoorEq
import Derived.Test.YtldogpfookkbaaaGreatDoorVmBs
set_option linter.all false
set_option maxRecDepth 20000
set_option maxHeartbeats 0
namespace Go.VM
open Go Go.Proofs.w
theorem Z7k{fresh:List Str}{a i:Int}{g:Nat}{w:List Wd}:∀{l:List Nat} {b:Nat} (k:Nat),Zhh g w.length b l→b≤w.length→b≤(Zpi fresh a i g w l k).length
 | [],b,k,_,h=>h
 |p::r,b,k,⟨h1,h2,h3⟩,h=>by
  have ih:=Z7k (fresh:=fresh) (a:=a) (i:=i) (k+1) h3 h2;rw[Zpi];simp only[Zx5,Zyh,List.length_drop];omega
theorem Z7l{fresh:List Str}{a i:Int}{g:Nat}{w:List Wd}:∀(l:List Nat) (k:Nat),(Zpi fresh a i g w l k).length≤w.length+l.length*fresh.length
 | [],k=>by rw[Zpi];omega
 |p::r,k=>by
  have ih:=Z7l (fresh:=fresh) (a:=a) (i:=i) (g:=g) (w:=w) r (k+1);rw[Zpi];simp only[Zx5,Zyh,List.length_drop,Zez,Zyd];have:(r.length+1)*fresh.length=r.length*fresh.length+fresh.length:=Nat.succ_mul _ _;omega
theorem Zsu{g n:Nat}:∀{l:List Nat} {b:Nat} {j:Nat} (h:j<l.length),Zhh g n b l→l[j]+g≤n∧Zhh g n (l[j]+g) (l.drop (j+1))
 |p::r,b,0,_,⟨_,h2,h3⟩=>⟨h2,h3⟩
 |p::r,b,j+1,h,⟨_,_,h3⟩=>Zsu (j:=j) (by simpa using h) h3
def Z7m(fresh:List Str)(a i:Int)(g:Nat)(w:List Wd)(l:List Nat):List Wd×Int:=
 if(Zpi fresh a i g w l 0).length≤256 then(Zpi fresh a i g w l 0,0)else([],6)
end Go.VM
namespace Go.Proofs.w
open Go Go.VM
def Y78 : VC := (ZR [ZO 12 (.mv (.c .nilsl)),Yv 13 (Yi 0)] (ZR [ZM 18 0,Ye 19 18,ZO 20 (.other ({ dst := some 20,op := Op.makeSlice 36 (Operand.tmp 19) (Operand.tmp 19),type := 36,pos := "wording.go:63",after := #[{ on := 1,ground := Ground.data },{ on := 1,ground := Ground.data }],guard := none } : Oper)),ZM 14 20] (ZR [ZM 21 14,ZM 22 0,ZO 23 (.other ({ dst := some 23,op := Op.call { callee := Callee.builtin Builtin.copy,args := #[Operand.tmp 21,Operand.tmp 22],argTypes := #[36,36] },type := 3,pos := "wording.go:64",after := #[{ on := 0,ground := Ground.data },{ on := 1,ground := Ground.data }],guard := none } : Oper))] (.seq (ZR [ZM 24 1,Ye 25 24,Yu 26 .sub 25 1,ZM 15 26] (.block 0 (.loop (.seq (ZR [ZM 27 15,Yu 28 .geq 27 0] (YC 28 .skip (.exit 0))) (.seq (.block 1 (ZR [ZM 31 1,ZM 32 15,Yx 33 1 31 32,Yl 34 33,ZM 16 34] (ZR [ZM 35 14,ZM 36 16,ZM 37 2,Yr 38 .add 36 37,ZO 39 (.slice false 4 (.t 35) (some (.t 38)) none),ZM 17 39] (.other (Code.region 8 #[{ dst := some 40,op := Op.move (Operand.tmp 14),type := 36,pos := "wording.go:69",after := #[],guard := none },{ dst := some 41,op := Op.move (Operand.tmp 16),type := 3,pos := "wording.go:69",after := #[],guard := none },{ dst := some 42,op := Op.move (Operand.tmp 16),type := 3,pos := "wording.go:69",after := #[],guard := none },{ dst := some 43,op := Op.slice 36 (Operand.tmp 40) none (some (Operand.tmp 41)) (some (Operand.tmp 42)),type := 36,pos := "wording.go:69",after := #[{ on := 0,ground := Ground.data },{ on := 1,ground := Ground.data },{ on := 2,ground := Ground.data }],guard := none },{ dst := some 44,op := Op.move (Operand.tmp 3),type := 82,pos := "wording.go:69",after := #[],guard := none },{ dst := some 45,op := Op.move (Operand.tmp 4),type := 3,pos := "wording.go:69",after := #[],guard := none },{ dst := some 46,op := Op.move (Operand.tmp 5),type := 3,pos := "wording.go:69",after := #[],guard := none },{ dst := some 47,op := Op.move (Operand.tmp 15),type := 3,pos := "wording.go:69",after := #[],guard := none },{ dst := some 48,op := Op.move (Operand.tmp 3),type := 82,pos := "wording.go:69",after := #[],guard := none },{ dst := some 49,op := Op.call { callee := Callee.builtin Builtin.len,args := #[Operand.tmp 48],argTypes := #[82] },type := 3,pos := "wording.go:69",after := #[{ on := 8,ground := Ground.data }],guard := none },{ dst := some 50,op := Op.binOp BinOp.mul 3 (Operand.tmp 47) (Operand.tmp 49) 3,type := 3,pos := "wording.go:69",after := #[{ on := 7,ground := Ground.data },{ on := 9,ground := Ground.data }],guard := none },{ dst := some 51,op := Op.call { callee := Callee.value (Operand.func 132),args := #[Operand.tmp 44,Operand.tmp 45,Operand.tmp 46,Operand.tmp 50],argTypes := #[82,3,3,3] },type := 36,pos := "wording.go:69",after := #[{ on := 4,ground := Ground.data },{ on := 5,ground := Ground.data },{ on := 6,ground := Ground.data },{ on := 10,ground := Ground.data }],guard := none },{ dst := some 52,op := Op.call { callee := Callee.builtin Builtin.append,args := #[Operand.tmp 43,Operand.tmp 51],argTypes := #[36,36] },type := 36,pos := "wording.go:69",after := #[{ on := 3,ground := Ground.data },{ on := 11,ground := Ground.data },{ on := 11,ground := Ground.chain }],guard := none },{ dst := some 53,op := Op.move (Operand.tmp 17),type := 36,pos := "wording.go:69",after := #[],guard := none },{ dst := some 54,op := Op.call { callee := Callee.builtin Builtin.append,args := #[Operand.tmp 52,Operand.tmp 53],argTypes := #[36,36] },type := 36,pos := "wording.go:69",after := #[{ on := 12,ground := Ground.data },{ on := 13,ground := Ground.data },{ on := 12,ground := Ground.chain }],guard := none },{ dst := some 14,op := Op.assign (Operand.tmp 54),type := 36,pos := "wording.go:69",after := #[{ on := 14,ground := Ground.data },{ on := 14,ground := Ground.chain },{ on := 0,ground := Ground.phase },{ on := 1,ground := Ground.phase },{ on := 2,ground := Ground.phase },{ on := 3,ground := Ground.phase },{ on := 4,ground := Ground.phase },{ on := 5,ground := Ground.phase },{ on := 6,ground := Ground.phase },{ on := 7,ground := Ground.phase },{ on := 8,ground := Ground.phase },{ on := 9,ground := Ground.phase },{ on := 10,ground := Ground.phase },{ on := 11,ground := Ground.phase },{ on := 12,ground := Ground.phase },{ on := 13,ground := Ground.phase },{ on := 14,ground := Ground.phase }],guard := none }] true : Code))))) (.region [ZM 29 15,Yu 30 .sub 29 1,ZM 15 30] false)))))) (.seq (ZR [ZM 55 14,Ye 56 55,Yu 57 .gtr 56 256] (YC 57 (ZR [ZO 12 (.mv (.c .nilsl)),Yv 13 (Yi 6)] .ret) .skip)) (ZR [ZM 58 14,ZM 12 58,Yv 13 (Yi 0)] .ret))))))
def zeroWd:List PV:=[.str [],pI 0,pI 0,pI 0]
def vcB:VC→VC|.block _ c=>c|.loop c=>c|c=>c
def putO3:Oper:=match vcR (vcR (vcB (vcL (vcR (vcB (vcB (vcR (vcL (vcR (vcR (vcR Y78)))))))))))with
 | .other (.region _ ops _)=>ops.getD 3 default
 |_=>default
theorem Z7n(w:List Wd)(l:List Nat)(g:Nat)(fresh:List Str)(a i:Int)(hA:Zhh g w.length 0 l)(hw:w.length≤1000)(hl:l.length≤1000)(hg:g≤1000)(hf:fresh.length≤900):
  Tc 191 [.sl 4 (w.map Wd.enc),.sl 1 (nR l),pI g,.sl 1 (sR fresh),pI a,pI i] (.tup [.sl 4 ((Z7m fresh a i g w l).1.map Wd.enc),pI (Z7m fresh a i g w l).2]):=by
 have M:=fun(k:Nat) (hk:k≤1000)=>Zzs fresh a i (k*fresh.length) (by omega) (by have:=Nat.mul_le_mul hk hf;omega);refine Zac ?_ (Zbb (by simp only[Zyb,Zya,or_false,Zyv,forall_eq];exact⟨Za9 _,cI _⟩)) (by intro y hy;simp only[Zyb,Zya,or_false]at hy;rcases hy with rfl|rfl|rfl|rfl|rfl|rfl;exact Za9 _;exact Zbm _;exact cI _;exact Zb9 _;exact cI _;exact cI _);have hW:(w.map Wd.enc).length=w.length:=Zyc _;refine Gn (vc:=Y78) [.t 12,.t 13] Tryz.func191 ?_;simp only[Y78,YY];refine Rp0 [0,1,2,3,4,5] ?_;refine Rp1 [0,1,2,3,4,5,14] hW ?_;refine Zvb (n:=w.length) (z:=4) (kx:=.i64) (ky:=.i64) (zr:=[.str [],pI 0,pI 0,pI 0]) rfl Tryz.underlying36 (by kernel_rfl) (by kernel_rfl) rfl rfl rfl rfl rfl (by omega) ?_;refine Sp0 ?_;refine Rp0 [1,2,3,4,5,14] ?_;refine Zvc (n:=w.length) (z:=4) (es:=List.replicate w.length [.str [],pI 0,pI 0,pI 0]) (id:=0) rfl Tryz.underlying36 (by kernel_rfl) rfl rfl rfl rfl (by rw[List.length_replicate]) ?_ ?_ ?_ ?_
 ·simp only[vmL,Nat.reduceEqDiff,reduceCtorEq]
  try trivial
 ·exact Sr1 hW
 ·exact Sr0
 refine Sp1 hW ?_;refine Zav [(1,.sl 1 (nR l)),(2,pI g),(3,.sl 1 (sR fresh)),(4,pI a),(5,pI i),(14,.sl 4 (w.map Wd.enc))] ⟨Vr,Vr,Vr,Vr,Vr,View.own_all (fz:=false) rfl hW.symm,trivial⟩ ?_;refine Zaa ?_;refine Zaa (Zad [1,2,3,4,5,14,15] ?_);have hNl:(nR l).length=l.length:=Zbw l;refine Sp1 (x2 hNl (w64 (n:=(l.length:Int)-1) (by omega) (by omega))) ?_;refine Zab ?_;refine Zai (σ:={ x:Nat×Nat//x.1≤l.length }) (fun x=>([(1,.sl 1 (nR l)),(2,pI g),(3,.sl 1 (sR fresh)),(4,pI a),(5,pI i),(14,.sl 4 ((Zpi fresh a i g w (l.drop x.1.1) x.1.1).map Wd.enc)),(15,pI ((x.1.1:Int)-1))],⟨[],x.1.2⟩)) (fun x=>x.1.1) ⟨(l.length,1),Nat.le_refl _⟩ ?_ ?_ ?_
 ·simp only[vmL,Nat.reduceEqDiff,List.drop_length,Zpi]
  repeat' (first|rfl|refine And.intro ?_ ?_)
 ·exact Sr0
 rintro⟨⟨j,T⟩,hj⟩;simp only[]at hj⊢;refine Zaa ?_;cases j with
 |zero=>
  rw[List.drop_zero];refine Rp0 [1,2,3,4,5,14,15,28] ?_;refine Cf ?_;refine Ep0 ?_;refine Zaa ?_;refine Zaa (Zad [14,57] ?_);unfold Z7m;have hXl:((Zpi fresh a i g w l 0).map Wd.enc).length=(Zpi fresh a i g w l 0).length:=Zyc _;generalize Zpi fresh a i g w l 0=X at*;by_cases hX:X.length≤256
  ·have g1:decide ((256:Int)<(X.length:Int))=false:=Vf;rw[if_pos hX];refine Sp1 (x2 hXl g1) ?_;refine Fp0 ?_;exact Rv0 [12,13]
  ·have g1:decide ((256:Int)<(X.length:Int))=true:=Vt;rw[if_neg hX];refine Sp1 (x2 hXl g1) ?_;refine Ct ?_;refine Rp0 [12,13] ?_;refine Tp0 ?_;exact View.tup2 (View.nil _ _) (Vr)
 | succ j=>
  have hj':j<l.length:=by omega
  obtain⟨ha1,ha2⟩:=Zsu hj' hA;have hge:=Z7k (fresh:=fresh) (a:=a) (i:=i) (j+1) ha2 ha1;have hle:=Z7l (fresh:=fresh) (a:=a) (i:=i) (g:=g) (w:=w) (l.drop (j+1)) (j+1);have hb2:(l.drop (j+1)).length*fresh.length≤1000*900:=Nat.mul_le_mul (by rw[List.length_drop];omega) hf;have hn:Zpi fresh a i g w (l.drop j) j=(Zpi fresh a i g w (l.drop (j+1)) (j+1)).take l[j]++(Zb4 a i ((j*fresh.length:Nat):Int) fresh++(Zpi fresh a i g w (l.drop (j+1)) (j+1)).drop (l[j]+g)):=by
   rw[List.drop_eq_getElem_cons hj',Zpi]
  have hrow:(nR l).getD j []=[pI (l[j]:Nat)]:=Z7f hj';have Mj:=M j (by omega);have hjf:j*fresh.length≤1000*900:=Nat.mul_le_mul (by omega) hf;have hmw:(Zb4 a i ((j*fresh.length:Nat):Int) fresh).length=fresh.length:=Zez _ _ _ _;generalize l[j]=q at*;generalize Zpi fresh a i g w (l.drop (j+1)) (j+1)=X at*;have hXl:(X.map Wd.enc).length=X.length:=Zyc _;have hXd:(X.map Wd.enc).drop (q+g)=(X.drop (q+g)).map Wd.enc:=by rw[List.map_drop]
  rw[show(((j+1:Nat):Int)-1)=(j:Int) by omega];have e15:decide ((0:Int)≤(j:Int))=true:=Vt;refine Rp1 [1,2,3,4,5,14,15,28] e15 ?_;refine Ct ?_;refine Kp0 ?_;refine Zaa<|Zab ?_;refine Rp1 [1,2,3,4,5,14,15,16] (x2 hNl hrow) ?_;refine Ok ?_;refine Rp1 [1,2,3,4,5,14,15,16,17] (x2 hXl (w64 (n:=(q:Int)+(g:Int)) (by omega) (by omega))) ?_;have hti:(Tryz.prog.info? 97).map (fun i=>(i.size,i.bytes))=some (4,40):=by kernel_rfl
  obtain⟨ti,hti1,hti2⟩:=Option.map_eq_some_iff.1 hti;simp only[Prod.mk.injEq]at hti2;refine⟨⟨by omega,by omega⟩,Z7j (put_AW (o3:=putO3) (z:=4) (B:=40) (zs:=zeroWd) (f:=132) (t:=36) (ty:=97) (i:=ti) (R:=X.map Wd.enc) (T:=(X.drop (q+g)).map Wd.enc) (FR:=sR fresh) (M:=(Zb4 a i ((j*fresh.length:Nat):Int) fresh).map Wd.enc) (k:=q) (x4:=pI a) (x5:=pI i) (iv:=(j:Int)) (m:=((j*fresh.length:Nat):Int)) [1,2,3,4,5,15] (by kernel_rfl) (by kernel_rfl) (Zym rfl) (by kernel_rfl) (by kernel_rfl) (fun o ho=>?_) (fun o ho=>?_) (fun o ho=>?_) Tryz.underlying36 hti1 hti2.1 hti2.2 (by kernel_rfl) rfl (by decide) (by decide) ?_ (by rw[hXl];omega) (by rw[hXl];omega) (by rw[Zyc,hmw];omega) (by rw[Zyc,List.length_drop];omega) ?_ Mj rfl rfl ?_ rfl rfl rfl rfl (by decide) ?_)⟩
  ·cases ho;rfl
  ·cases ho;rfl
  ·cases ho;rfl
  ·intro x hx;obtain⟨y,_,rfl⟩:=List.mem_map.1 hx;rfl
  ·rw[Zhj,show((j:Int)*(fresh.length:Int))=((j*fresh.length:Nat):Int)from(Int.natCast_mul _ _).symm];exact w64 (by omega) (by omega)
  ·show PV.sl 4 (List.take (X.length-((q:Int)+(g:Int)).toNat) (List.drop ((q:Int)+(g:Int)).toNat (X.map Wd.enc)))=_;rw[show((q:Int)+(g:Int)).toNat=q+g by omega,hXd,Zyi (by rw[Zyc,List.length_drop];omega)]
  ·intro v h' hv;refine Sp0 ?_;have hXX:(X.map Wd.enc).take q++((Zb4 a i ((j*fresh.length:Nat):Int) fresh).map Wd.enc++(X.drop (q+g)).map Wd.enc)=(Zpi fresh a i g w (l.drop j) j).map Wd.enc:=by rw[hn,List.map_append,List.map_append,List.map_take]
   rw[hXX]at hv;have w15:=w64 (n:=(j:Int)-1) (by omega) (by omega);rcases hv with⟨rfl,rfl⟩|⟨id,t',rfl,rfl,hid,_⟩
   ·refine rp1 [1,2,3,4,5,14,15] w15 ?_;refine⟨⟨(j,T),by simp only[];omega⟩,?_⟩;exact Fn0
   ·refine Zav [(1,.sl 1 (nR l)),(2,pI g),(3,.sl 1 (sR fresh)),(4,pI a),(5,pI i),(14,.sl 4 ((Zpi fresh a i g w (l.drop j) j).map Wd.enc)),(15,pI j)] ⟨Vr,Vr,Vr,Vr,Vr,View.own_all (fz:=false) (by simp[Vh]) rfl,Vr,trivial⟩ ?_;refine rp1 [1,2,3,4,5,14,15] w15 ?_;refine⟨⟨(j,t'),by simp only[];omega⟩,?_⟩;exact Fn0
end Go.Proofs.w
namespace Go.VM
open Go
def Zdl(l:List Int):List PV:=(List.range 5).map fun(i:Nat)=>.bool (l.contains (i:Int))
theorem Zhl(l:List Int):(Zdl l).length=5:=rfl
theorem take_set{α:Type}(l:List α)(i:Nat)(x:α)(h:i<l.length):l.take i++[x]++l.drop (i+1)=l.set i x:=by
 rw[List.set_eq_take_append_cons_drop,if_pos h];simp
theorem Z7o(l:List Int)(x:Nat)(hx:x<5):(Zdl l).set x (.bool true)=Zdl (l++[(x:Int)]):=by
 refine List.ext_getElem (by simp[Zdl]) fun k h1 h2=>?_;simp only[Zdl,List.getElem_set,List.getElem_map,List.getElem_range];by_cases h:x=k
 ·subst h;rw[if_pos rfl];simp
 ·rw[if_neg h];have:¬((k:Int)=(x:Int)):=by omega
  simp[this]
theorem Z31(l:List Int)(x:Int)(hx:¬(0≤x∧x<5)):Zdl (l++[x])=Zdl l:=by
 unfold Zdl;refine List.map_congr_left fun i hi=>?_;rw[List.mem_range]at hi;have:¬((i:Int)=x):=by omega
 simp[this]
def Zdc(r:List Nat):List PV:=(List.range 5).map fun(i:Nat)=>pI (if i∈r then(r.idxOf i:Int)else 0)
theorem Zf0(r:List Nat):(Zdc r).length=5:=rfl
theorem Z32(r:List Nat)(x:Nat)(hx:x<5)(hn:x∉r):(Zdc r).set x (pI r.length)=Zdc (r++[x]):=by
 refine List.ext_getElem (by simp[Zdc]) fun k h1 h2=>?_;simp only[Zdc,List.getElem_set,List.getElem_map,List.getElem_range];by_cases h:x=k
 ·subst h;rw[if_pos rfl];simp[List.idxOf_append,hn]
 ·rw[if_neg h];have h3:¬k=x:=fun e=>h e.symm;by_cases hk:k∈r
  ·simp[hk,List.idxOf_append]
  ·simp[hk,h3]
theorem Zve{r:List Nat}{i:Nat}(hi:i<5)(hm:i∈r):(Zdc r).getD i .any=pI (r.idxOf i):=by
 unfold Zdc;simp[Zx1,hi,hm]
theorem Xa2(l:List Int){i:Nat}(hi:i<5):(Zdl l).getD i .any=.bool (l.contains (i:Int)):=by
 unfold Zdl;simp[Zx1,hi]
theorem Zhm(l:List Int):Closed (.agg (Zdl l)):=Zah (fun x hx=>by
 unfold Zdl at hx;obtain⟨i,_,rfl⟩:=List.mem_map.1 hx;exact cB _)
theorem Zsv(l:List Nat):Closed (.agg (Zdc l)):=Zah (fun x hx=>by
 unfold Zdc at hx;obtain⟨i,_,rfl⟩:=List.mem_map.1 hx;exact cI _)
theorem Z2b(r:List Nat)(i x:Nat):(nR r).set i [pI (x:Nat)]=nR (r.set i x):=by
 unfold nR;rw[List.map_set]
theorem Zou{r:List Nat}{i:Nat}(h:i<r.length):(nR r).getD i []=[pI (r.getD i 0:Nat)]:=by
 rw[Z7f h];simp[Zx1,h]
end Go.VM
namespace Go.Proofs.w
open Go Go.VM
def Y79:VC:=(ZR [ZO 2 (.alloc [(.bool false),(.bool false),(.bool false),(.bool false),(.bool false)])] (ZR [ZO 3 (.alloc [(.bool false),(.bool false),(.bool false),(.bool false),(.bool false)])] (.seq (ZR [ZM 6 0,Ye 7 6,Yv 8 (Yi 0)] (.block 0 (.loop (ZR [Yr 9 .lss 8 7] (.seq (YC 9 .skip (.exit 0)) (.seq (.block 1 (ZR [Yx 10 1 6 8,Yl 11 10,ZM 5 11] (ZR [ZM 12 5,Yu 13 .geq 12 0,ZM 14 13,Yg 15 5 14 true,ZG 16 (.bin .lss (.t 15) (Yi 5)) 14 true,Yz 17 14 16] (YC 17 (.region [ZM 18 5,ZO 19 (.px (.aix 5) [.t 3,.t 18]),ZN (.store 1 (.t 19) Yt)] false) .skip)))) (.region [Yu 20 .add 8 1,ZM 8 20] false))))))) (ZR [Ym 21 5 3,Ys 5 2 21] .ret))))
def Y80:VC:=(ZR [ZO 2 (.alloc [Yo,Yo,Yo,Yo,Yo])] (ZR [ZO 3 (.alloc [Yo,Yo,Yo,Yo,Yo])] (.seq (ZR [ZM 6 0,Ye 7 6,Yv 8 (Yi 0)] (.block 0 (.loop (ZR [Yr 9 .lss 8 7] (.seq (YC 9 .skip (.exit 0)) (.seq (.block 1 (ZR [ZM 10 8,Yx 11 1 6 8,Yl 12 11,ZM 4 10,ZM 5 12] (.region [ZM 13 5,ZM 14 4,ZO 15 (.px (.aix 5) [.t 3,.t 13]),Ys 1 15 14] false))) (.region [Yu 16 .add 8 1,ZM 8 16] false))))))) (ZR [Ym 17 5 3,Ys 5 2 17] .ret))))
def Y81:VC:=(ZR [Yv 4 Yf] (.seq (ZR [ZM 6 0,Ye 7 6,ZM 8 1,Ye 9 8,Yr 10 .neq 7 9] (YC 10 (ZR [Yv 4 Yf] .ret) .skip)) (.seq (ZR [ZM 11 0,Ye 12 11,Yv 13 (Yi 0)] (.block 0 (.loop (ZR [Yr 14 .lss 13 12] (.seq (YC 14 .skip (.exit 0)) (.seq (.block 1 (ZR [ZM 15 13,ZM 5 15] (.seq (.region [ZM 16 0,ZM 17 5,Yx 18 1 16 17,Yl 19 18,ZM 20 1,ZM 21 5,Yx 22 1 20 21,Yl 23 22,Yr 24 .neq 19 23] true) (YC 24 (ZR [Yv 4 Yf] .ret) .skip)))) (.region [Yu 25 .add 13 1,ZM 13 25] false))))))) (ZR [Yv 4 Yt] .ret))))
theorem Zsw(l:List Int)(hl:l.length≤1000000):Tc 33 [.sl 1 (zR l)] (.agg (Zdl l)):=by
 have hL:=Zu9 l;have hrow:=fun(k:Nat) (h:k<l.length)=>Z7e h;refine Zac ?_ (Zhm _) (by intro y hy;rw[Zyr]at hy;subst hy;exact Zb5 _);refine Gn (vc:=Y79) [.c 2 true 5] Tryz.func33 ?_;simp only[Y79,YY];generalize zR l=ZL at*;refine Rp0 [0,2] ?_;refine Rp0 [0,2,3] ?_;refine Zaa<|Rp1 [2,3,6,7,8] hL ?_;refine Zab ?_;refine Zai (σ:={ x:Nat×Nat//x.1≤l.length∧2≤x.2 }) (fun x=>([(2,.loc 0 0 0),(3,.loc 1 0 0),(6,.sl 1 ZL),(7,pI l.length),(8,pI x.1.1)],⟨[(1,.arr false 5 [Zdl (l.take x.1.1)]),(0,.arr false 5 [[.bool false,.bool false,.bool false,.bool false,.bool false]])],x.1.2⟩)) (fun x=>l.length-x.1.1) ⟨(0,2),Zyw _,Nat.le_refl _⟩ ?_ ?_ ?_
 ·exact Fn0
 ·simp only[vmL,reduceCtorEq]
  first|done|rfl|exact⟨rfl,rfl⟩|trivial
 rintro⟨⟨k,t⟩,hk,ht⟩;simp only[]at hk ht⊢;have qq:=N4 0 1 t (t+1);refine Rp1 [2,3,6,7,8,9] qq ?_;refine Zaa<|Zae rfl (fun h1=>?_) (fun h1=>?_)
 ·have ka:k<l.length:=by have h1:=oT h1;omega
  have hr:=hrow k ka;have hst:l.take (k+1)=l.take k++[l[k]]:=List.take_succ_eq_append_getElem ka;generalize l[k]=y at hr hst;have hkl:=Zhl (l.take k);refine Kp0 ?_;refine Zaa<|Zab ?_;refine Rp1 [2,3,5,6,7,8] (x3 hL hr qq) ?_;refine Ok ?_;by_cases hy:0≤y∧y<5
  ·obtain⟨m,rfl⟩:∃m:Nat,y=(m:Int):=⟨y.toNat,by omega⟩;have hm:m<5:=by omega
   have g1:decide ((m:Int)≥0)=true:=Vt;have g2:decide ((m:Int)<5)=true:=Vt;have hs:=Z7o (l.take k) m hm;rw[←hst]at hs;have hts:=take_set (Zdl (l.take k)) m (PV.bool true) (by rw[hkl];exact hm);refine Rp1 [2,3,5,6,7,8,17] (x3 g1 g2 qq) ?_;refine Ct ?_;refine rp1 [2,3,6,7,8] (x4 hkl hts hs qq) ?_;refine⟨⟨by omega,by omega⟩,by omega,?_⟩;refine rp1 [2,3,6,7,8] (x2 (ad1 (a:=k) (by omega)) qq) ?_;refine⟨⟨(k+1,t),ka,ht⟩,?_⟩;exact Fn1 qq
  ·have hs:=Z31 (l.take k) y hy;rw[←hst]at hs;refine Zaa (Zfa (σ:=Unit) (fun _=>([(2,.loc 0 0 0),(3,.loc 1 0 0),(5,pI y),(6,.sl 1 ZL),(7,pI l.length),(8,pI k),(17,.bool false)],⟨[(1,.arr false 5 [Zdl (l.take k)]),(0,.arr false 5 [[.bool false,.bool false,.bool false,.bool false,.bool false]])],t⟩)) (Zad [2,3,5,6,7,8,17] ?_) (fun _=>?_))
   ·by_cases h0:0≤y
    ·have g1:decide (y≥0)=true:=Vt;have g2:decide (y<5)=false:=Vf;refine Sp1 (x3 g1 g2 qq) ?_;refine⟨(),?_⟩;exact Fn1 qq
    ·have g1:decide (y≥0)=false:=Vf;refine Sp1 (x2 g1 qq) ?_;refine⟨(),?_⟩;exact Fn1 qq
   refine Fp0 ?_;refine rp1 [2,3,6,7,8] (x2 (ad1 (a:=k) (by omega)) qq) ?_;refine⟨⟨(k+1,t),ka,ht⟩,?_⟩;simp only[hs]
   all_goals exact Fn1 qq
 ·have ka:k=l.length:=by have h1:=oF h1;omega
  subst ka;rw[List.take_length];refine Ep0 ?_;have htk:List.take 5 (Zdl l)=Zdl l:=Zyi (by rw[Zhl];exact Nat.le_refl _);have hkl:=Zhl l;refine Rp1 [2] (x4 htk hkl @xan qq) ?_;refine Zd4 ?_;try simp only[vmL,Nat.reduceEqDiff,Nat.reduceLT,htk,hkl,Zyj]
  first|exact Vr|exact⟨Nat.le_refl _,Vr⟩
theorem Zvf(l:List Nat)(hn:l.Nodup)(hlt:∀x∈l,x<5)(hl:l.length≤1000000):Tc 55 [.sl 1 (nR l)] (.agg (Zdc l)):=by
 have hL:=Zbw l;have hrow:=fun(k:Nat) (h:k<l.length)=>Z7f h;refine Zac ?_ (Zsv _) (by intro y hy;rw[Zyr]at hy;subst hy;exact Zbm _);refine Gn (vc:=Y80) [.c 2 true 5] Tryz.func55 ?_;simp only[Y80,YY];generalize nR l=ZL at*;refine Rp0 [0,2] ?_;refine Rp0 [0,2,3] ?_;refine Zaa<|Rp1 [2,3,6,7,8] hL ?_;refine Zab ?_;refine Zai (σ:={ x:Nat×Nat//x.1≤l.length∧2≤x.2 }) (fun x=>([(2,.loc 0 0 0),(3,.loc 1 0 0),(6,.sl 1 ZL),(7,pI l.length),(8,pI x.1.1)],⟨[(1,.arr false 5 [Zdc (l.take x.1.1)]),(0,.arr false 5 [[pI 0,pI 0,pI 0,pI 0,pI 0]])],x.1.2⟩)) (fun x=>l.length-x.1.1) ⟨(0,2),Zyw _,Nat.le_refl _⟩ ?_ ?_ ?_
 ·exact Fn0
 ·simp only[vmL,reduceCtorEq]
  first|done|rfl|exact⟨rfl,rfl⟩|trivial
 rintro⟨⟨k,t⟩,hk,ht⟩;simp only[]at hk ht⊢;have qq:=N4 0 1 t (t+1);refine Rp1 [2,3,6,7,8,9] qq ?_;refine Zaa<|Zae rfl (fun h1=>?_) (fun h1=>?_)
 ·have ka:k<l.length:=by have h1:=oT h1;omega
  have hr:=hrow k ka;have hst:l.take (k+1)=l.take k++[l[k]]:=List.take_succ_eq_append_getElem ka;have hm:=hlt _ (Zyl ka);have hnt:l[k]∉l.take k:=by
   intro hh;obtain⟨j,hj,he⟩:=List.getElem_of_mem hh;rw[Zyh]at hj;rw[List.getElem_take]at he;have:=(List.getElem_inj hn).1 he;omega
  have hlk:(l.take k).length=k:=by rw[Zyh];omega
  generalize l[k]=m at*;have hkl:=Zf0 (l.take k);have hs:=Z32 (l.take k) m hm hnt;rw[←hst,hlk]at hs;have hts:=take_set (Zdc (l.take k)) m (pI k) (by rw[hkl];exact hm);refine Kp0 ?_;refine Zaa<|Zab ?_;refine Rp1 [2,3,4,5,6,7,8] (x3 hL hr qq) ?_;refine Ok ?_;refine rp1 [2,3,6,7,8] (x4 hkl hts hs qq) ?_;refine⟨⟨by omega,by omega⟩,by omega,?_⟩;refine rp1 [2,3,6,7,8] (x2 (ad1 (a:=k) (by omega)) qq) ?_;refine⟨⟨(k+1,t),ka,ht⟩,?_⟩;exact Fn1 qq
 ·have ka:k=l.length:=by have h1:=oF h1;omega
  subst ka;rw[List.take_length];refine Ep0 ?_;have htk:List.take 5 (Zdc l)=Zdc l:=Zyi (by rw[Zf0];exact Nat.le_refl _);have hkl:=Zf0 l;refine Rp1 [2] (x4 htk hkl @xan qq) ?_;refine Zd4 ?_;try simp only[vmL,Nat.reduceEqDiff,Nat.reduceLT,htk,hkl,Zyj]
  first|exact Vr|exact⟨Nat.le_refl _,Vr⟩
theorem Zhn(a b:List Int)(ha:a.length≤1000000):Tc 29 [.sl 1 (zR a),.sl 1 (zR b)] (.bool (decide (a=b))):=by
 have hA:=Zu9 a;have hB:=Zu9 b;have hra:=fun(k:Nat) (h:k<a.length)=>Z7e h;have hrb:=fun(k:Nat) (h:k<b.length)=>Z7e h;refine Zac ?_ (cB _) (CL2 (Zb5 _) (Zb5 _));refine Gn (vc:=Y81) [.t 4] Tryz.func29 ?_;simp only[Y81,YY];generalize zR a=ZA at*;generalize zR b=ZB at*;refine Rp0 [0,1] ?_;refine Zaa ?_;by_cases he:a.length=b.length
 ·have g1:((a.length:Int) !=(b.length:Int))=false:=by rw[bne_eq_false_iff_eq];omega
  refine Rp1 [0,1,10] (x3 hA hB g1) ?_;refine Fp0 ?_;refine Zaa<|Rp1 [0,1,12,13] hA ?_;refine Zab ?_;refine Zai (σ:={ k:Nat//k≤a.length∧∀(j:Nat) (hj:j<a.length),j<k→a[j]=b[j]'(by omega) }) (fun s=>([(0,.sl 1 ZA),(1,.sl 1 ZB),(12,pI a.length),(13,pI s.1)],⟨[],0⟩)) (fun s=>a.length-s.1) ⟨0,Zyw _,fun j _ h=>by cases h⟩ ?_ ?_ ?_
  ·exact Fn0
  ·simp only[vmL]
   try trivial
  rintro⟨k,hk,hpre⟩;simp only[];refine Rp1 [0,1,12,13,14] hA ?_;refine Zaa<|Zae rfl (fun h1=>?_) (fun h1=>?_)
  ·have ka:k<a.length:=by have h1:=oT h1;omega
   have kb:k<b.length:=by omega
   have r1:=hra k ka;have r2:=hrb k kb;refine Kp0 ?_;refine Zaa<|Zab ?_;refine Rp0 [0,1,5,12,13] ?_;by_cases e:a[k]=b[k]
   ·have g:(a[k] !=b[k])=false:=by rw[bne_eq_false_iff_eq];exact e
    have hp2:∀(j:Nat) (hj:j<a.length),j<k+1→a[j]=b[j]'(by omega):=fun j hj hjk=>by
     by_cases ej:j=k
     ·subst ej;exact e
     ·exact hpre j hj (by omega)
    generalize a[k]=y at r1 g;generalize b[k]=z at r2 g;refine Zaa (Zaw [0,1,12,13,24] (by simp[Vh]) ?_);refine Sp1 (x5 hA hB r1 r2 g) ?_;refine⟨⟨by omega,by omega⟩,⟨by omega,by omega⟩,?_⟩;refine Fp0 ?_;refine rp1 [0,1,12,13] (ad1 (a:=k) (by omega)) ?_;refine⟨⟨k+1,ka,hp2⟩,?_⟩;exact Fn0
   ·have g:(a[k] !=b[k])=true:=by rw[bne_iff_ne];exact e
    have hne:decide (a=b)=false:=Zyg fun h=>e (by subst h;rfl);generalize a[k]=y at r1 g;generalize b[k]=z at r2 g;refine Zaa (Zaw [0,1,12,13,24] (by simp[Vh]) ?_);refine Sp1 (x5 hA hB r1 r2 g) ?_;refine⟨⟨by omega,by omega⟩,⟨by omega,by omega⟩,?_⟩;refine Ct ?_;refine Rp0 [4] ?_;refine Tp0 ?_;rw[hne];exact Vr
  ·have ka:k=a.length:=by have h1:=oF h1;omega
   have hee:decide (a=b)=true:=Zyf (List.ext_getElem he fun j h1 h2=>hpre j h1 (by omega));refine Ep0 ?_;refine Rp0 [4] ?_;refine Tp0 ?_;rw[hee];exact Vr
 ·have g1:((a.length:Int) !=(b.length:Int))=true:=by rw[bne_iff_ne];omega
  have hne:decide (a=b)=false:=Zyg fun h=>he (by rw[h]);refine Rp1 [0,1,10] (x3 hA hB g1) ?_;refine Ct ?_;refine Rp0 [4] ?_;refine Tp0 ?_;rw[hne];exact Vr
end Go.Proofs.w
namespace Go.VM
open Go
theorem Z33(r b:List Nat)(K:Nat→Bool)(h:∀i,i<r.length→∀k,k<i→((K i||K k)&&Zmt r b i k)=false):Za4 r b K=true:=by
 unfold Za4;simp only[List.all_eq_true,List.mem_range,Bool.not_eq_true'];exact h
theorem Z34(r b:List Nat)(K:Nat→Bool){i k:Nat}(hi:i<r.length)(hk:k<i)(h:((K i||K k)&&Zmt r b i k)=true):Za4 r b K=false:=by
 rw[Bool.eq_false_iff];intro hh;unfold Za4 at hh;simp only[List.all_eq_true,List.mem_range,Bool.not_eq_true']at hh;rw[hh i hi k hk]at h;cases h
end Go.VM
namespace Go.Proofs.w
open Go Go.VM
def Y82:VC:=(ZR [Yw 5 5 2,Yv 6 Yf] (ZR [ZM 11 0,Yc 12 55 [11],ZM 13 1,Yc 14 55 [13],ZO 7 (.alloc [Yo,Yo,Yo,Yo,Yo]),ZO 8 (.alloc [Yo,Yo,Yo,Yo,Yo]),Ys 5 7 12,Ys 5 8 14] (.seq (ZR [ZM 15 0,Ye 16 15,Yv 17 (Yi 0)] (.block 0 (.loop (ZR [Yr 18 .lss 17 16] (.seq (YC 18 .skip (.exit 0)) (.seq (.block 1 (ZR [ZM 19 17,ZM 9 19] (ZR [ZM 20 9,Yv 21 (Yi 0)] (.block 2 (.loop (ZR [Yr 22 .lss 21 20] (.seq (YC 22 .skip (.exit 2)) (.seq (.block 3 (ZR [ZM 23 21,ZM 10 23] (.seq (.region [ZM 24 9,ZO 25 (.px (.aix 5) [.t 5,.t 24]),Yl 26 25,ZM 27 26,Yg 28 10 27 false,ZG 29 (.px (.aix 5) [.t 5,.t 28]) 27 false,Yk 30 29 27 false,Yh 31 27 30,ZM 32 31,Yg 33 9 32 true,ZG 34 (.px (.aix 5) [.t 7,.t 33]) 32 true,Yk 35 34 32 true,Yg 36 10 32 true,ZG 37 (.px (.aix 5) [.t 7,.t 36]) 32 true,Yk 38 37 32 true,ZG 39 (.bin .lss (.t 35) (.t 38)) 32 true,Yg 40 9 32 true,ZG 41 (.px (.aix 5) [.t 8,.t 40]) 32 true,Yk 42 41 32 true,Yg 43 10 32 true,ZG 44 (.px (.aix 5) [.t 8,.t 43]) 32 true,Yk 45 44 32 true,ZG 46 (.bin .lss (.t 42) (.t 45)) 32 true,ZG 47 (.binb .neq (.t 39) (.t 46)) 32 true,Yz 48 32 47] true) (YC 48 (ZR [Yv 6 Yf] .ret) .skip)))) (.region [Yu 49 .add 21 1,ZM 21 49] false))))))))) (.region [Yu 50 .add 17 1,ZM 17 50] false))))))) (ZR [Yv 6 Yt] .ret))))
theorem Zd2(C:List PV)(i:Nat):(List.take 1 (List.drop i C)).getD 0 .any=C.getD i .any:=by
 simp[Zx1,List.getElem?_take,List.getElem?_drop]
theorem Zsx(r b:List Nat)(K:List Int)(hr:Zot r.length r)(hb:Zot r.length b)(h5:r.length≤5):Tc 32 [.sl 1 (nR r),.sl 1 (nR b),.agg (Zdl K)] (.bool (Za4 r b fun i=>K.contains (i:Int))):=by
 obtain⟨nr,lr⟩:=Zlt _ _ hr;obtain⟨nb,lb⟩:=Zlt _ _ hb;have PR:=Zvf r nr (fun x hx=>by have:=lr x hx;omega) (by omega);have PB:=Zvf b nb (fun x hx=>by have:=lb x hx;omega) (by have:=hb.1;omega);have hL:=Zbw r;have aR:=fun(i:Nat) (h:i<r.length)=>Zve (r:=r) (i:=i) (by omega) (hr.2 i h);have aB:=fun(i:Nat) (h:i<r.length)=>Zve (r:=b) (i:=i) (by omega) (hb.2 i h);have aK:=fun(i:Nat) (h:i<r.length)=>Xa2 K (i:=i) (by omega);have dR:=Zf0 r;have dB:=Zf0 b;have dK:=Zhl K;have tR:List.take 5 (Zdc r)=Zdc r:=Zyi (by rw[dR];exact Nat.le_refl _);have tB:List.take 5 (Zdc b)=Zdc b:=Zyi (by rw[dB];exact Nat.le_refl _);have tK:List.take 5 (Zdl K)=Zdl K:=Zyi (by rw[dK];exact Nat.le_refl _);have kt:=Z33 r b (fun i=>K.contains (i:Int));have kf:=fun(i k:Nat) (h1:i<r.length) (h2:k<i)=>Z34 r b (fun i=>K.contains (i:Int)) h1 h2;have hd:∀i k,Zmt r b i k=(decide ((r.idxOf i:Int)<(r.idxOf k:Int)) !=decide ((b.idxOf i:Int)<(b.idxOf k:Int))):=fun i k=>by
  unfold Zmt;rw[show decide ((r.idxOf i:Int)<(r.idxOf k:Int))=decide (r.idxOf i<r.idxOf k)from decide_eq_decide.2 (by omega),show decide ((b.idxOf i:Int)<(b.idxOf k:Int))=decide (b.idxOf i<b.idxOf k)from decide_eq_decide.2 (by omega)]
 refine Zac ?_ (cB _) (CL3 (Zbm _) (Zbm _) (Zhm _));refine Gn (vc:=Y82) [.t 6] Tryz.func32 ?_;simp only[Y82,YY];generalize nR r=ZR' at*;generalize nR b=ZB' at*;generalize Zdc r=CR at*;generalize Zdc b=CB at*;generalize Zdl K=CK at*;refine Rp1 [0,1,5] (x2 tK dK) ?_;refine Rp1 [0,5,7,8] (x2 tK dK) ?_;refine Ap0 PR ?_;refine Zag PB ?_;simp only[vmL,Nat.reduceAdd,reduceCtorEq,tR,dR,tB,dB,tK,dK,Zyj];refine Zav [(0,.sl 1 ZR'),(5,.ro CK),(7,.ro CR),(8,.ro CB)] ⟨Vr,View.loc (z:=5) (fz:=false) (es:=[CK]) rfl (by simp) rfl (by simp[dK]),View.loc (z:=5) (fz:=false) (es:=[CR]) rfl (by simp) rfl (by simp[dR]),View.loc (z:=5) (fz:=false) (es:=[CB]) rfl (by simp) rfl (by simp[dB]),trivial⟩ ?_;refine Zaa<|Rp1 [5,7,8,16,17] hL ?_;refine Zab ?_;refine Zai (σ:={ x:Nat×Nat//x.1≤r.length∧∀i,i<x.1→∀k,k<i→((K.contains (i:Int)||K.contains (k:Int))&&Zmt r b i k)=false }) (fun x=>([(5,.ro CK),(7,.ro CR),(8,.ro CB),(16,pI r.length),(17,pI x.1.1)],⟨[],x.1.2⟩)) (fun x=>r.length-x.1.1) ⟨(0,3),Zyw _,fun i h=>by cases h⟩ ?_ ?_ ?_
 ·exact Fn0
 ·simp only[vmL]
  first|done|rfl|exact⟨rfl,rfl⟩|trivial
 rintro⟨⟨i,t⟩,hi,hpre⟩;simp only[]at hi hpre⊢;refine Rp0 [5,7,8,16,17,18] ?_;refine Zaa<|Zae rfl (fun h1=>?_) (fun h1=>?_)
 ·have ia:i<r.length:=by have h1:=oT h1;omega
  refine Kp0 ?_;refine Zaa<|Zab ?_;refine Rp0 [5,7,8,9,16,17] ?_;refine Rp0 [5,7,8,9,16,17,20,21] ?_;refine Zab ?_;refine Zai (σ:={ x:Nat×Nat//x.1≤i∧∀k,k<x.1→((K.contains (i:Int)||K.contains (k:Int))&&Zmt r b i k)=false }) (fun x=>([(5,.ro CK),(7,.ro CR),(8,.ro CB),(9,pI i),(16,pI r.length),(17,pI i),(20,pI i),(21,pI x.1.1)],⟨[],x.1.2⟩)) (fun x=>i-x.1.1) ⟨(0,t),Zyw _,fun k h=>by cases h⟩ ?_ ?_ ?_
  ·exact Fn0
  ·simp only[vmL]
   first|done|rfl|exact⟨rfl,rfl⟩|trivial
  rintro⟨⟨k,t⟩,hk,hpre2⟩;simp only[]at hk hpre2⊢;refine Rp0 [5,7,8,9,16,17,20,21,22] ?_;refine Zaa<|Zae rfl (fun h2=>?_) (fun h2=>?_)
  ·have ka:k<i:=by have h2:=oT h2;omega
   have a1:=aR i ia;have a2:=aR k (by omega);have a3:=aB i ia;have a4:=aB k (by omega);have a5:=aK i ia;have a6:=aK k (by omega);have hdi:=hd i k;have kf1:=kf i k ia ka;have hp3:((K.contains (i:Int)||K.contains (k:Int))&&Zmt r b i k)=false→∀k',k'<k+1→((K.contains (i:Int)||K.contains (k':Int))&&Zmt r b i k')=false:=fun h k' hk'=>by
    by_cases e:k'=k
    ·subst e;exact h
    ·exact hpre2 k' (by omega)
   refine Kp0 ?_;refine Zaa<|Zab ?_;refine Rp0 [5,7,8,9,10,16,17,20,21] ?_;refine Zaa (Zfa (σ:=Unit) (fun _=>([(5,.ro CK),(7,.ro CR),(8,.ro CB),(9,pI i),(16,pI r.length),(17,pI i),(20,pI i),(21,pI k),(48,.bool ((K.contains (i:Int)||K.contains (k:Int))&&Zmt r b i k))],⟨[],t⟩)) (Zaw [5,7,8,9,16,17,20,21,48] (by simp[Vh]) ?_) (fun _=>?_))
   ·rw[hdi];cases hc1:K.contains (i:Int)with
    |true=>
     rw[hc1]at a5;simp only[vmL,Nat.reduceEqDiff,Zyk,Zd2,List.length_drop,dK,dR,dB,a1,a2,a3,a4,a5,a6];refine⟨⟨by omega,by omega⟩,by omega,⟨by omega,by omega⟩,by omega,⟨by omega,by omega⟩,by omega,⟨by omega,by omega⟩,by omega,⟨by omega,by omega⟩,by omega,(),?_⟩;rw[Bool.true_or,Zyt]
    | false=>
     rw[hc1]at a5;cases hc2:K.contains (k:Int)with
     |true=>
      rw[hc2]at a6;simp only[vmL,Nat.reduceEqDiff,Zyk,Zd2,List.length_drop,dK,dR,dB,a1,a2,a3,a4,a5,a6];refine⟨⟨by omega,by omega⟩,by omega,⟨by omega,by omega⟩,by omega,⟨by omega,by omega⟩,by omega,⟨by omega,by omega⟩,by omega,⟨by omega,by omega⟩,by omega,⟨by omega,by omega⟩,by omega,(),?_⟩;rw[Bool.or_true,Zyt]
     |false=>
      rw[hc2]at a6;simp only[vmL,Nat.reduceEqDiff,Zyk,Zd2,List.length_drop,dK,dR,dB,a1,a2,a3,a4,a5,a6];refine⟨⟨by omega,by omega⟩,by omega,⟨by omega,by omega⟩,by omega,(),?_⟩;rw[Bool.or_false,Bool.false_and]
   ·cases hc:((K.contains (i:Int)||K.contains (k:Int))&&Zmt r b i k)with
    |true=>
     refine Ct ?_;refine Rp0 [6] ?_;refine Tp0 ?_;rw[kf1 hc];exact Vr
    |false=>
     refine Fp0 ?_;refine rp1 [5,7,8,9,16,17,20,21] (ad1 (a:=k) (by omega)) ?_;refine⟨⟨(k+1,t),ka,hp3 hc⟩,?_⟩;exact Fn0
  ·have ka:k=i:=by have h2:=oF h2;omega
   subst ka;refine Ep0 ?_;refine rp1 [5,7,8,16,17] (ad1 (a:=k) (by omega)) ?_;refine⟨⟨(k+1,t),ia,fun i' h' k' hk'=>?_⟩,?_⟩
   ·by_cases e:i'=k
    ·subst e;exact hpre2 k' hk'
    ·exact hpre i' (by simp only[]at h';omega) k' hk'
   exact Fn0
 ·have ia:i=r.length:=by have h1:=oF h1;omega
  subst ia;refine Ep0 ?_;refine Rp0 [6] ?_;refine Tp0 ?_;rw[kt hpre];exact Vr
end Go.Proofs.w
namespace Go.VM
open Go
def swN(r:List Nat)(off len:Nat):Nat→List Nat
 |0=>r
 |i+1=>Zor (swN r off len i) (off+i) (off+len-1-i)
theorem Zvg(r:List Nat)(i k:Nat):(Zor r i k).length=r.length:=by unfold Zor;simp
theorem Z7p(r:List Nat)(off len:Nat):∀i,(swN r off len i).length=r.length
 |0=>rfl
 |i+1=>by rw[swN,Zvg,Z7p r off len i]
theorem Z7q(r:List Nat)(h:r.length≤5)(off len:Nat)(e:off+len=r.length):swN r off len (len / 2)=Z7c r off:=by
 match r,h with
 | [],_=>
  simp only[Zyn]at e;obtain⟨rfl,rfl⟩:off=0∧len=0:=by omega
  rfl
 | [a],_=>
  simp only[Zyd,Zyn]at e;obtain⟨rfl,rfl⟩|⟨rfl,rfl⟩:(off=0∧len=1)∨(off=1∧len=0):=by omega
  all_goals rfl
 | [a,b],_=>
  simp only[Zyd,Zyn]at e;obtain⟨rfl,rfl⟩|⟨rfl,rfl⟩|⟨rfl,rfl⟩:(off=0∧len=2)∨(off=1∧len=1)∨(off=2∧len=0):=by omega
  all_goals rfl
 | [a,b,c],_=>
  simp only[Zyd,Zyn]at e;obtain⟨rfl,rfl⟩|⟨rfl,rfl⟩|⟨rfl,rfl⟩|⟨rfl,rfl⟩:(off=0∧len=3)∨(off=1∧len=2)∨(off=2∧len=1)∨(off=3∧len=0):=by omega
  all_goals rfl
 | [a,b,c,d],_=>
  simp only[Zyd,Zyn]at e;obtain⟨rfl,rfl⟩|⟨rfl,rfl⟩|⟨rfl,rfl⟩|⟨rfl,rfl⟩|⟨rfl,rfl⟩:(off=0∧len=4)∨(off=1∧len=3)∨(off=2∧len=2)∨(off=3∧len=1)∨(off=4∧len=0):=by omega
  all_goals rfl
 | [a,b,c,d,f],_=>
  simp only[Zyd,Zyn]at e;obtain⟨rfl,rfl⟩|⟨rfl,rfl⟩|⟨rfl,rfl⟩|⟨rfl,rfl⟩|⟨rfl,rfl⟩|⟨rfl,rfl⟩:(off=0∧len=5)∨(off=1∧len=4)∨(off=2∧len=3)∨(off=3∧len=2)∨(off=4∧len=1)∨(off=5∧len=0):=by omega
  all_goals rfl
 |_::_::_::_::_::_::_,h=>simp only[Zyd]at h;omega
theorem Z7r(r:List Nat)(i k:Nat):((nR r).set i [pI (r.getD k 0:Nat)]).set k [pI (r.getD i 0:Nat)]=nR (Zor r i k):=by
 rw[Z2b,Z2b];rfl
end Go.VM
namespace Go.Proofs.w
open Go Go.VM
def Y83:VC:=(ZR [ZM 4 0,Ye 5 4,Yu 6 .sub 5 1,Yv 2 (Yi 0),ZM 3 6] (.block 0 (.loop (.seq (ZR [ZM 7 2,ZM 8 3,Yr 9 .lss 7 8] (YC 9 .skip (.exit 0))) (.seq (.block 1 (.draw2 [ZM 14 0,ZM 15 2,ZM 16 0,ZM 17 3,ZM 18 0,ZM 19 3,Yx 20 1 18 19,Yl 21 20,ZM 22 0,ZM 23 2,Yx 24 1 22 23,Yl 25 24,Yx 26 1 14 15,Ys 1 26 21,Yx 27 1 16 17,Ys 1 27 25] [true,true,false,false,true,true,true,true,true,true,true,true,true,false,false,false])) (.region [ZM 10 2,Yu 11 .add 10 1,ZM 12 3,Yu 13 .sub 12 1,ZM 2 11,ZM 3 13] false))))))
def Y84:VC:=(ZR [ZO 2 (.mv (.c .nilsl))] (.seq (ZR [ZM 3 0,ZO 4 (.nd false (.t 3))] (YC 4 (ZR [ZO 2 (.mv (.c .nilsl))] .ret) .skip)) (ZR [ZO 5 (.fx (.mk0 1) []),ZM 6 0,ZO 7 (.app 1 8 [Yo] false (.t 5) (.t 6)),ZM 2 7] .ret)))
theorem Zzw(r:List Nat)(id off len t:Nat)(hid:id<t)(h5:r.length≤5)(he:off+len=r.length):Zam Tryz.prog 54 [.own id off len] ⟨[(id,.arr false 1 (nR r))],t⟩ (fun _ h'=>∃t',t≤t'∧h'=⟨[(id,.arr false 1 (nR (Z7c r off)))],t'⟩):=by
 have hrs:=Z7q r h5 off len he;refine Gn (vc:=Y83) [] Tryz.func54 ?_;simp only[Y83,YY];have hj0:IntKind.i64.wrap ((len:Int)-1)=(len:Int)-1:=w64 (by omega) (by omega);refine Rp1 [0,2,3] hj0 ?_;refine Zab ?_;refine Zai (σ:={ x:Nat×Int×Nat//x.2.1=(len:Int)-1-x.1∧x.1≤len / 2∧t≤x.2.2 }) (fun x=>([(0,.own id off len),(2,pI x.1.1),(3,pI x.1.2.1)],⟨[(id,.arr false 1 (nR (swN r off len x.1.1)))],x.1.2.2⟩)) (fun x=>len-x.1.1) ⟨(0,(len:Int)-1,t),by simp only[];omega,Zyw _,Nat.le_refl _⟩ ?_ ?_ ?_
 ·exact Fn0
 ·simp only[vmL]
  first|done|rfl|exact⟨rfl,rfl⟩|trivial
 rintro⟨⟨i,j,t1⟩,hj,hi,ht⟩;simp only[]at hj hi ht⊢;subst hj;refine Zaa<|Rp0 [0,2,3,9] ?_;refine Zae rfl (fun h1=>?_) (fun h1=>?_)
 ·have ia:i+1≤len / 2:=by have h1:=oT h1;omega
  obtain⟨m,hm⟩:∃m:Nat,(len:Int)-1-(i:Int)=(m:Int):=⟨len-1-i,by omega⟩;have hm2:m=len-1-i:=by omega
  rw[hm];have hsl:=Z7p r off len i;have hst:swN r off len (i+1)=Zor (swN r off len i) (off+i) (off+m):=by rw[swN,hm2];congr 1;omega
  generalize swN r off len i=R at*;have g1:=Zou (r:=R) (i:=off+i) (by omega);have g2:=Zou (r:=R) (i:=off+m) (by omega);have g3:=Z7r R (off+i) (off+m);have g4:=Zbw R;have g5:∀x,((nR R).set (off+i) x).length=R.length:=fun x=>by rw[List.length_set,g4]
  have g6:((nR R).set (off+i) [pI (R.getD (off+m) 0:Nat)]).getD (off+m) []=[pI (R.getD (off+m) 0:Nat)]:=by
   rw[Z2b,Zou (by simp;omega)];have e:¬i=m:=by omega
   simp[Zx1,List.getElem?_set,e]
  rw[←hst]at g3;generalize nR R=A at*;have w1:IntKind.i64.wrap ((m:Int)-1)=(len:Int)-1-((i+1:Nat):Int):=by rw[w64 (by omega) (by omega)];omega
  refine Kp0 ?_;refine Zaa<|Zab ?_;refine Zd5 [0,2,3] (by simp[Vh]) ?_;simp only[vmL,Nat.reduceEqDiff,Nat.reduceAdd,reduceCtorEq,g1,g2,g3,g4,g5,g6,Zyj];refine⟨⟨by omega,by omega⟩,by omega,⟨by omega,by omega⟩,by omega,⟨by omega,by omega⟩,by omega,⟨by omega,by omega⟩,by omega,?_⟩;refine rp1 [0,2,3] (x2 (ad1 (a:=i) (by omega)) w1) ?_;refine⟨⟨(i+1,(len:Int)-1-((i+1:Nat):Int),t1),rfl,ia,ht⟩,?_⟩;exact Fn0
 ·have ia:i=len / 2:=by have h1:=oF h1;omega
  subst ia;rw[hrs];refine Ep0 ?_;exact⟨t1,ht,rfl⟩
theorem Z7s(r:List Nat)(id n t:Nat)(hid:id<t)(hn:n=r.length)(h0:r≠[])(h5:r.length≤5):Zam Tryz.prog 34 [.own id 0 n] ⟨[(id,.arr false 1 (nR r))],t⟩ (fun p h'=>p=.sl 1 (nR r)∧h'=⟨[(id,.arr false 1 (nR r))],t+2⟩):=by
 have hl:=Zbw r;have htk:=Zss r;have hne:nR r≠[]:=by unfold nR;simpa using h0
 have hpos:0<r.length:=List.length_pos_iff.2 h0;subst hn;refine Zam.frzR ?_;obtain⟨m,hm⟩:∃m,r.length=m+1:=⟨r.length-1,by omega⟩;rw[hm]at hl htk⊢;refine Gn (vc:=Y84) [.t 2] Tryz.func34 ?_;simp only[Y84,YY];generalize nR r=A at*;have qq:=N3 id t (t+1);refine Rp0 [0] ?_;refine Zaa<|Rp1 [0,4] qq ?_;intro b _ hb;subst hb;refine Fp1 qq ?_;refine Rp1 [2] (x3 hl htk qq) ?_;refine⟨by omega,by omega,?_⟩;refine Tp0 ?_;refine⟨[(t+1,.arr false 1 A)],[(id,.arr false 1 A)],t+2,.sl 1 A,⟨Nat.le_refl _,?_⟩,?_,?_,?_,rfl,rfl⟩
 ·simp[HL.le,Heap.get,HL.get,qq]
 ·intro x hx y hy;rw[Zyr]at hx hy;subst hx;subst hy;show id≠t+1;omega
 ·intro x hx fz z e;rw[Zyr]at hx;subst hx;simp only[AB.arr.injEq]at e;exact hne e.2.2
 ·exact View.own_all (fz:=false) (by simp[Vh]) (by rw[hl])
end Go.Proofs.w
