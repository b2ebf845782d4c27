import Derived.Test.YtldogpfookkbaaaGreatDoorEr
import Derived.Test.YtldogpfookkbaaaGreatDoorVmBf
set_option linter.all false
set_option maxRecDepth 20000
set_option maxHeartbeats 0
namespace Go.VM
open Go
structure OrI (Inv:List (List Nat)→List (Nat×AB)→Nat→Prop):Prop where
 nod:∀{p L t},Inv p L t→Nod L
 lt:∀{p L t},Inv p L t→ ∀q∈L,q.1<t
 cell:∀{p L t},Inv p L t→ ∀q∈L, ∀fz z,q.2≠ .arr fz z []
 mono:∀{p L t t'},Inv p L t→t≤t'→Inv p L t'
theorem Zev{L:List (Nat×AB)}(h:Nod L)(t:Nat):Heap.le ⟨L,t⟩ ⟨L,t⟩:=⟨Nat.le_refl _,by simpa using HL.le_app (P:=[]) h t⟩
theorem Zna{L:List (Nat×AB)}{a:Nat}(h:Nod L)(o:Off L a)(x:AB):Nod ((a,x)::L):=by
 unfold Nod at h⊢;rw[List.map_cons,List.nodup_cons];refine⟨fun hm=>?_,h⟩;obtain⟨q,hq,he⟩:=List.mem_map.1 hm;exact o q hq he
theorem Xa6{r:List Nat}{j:Nat}(h:r.getD (j+1) 0<r.getD j 0):Zms r (j+1)=Zms r j:=by rw[Zms,if_pos h]
theorem Z39{r:List Nat}{j:Nat}(h:¬r.getD (j+1) 0<r.getD j 0):Zms r (j+1)=j+1:=by rw[Zms,if_neg h]
theorem Xa7{r:List Nat}{x k:Nat}(h:r.getD (k+1) 0<x):Zkb r x (k+1)=Zkb r x k:=by rw[Zkb,if_pos h]
theorem Z4a{r:List Nat}{x k:Nat}(h:¬r.getD (k+1) 0<x):Zkb r x (k+1)=k+1:=by rw[Zkb,if_neg h]
end Go.VM
namespace Go.Proofs.w
open Go Go.VM
def Y90:VC:=(ZR [Yl 6 1,Yc 7 30 [6],ZM 3 7] (.block 0 (.loop (.block 1 (.seq (ZR [ZM 8 0,ZM 9 3,ZO 10 (.callv (.t 8) [.t 9]),Yn 11 10] (YC 11 .ret .skip)) (ZR [Yl 12 1,Yu 13 .sub 12 2,ZM 4 13] (.seq (.block 2 (.loop (.seq (.seq (.region [ZM 14 4,Yu 15 .geq 14 0,ZM 16 15,Yg 17 3 16 true,Yg 18 4 16 true,Yy 19 1 17 18 16 true,Yk 20 19 16 true,Yg 21 3 16 true,Yg 22 4 16 true,ZG 23 (.bin .add (.t 22) (Yi 1)) 16 true,Yy 24 1 21 23 16 true,Yk 25 24 16 true,ZG 26 (.bin .gtr (.t 20) (.t 25)) 16 true,Yz 27 16 26] true) (YC 27 .skip (.exit 2))) (.block 3 (.region [ZM 28 4,Yu 29 .sub 28 1,ZM 4 29] false))))) (.seq (ZR [ZM 30 4,Yu 31 .lss 30 0] (YC 31 .ret .skip)) (ZR [Yl 32 1,Yu 33 .sub 32 1,ZM 5 33] (.seq (.block 4 (.loop (.seq (.seq (.region [ZM 34 3,ZM 35 5,Yx 36 1 34 35,Yl 37 36,ZM 38 3,ZM 39 4,Yx 40 1 38 39,Yl 41 40,Yr 42 .lss 37 41] true) (YC 42 .skip (.exit 4))) (.block 5 (.region [ZM 43 5,Yu 44 .sub 43 1,ZM 5 44] false))))) (.seq (.draw2 [ZM 45 3,ZM 46 4,ZM 47 3,ZM 48 5,ZM 49 3,ZM 50 5,Yx 51 1 49 50,Yl 52 51,ZM 53 3,ZM 54 4,Yx 55 1 53 54,Yl 56 55,Yx 57 1 45 46,Ys 1 57 52,Yx 58 1 47 48,Ys 1 58 56] [true,true,false,false,true,true,true,true,true,true,true,true,true,false,false,false]) (.region [ZM 59 3,ZM 60 4,Yu 61 .add 60 1,ZO 62 (.slice false 1 (.t 59) (some (.t 61)) none),Yc 63 54 [62]] false))))))))))))
theorem Zzy(l n:Nat)(hn0:0<n)(hn5:n≤5){Inv:List (List Nat)→List (Nat×AB)→Nat→Prop}(hI:OrI Inv){t0:Nat}
  (hy:∀pre r post L1 t1 ir,Za3 n=pre++r::post→Inv pre L1 t1→t0≤ir→ir<t1→Off L1 ir→AY Tryz.prog l [.own ir 0 n] ⟨(ir,.arr false 1 (nR r))::L1,t1⟩ (fun v h'=>v=.bool true∧∃L2 t2,h'=⟨(ir,.arr false 1 (nR r))::L2,t2⟩∧t1≤t2∧Off L2 ir∧Inv (pre++[r]) L2 t2))
  {L0:List (Nat×AB)}(h0:Inv [] L0 t0):
  Zam Tryz.prog 53 [.fn (.yield l) [] [],.ro [pI n]] ⟨L0,t0⟩ (fun _ h'=>∃L2 t2,h'=⟨L2,t2⟩∧Inv (Za3 n) L2 t2):=by
 obtain⟨hfst,hne,hnext⟩:=Zos n hn5;have hokR:=Zzn n hn5;have hlen:=Zgl n hn5;have hRl:0<(Za3 n).length:=List.length_pos_iff.2 hne;generalize hRR:Za3 n=RR at*;clear hRR;have G:Zam Tryz.prog 30 [pI n] ⟨[]++L0,t0⟩ (fun p h'=>∃ir t',t0≤ir∧ir<t'∧p=.own ir 0 n∧h'=⟨(ir,.arr false 1 (nR (List.range n)))::L0,t'⟩):=by
  refine Zam.frameL (fun p _ q hq=>by cases hq) (hI.cell h0) (Zam.mono (Zva n (by omega) t0) ?_);rintro p h' ⟨id,t',q1,q2,rfl,rfl⟩;refine⟨by show t0≤t';omega,?_,?_,id,t',q1,q2,rfl,rfl⟩
  ·intro x hx y hy;rw[Zyr]at hy;subst hy;have:=hI.lt h0 x hx;show x.1≠id;omega
  ·intro y hy;rw[Zyr]at hy;subst hy;rfl
 rw[List.nil_append]at G;refine Zam.drop ?_;refine Gn (vc:=Y90) [] Tryz.func53 ?_;simp only[Y90,YY];refine Rp0 [0,1,3] ?_;refine Zam.mono G ?_;rintro p h' ⟨ir,t1,hi0,hi1,rfl,rfl⟩;clear G
 skip
 refine Zab ?_;refine Zai (σ:={ x:(Nat×Nat)×List (Nat×AB)//x.1.1<RR.length∧Inv (RR.take x.1.1) x.2 x.1.2∧ir<x.1.2∧Off x.2 ir }) (fun x=>([(0,.fn (.yield l) [] []),(1,.ro [pI n]),(3,.own ir 0 n)],⟨(ir,.arr false 1 (nR (RR.getD x.1.1.1 [])))::x.1.2,x.1.1.2⟩)) (fun x=>RR.length-x.1.1.1) ⟨((0,t1),L0),hRl,hI.mono h0 (by show t0≤t1;omega),hi1,fun q hq=>by have:=hI.lt h0 q hq;omega⟩ ?_ ?_ ?_
 ·exact Fn0
 ·rw[hfst];exact Zev (Zna (hI.nod h0) (fun q hq=>by have:=hI.lt h0 q hq;omega) _) _
 rintro⟨⟨⟨k,t⟩,L1⟩,hk,hInv,hit,hoff⟩;simp only[]at hk hInv hit hoff⊢;have hdrop:RR=RR.take k++RR[k]::RR.drop (k+1):=by rw[←List.drop_eq_getElem_cons hk,List.take_append_drop]
 have hY:=hy (RR.take k) RR[k] _ L1 t ir hdrop hInv hi0 hit hoff;have hgk:RR.getD k []=RR[k]:=by simp[Zx1,hk]
 have hnx:=hnext k hk;have hok:=hokR _ (Zyl hk);have htk:RR.take (k+1)=RR.take k++[RR[k]]:=List.take_succ_eq_append_getElem hk;rw[hgk]at hnx⊢;generalize RR[k]=r at*;rw[←htk]at hY;unfold Z7d at hok;simp only[Zx4,Zx3,Bool.or_eq_true,List.all_eq_true]at hok;obtain⟨⟨⟨hrl,hrm⟩,_⟩,hsk⟩:=hok;have hAl:=Zbw r;rw[hrl]at hAl;have hAg:=fun(i:Nat) (h:i<n)=>Zou (r:=r) (i:=i) (by omega);refine Zab ?_;refine Zaa ?_;refine Zaa (Zra [0,1,3,11] ?_);simp only[vmL,Nat.reduceEqDiff,reduceCtorEq,Xcw,Z38];refine hY.mono ?_;rintro v h' ⟨rfl,L2,t2,rfl,ht2,hoff2,hInv2⟩;refine Sp0 ?_;refine Fp0 ?_;have hx0:IntKind.i64.wrap ((n:Int)-2)=(n:Int)-2:=w64 (by omega) (by omega);refine Rp1 [0,1,3,4] hx0 ?_;refine Zaa<|Zab ?_;refine Zai (σ:={ j:Nat//j≤n-1∧Zms r j=Zms r (n-1) }) (fun x=>([(0,.fn (.yield l) [] []),(1,.ro [pI n]),(3,.own ir 0 n),(4,pI ((x.1:Int)-1))],⟨(ir,.arr false 1 (nR r))::L2,t2⟩)) (fun x=>x.1) ⟨n-1,Nat.le_refl _,rfl⟩ ?_ ?_ ?_
 ·have e:(n:Int)-2=((n-1:Nat):Int)-1:=by omega
  rw[e]
  all_goals exact Fn0
 ·exact Zev (Zna (hI.nod hInv2) hoff2 _) _
 rintro⟨j,hj,hscan⟩;simp only[];have hnod2:=hI.nod hInv2;have lself:=fun(x:AB)=>Zev (Zna hnod2 hoff2 x) t2;have ltail:=fun(x:AB)=>HL.le_tail1 (x:=x) hnod2 hoff2 t2;refine Zaa ?_;refine Zaa (Zfa (σ:={ c:Bool//c=true↔∃m,j=m+1∧r.getD (m+1) 0<r.getD m 0 }) (fun c=>([(0,.fn (.yield l) [] []),(1,.ro [pI n]),(3,.own ir 0 n),(4,pI ((j:Int)-1)),(27,.bool c.1)],⟨(ir,.arr false 1 (nR r))::L2,t2⟩)) (Ziv [0,1,3,4,27] ⟨[(ir,.arr false 1 (nR r))],t2⟩ (by simp[Vh]) ?_) (fun c=>?_))
 ·cases j with
  |zero=>
   have g1:decide ((((0:Nat):Int)-1)≥0)=false:=by decide
   refine Sp1 g1 ?_;refine⟨⟨false,by simp⟩,rfl,ltail _⟩
  | succ m=>
   have e1:(((m+1:Nat):Int)-1)=(m:Int):=by omega
   have g1:decide ((m:Int)≥0)=true:=Vt;have r1:=hAg m (by omega);have r2:=hAg (m+1) (by omega);rw[e1];refine Sp1 (x5 g1 (ad1 (a:=m) (by omega)) r1 r2 hAl) ?_;refine⟨⟨by omega,by omega⟩,by omega,⟨by omega,by omega⟩,by omega,⟨decide (((r.getD (m+1) 0:Nat):Int)<((r.getD m 0:Nat):Int)),?_⟩,rfl,ltail _⟩;rw[Zx3];constructor
   ·intro h;exact⟨m,rfl,by omega⟩
   ·rintro⟨m',e,h⟩;obtain rfl:m'=m:=by omega
    omega
 obtain⟨c,hc⟩:=c;simp only[];refine Zae rfl (fun h2=>?_) (fun h2=>?_)
 ·obtain⟨m,rfl,hlt⟩:=hc.1 h2;have e1:IntKind.i64.wrap ((((m+1:Nat):Int)-1)-1)=(m:Int)-1:=by rw[w64 (by omega) (by omega)];omega
  refine Kp0 ?_;refine Zab ?_;refine rp1 [0,1,3,4] e1 ?_;refine⟨⟨m,by omega,by rw[←hscan,Xa6 hlt]⟩,?_⟩;try simp only[vmL]
  all_goals (repeat' (first|rfl|trivial|omega|(simp only[];omega)|refine And.intro ?_ ?_))
  exact ltail _
 ·refine Ep0 ?_;refine Zaa ?_;cases j with
  | zero=>
   have g1:decide ((((0:Nat):Int)-1)<0)=true:=by decide
   have hz:Zms r (n-1)=0:=by rw[←hscan];rfl
   have hnone:RR[k+1]?=none:=by
    rw[←hnx];unfold Z3z;rw[hrl,hz];rfl
   rw[List.getElem?_eq_none_iff]at hnone;have hall:RR.take (k+1)=RR:=Zyi hnone;rw[hall]at hInv2;refine Rp1 [0,1,3,4,31] g1 ?_;refine Ct ?_;refine Tp0 ?_;refine⟨⟨L2,t2⟩,⟨Nat.le_refl _,ltail _⟩,L2,t2,rfl,hInv2⟩
  | succ m=>
   have e1:(((m+1:Nat):Int)-1)=(m:Int):=by omega
   have g1:decide ((m:Int)<0)=false:=Vf;have hstop:¬r.getD (m+1) 0<r.getD m 0:=fun h=>by rw[hc.2 ⟨m,rfl,h⟩]at h2;cases h2
   clear hc h2;have hz:Zms r (n-1)=m+1:=by rw[←hscan,Z39 hstop]
   rw[hz]at hsk;obtain⟨hs1,hs2⟩:=hsk.resolve_left (Nat.succ_ne_zero m);have hm1:m+1-1=m:=by omega
   rw[hm1]at hs1 hs2;have hnr:Z3z r=some (Z7c (Zor r m (Zkb r (r.getD m 0) (n-1))) (m+1)):=by
    unfold Z3z;rw[hrl,hz];simp
   rw[hnr]at hnx;have hk1:k+1<RR.length:=by
    rcases Nat.lt_or_ge (k+1) RR.length with h|h
    ·exact h
    ·rw[List.getElem?_eq_none h]at hnx;cases hnx
   have hgk1:RR.getD (k+1) []=Z7c (Zor r m (Zkb r (r.getD m 0) (n-1))) (m+1):=by rw[Zx1,←hnx];rfl
   have hx1:IntKind.i64.wrap ((n:Int)-1)=((n-1:Nat):Int):=by rw[w64 (by omega) (by omega)];omega
   rw[e1];refine Rp1 [0,1,3,4,31] g1 ?_;refine Fp0 ?_;refine Rp1 [0,1,3,4,5] hx1 ?_;refine Zaa<|Zab ?_;refine Zai (σ:={ q:Nat//q≤n-1∧Zkb r (r.getD m 0) q=Zkb r (r.getD m 0) (n-1) }) (fun x=>([(0,.fn (.yield l) [] []),(1,.ro [pI n]),(3,.own ir 0 n),(4,pI m),(5,pI x.1)],⟨(ir,.arr false 1 (nR r))::L2,t2⟩)) (fun x=>x.1) ⟨n-1,Nat.le_refl _,rfl⟩ ?_ ?_ ?_
   ·exact Fn0
   ·exact lself _
   rintro⟨q,hq,hqk⟩;simp only[];have r1:=hAg m (by omega);have r2:=hAg q (by omega);refine Zaa ?_;refine Zaa (Ziv [0,1,3,4,5,42] ⟨[(ir,.arr false 1 (nR r))],t2⟩ (by simp[Vh]) ?_);refine Sp1 (x3 r1 r2 hAl) ?_;refine⟨⟨by omega,by omega⟩,by omega,⟨by omega,by omega⟩,by omega,?_⟩;refine Zae rfl (fun h3=>?_) (fun h3=>?_)
   ·have hlt:r.getD q 0<r.getD m 0:=by have h3:=oT h3;omega
    cases q with
    |zero=>
     rw[Zkb]at hqk;omega
    |succ q=>
     rw[Xa7 hlt]at hqk;have e2:IntKind.i64.wrap (((q+1:Nat):Int)-1)=(q:Int):=by rw[w64 (by omega) (by omega)];omega
     refine Kp0 ?_;refine Zab ?_;refine rp1 [0,1,3,4,5] e2 ?_;refine⟨⟨q,by omega,hqk⟩,?_⟩;try simp only[vmL]
     all_goals (repeat' (first|rfl|trivial|omega|(simp only[];omega)|refine And.intro ?_ ?_))
     exact ltail _
   ·have hge:¬r.getD q 0<r.getD m 0:=by have h3:=oF h3;omega
    have hqe:q=Zkb r (r.getD m 0) (n-1):=by
     rw[←hqk];cases q with
     |zero=>rfl
     |succ q=>rw[Z4a hge]
    rw[←hqe]at hs1 hs2 hgk1;have g6:((nR r).set m [pI (r.getD q 0:Nat)]).getD q []=[pI (r.getD q 0:Nat)]:=by
     rw[Z2b,Zou (by simp;omega)];have e:¬m=q:=by omega
     simp[Zx1,List.getElem?_set,e]
    have g3:=Z7r r m q;have g5:∀x,((nR r).set m x).length=n:=fun x=>by rw[List.length_set,hAl]
    have hsl:=Zvg r m q;have RV:=Zzw (Zor r m q) ir (m+1) (n-(m+1)) t2 (by omega) (by omega) (by omega);have RVF:Zam Tryz.prog 54 [.own ir (m+1) (n-(m+1))] ⟨(ir,.arr false 1 (nR (Zor r m q)))::L2,t2⟩ (fun _ h'=>∃t',t2≤t'∧h'=⟨(ir,.arr false 1 (nR (RR.getD (k+1) [])))::L2,t'⟩):=by
     rw[hgk1];refine Zam.frameL (l1:=[(ir,.arr false 1 (nR (Zor r m q)))]) (fun p hp y hy=>?_) (hI.cell hInv2) (Zam.mono RV ?_)
     ·rw[Zyr]at hy;subst hy;exact hoff2 p hp
     ·rintro p h' ⟨t',h1,rfl⟩;refine⟨h1,fun x hx y hy=>?_,fun y hy=>?_,t',h1,rfl⟩
      ·rw[Zyr]at hy;subst hy;exact hoff2 x hx
      ·rw[Zyr]at hy;subst hy;rfl
    refine Ep0 ?_;refine Zaa (Zd5 [0,1,3,4] (lself _) ?_);simp only[vmL,Nat.reduceEqDiff,Nat.reduceAdd,reduceCtorEq,r1,r2,g3,g5,g6,hAl,Zyj];refine⟨⟨by omega,by omega⟩,by omega,⟨by omega,by omega⟩,by omega,⟨by omega,by omega⟩,by omega,⟨by omega,by omega⟩,by omega,?_⟩;refine rp1 [0,1,3] (ad1 (a:=m) (by omega)) ?_;rw[hoff2.del,hoff2.del];refine⟨⟨by omega,by omega⟩,Zam.mono RVF ?_⟩;rintro _ h' ⟨t',ht',rfl⟩;refine⟨⟨((k+1,t'),L2),hk1,hI.mono hInv2 ht',by show ir<t';omega,hoff2⟩,⟨Nat.le_refl _,?_,HL.le_tail1 hnod2 hoff2 _⟩,by show RR.length-(k+1)<RR.length-k;omega⟩;simp[HL.get]
end Go.Proofs.w
