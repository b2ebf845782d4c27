import Derived.Test.YtcgdjembdjdlhaaGreatDoorYu
import Derived.Test.YtcgdjembdjdlhaaGreatDoorVmPk
import Derived.Test.YtcgdjembdjdlhaaGreatDoorVmBg
import Derived.Test.YtcgdjembdjdlhaaGreatDoorVmBc
import Derived.Test.YtcgdjembdjdlhaaGreatDoorBc
set_option linter.all false
set_option maxRecDepth 20000
set_option maxHeartbeats 0
namespace Go.Proofs.YtcgdjembdjdlhaaGreatDoor.w
open Go Go.VM
def c_pandectref55_Set:VC:=(ZR [ZO 3 (.box 8 (.t 0)),ZO 6 (.mv (.c .nilsl)),ZO 7 (.mv (.c .nilsl)),ZO 8 (.mv (.c (.bool false)))] (ZR [ZO 20 (.fx (.mk0 4) []),ZM 9 20] (ZR [ZO 21 (.fx (.mk0 1) []),ZM 10 21] (ZR [ZO 22 (.load true 8 (.t 3)),ZM 23 1,ZO 24 (.call 14 [.t 22,.t 23,(.c (.bool true))]),ZM 11 24] (ZR [ZO 12 (.mv (.c (.int .i64 0)))] (.seq (.block 0 (.loop (.seq (ZR [ZM 25 12,ZM 26 11,ZO 27 (.len false (.t 26)),ZO 28 (.bin .lss (.t 25) (.t 27))] (.cond (.t 28) .skip (.exit 0))) (.block 1 (ZR [ZM 29 12,ZO 30 (.bin .add (.t 29) (.c (.int .i64 1))),ZM 13 30] (.seq (.block 2 (.loop (.seq (ZR [ZM 31 13,ZM 32 11,ZO 33 (.len false (.t 32)),ZO 34 (.bin .lss (.t 31) (.t 33)),ZM 35 34,ZG 36 (.mv (.t 11)) 35 true,ZG 37 (.mv (.t 13)) 35 true,ZG 38 (.bin .sub (.t 37) (.c (.int .i64 1))) 35 true,ZG 39 (.iaddr 6 (.t 36) (.t 38)) 35 true,ZG 40 (.faddr 5 (.t 39)) 35 true,ZG 41 (.load false 1 (.t 40)) 35 true,ZO 42 (.pick (.t 35) (.t 41) (.c (.bool false)))] (.cond (.t 42) .skip (.exit 2))) (.block 3 (.region [ZM 43 13,ZO 44 (.bin .add (.t 43) (.c (.int .i64 1))),ZM 13 44] false))))) (ZR [ZO 45 (.fx (.mk0 1) []),ZM 14 45] (ZR [ZO 46 (.fx (.mk0 1) []),ZM 15 46] (ZR [ZO 47 (.fx (.mk0 3) []),ZM 16 47] (.seq (ZR [ZM 48 12,ZM 17 48] (.block 4 (.loop (.seq (ZR [ZM 49 17,ZM 50 13,ZO 51 (.bin .lss (.t 49) (.t 50))] (.cond (.t 51) .skip (.exit 4))) (.seq (.block 5 (ZR [ZM 54 14,ZM 55 11,ZM 56 17,ZO 57 (.iaddr 6 (.t 55) (.t 56)),ZO 58 (.faddr 3 (.t 57)),ZO 59 (.load false 1 (.t 58)),ZO 60 (.bslice 1 1 [(.str [])] [(0,(.t 59))]),ZO 61 (.app 1 16 [(.str [])] false (.t 54) (.t 60)),ZM 14 61] (ZR [ZM 62 15,ZM 63 11,ZM 64 17,ZO 65 (.iaddr 6 (.t 63) (.t 64)),ZO 66 (.faddr 4 (.t 65)),ZO 67 (.load false 1 (.t 66)),ZO 68 (.app 1 16 [(.str [])] false (.t 62) (.t 67)),ZM 15 68] (.region [ZM 69 16,ZM 70 11,ZM 71 17,ZO 72 (.iaddr 6 (.t 70) (.t 71)),ZO 73 (.faddr 0 (.t 72)),ZO 74 (.load true 3 (.t 73)),ZO 75 (.bslice 3 1 [.int .i64 0,.int .i64 0,.int .i64 0] [(0,(.t 74))]),ZO 76 (.app 3 24 [.int .i64 0,.int .i64 0,.int .i64 0] false (.t 69) (.t 75)),ZM 16 76] false)))) (.region [ZM 52 17,ZO 53 (.bin .add (.t 52) (.c (.int .i64 1))),ZM 17 53] false)))))) (.seq (ZR [ZM 77 14,ZO 78 (.len false (.t 77)),ZM 79 15,ZO 80 (.len false (.t 79)),ZO 81 (.call 36 [.t 78,.t 80]),ZM 82 2,ZO 83 (.bin .gtr (.t 81) (.t 82))] (.cond (.t 83) (ZR [ZO 6 (.mv (.c .nilsl)),ZO 7 (.mv (.c .nilsl)),ZO 8 (.mv (.c (.bool false)))] .ret) .skip)) (ZR [ZM 84 9,ZO 85 (.len false (.t 84)),ZO 86 (.bin .sub (.t 85) (.c (.int .i64 1))),ZM 18 86] (.seq (.seq (.region [ZM 87 18,ZO 88 (.bin .lss (.t 87) (.c (.int .i64 0))),ZM 89 88,ZG 90 (.mv (.t 9)) 89 false,ZG 91 (.mv (.t 18)) 89 false,ZG 92 (.iaddr 4 (.t 90) (.t 91)) 89 false,ZG 93 (.faddr 2 (.t 92)) 89 false,ZG 94 (.load false 1 (.t 93)) 89 false,ZG 95 (.len false (.t 94)) 89 false,ZG 96 (.mv (.t 14)) 89 false,ZG 97 (.len false (.t 96)) 89 false,ZG 98 (.bin .add (.t 95) (.t 97)) 89 false,ZG 99 (.mv (.t 9)) 89 false,ZG 100 (.mv (.t 18)) 89 false,ZG 101 (.iaddr 4 (.t 99) (.t 100)) 89 false,ZG 102 (.faddr 3 (.t 101)) 89 false,ZG 103 (.load false 1 (.t 102)) 89 false,ZG 104 (.len false (.t 103)) 89 false,ZG 105 (.mv (.t 15)) 89 false,ZG 106 (.len false (.t 105)) 89 false,ZG 107 (.bin .add (.t 104) (.t 106)) 89 false,ZG 108 (.call 36 [.t 98,.t 107]) 89 false,ZG 109 (.mv (.t 2)) 89 false,ZG 110 (.bin .gtr (.t 108) (.t 109)) 89 false,ZO 111 (.pick (.t 89) (.c (.bool true)) (.t 110))] true) (.cond (.t 111) (ZR [ZM 112 9,ZM 113 9,ZO 114 (.len false (.t 113)),ZO 115 (.bin .add (.t 114) (.c (.int .i64 1))),ZO 116 (.build [.int .i64 0,(.str []),.nilsl,.nilsl] [(0,(1,(.t 115)))]),ZO 117 (.bslice 4 1 [.int .i64 0,(.str []),.nilsl,.nilsl] [(0,(.t 116))]),ZO 118 (.app 4 72 [.int .i64 0,(.str []),.nilsl,.nilsl] false (.t 112) (.t 117)),ZM 9 118] (ZR [ZM 119 10,ZO 120 (.fx (.mk0 3) []),ZO 121 (.bslice 1 1 [.nilsl] [(0,(.t 120))]),ZO 122 (.app 1 24 [.nilsl] false (.t 119) (.t 121)),ZM 10 122] (.region [ZM 123 18,ZO 124 (.bin .add (.t 123) (.c (.int .i64 1))),ZM 18 124] false))) .skip)) (ZR [ZM 125 9,ZM 126 18,ZM 127 9,ZM 128 18,ZO 129 (.iaddr 4 (.t 127) (.t 128)),ZO 130 (.faddr 2 (.t 129)),ZO 131 (.load false 1 (.t 130)),ZM 132 14,ZO 133 (.app 1 16 [(.str [])] false (.t 131) (.t 132)),ZO 134 (.iaddr 4 (.t 125) (.t 126)),ZO 135 (.faddr 2 (.t 134)),ZN (.store 1 (.t 135) (.t 133))] (ZR [ZM 136 9,ZM 137 18,ZM 138 9,ZM 139 18,ZO 140 (.iaddr 4 (.t 138) (.t 139)),ZO 141 (.faddr 3 (.t 140)),ZO 142 (.load false 1 (.t 141)),ZM 143 15,ZO 144 (.app 1 16 [(.str [])] false (.t 142) (.t 143)),ZO 145 (.iaddr 4 (.t 136) (.t 137)),ZO 146 (.faddr 3 (.t 145)),ZN (.store 1 (.t 146) (.t 144))] (ZR [ZM 147 10,ZM 148 18,ZM 149 10,ZM 150 18,ZO 151 (.iaddr 1 (.t 149) (.t 150)),ZO 152 (.load false 1 (.t 151)),ZM 153 16,ZO 154 (.app 3 24 [.int .i64 0,.int .i64 0,.int .i64 0] false (.t 152) (.t 153)),ZO 155 (.iaddr 1 (.t 147) (.t 148)),ZN (.store 1 (.t 155) (.t 154))] (.region [ZM 156 13,ZM 12 156] false))))))))))))))))) (.seq (ZR [ZO 19 (.mv (.c (.int .i64 0)))] (.block 6 (.loop (.seq (ZR [ZM 157 19,ZM 158 9,ZO 159 (.len false (.t 158)),ZO 160 (.bin .lss (.t 157) (.t 159))] (.cond (.t 160) .skip (.exit 6))) (.seq (.block 7 (.draw2 [ZM 163 9,ZM 164 19,ZO 165 (.load true 8 (.t 3)),ZM 166 10,ZM 167 19,ZO 168 (.iaddr 1 (.t 166) (.t 167)),ZO 169 (.load false 1 (.t 168)),ZO 170 (.iaddr 3 (.t 169) (.c (.int .i64 0))),ZO 171 (.load true 3 (.t 170)),ZM 172 10,ZM 173 19,ZO 174 (.iaddr 1 (.t 172) (.t 173)),ZO 175 (.load false 1 (.t 174)),ZM 176 10,ZM 177 19,ZO 178 (.iaddr 1 (.t 176) (.t 177)),ZO 179 (.load false 1 (.t 178)),ZO 180 (.len false (.t 179)),ZO 181 (.bin .sub (.t 180) (.c (.int .i64 1))),ZO 182 (.iaddr 3 (.t 175) (.t 181)),ZO 183 (.load true 3 (.t 182)),ZO 184 (.call 37 [.t 165,.t 171,.t 183]),ZO 185 (.iaddr 4 (.t 163) (.t 164)),ZO 186 (.faddr 1 (.t 185)),ZN (.store 1 (.t 186) (.t 184))] [true,true,true,true,true,true,true,true,true,true,true,true,true,true,true,true,true,true,true,true,true,true,true,true,false])) (.region [ZM 161 19,ZO 162 (.bin .add (.t 161) (.c (.int .i64 1))),ZM 19 162] false)))))) (ZR [ZM 187 9,ZM 188 10,ZM 6 187,ZM 7 188,ZO 8 (.mv (.c (.bool true)))] .ret))))))))
def idR (x:Ln):List PV:=x.id.enc
def idsR (P:List (List Ln)):List (List PV):=P.map fun L=>[PV.sl 3 (L.map idR)]
def rwP (q:Int×Str×PV×PV):List PV:=[pI q.1,.str q.2.1,q.2.2.1,q.2.2.2]
structure StS where
 Q : List (Int × Str × PV × PV)
 D : List (List Ln)
 N : List Ln
 i : Nat
 iL : Nat
 iN : Nat
 iW : Nat
 io : Nat
 ii : Nat
 t : Nat
def StS.ok (t0:Nat) (m:Int) (B:List Ln) (s:StS):Prop :=
 SetI m B s.i s.D s.N∧s.Q.length=s.D.length∧(s.iL≠s.iN∧s.iL≠s.iW∧s.iL≠s.io∧s.iL≠s.ii∧s.iN≠s.iW∧s.iN≠s.io∧s.iN≠s.ii∧s.iW≠s.io∧s.iW≠s.ii∧s.io≠s.ii)∧s.iL<s.t∧s.iN<s.t∧s.iW<s.t∧s.io<s.t∧s.ii<s.t∧t0≤s.ii
def lastR (D:List (List Ln)) (N:List Ln) (iL iN:Nat):List PV:=[pI ((D.length+1:Nat):Int),.str [],.own iL 0 N.length,.own iN 0 (N.flatMap Ln.notes).length]
def outS (Q:List (Int×Str×PV×PV)) (D:List (List Ln)) (N:List Ln) (iL iN:Nat):List (List PV):=if N=[] then [] else Q.map rwP++[lastR D N iL iN]
def idsW (D:List (List Ln)) (N:List Ln) (iW:Nat):List (List PV):=if N=[] then [] else idsR D++[[.own iW 0 N.length]]
def npS (D:List (List Ln)) (N:List Ln):Nat:=if N=[] then 0 else D.length+1
theorem app_get {α:Type} (A:List (List α)) (x:List α) {n:Nat} (h:n=A.length):(A++[x]).getD n []=x:=by
 subst h;rw [List.getD_eq_getElem?_getD,List.getElem?_append_right (Nat.le_refl _),Nat.sub_self];rfl
theorem app_set {α:Type} (A:List (List α)) (x y:List α) {n:Nat} (h:n=A.length):(A++[x]).set n y=A++[y]:=by
 subst h;rw [List.set_append_right _ _ (Nat.le_refl _),Nat.sub_self];rfl
theorem idR_step {l:List Ln} {k:Nat} (h:k<l.length):(l.take (k+1)).map idR=(l.take k).map idR++[idR l[k]]:=by
 rw [List.take_succ_eq_append_getElem h,List.map_append];rfl
theorem len_last (A:List (List PV)) (p q:PV):∀ i,(PV.row (A++[[q]]) i).length=(PV.row (A++[[p]]) i).length:=by
 intro i;unfold PV.row;rw [List.getD_eq_getElem?_getD,List.getD_eq_getElem?_getD];by_cases h:i<A.length
 ·rw [List.getElem?_append_left h,List.getElem?_append_left h]
 ·rw [List.getElem?_append_right (by omega),List.getElem?_append_right (by omega)];by_cases h2:i-A.length=0
  ·rw [h2];rfl
  ·rw [List.getElem?_eq_none (by simp;omega),List.getElem?_eq_none (by simp;omega)]
theorem view_last {h:Heap} {A:List (List PV)} {p q:PV} (hp:View h p q):∀ i j,View h (PV.nth (PV.row (A++[[p]]) i) j) (PV.nth (PV.row (A++[[q]]) i) j):=by
 intro i j;unfold PV.row;rw [List.getD_eq_getElem?_getD,List.getD_eq_getElem?_getD];by_cases h:i<A.length
 ·rw [List.getElem?_append_left h,List.getElem?_append_left h];exact View.refl _ _
 ·rw [List.getElem?_append_right (by omega),List.getElem?_append_right (by omega)];by_cases h2:i-A.length=0
  ·rw [h2];cases j with
   | zero=>exact hp
   | succ j=>exact View.refl _ _
  ·rw [List.getElem?_eq_none (by simp;omega),List.getElem?_eq_none (by simp;omega)];exact View.refl _ _
theorem le_tail3 {a b c:Nat} {x y z:AB} {L:List (Nat×AB)} (hn:Nod L) (h1:Off L a) (h2:Off L b) (h3:Off L c) (t:Nat):HL.le L (Heap.get ⟨(a,x)::(b,y)::(c,z)::L,t⟩):=HL.le_tail (pre:=[(a,x),(b,y),(c,z)]) hn (by simpa using ⟨h1,h2,h3⟩) t
theorem own_Set {u : Un} (hu : SmT u) (hn : (unitsT u).length ≤ 1000) (w m : Int) (hm1 : 2 ≤ m) (hm2 : m ≤ 200) {P : List (List Ln)} (hp : pagesG m (bodyP u w) = some P) (t0 : Nat) :
  Zal Tryz.prog 12 [.agg u.enc,pI w,pI m] ⟨[],t0⟩ (fun p h'=>∃ x ii t',t0≤ii∧ii<t'∧p=.tup [x,.own ii 0 P.length,.bool true]∧h'=⟨[(ii,.arr false 1 (idsR P))],t'⟩):=by
 have RB:=sp_ref55_Body hu hn w true;rw [bodyB_P] at RB;have HD:=fun a b=>sp_ref55_Head hu hn a b;obtain ⟨hBl,hBn⟩:=body_le hu hn w;refine Zal.drop ?_;refine Gn (vc:=c_pandectref55_Set) [.t 6,.t 7,.t 8] Tryz.func12 ?_;unfold c_pandectref55_Set;try dsimp only [ZM,ZO,ZN,ZG,ZR,ZU]
 rw [Un.Zaf u] at RB HD ⊢;generalize u.head.map Wd.enc=EH at *;generalize u.words.map Wd.enc=EW at *;generalize u.kids.map Un.enc=EK at *;generalize bodyP u w=B at *;have hBel:(B.map Ln.encR).length=B.length:=List.length_map _;have hx:∀ x:Ln,x.encR=[pI x.id.act,pI x.id.item,pI x.id.n,.str x.text,.sl 1 (strR x.notes),.bool x.tied]:=fun x=>rfl;have hBg:∀ (k:Nat) (hk:k<B.length),(B.map Ln.encR).getD k []=[pI (B.getD k lnZ).id.act,pI (B.getD k lnZ).id.item,pI (B.getD k lnZ).id.n,.str (B.getD k lnZ).text,.sl 1 (strR (B.getD k lnZ).notes),.bool (B.getD k lnZ).tied]:=fun k hk=>by
  rw [rowm hk,hx,List.getD_eq_getElem?_getD,List.getElem?_eq_getElem hk];rfl
 generalize B.map Ln.encR=BE at RB hBel hBg;have qq:=N7 t0 (t0+1) (t0+2) (t0+3) (t0+4) (t0+5) (t0+6);refine Rp1 [1,2,3] qq ?_;refine Zat [(1,pI w),(2,pI m),(3,.ro [pI u.act,pI u.item,pI u.n,pI u.kind,.str u.label,.sl 4 EH,.sl 4 EW,.sl 8 EK])] ⟨View.refl _ _,View.refl _ _,View.loc (z:=8) (fz:=false) (es:=[[pI u.act,pI u.item,pI u.n,pI u.kind,.str u.label,.sl 4 EH,.sl 4 EW,.sl 8 EK]]) (by simp [Heap.get,HL.get]) (by simp) rfl (by simp),trivial⟩ ?_;refine Rp0 [1,2,3,9] ?_;refine Rp1 [1,2,3,9,10] qq ?_;refine Rp1 [2,3,9,10,11] qq ?_;refine Ap0 RB ?_;refine Rp0 [2,3,9,10,11,12] ?_;refine VW_push 1 ?_;refine VW_push 1 ?_;refine VW_push 3 ?_;refine Sp1 qq ?_;refine Zaa ?_;refine Zab ?_;refine Zah (σ:={ s:StS//s.ok t0 m B }) (fun x=>([(2,pI m),(3,.ro [pI u.act,pI u.item,pI u.n,pI u.kind,.str u.label,.sl 4 EH,.sl 4 EW,.sl 8 EK]),(9,.own x.1.io 0 (npS x.1.D x.1.N)),(10,.own x.1.ii 0 (npS x.1.D x.1.N)),(11,.sl 6 BE),(12,pI x.1.i)],⟨[(x.1.iL,.arr false 1 (strR (x.1.N.map Ln.text))),(x.1.iN,.arr false 1 (strR (x.1.N.flatMap Ln.notes))),(x.1.iW,.arr false 3 (x.1.N.map idR)),(x.1.io,.arr false 4 (outS x.1.Q x.1.D x.1.N x.1.iL x.1.iN)),(x.1.ii,.arr false 1 (idsW x.1.D x.1.N x.1.iW))],x.1.t⟩)) (fun x=>B.length-x.1.i) ⟨⟨[],[],[],0,t0+3,t0+4,t0+5,t0+1,t0+2,t0+6⟩,setI_0 m B,rfl,by simp only [];omega,by simp only [];omega,by simp only [];omega,by simp only [];omega,by simp only [];omega,by simp only [];omega,by simp only [];omega⟩ ?_ ?_ ?_
 ·simp only [vmL,Nat.reduceEqDiff,Nat.reduceAdd,Nat.reduceLT,Nat.reduceLeDiff,Nat.reduceSub,Nat.reduceMul,reduceIte,reduceCtorEq,Int.reduceToNat]
  first|done|rfl|exact ⟨rfl,rfl,rfl⟩
 ·refine Sp1 qq ?_;exact ⟨rfl,rfl,rfl,rfl⟩
 rintro ⟨⟨Q,D,N,i,iL,iN,iW,io,ii,t⟩,hS,hQ,hap,l1,l2,l3,l4,l5,l6⟩;simp only [] at hS hQ hap l1 l2 l3 l4 l5 l6 ⊢;have qq:=N7 iL iN iW io ii t (t+1);refine Zaa ?_;refine Rp1 [2,3,9,10,11,12,28] (x2 hBel qq) ?_;refine Zac rfl (fun h1=>?_) (fun h1=>?_)
 ·have ia:i<B.length:=by simp only [decide_eq_true_eq] at h1;omega
  generalize hRO:outS Q D N iL iN=RO at *;generalize hRI:idsW D N iW=RI at *;generalize hnp:npS D N=np at *;refine Kp0 ?_;refine Zab ?_;refine Rp1 [2,3,9,10,11,12,13] (x2 (ad1 (a:=i) (by omega)) qq) ?_;refine Zaa (Zbl (σ:={ k:Nat//i<k∧k≤B.length∧(∀ j,i≤j→j+1<k→(B.getD j lnZ).tied=true)∧(k=B.length∨(B.getD (k-1) lnZ).tied=false) }) (fun x=>([(2,pI m),(3,.ro [pI u.act,pI u.item,pI u.n,pI u.kind,.str u.label,.sl 4 EH,.sl 4 EW,.sl 8 EK]),(9,.own io 0 np),(10,.own ii 0 np),(11,.sl 6 BE),(12,pI i),(13,pI x.1)],⟨[(iL,.arr false 1 (strR (N.map Ln.text))),(iN,.arr false 1 (strR (N.flatMap Ln.notes))),(iW,.arr false 3 (N.map idR)),(io,.arr false 4 RO),(ii,.arr false 1 RI)],t⟩)) ?_ ?_)
  ·refine Zab ?_;refine Zah (σ:={ k:Nat//i<k∧k≤B.length∧∀ j,i≤j→j+1<k→(B.getD j lnZ).tied=true }) (fun x=>([(2,pI m),(3,.ro [pI u.act,pI u.item,pI u.n,pI u.kind,.str u.label,.sl 4 EH,.sl 4 EW,.sl 8 EK]),(9,.own io 0 np),(10,.own ii 0 np),(11,.sl 6 BE),(12,pI i),(13,pI x.1)],⟨[(iL,.arr false 1 (strR (N.map Ln.text))),(iN,.arr false 1 (strR (N.flatMap Ln.notes))),(iW,.arr false 3 (N.map idR)),(io,.arr false 4 RO),(ii,.arr false 1 RI)],t⟩)) (fun x=>B.length-x.1) ⟨i+1,Nat.lt_succ_self _,ia,fun j h1 h2=>by omega⟩ ?_ ?_ ?_
   ·exact Fn1 qq
   ·exact Fn1 qq
   rintro ⟨k,hk1,hk2,hk3⟩;simp only [];refine Zaa ?_;have w1:IntKind.i64.wrap ((k:Int)-1)=((k-1:Nat):Int):=by rw [w64 (by omega) (by omega)];omega
   by_cases c1:k<B.length
   ·have e1:decide ((k:Int)<(B.length:Int))=true:=decide_eq_true (by omega);have hrow:=hBg (k-1) (by omega);cases hb:(B.getD (k-1) lnZ).tied with
    | true =>
     rw [hb] at hrow;refine Rp1 [2,3,9,10,11,12,13,42] (x5 hBel e1 w1 hrow qq) ?_;refine Ok ?_;refine Ct ?_;refine Kp0 ?_;refine Zab ?_;refine rp1 [2,3,9,10,11,12,13] (x2 (ad1 (a:=k) (by omega)) qq) ?_;refine ⟨⟨k+1,by omega,c1,fun j h1 h2=>?_⟩,?_⟩
     ·by_cases e:j=k-1
      ·rw [e];exact hb
      ·exact hk3 j h1 (by omega)
     ·exact Fn1 qq
    | false =>
     rw [hb] at hrow;refine Rp1 [2,3,9,10,11,12,13,42] (x5 hBel e1 w1 hrow qq) ?_;refine Ok ?_;refine Cf ?_;refine Ep1 qq ?_;refine ⟨⟨k,hk1,hk2,hk3,.inr hb⟩,?_⟩;exact Fn1 qq
   ·have e1:decide ((k:Int)<(B.length:Int))=false:=decide_eq_false (by omega);refine Rp1 [2,3,9,10,11,12,13,42] (x3 hBel e1 qq) ?_;refine Cf ?_;refine Ep1 qq ?_;refine ⟨⟨k,hk1,hk2,hk3,.inl (by omega)⟩,?_⟩;exact Fn1 qq
  rintro ⟨k,hk1,hk2,hk3,hk4⟩;simp only [];obtain ⟨hgm,hstep⟩:=setI_step hS hp hk1 hk2 hk3 hk4;have hgl:((B.drop i).take (k-i)).length=k-i:=by rw [List.length_take,List.length_drop];omega
  have hgg:∀ q,q<k-i→((B.drop i).take (k-i)).getD q lnZ=B.getD (i+q) lnZ:=fun q hq=>by
   rw [List.getD_eq_getElem?_getD,List.getElem?_take,if_pos hq,List.getElem?_drop,← List.getD_eq_getElem?_getD]
  have hgn:Zam ((B.drop i).take (k-i))≤362404000:=by have:=high_notes ((B.drop i).take (k-i));omega
  generalize hg:(B.drop i).take (k-i)=g at *;obtain ⟨L0,hL0⟩:∃ L0:List (Nat×AB),L0=[(iL,.arr false 1 (strR (N.map Ln.text))),(iN,.arr false 1 (strR (N.flatMap Ln.notes))),(iW,.arr false 3 (N.map idR)),(io,.arr false 4 RO),(ii,.arr false 1 RI)]:=⟨_,rfl⟩;have hlt:∀ q∈L0,q.1<t:=by
   rw [hL0];intro q hq;simp only [List.mem_cons,List.not_mem_nil,or_false] at hq;rcases hq with rfl|rfl|rfl|rfl|rfl
   ·exact l1
   ·exact l2
   ·exact l3
   ·exact l4
   ·exact l5
  have hnod:Nod L0:=by
   rw [hL0];simp only [Nod,List.map_cons,List.map_nil,List.nodup_cons,List.mem_cons,List.not_mem_nil,or_false,not_or,List.nodup_nil,not_false_eq_true,and_true];omega
  rw [← hL0];clear qq;have qq:=N4 t (t+1) (t+2) (t+3);refine Rp1 [2,3,9,10,11,12,13,14] qq ?_;refine Rp1 [2,3,9,10,11,12,13,14,15] qq ?_;refine Rp1 [2,3,9,10,11,12,13,14,15,16] qq ?_;refine Zaa ?_;refine Rp1 [2,3,9,10,11,13,14,15,16,17] qq ?_;refine Zab ?_;refine Zah (σ:={ x:Nat×Nat×Nat×Nat×Nat//x.1≤g.length∧(t≤x.2.1∧t≤x.2.2.1∧t≤x.2.2.2.1)∧(x.2.1≠x.2.2.1∧x.2.1≠x.2.2.2.1∧x.2.2.1≠x.2.2.2.1)∧x.2.1<x.2.2.2.2∧x.2.2.1<x.2.2.2.2∧x.2.2.2.1<x.2.2.2.2 }) (fun x=>([(2,pI m),(3,.ro [pI u.act,pI u.item,pI u.n,pI u.kind,.str u.label,.sl 4 EH,.sl 4 EW,.sl 8 EK]),(9,.own io 0 np),(10,.own ii 0 np),(11,.sl 6 BE),(13,pI k),(14,.own x.1.2.1 0 ((g.take x.1.1).map Ln.text).length),(15,.own x.1.2.2.1 0 ((g.take x.1.1).flatMap Ln.notes).length),(16,.own x.1.2.2.2.1 0 ((g.take x.1.1).map idR).length),(17,pI ((i+x.1.1:Nat):Int))],⟨(x.1.2.1,.arr false 1 (strR ((g.take x.1.1).map Ln.text)))::(x.1.2.2.1,.arr false 1 (strR ((g.take x.1.1).flatMap Ln.notes)))::(x.1.2.2.2.1,.arr false 3 ((g.take x.1.1).map idR))::L0,x.1.2.2.2.2⟩)) (fun x=>g.length-x.1.1) ⟨(0,t,t+1,t+2,t+3),Nat.zero_le _,by simp only [];omega,by simp only [];omega,by simp only [];omega,by simp only [];omega,by simp only [];omega⟩ ?_ ?_ ?_
  ·try simp only [vmL,Nat.reduceEqDiff,Nat.reduceAdd,Nat.reduceLT,Nat.reduceLeDiff,Nat.reduceSub,Nat.reduceMul,reduceIte,reduceCtorEq,Int.reduceToNat,List.take_zero,List.map_nil,List.flatMap_nil,List.length_nil,qq]
   all_goals (repeat' (first|rfl|trivial|omega|(simp only [];omega)|refine And.intro ?_ ?_))
  ·simp only [vmL,Nat.reduceEqDiff,Nat.reduceAdd,Nat.reduceLT,Nat.reduceLeDiff,Nat.reduceSub,Nat.reduceMul,reduceIte,reduceCtorEq,Int.reduceToNat,List.take_zero,List.map_nil,List.flatMap_nil,qq];exact ⟨rfl,rfl,le_tail3 hnod (Off.lt hlt (by omega)) (Off.lt hlt (by omega)) (Off.lt hlt (by omega)) _⟩
  rintro ⟨⟨q,iT,iF,iX,s⟩,hq,⟨f1,f2,f3⟩,⟨f4,f5,f6⟩,f7,f8,f9⟩;simp only [] at hq f1 f2 f3 f4 f5 f6 f7 f8 f9 ⊢;have dT:=(Off.lt hlt f1).del;have dF:=(Off.lt hlt f2).del;have dX:=(Off.lt hlt f3).del;have d0:=(Off.lt (u:=s) hlt (by omega)).del;have d1:=(Off.lt (u:=s+1) hlt (by omega)).del;have d2:=(Off.lt (u:=s+2) hlt (by omega)).del;clear qq;have qq:=N8 iT iF iX s (s+1) (s+2) (s+3) (s+4);refine Zaa ?_;refine Rp1 [2,3,9,10,11,13,14,15,16,17,51] qq ?_;refine Zac rfl (fun h2=>?_) (fun h2=>?_)
  ·have qa:q<g.length:=by simp only [decide_eq_true_eq] at h2;omega
   have hrow:=hBg (i+q) (by omega);have hgx:g[q]=B.getD (i+q) lnZ:=by
    rw [← hgg q (by omega),List.getD_eq_getElem?_getD,List.getElem?_eq_getElem qa];rfl
   have s1:=tx_step qa;have s2:=fn_step qa;have s3:=idR_step qa;have hb2:((g.take (q+1)).flatMap Ln.notes).length≤362404000:=by rw [fn_len];exact Nat.le_trans (notesN_take g (q+1)) hgn
   rw [hgx] at s1 s2 s3;rw [s2,List.length_append] at hb2;generalize B.getD (i+q) lnZ=x at hrow s1 s2 s3 hb2;have hxi:idR x=[pI x.id.act,pI x.id.item,pI x.id.n]:=rfl;have z1:strR ((g.take (q+1)).map Ln.text)=strR ((g.take q).map Ln.text)++[[PV.str x.text]]:=by rw [s1,← strR_app];rfl
   have z2:strR ((g.take (q+1)).flatMap Ln.notes)=strR ((g.take q).flatMap Ln.notes)++strR x.notes:=by rw [s2,strR_app]
   have y1:((g.take (q+1)).map Ln.text).length=((g.take q).map Ln.text).length+1:=by rw [s1,List.length_append];rfl
   have y2:((g.take (q+1)).flatMap Ln.notes).length=((g.take q).flatMap Ln.notes).length+x.notes.length:=by rw [s2,List.length_append]
   have y3:((g.take (q+1)).map idR).length=((g.take q).map idR).length+1:=by rw [s3,List.length_append];rfl
   rw [hxi] at s3;have hbA:((g.take q).map Ln.text).length≤602000:=by rw [List.length_map,List.length_take];omega
   have hbC:((g.take q).map idR).length≤602000:=by rw [List.length_map,List.length_take];omega
   generalize (g.take q).map Ln.text=A1 at *;generalize (g.take q).flatMap Ln.notes=A2 at *;generalize (g.take q).map idR=A3 at *;have k1:=strR_len A1;have k2:=strR_take A1;have k3:=strR_len A2;have k4:=strR_take A2;have k5:=strR_len x.notes;have k6:A3.take A3.length=A3:=List.take_length;refine Kp0 ?_;refine Zaa ?_;refine Zab ?_;refine Zaa (Zae [2,3,9,10,11,13,14,15,16,17] ?_);simp only [vmL,Nat.reduceEqDiff,Nat.reduceAdd,Nat.reduceLT,Nat.reduceLeDiff,Nat.reduceSub,Nat.reduceMul,reduceIte,reduceCtorEq,Int.reduceToNat,hBel,hrow,k1,k2,dT,dF,dX,d0,d1,d2,qq];refine ⟨⟨by omega,by omega⟩,by omega,by omega,?_⟩;refine Zaa (Zae [2,3,9,10,11,13,14,15,16,17] ?_);simp only [vmL,Nat.reduceEqDiff,Nat.reduceAdd,Nat.reduceLT,Nat.reduceLeDiff,Nat.reduceSub,Nat.reduceMul,reduceIte,reduceCtorEq,Int.reduceToNat,hBel,hrow,k3,k4,k5,dT,dF,dX,d0,d1,d2,qq];refine ⟨⟨by omega,by omega⟩,by omega,by omega,?_⟩;refine Zae [2,3,9,10,11,13,14,15,16,17] ?_;simp only [vmL,Nat.reduceEqDiff,Nat.reduceAdd,Nat.reduceLT,Nat.reduceLeDiff,Nat.reduceSub,Nat.reduceMul,reduceIte,reduceCtorEq,Int.reduceToNat,hBel,hrow,k6,dT,dF,dX,d0,d1,d2,qq];refine ⟨⟨by omega,by omega⟩,by omega,by omega,?_⟩;refine rp1 [2,3,9,10,11,13,14,15,16,17] (x2 (ad1 (a:=i+q) (by omega)) qq) ?_;refine ⟨⟨(q+1,s+1,s+2,s+4,s+5),qa,by simp only [];omega,by simp only [];omega,by simp only [];omega,by simp only [];omega,by simp only [];omega⟩,?_⟩;simp only [z1,z2,s3,y1,y2,List.length_append,List.length_cons,List.length_nil,Nat.add_assoc];refine Sp1 qq ?_;refine ⟨HL.le_tail (pre:=[(s+4,_),(s+3,_),(s+2,_),(s+1,_),(s,_)]) hnod (by simp only [List.mem_cons,List.not_mem_nil,or_false,forall_eq_or_imp,forall_eq];exact ⟨Off.lt hlt (by omega),Off.lt hlt (by omega),Off.lt hlt (by omega),Off.lt hlt (by omega),Off.lt hlt (by omega)⟩) _,by omega⟩
  ·have hqe:q=g.length:=by simp only [decide_eq_false_iff_not] at h2;omega
   subst hqe;rw [List.take_length];have hgt:(g.map Ln.text).length=g.length:=List.length_map _;have hgi:(g.map idR).length=g.length:=List.length_map _;have hfn:=fn_len g;have HI:=sp_ref55_high g.length (Zam g) (by omega) (by omega);have hHg:1+g.length+up1 (Zam g)=Zbf g:=rfl;rw [hHg] at HI;have e4:decide ((Zbf g:Int)>m)=false:=decide_eq_false (by omega);refine Ep0 ?_;refine Zaa ?_;refine Rp1 [2,3,9,10,11,13,14,15,16,83] (x3 hgt hfn qq) ?_;refine Ap1 HI e4 ?_;refine Fp0 ?_;refine Rp0 [2,3,9,10,11,13,14,15,16,18] ?_;subst hL0;clear qq dT dF dX d0 d1 d2 hlt hnod;have hnd8:[iT,iF,iX,iL,iN,iW,io,ii].Nodup:=by
    obtain ⟨a1,a2,a3,a4,a5,a6,a7,a8,a9,a10⟩:=hap;simp only [List.nodup_cons,List.mem_cons,List.not_mem_nil,or_false,not_or,List.nodup_nil,not_false_eq_true,and_true];refine ⟨⟨f4,f5,?_,?_,?_,?_,?_⟩,⟨f6,?_,?_,?_,?_,?_⟩,⟨?_,?_,?_,?_,?_⟩,⟨a1,a2,a3,a4⟩,⟨a5,a6,a7⟩,⟨a8,a9⟩,a10⟩
    all_goals (clear a1 a2 a3 a4 a5 a6 a7 a8 a9 a10 f4 f5 f6;omega)
   have hlt8:∀ y∈[iT,iF,iX,iL,iN,iW,io,ii],y<s:=by
    clear hap f4 f5 f6;simp only [List.mem_cons,List.not_mem_nil,or_false,forall_eq_or_imp,forall_eq];omega
   have qf:=ap8 hnd8 hlt8;refine Zaa (Zbl (σ:={ x:StS//SetI m B k x.D (x.N++g)∧x.Q.length=x.D.length∧([iT,iF,iX,x.iL,x.iN,x.iW,x.io,x.ii].Nodup∧∀ y∈[iT,iF,iX,x.iL,x.iN,x.iW,x.io,x.ii],y<x.t)∧t0≤x.ii }) (fun x=>([(2,pI m),(3,.ro [pI u.act,pI u.item,pI u.n,pI u.kind,.str u.label,.sl 4 EH,.sl 4 EW,.sl 8 EK]),(9,.own x.1.io 0 (x.1.D.length+1)),(10,.own x.1.ii 0 (x.1.D.length+1)),(11,.sl 6 BE),(13,pI k),(14,.own iT 0 g.length),(15,.own iF 0 (Zam g)),(16,.own iX 0 g.length),(18,pI x.1.D.length)],⟨[(iT,.arr false 1 (strR (g.map Ln.text))),(iF,.arr false 1 (strR (g.flatMap Ln.notes))),(iX,.arr false 3 (g.map idR)),(x.1.iL,.arr false 1 (strR (x.1.N.map Ln.text))),(x.1.iN,.arr false 1 (strR (x.1.N.flatMap Ln.notes))),(x.1.iW,.arr false 3 (x.1.N.map idR)),(x.1.io,.arr false 4 (x.1.Q.map rwP++[lastR x.1.D x.1.N x.1.iL x.1.iN])),(x.1.ii,.arr false 1 (idsR x.1.D++[[.own x.1.iW 0 x.1.N.length]]))],x.1.t⟩)) ?_ (fun x=>?_))
   ·by_cases hN:N=[]
    ·subst hN;have hD:=setI_empty hS;subst hD;have hQ0:Q=[]:=List.eq_nil_of_length_eq_zero hQ;subst hQ0;have hnp0:np=0:=by rw [← hnp];rfl
     subst hnp0;have hro:RO=[]:=by rw [← hRO];rfl
     have hri:RI=[]:=by rw [← hRI];rfl
     subst hro;subst hri;have w0:IntKind.i64.wrap (((0:Nat):Int)-1) = -1:=rfl;have e5:decide ((-1:Int)<0)=true:=rfl;refine Zaa (Zb9 s [2,3,9,10,11,13,14,15,16,18,111] (by simp) ?_);refine Sp1 (x2 w0 e5) ?_;refine Ct ?_;refine Zaa (Zae [2,3,9,10,11,13,14,15,16,18] ?_);have qq:=N7 s (s+1) (s+1+1) (s+1+1+1) (s+1+1+1+1) (s+1+1+1+1+1) (s+1+1+1+1+1+1);refine Sp1 (x3 (ad1 (a:=0) (by omega)) qf qq) ?_;refine Rp1 [2,3,9,10,11,13,14,15,16,18] (x2 qf qq) ?_;refine VW_own0r (s+1) 1 4 0 2 [[pI 1,.str [],.nilsl,.nilsl]] (by simp only [Heap.get,HL.get,qf,qq,if_true,if_false]<;>rfl) (by simp) rfl ?_;refine Sp1 (x2 qf qq) ?_;refine VW_own0r (s+1) 1 4 0 3 [[pI 1,.str [],.own (s+1+1+1+1+1) 0 0,.nilsl]] (by simp only [Heap.get,HL.get,Heap.push,Heap.set,HL.set,HL.del,PV.row,qf,qq,if_true,if_false]<;>rfl) (by simp) rfl ?_;refine Sp1 (x2 qf qq) ?_;refine Zae [2,3,9,10,11,13,14,15,16,18] ?_;have w9:IntKind.i64.wrap (-1+1)=((0:Nat):Int):=rfl;refine Sp1 (x3 w9 qf qq) ?_;have hS2:SetI m B k [] ([]++g):=by
      rcases hstep with ⟨h,_⟩|⟨_,h⟩
      ·exact absurd rfl h
      ·exact h
     refine ⟨⟨⟨[],[],[],k,s+1+1+1+1+1,s+1+1+1+1+1+1,s+1+1,s+1,s+1+1+1+1,s+1+1+1+1+1+1+1⟩,hS2,rfl,⟨?_,?_⟩,?_⟩,?_⟩
     ·simp only [List.nodup_cons,List.mem_cons,List.not_mem_nil,or_false,not_or,List.nodup_nil,not_false_eq_true,and_true,qf,qq]
      try omega
     ·simp only [List.mem_cons,List.not_mem_nil,or_false,forall_eq_or_imp,forall_eq] at hlt8 ⊢;omega
     ·show t0≤s+1+1+1+1;omega
     ·simp only [hgi,List.map_nil,List.flatMap_nil,List.length_nil,idsR,lastR,List.nil_append,Nat.zero_add];refine Sp1 (x2 qf qq) ?_;exact ⟨rfl,rfl,rfl⟩
    ·have hnp1:np=D.length+1:=by rw [← hnp];unfold npS;rw [if_neg hN]
     have hro:RO=Q.map rwP++[[pI ((D.length+1:Nat):Int),.str [],.own iL 0 N.length,.own iN 0 (Zam N)]]:=by rw [← hRO];unfold outS lastR;rw [if_neg hN,fn_len]
     have hri:RI=idsR D++[[.own iW 0 N.length]]:=by rw [← hRI];unfold idsW;rw [if_neg hN]
     obtain ⟨hNm,hDB⟩:=setI_high hS hN;have hNl:=high_len N;have hNn:=high_notes N;subst hnp1;subst hro;subst hri;have w18:IntKind.i64.wrap (((D.length+1:Nat):Int)-1)=((D.length:Nat):Int):=by rw [w64 (by omega) (by omega)];omega
     have e88:decide (((D.length:Nat):Int)<0)=false:=decide_eq_false (by omega);have hQm:(Q.map rwP).length=D.length:=by rw [List.length_map,hQ]
     have hrl:(Q.map rwP++[[pI ((D.length+1:Nat):Int),.str [],.own iL 0 N.length,.own iN 0 (Zam N)]]).length=D.length+1:=by rw [List.length_append,hQm];rfl
     have hrw:(Q.map rwP++[[pI ((D.length+1:Nat):Int),.str [],.own iL 0 N.length,.own iN 0 (Zam N)]]).getD D.length []=[pI ((D.length+1:Nat):Int),.str [],.own iL 0 N.length,.own iN 0 (Zam N)]:=app_get _ _ hQm.symm;have hfN:=fn_len N;have HI2:=sp_ref55_high (N.length+g.length) (Zam N+Zam g) (by omega) (by omega);have hHN:1+(N.length+g.length)+up1 (Zam N+Zam g)=Zbf (N++g):=by unfold Zbf;rw [List.length_append,Zba]
     rw [hHN] at HI2;have wa:IntKind.i64.wrap ((N.length:Int)+(g.length:Int))=((N.length+g.length:Nat):Int):=by rw [w64 (by omega) (by omega)];omega
     have wb:IntKind.i64.wrap ((Zam N:Int)+(Zam g:Int))=((Zam N+Zam g:Nat):Int):=by rw [w64 (by omega) (by omega)];omega
     refine Zaa (VW_draw [2,3,9,10,11,13,14,15,16,18,111] ⟨[(io,.arr false 4 (Q.map rwP++[[pI ((D.length+1:Nat):Int),.str [],.own iL 0 N.length,.own iN 0 (Zam N)]]))],s⟩ ⟨Nat.le_refl _,by simp only [HL.le,Heap.get,HL.get,qf,if_true,if_false];first|trivial|exact ⟨rfl,trivial⟩⟩ ?_);simp only [vmL,Nat.reduceEqDiff,Nat.reduceAdd,Nat.reduceLT,Nat.reduceLeDiff,Nat.reduceSub,Nat.reduceMul,reduceIte,reduceCtorEq,Int.reduceToNat,w18,e88,hrl,hrw,wa,wb,qf];refine ⟨⟨by omega,by omega⟩,by omega,⟨by omega,by omega⟩,by omega,_,.inl HI2,?_⟩;rcases hstep with ⟨_,hbig,hS2⟩|⟨hsm,hS2⟩
     ·have e9:decide ((Zbf (N++g):Int)>m)=true:=decide_eq_true hbig;refine Sp1 e9 ?_;refine Ct ?_;refine VW_frz1 iW ii 1 3 (N.map idR) (idsR D++[[.own iW 0 N.length]]) (idsR D++[[.sl 3 (N.map idR)]]) (by simp only [Heap.get,HL.get,qf,if_true,if_false]) (by simp only [Heap.get,HL.get,qf,if_true,if_false]) hap.2.2.2.2.2.2.2.2.1 (by simp) (len_last _ _ _) (view_last (View.own_all (fz:=false) (by simp [Heap.get,HL.get]) (by simp))) ⟨[(iT,.arr false 1 (strR (g.map Ln.text))),(iF,.arr false 1 (strR (g.flatMap Ln.notes))),(iX,.arr false 3 (g.map idR)),(iL,.arr false 1 (strR (N.map Ln.text))),(iN,.arr false 1 (strR (N.flatMap Ln.notes))),(io,.arr false 4 (Q.map rwP++[[pI ((D.length+1:Nat):Int),.str [],.own iL 0 N.length,.own iN 0 (Zam N)]])),(ii,.arr false 1 (idsR D++[[.sl 3 (N.map idR)]]))],s⟩ ?_ rfl ?_
      ·intro j;by_cases e1:j=ii
       ·subst e1;simp only [Heap.get,HL.get,qf,if_true,if_false]
       ·by_cases e2:j=iW
        ·subst e2;simp only [Heap.get,HL.get,qf,if_true,if_false]
        ·have e3:¬ ii=j:=fun h=>e1 h.symm;have e4:¬ iW=j:=fun h=>e2 h.symm;simp only [Heap.get,HL.get,e1,e2,e3,e4,if_true,if_false]
      have hA:(Q++[((((D.length+1:Nat):Int),([]:Str),PV.own iL 0 N.length,PV.own iN 0 (Zam N)):Int×Str×PV×PV)]).map rwP=Q.map rwP++[[pI ((D.length+1:Nat):Int),.str [],.own iL 0 N.length,.own iN 0 (Zam N)]]:=by rw [List.map_append];rfl
      have hR:idsR (D++[N])=idsR D++[[.sl 3 (N.map idR)]]:=by unfold idsR;rw [List.map_append];rfl
      have hRl:(idsR D++[[PV.sl 3 (N.map idR)]]).length=D.length+1:=by rw [List.length_append];unfold idsR;rw [List.length_map];rfl
      generalize Q.map rwP++[[pI ((D.length+1:Nat):Int),.str [],.own iL 0 N.length,.own iN 0 (Zam N)]]=A at *;generalize idsR D++[[PV.sl 3 (N.map idR)]]=R at *;have hAt:A.take (D.length+1)=A:=List.take_of_length_le (by omega);have hRt:R.take (D.length+1)=R:=List.take_of_length_le (by omega);have hAg:∀ x,(A++[x]).getD (D.length+1) []=x:=fun x=>app_get _ _ hrl.symm;have hAs:∀ x y,(A++[x]).set (D.length+1) y=A++[y]:=fun x y=>app_set _ _ _ hrl.symm;have hAk:∀ x,D.length+1<(A++[x]).length:=fun x=>by rw [List.length_append,hrl];simp
      have qq:=N7 s (s+1) (s+1+1) (s+1+1+1) (s+1+1+1+1) (s+1+1+1+1+1) (s+1+1+1+1+1+1);refine Zaa (Zae [2,3,9,10,11,13,14,15,16,18] ?_);simp only [vmL,Nat.reduceEqDiff,Nat.reduceAdd,Nat.reduceLT,Nat.reduceLeDiff,Nat.reduceSub,Nat.reduceMul,reduceIte,reduceCtorEq,Int.reduceToNat,ad1 (a:=D.length+1) (by omega),hrl,hAt,qf,qq]
      first|refine ⟨by omega,by omega,by omega,?_⟩|refine ⟨by omega,by omega,?_⟩
      refine Zaa (Zae [2,3,9,10,11,13,14,15,16,18] ?_);simp only [vmL,Nat.reduceEqDiff,Nat.reduceAdd,Nat.reduceLT,Nat.reduceLeDiff,Nat.reduceSub,Nat.reduceMul,reduceIte,reduceCtorEq,Int.reduceToNat,hRl,hRt,qf,qq]
      first|refine ⟨by omega,by omega,by omega,?_⟩|refine ⟨by omega,by omega,?_⟩
      refine VW_own0r (s+1) 1 4 (D.length+1) 2 (A++[[pI ((D.length+1+1:Nat):Int),.str [],.nilsl,.nilsl]]) (by simp only [Heap.get,HL.get,qf,qq,if_true,if_false]<;>rfl) (hAk _) (by unfold PV.row;rw [hAg];rfl) ?_;refine Sp1 (x4 hAg hAs qf qq) ?_;refine VW_own0r (s+1) 1 4 (D.length+1) 3 (A++[[pI ((D.length+1+1:Nat):Int),.str [],.own (s+1+1+1+1+1) 0 0,.nilsl]]) (by simp only [Heap.get,HL.get,Heap.push,Heap.set,HL.set,HL.del,PV.row,hAg,hAs,qf,qq,if_true,if_false]<;>rfl) (hAk _) (by unfold PV.row;rw [hAg];rfl) ?_;refine Sp1 (x4 hAg hAs qf qq) ?_;refine rp1 [2,3,9,10,11,13,14,15,16,18] (x3 (ad1 (a:=D.length) (by omega)) qf qq) ?_;refine ⟨⟨⟨Q++[(((D.length+1:Nat):Int),[],.own iL 0 N.length,.own iN 0 (Zam N))],D++[N],[],k,s+1+1+1+1+1,s+1+1+1+1+1+1,s+1+1,s+1,s+1+1+1+1,s+1+1+1+1+1+1+1⟩,hS2,?_,⟨?_,?_⟩,?_⟩,?_⟩
      ·simp only [List.length_append,hQ,List.length_cons,List.length_nil]
      ·simp only [List.nodup_cons,List.mem_cons,List.not_mem_nil,or_false,not_or,List.nodup_nil,not_false_eq_true,and_true,qf,qq]
       try omega
      ·simp only [List.mem_cons,List.not_mem_nil,or_false,forall_eq_or_imp,forall_eq] at hlt8 ⊢;omega
      ·show t0≤s+1+1+1+1;omega
      ·simp only [hgi,hA,hR,List.map_nil,List.flatMap_nil,List.length_nil,List.length_append,List.length_cons,lastR,Nat.zero_add];refine Sp1 (x2 qf qq) ?_;exact ⟨rfl,rfl⟩
     ·have e9 : decide ((Zbf (N ++ g) : Int) > m) = false := by
       refine decide_eq_false ?_;rcases hsm with h|h
       ·exact absurd h hN
       ·omega
      refine Sp1 e9 ?_;refine Fp0 ?_;refine ⟨⟨⟨Q,D,N,k,iL,iN,iW,io,ii,s⟩,hS2,hQ,⟨hnd8,hlt8⟩,l6⟩,?_⟩;simp only [hgi,lastR,hfN]
      all_goals exact Fn1 qf
   ·obtain ⟨⟨Q2,D2,N2,k2,jL,jN,jW,jo,ji,r⟩,hS2,hQ2,⟨hnd,hlt⟩,hl6⟩:=x;simp only [] at hS2 hQ2 hnd hlt hl6 ⊢;clear hstep hnd8 hlt8 hap qf hS hQ hRO hRI hnp l1 l2 l3 l4 l5 l6 f1 f2 f3 f4 f5 f6 f7 f8 f9;have hg0:g≠[]:=by intro h;rw [h] at hgl;simp at hgl;omega
    have hNg:N2++g≠[]:=by simp [hg0]
    obtain ⟨hNm,hDB⟩:=setI_high hS2 hNg;have hNl:=high_len (N2++g);have hNn:=high_notes (N2++g);rw [List.length_append] at hNl;rw [Zba] at hNn;have qf:=ap8 hnd hlt;have hAl:(Q2.map rwP).length=D2.length:=by rw [List.length_map,hQ2]
    have hRl:(idsR D2).length=D2.length:=by unfold idsR;rw [List.length_map]
    unfold lastR;generalize hAD:Q2.map rwP=A at hAl ⊢;generalize hRD:idsR D2=R at hRl ⊢;have hAg:∀ x,(A++[x]).getD D2.length []=x:=fun x=>app_get _ _ hAl.symm;have hAs:∀ x y,(A++[x]).set D2.length y=A++[y]:=fun x y=>app_set _ _ _ hAl.symm;have hAk:∀ x,(A++[x]).length=D2.length+1:=fun x=>by rw [List.length_append,hAl];rfl
    have hRg:∀ x,(R++[x]).getD D2.length []=x:=fun x=>app_get _ _ hRl.symm;have hRs:∀ x y,(R++[x]).set D2.length y=R++[y]:=fun x y=>app_set _ _ _ hRl.symm;have hRk:∀ x,(R++[x]).length=D2.length+1:=fun x=>by rw [List.length_append,hRl];rfl
    have hfN:=fn_len N2;have u1:(strR (N2.map Ln.text)).length=N2.length:=by rw [strR_len,List.length_map]
    have u2:(strR (g.map Ln.text)).length=g.length:=by rw [strR_len,List.length_map]
    have u3:(strR (N2.flatMap Ln.notes)).length=Zam N2:=by rw [strR_len,hfN]
    have u4:(strR (g.flatMap Ln.notes)).length=Zam g:=by rw [strR_len,hfn]
    have u5:(N2.map idR).length=N2.length:=List.length_map _;have v1:strR ((N2++g).map Ln.text)=strR (N2.map Ln.text)++strR (g.map Ln.text):=by rw [List.map_append,strR_app]
    have v2:strR ((N2++g).flatMap Ln.notes)=strR (N2.flatMap Ln.notes)++strR (g.flatMap Ln.notes):=by rw [List.flatMap_append,strR_app]
    have v3:(N2++g).map idR=N2.map idR++g.map idR:=List.map_append;have v4:=fn_len (N2++g);rw [Zba] at v4;rw [hfN];generalize strR (N2.map Ln.text)=X1 at *;generalize strR (g.map Ln.text)=X2 at *;generalize strR (N2.flatMap Ln.notes)=X3 at *;generalize strR (g.flatMap Ln.notes)=X4 at *;generalize N2.map idR=X5 at *;generalize g.map idR=X6 at *;have t1:X1.take N2.length=X1:=List.take_of_length_le (by omega);have t2:X2.take g.length=X2:=List.take_of_length_le (by omega);have t3:X3.take (Zam N2)=X3:=List.take_of_length_le (by omega);have t4:X4.take (Zam g)=X4:=List.take_of_length_le (by omega);have t5:X5.take N2.length=X5:=List.take_of_length_le (by omega);have t6:X6.take g.length=X6:=List.take_of_length_le (by omega);have qq:=N4 r (r+1) (r+1+1) (r+1+1+1);refine Zaa (Zae [2,3,9,10,11,13,15,16,18] ?_);simp only [vmL,Nat.reduceEqDiff,Nat.reduceAdd,Nat.reduceLT,Nat.reduceLeDiff,Nat.reduceSub,Nat.reduceMul,reduceIte,reduceCtorEq,Int.reduceToNat,hAk,hAg,hAs,u1,u2,t1,t2,qf,qq];refine ⟨⟨by omega,by omega⟩,by omega,by omega,by omega,⟨by omega,by omega⟩,by omega,?_⟩;refine Zaa (Zae [2,3,9,10,11,13,16,18] ?_);simp only [vmL,Nat.reduceEqDiff,Nat.reduceAdd,Nat.reduceLT,Nat.reduceLeDiff,Nat.reduceSub,Nat.reduceMul,reduceIte,reduceCtorEq,Int.reduceToNat,hAk,hAg,hAs,u3,u4,t3,t4,qf,qq];refine ⟨⟨by omega,by omega⟩,by omega,by omega,by omega,⟨by omega,by omega⟩,by omega,?_⟩;refine Zaa (Zae [2,3,9,10,11,13] ?_);simp only [vmL,Nat.reduceEqDiff,Nat.reduceAdd,Nat.reduceLT,Nat.reduceLeDiff,Nat.reduceSub,Nat.reduceMul,reduceIte,reduceCtorEq,Int.reduceToNat,hRk,hRg,hRs,u5,hgi,t5,t6,qf,qq];refine ⟨⟨by omega,by omega⟩,by omega,by omega,by omega,⟨by omega,by omega⟩,by omega,?_⟩;refine rp1 [2,3,9,10,11,12] (x2 qf qq) ?_;have hl8:jL<r∧jN<r∧jW<r∧jo<r∧ji<r:=by
     simp only [List.mem_cons,List.not_mem_nil,or_false,forall_eq_or_imp,forall_eq] at hlt;omega
    have hoi:jo≠ji:=by
     simp only [List.nodup_cons,List.mem_cons,List.not_mem_nil,or_false,not_or,List.nodup_nil,not_false_eq_true,and_true] at hnd;exact hnd.2.2.2.2.2.2
    refine ⟨⟨⟨Q2,D2,N2++g,k,r,r+1,r+1+1,jo,ji,r+1+1+1⟩,hS2,hQ2,⟨?_,?_,?_,?_,?_,?_,?_,?_,?_,hoi⟩,?_,?_,?_,?_,?_,hl6⟩,?_⟩
    ·simp only [];omega
    ·simp only [];omega
    ·simp only [];omega
    ·simp only [];omega
    ·simp only [];omega
    ·simp only [];omega
    ·simp only [];omega
    ·simp only [];omega
    ·simp only [];omega
    ·simp only [];omega
    ·simp only [];omega
    ·simp only [];omega
    ·simp only [];omega
    ·simp only [];omega
    ·simp only [npS,outS,idsW,lastR,if_neg hNg,v1,v2,v3,v4,hRD,List.length_append];refine Sp1 (x2 qf qq) ?_;exact ⟨by rw [hAD],by omega⟩
 ·have ie:i=B.length:=by simp only [decide_eq_false_iff_not] at h1;have:=hS.1;omega
  subst ie;have hP:=setI_end hS hp;refine Ep0 ?_;refine Zaa ?_;refine Zaa (Zbl (σ:={ x:List (Int×Str×PV×PV)×Nat×Nat×Nat//x.1.length=P.length∧x.2.1≠x.2.2.1∧x.2.1<x.2.2.2∧x.2.2.1<x.2.2.2∧t0≤x.2.2.1 }) (fun x=>([(3,.ro [pI u.act,pI u.item,pI u.n,pI u.kind,.str u.label,.sl 4 EH,.sl 4 EW,.sl 8 EK]),(9,.own x.1.2.1 0 P.length),(10,.own x.1.2.2.1 0 P.length),(19,pI 0)],⟨[(x.1.2.1,.arr false 4 (x.1.1.map rwP)),(x.1.2.2.1,.arr false 1 (idsR P))],x.1.2.2.2⟩)) ?_ (fun x=>?_))
  ·by_cases hN:N=[]
   ·subst hN;have hD:=setI_empty hS;subst hD;have hP0:P=[]:=hP;subst hP0;refine rp1 [3,9,10,19] qq ?_;refine ⟨⟨([],io,ii,t),rfl,hap.2.2.2.2.2.2.2.2.2,l4,l5,l6⟩,?_⟩;exact Fn1 qq
   ·have hP1:P=D++[N]:=by rw [hP];show (if N=[] then D else D++[N])=_;rw [if_neg hN]
    have hro:outS Q D N iL iN=Q.map rwP++[[pI ((D.length+1:Nat):Int),.str [],.own iL 0 N.length,.own iN 0 (Zam N)]]:=by unfold outS lastR;rw [if_neg hN,fn_len]
    have hri:idsW D N iW=idsR D++[[.own iW 0 N.length]]:=by unfold idsW;rw [if_neg hN]
    have hnp:npS D N=P.length:=by unfold npS;rw [if_neg hN,hP1];simp
    have hA:(Q++[((((D.length+1:Nat):Int),([]:Str),PV.own iL 0 N.length,PV.own iN 0 (Zam N)):Int×Str×PV×PV)]).map rwP=Q.map rwP++[[pI ((D.length+1:Nat):Int),.str [],.own iL 0 N.length,.own iN 0 (Zam N)]]:=by rw [List.map_append];rfl
    have hR:idsR P=idsR D++[[.sl 3 (N.map idR)]]:=by rw [hP1];unfold idsR;rw [List.map_append];rfl
    rw [hro,hri,hnp];refine VW_frz1 iW ii 1 3 (N.map idR) (idsR D++[[.own iW 0 N.length]]) (idsR D++[[.sl 3 (N.map idR)]]) (by simp [Heap.get,HL.get,qq]) (by simp [Heap.get,HL.get,qq]) hap.2.2.2.2.2.2.2.2.1 (by simp) (len_last _ _ _) (view_last (View.own_all (fz:=false) (by simp [Heap.get,HL.get]) (by simp))) ⟨[(iL,.arr false 1 (strR (N.map Ln.text))),(iN,.arr false 1 (strR (N.flatMap Ln.notes))),(io,.arr false 4 (Q.map rwP++[[pI ((D.length+1:Nat):Int),.str [],.own iL 0 N.length,.own iN 0 (Zam N)]])),(ii,.arr false 1 (idsR D++[[.sl 3 (N.map idR)]]))],t⟩ ?_ rfl ?_
    ·intro j;by_cases e1:j=ii
     ·subst e1;simp [Heap.get,HL.get,qq]
     ·by_cases e2:j=iW
      ·subst e2;simp [Heap.get,HL.get,qq]
      ·have e3:¬ ii=j:=fun h=>e1 h.symm;have e4:¬ iW=j:=fun h=>e2 h.symm;simp only [Heap.get,HL.get,e1,e2,e3,e4,if_true,if_false]
    refine rp1 [3,9,10,19] qq ?_;refine ⟨⟨(Q++[((((D.length+1:Nat):Int),([]:Str),PV.own iL 0 N.length,PV.own iN 0 (Zam N)):Int×Str×PV×PV)],io,ii,t),by simp only [List.length_append,hQ,hP1,List.length_cons,List.length_nil],hap.2.2.2.2.2.2.2.2.2,l4,l5,l6⟩,?_⟩;simp only [hA,hR]
    all_goals exact Fn1 qq
  ·obtain ⟨⟨Qf,jo,ji,r⟩,hQf,hji,j1,j2,j3⟩:=x;simp only [] at hQf hji j1 j2 j3 ⊢;clear hS hQ hap l1 l2 l3 l4 l5 l6 qq;have hI:PgsI m B P∨True:=.inr trivial;have hPne:∀ (n:Nat) (h:n<P.length),P[n]≠[]∧P[n].length≤602000:=by
    intro n h;have hl:P[n]∈P:=List.getElem_mem h;obtain ⟨hne,hfl⟩:=pages_basic hp;refine ⟨hne _ hl,?_⟩;have h5:=hfl _ hl;omega
   have hPl:P.length≤602000:=by
    have h5:=pages_few hp;omega
   have qq:=N4 jo ji r (r+1);refine Zab ?_;refine Zah (σ:={ x:List (Int×Str×PV×PV)×Nat//x.1.length=P.length∧x.2≤P.length }) (fun x=>([(3,.ro [pI u.act,pI u.item,pI u.n,pI u.kind,.str u.label,.sl 4 EH,.sl 4 EW,.sl 8 EK]),(9,.own jo 0 P.length),(10,.own ji 0 P.length),(19,pI x.1.2)],⟨[(jo,.arr false 4 (x.1.1.map rwP)),(ji,.arr false 1 (idsR P))],r⟩)) (fun x=>P.length-x.1.2) ⟨(Qf,0),hQf,Nat.zero_le _⟩ ?_ ?_ ?_
   ·exact Fn1 qq
   ·exact Fn1 qq
   rintro ⟨⟨Z,n⟩,hZ,hn2⟩;simp only [] at hZ hn2 ⊢;refine Zaa ?_;refine Rp1 [3,9,10,19,160] qq ?_;refine Zac rfl (fun h2=>?_) (fun h2=>?_)
   ·have na:n<P.length:=by simp only [decide_eq_true_eq] at h2;omega
    obtain ⟨hne,hnl⟩:=hPne n na;have hpos:0<P[n].length:=List.length_pos_iff.2 hne;have hrow:(idsR P).getD n []=[.sl 3 (P[n].map idR)]:=by unfold idsR;exact rowm na
    have hIl:(idsR P).length=P.length:=by unfold idsR;exact List.length_map _
    have hNl2:(P[n].map idR).length=P[n].length:=List.length_map _;have r0:(P[n].map idR).getD 0 []=idR (P[n].getD 0 lnZ):=by rw [rowm hpos,List.getD_eq_getElem?_getD,List.getElem?_eq_getElem hpos];rfl
    have r9:(P[n].map idR).getD (P[n].length-1) []=idR (P[n].getD (P[n].length-1) lnZ):=by rw [rowm (show P[n].length-1<P[n].length by omega),List.getD_eq_getElem?_getD,List.getElem?_eq_getElem (by omega)];rfl
    generalize P[n].getD 0 lnZ=xa at r0;generalize P[n].getD (P[n].length-1) lnZ=xb at r9;have HH:=HD xa.id xb.id;have hia:idR xa=[pI xa.id.act,pI xa.id.item,pI xa.id.n]:=rfl;have hib:idR xb=[pI xb.id.act,pI xb.id.item,pI xb.id.n]:=rfl;have hea:xa.id.enc=[pI xa.id.act,pI xa.id.item,pI xa.id.n]:=rfl;have heb:xb.id.enc=[pI xb.id.act,pI xb.id.item,pI xb.id.n]:=rfl;rw [hia] at r0;rw [hib] at r9;rw [hea,heb] at HH;generalize heaS u xa.id xb.id=hd at HH;generalize P[n].map idR=PI at *;generalize P[n].length=pl at *;have wl:IntKind.i64.wrap ((pl:Int)-1)=((pl-1:Nat):Int):=by rw [w64 (by omega) (by omega)];omega
    have hZa:n<Z.length:=by omega
    have hZr:(Z.map rwP).getD n []=rwP Z[n]:=rowm hZa;have hZs:(Z.map rwP).set n [pI Z[n].1,.str hd,Z[n].2.2.1,Z[n].2.2.2]=(Z.set n (Z[n].1,hd,Z[n].2.2)).map rwP:=by
     rw [List.map_set];rfl
    have hZl:(Z.map rwP).length=P.length:=by rw [List.length_map,hZ]
    have hZ4:rwP Z[n]=[pI Z[n].1,.str Z[n].2.1,Z[n].2.2.1,Z[n].2.2.2]:=rfl;rw [hZ4] at hZr;refine Kp0 ?_;refine Zaa ?_;refine Zab ?_;refine VW_draw2H [3,9,10,19] (by simp [Heap.le,HL.le,Heap.get,HL.get,qq]) ?_;simp only [vmL,Nat.reduceEqDiff,Nat.reduceAdd,Nat.reduceLT,Nat.reduceLeDiff,Nat.reduceSub,Nat.reduceMul,reduceIte,reduceCtorEq,Int.reduceToNat,hIl,hrow,hNl2,r0,r9,wl,qq];refine ⟨⟨by omega,by omega⟩,by omega,⟨by omega,by omega⟩,⟨by omega,by omega⟩,by omega,⟨by omega,by omega⟩,by omega,⟨by omega,by omega⟩,_,.inl HH,?_⟩;refine Sp1 (x4 hZl hZr hZs qq) ?_;refine ⟨⟨by omega,by omega⟩,by omega,?_⟩;refine rp1 [3,9,10,19] (x2 (ad1 (a:=n) (by omega)) qq) ?_;refine ⟨⟨(Z.set n (Z[n].1,hd,Z[n].2.2),n+1),by show (Z.set n _).length=P.length;rw [List.length_set,hZ],na⟩,?_⟩;exact Fn1 qq
   ·have ne:n=P.length:=by simp only [decide_eq_false_iff_not] at h2;omega
    subst ne;refine Ep0 ?_;refine Rp1 [6,7,8] qq ?_;refine Tp1 qq ?_;exact ⟨⟨[(ji,.arr false 1 (idsR P))],r⟩,by simp [HL.le,Heap.get,HL.get,qq],_,ji,r,j3,j2,rfl,rfl⟩
end Go.Proofs.YtcgdjembdjdlhaaGreatDoor.w
namespace Go.VM
open Go Go.Proofs.YtcgdjembdjdlhaaGreatDoor.w
theorem join_sum:∀ (l:List Str),l≠[]→(Lib.join l [32]).length+1=(l.map List.length).sum+l.length
 | [],h=>absurd rfl h
 | [x],_=>by rw [Lib.join_one];simp
 | x::y::r,_=>by
  have e:Lib.join (x::y::r) [32]=x++([32]++Lib.join (y::r) [32]):=by simp [Lib.join,List.intercalate]
  have ih:=join_sum (y::r) (by simp);rw [e];simp only [List.length_append,List.map_cons,List.sum_cons,List.length_cons,List.length_nil] at ih ⊢;omega
theorem linesF_wide {w:Int} {l:List Str} (hf:FitW w l):∀ (f i:Nat),∀ s∈Zcb l i (endsF w l f i),(s.length:Int)≤w
 | 0,i,s,hs=>by rw [endsF,Zcb] at hs;cases hs
 | f+1,i,s,hs=>by
  rw [endsF] at hs;split at hs
  ·rename_i hi;have sp:=next_spec hf hi;rw [Zcb] at hs;rcases List.mem_cons.1 hs with rfl|hs
   ·have hl:((l.drop i).take (nextN w l i-i)).length=nextN w l i-i:=by rw [List.length_take,List.length_drop];omega
    have hj:=join_sum ((l.drop i).take (nextN w l i-i)) (by intro e;rw [e] at hl;simp at hl;omega);have h3:=sp.2.2.1;unfold llen wlen at h3;omega
   ·exact linesF_wide hf f _ s hs
  ·rw [Zcb] at hs;cases hs
theorem linesU_wide {w:Int} {u:Un}:∀ s∈Za1 w u,(s.length:Int)≤w:=by
 intro s hs;unfold Za1 linesT Za9 at hs;by_cases hw:Zbu w (rowT u)=0
 ·rw [if_pos hw] at hs;split at hs
  ·exact linesF_wide (wrongL_fit hw).1 _ _ s hs
  ·cases hs
 ·rw [if_neg hw,Zcb] at hs;split at hs<;>cases hs
def lnOk (w:Int) (V:List Un) (x:Ln):Prop:=(x.text.length:Int)≤w∧(∀ s∈x.notes,(s.length:Int)≤w)∧∃ v∈V,x.id=idU v
theorem lnOk.mono {w:Int} {V V':List Un} {x:Ln} (h:lnOk w V x) (hV:∀ v∈V,v∈V'):lnOk w V' x:=⟨h.1,h.2.1,h.2.2.imp fun v hv=>⟨hV v hv.1,hv.2⟩⟩
theorem ownF_mem {w:Int} {u:Un} {t:Bool}:∀ (l:List Str) (E:List Nat) (fr:Nat),∀ x∈ownF w u t fr l E,x.id=idU u∧x.text∈l∧∃ a b,x.notes=Zbv w u a b
 | [],E,fr,x,h=>by unfold ownF at h;cases h
 | s::l,[],fr,x,h=>by unfold ownF at h;cases h
 | s::l,e::E,fr,x,h=>by
  unfold ownF at h;rcases List.mem_cons.1 h with rfl|h
  ·exact ⟨rfl,List.mem_cons_self,fr,_,rfl⟩
  ·obtain ⟨h1,h2,h3⟩:=ownF_mem l E _ x h;exact ⟨h1,List.mem_cons_of_mem _ h2,h3⟩
theorem body_ok {u:Un} (hu:SmT u) (w:Int):∀ x∈bodyT w u,lnOk w (unitsT u) x:=by
 induction hu with
 | mk u h hk hs ih =>
  intro x hx;rw [bodyT_eq] at hx;rcases List.mem_append.1 hx with hx|hx
  ·unfold ownL at hx;obtain ⟨h1,h2,a,b,h3⟩:=ownF_mem _ _ _ x hx;refine ⟨linesU_wide _ h2,fun s hs'=>?_,u,Zbb u,h1⟩;rw [h3] at hs';unfold Zbv at hs';obtain ⟨j,_,hj⟩:=List.mem_flatMap.1 hs';unfold Zcc at hj;obtain ⟨k,_,hk'⟩:=List.mem_flatMap.1 hj;exact linesU_wide _ hk'
  ·have key : ∀ L : List Un, (∀ k ∈ L, k ∈ u.kids) → x ∈ bodyL w u L → lnOk w (unitsT u) x := by
    intro L
    induction L with
    | nil=>intro _ h;rw [bodyL] at h;cases h
    | cons a r ihr =>
     intro hL hx;rw [bodyL] at hx;rcases List.mem_append.1 hx with hx|hx
     ·split at hx
      ·exact (ih a (hL a List.mem_cons_self) x hx).mono fun v hv=>Zb6 (hL a List.mem_cons_self) hv
      ·cases hx
     ·exact ihr (fun k hk=>hL k (List.mem_cons_of_mem _ hk)) hx
   exact key u.kids (fun k hk=>hk) hx
theorem kids_ok {u:Un} (hu:SmT u) (w:Int):∀ x∈Zcs w true u u.kids,lnOk w (unitsL u.kids) x:=by
 intro x hx;unfold Zcs at hx;rw [if_pos rfl] at hx;obtain ⟨k,hk,hx⟩:=List.mem_flatMap.1 hx;refine (body_ok (hu.kids.2 k hk) w x hx).mono fun v hv=>?_;rw [Zaz];exact List.mem_flatMap.2 ⟨k,hk,hv⟩
theorem way_has {u:Un} (hu:SmT u):∀ v∈unitsT u,wayT (idU v) u≠[]:=by
 induction hu with
 | mk u h hk hs ih =>
  intro v hv;rw [Zan] at hv;rw [wayT_eq];split
  ·simp
  ·rename_i hne;rcases List.mem_cons.1 hv with rfl|hv
   ·exact absurd rfl hne
   ·rw [Zaz] at hv;obtain ⟨k,h1,h2⟩:=List.mem_flatMap.1 hv;have h3:=ih k h1 v h2;have h4:wayL (idU v) u.kids≠[]:=by
     intro e;have key:∀ L:List Un,k∈L→wayL (idU v) L≠[]:=by
      intro L
      induction L with
      | nil=>intro h;cases h
      | cons a r ihr =>
       intro hm;rw [wayL];cases ha:wayT (idU v) a with
       | cons b q=>simp
       | nil =>
        rcases List.mem_cons.1 hm with rfl|hm
        ·exact absurd ha h3
        ·simpa using ihr hm
     exact key u.kids h1 e
    cases hw:wayL (idU v) u.kids with
    | nil=>exact absurd hw h4
    | cons b q=>simp
theorem place_ok {u:Un} (hu:SmT u) (hs:Zbk u=true) {v:Un} (hv:v∈unitsL u.kids):(Zct u (idU v)).2=true:=by
 have hr:rightT u=true:=by unfold Zbk validT at hs;simp only [Bool.and_eq_true] at hs;exact hs.1.1
 have hv':v∈unitsT u:=by rw [Zan];exact List.mem_cons_of_mem _ hv
 have hk:=right_kinds hu hr v hv;have hz:idU v≠idZ:=by
  intro e;unfold Zbk namedB at hs;rw [Bool.and_eq_true,List.all_eq_true] at hs;have:=hs.2 v hv';rw [e] at this;simp at this;exact hk this
 have hw:=way_has hu v hv';have hnd:=ids_nodup hu hs hz hw;have hne:idU v≠idU u:=by
  intro e;unfold idsT at hnd;rw [Zan,List.map_cons,List.nodup_cons] at hnd;exact hnd.1 (by rw [← e];exact List.mem_map_of_mem hv)
 have hf:(Zau (idU v) u).2=true:=by
  unfold Zau;rw [List.getLast?_eq_some_getLast hw]
 unfold Zct;rw [if_pos ⟨hf,hne⟩];split<;>rfl
theorem head_ok {u:Un} (hu:SmT u) (hs:Zbk u=true) {a b:Idt} (ha:∃ v∈unitsL u.kids,a=idU v) (hb:∃ v∈unitsL u.kids,b=idU v):headT u a b≠[]:=by
 obtain ⟨v,hv,rfl⟩:=ha;obtain ⟨x,hx,rfl⟩:=hb;unfold headT;rw [if_pos ⟨place_ok hu hs hv,place_ok hu hs hx⟩];unfold nameU;split<;>simp
end Go.VM
