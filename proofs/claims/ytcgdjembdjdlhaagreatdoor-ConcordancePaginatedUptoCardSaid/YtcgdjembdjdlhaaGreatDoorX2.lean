import Derived.Test.YtcgdjembdjdlhaaGreatDoorYa
import Derived.Test.YtcgdjembdjdlhaaGreatDoorVmPk
import Derived.Test.YtcgdjembdjdlhaaGreatDoorY4
import Derived.Test.YtcgdjembdjdlhaaGreatDoorVmD
set_option linter.all false
set_option maxRecDepth 20000
set_option maxHeartbeats 0
namespace Go.Proofs.w
open Go Go.VM
theorem id_eqs (a b:Idt):((a.act==b.act&&(a.item==b.item&&(a.n==b.n&&true))) != false)=decide (a=b):=by
 rw [Bool.eq_iff_iff];cases a;cases b;simp
end Go.Proofs.w
namespace Go.VM
open Go
mutual
def wayT (x : Idt) : Un → List Un
 | .mk a i n k l h w ks => if (⟨a, i, n⟩ : Idt) = x then [.mk a i n k l h w ks] else match wayL x ks with
  | [] => []
  | v :: r => .mk a i n k l h w ks :: v :: r
def wayL (x : Idt) : List Un → List Un
 | [] => []
 | k :: r => match wayT x k with
  | [] => wayL x r
  | v :: q => v :: q
end
theorem wayT_eq (x : Idt) (u : Un) : wayT x u = if idU u = x then [u] else match wayL x u.kids with
  | []=>[]
  | v::r=>u::v::r:=by cases u;rw [wayT];rfl
theorem wayL_skip {x:Idt}:∀ {L:List Un} {k:Nat},(∀ (j:Nat) (hj:j<L.length),j<k→wayT x L[j]=[])→wayL x L=wayL x (L.drop k)
 | _,0,_=>rfl
 | [],k+1,_=>rfl
 | a::r,k+1,h=>by
  have h0:wayT x a=[]:=h 0 (by simp) (by omega);rw [wayL,h0,List.drop_succ_cons];exact wayL_skip (k:=k) fun j hj hjk=>h (j+1) (by simpa using hj) (by omega)
theorem wayL_hit {x:Idt} {L:List Un} {k:Nat} (hk:k<L.length) (h:∀ (j:Nat) (hj:j<L.length),j<k→wayT x L[j]=[]) (hne:wayT x L[k]≠[]):wayL x L=wayT x L[k]:=by
 rw [wayL_skip h,List.drop_eq_getElem_cons hk,wayL];cases hw:wayT x L[k] with
 | nil=>exact absurd hw hne
 | cons v q=>rfl
theorem wayL_miss {x:Idt} {L:List Un} (h:∀ (j:Nat) (hj:j<L.length),wayT x L[j]=[]):wayL x L=[]:=by
 rw [wayL_skip (k:=L.length) fun j hj _=>h j hj,List.drop_length,wayL]
def wayV (w:List Un):PV:=if w=[] then .nilsl else .sl 8 (w.map Un.enc)
theorem way_mem {x:Idt} {u:Un} (h:SmT u):∀ v∈wayT x u,v∈unitsT u:=by
 induction h with
 | mk u h hk hs ih =>
  intro v hv;rw [wayT_eq] at hv;split at hv
  ·rw [List.mem_singleton] at hv;subst hv;exact Zau _
  ·have key : ∀ L : List Un, (∀ k ∈ L, k ∈ u.kids) → ∀ v ∈ wayL x L, ∃ k ∈ u.kids, v ∈ unitsT k := by
    intro L
    induction L with
    | nil=>intro _ v hv;rw [wayL] at hv;cases hv
    | cons a r ihr =>
     intro hL v hv;rw [wayL] at hv;cases hw:wayT x a with
     | nil=>rw [hw] at hv;exact ihr (fun k hk=>hL k (Zx7 _ hk)) v hv
     | cons b q =>
      rw [hw] at hv;exact ⟨a,hL a List.mem_cons_self,ih a (hL a List.mem_cons_self) v (by rw [hw];exact hv)⟩
   cases hw:wayL x u.kids with
   | nil=>rw [hw] at hv;cases hv
   | cons b q =>
    rw [hw] at hv;rcases List.mem_cons.1 hv with rfl|hv
    ·exact Zau _
    ·obtain ⟨k,h1,h2⟩:=key u.kids (fun k hk=>hk) v (by rw [hw];exact hv);exact Zb8 h1 h2
theorem way_len {x:Idt} {u:Un} (h:SmT u):(wayT x u).length≤(unitsT u).length:=by
 induction h with
 | mk u h hk hs ih =>
  have hw:=wayT_eq x u;rw [Zaj,List.length_cons,hw];split
  ·simp
  ·have key : ∀ L : List Un, (∀ k ∈ L, k ∈ u.kids) → (wayL x L).length ≤ (unitsL L).length := by
    intro L
    induction L with
    | nil=>intro _;rw [wayL];simp
    | cons a r ihr =>
     intro hL;rw [wayL,unitsL,Zx5];have h1:=ih a (hL a List.mem_cons_self);have h2:=ihr fun k hk=>hL k (Zx7 _ hk);cases hw:wayT x a with
     | nil=>show (wayL x r).length≤_;omega
     | cons b q=>rw [hw] at h1;show (b::q).length≤_;omega
   have:=key u.kids fun k hk=>hk;cases hw2:wayL x u.kids with
   | nil=>simp
   | cons b q=>rw [hw2] at this;simp only [List.length_cons] at this ⊢;omega
end Go.VM
namespace Go.Proofs.w
open Go Go.VM
def c_unit_way:VC:=(ZR [ZO 2 (.box 8 (.t 0)),ZO 3 (.box 3 (.t 1)),ZO 4 (.mv (.c .nilsl))] (.seq (ZR [ZO 8 (.faddr 0 (.t 2)),ZO 9 (.load true 3 (.t 8)),ZO 10 (.load true 3 (.t 3)),ZO 11 (.eqs false [.i,.i,.i] (.t 9) (.t 10))] (.cond (.t 11) (ZR [ZO 12 (.load true 8 (.t 2)),ZO 13 (.bslice 8 1 ZU [(0,(.t 12))]),ZM 4 13] .ret) .skip)) (.seq (ZR [ZO 14 (.faddr 7 (.t 2)),ZO 15 (.load false 1 (.t 14)),ZO 16 (.len false (.t 15)),ZO 17 (.mv (.c (.int .i64 0)))] (.block 0 (.loop (ZR [ZO 18 (.bin .lss (.t 17) (.t 16))] (.seq (.cond (.t 18) .skip (.exit 0)) (.seq (.block 1 (ZR [ZO 19 (.iaddr 8 (.t 15) (.t 17)),ZO 20 (.load true 8 (.t 19)),ZO 6 (.alloc ZU),ZN (.store 8 (.t 6) (.t 20))] (ZR [ZO 21 (.load true 8 (.t 6)),ZO 22 (.load true 3 (.t 3)),ZO 23 (.call 125 [.t 21,.t 22]),ZM 7 23] (ZR [ZM 24 7,ZO 25 (.nd true (.t 24))] (.cond (.t 25) (ZR [ZO 26 (.load true 8 (.t 2)),ZO 27 (.bslice 8 1 ZU [(0,(.t 26))]),ZM 28 7,ZO 29 (.app 8 120 ZU false (.t 27) (.t 28)),ZM 4 29] .ret) .skip))))) (.region [ZO 30 (.bin .add (.t 17) (.c (.int .i64 1))),ZM 17 30] false))))))) (ZR [ZO 4 (.mv (.c .nilsl))] .ret))))
def c_unit_Find:VC:=(ZR [ZO 2 (.box 8 (.t 0)),ZO 3 (.box 3 (.t 1)),ZO 4 (.alloc ZU),ZO 5 (.mv (.c (.bool false)))] (ZR [ZO 7 (.load true 8 (.t 2)),ZO 8 (.load true 3 (.t 3)),ZO 9 (.call 125 [.t 7,.t 8]),ZM 6 9] (.seq (ZR [ZM 10 6,ZO 11 (.len false (.t 10)),ZO 12 (.bin .eql (.t 11) (.c (.int .i64 0)))] (.cond (.t 12) (ZR [ZO 13 (.build ZU []),ZN (.store 8 (.t 4) (.t 13)),ZO 5 (.mv (.c (.bool false)))] .ret) .skip)) (ZR [ZM 14 6,ZM 15 6,ZO 16 (.len false (.t 15)),ZO 17 (.bin .sub (.t 16) (.c (.int .i64 1))),ZO 18 (.iaddr 8 (.t 14) (.t 17)),ZO 19 (.load true 8 (.t 18)),ZO 20 (.call 126 [.t 19]),ZN (.store 8 (.t 4) (.t 20)),ZO 5 (.mv (.c (.bool true)))] .ret))))
def c_unit_Ancestors:VC:=(ZR [ZO 2 (.box 8 (.t 0)),ZO 3 (.box 3 (.t 1)),ZO 4 (.mv (.c .nilsl))] (ZR [ZO 5 (.mv (.c .nilsl))] (ZR [ZO 8 (.load true 8 (.t 2)),ZO 9 (.load true 3 (.t 3)),ZO 10 (.call 125 [.t 8,.t 9]),ZM 6 10] (.seq (ZR [ZM 11 6,ZO 12 (.len false (.t 11)),ZO 13 (.bin .sub (.t 12) (.c (.int .i64 2))),ZM 7 13] (.block 0 (.loop (.seq (ZR [ZM 14 7,ZO 15 (.bin .geq (.t 14) (.c (.int .i64 0)))] (.cond (.t 15) .skip (.exit 0))) (.seq (.block 1 (.region [ZM 18 5,ZM 19 6,ZM 20 7,ZO 21 (.iaddr 8 (.t 19) (.t 20)),ZO 22 (.faddr 0 (.t 21)),ZO 23 (.load true 3 (.t 22)),ZO 24 (.bslice 3 1 [.int .i64 0,.int .i64 0,.int .i64 0] [(0,(.t 23))]),ZO 25 (.app 3 24 [.int .i64 0,.int .i64 0,.int .i64 0] false (.t 18) (.t 24)),ZM 5 25] false)) (.region [ZM 16 7,ZO 17 (.bin .sub (.t 16) (.c (.int .i64 1))),ZM 7 17] false)))))) (ZR [ZM 26 5,ZM 4 26] .ret)))))
def c_treeedit_has:VC:=(ZR [ZO 2 (.box 8 (.t 0)),ZO 3 (.box 3 (.t 1)),ZO 4 (.mv (.c (.bool false)))] (ZR [ZO 8 (.load true 8 (.t 2)),ZO 9 (.load true 3 (.t 3)),ZO 10 (.call 68 [.t 8,.t 9]),ZM 7 10,ZO 11 (.ext (.t 7) 0),ZO 12 (.ext (.t 7) 1),ZO 5 (.alloc ZU),ZN (.store 8 (.t 5) (.t 11)),ZM 6 12] (ZR [ZM 13 6,ZM 4 13] .ret)))
theorem closed_way (w:List Un):Closed (wayV w):=by
 unfold wayV;split
 ·exact closed_nilsl
 ·exact closed_uns _
theorem Zcn (u:Un) (x:Idt):Zax [.agg u.enc,.agg x.enc]:=by
 intro y hy;simp only [List.mem_cons,List.not_mem_nil,or_false] at hy;rcases hy with rfl|rfl
 ·exact Zao _
 ·exact Zay x.closed
theorem sp_unit_way {u:Un} (hu:SmT u) (hn:(unitsT u).length≤1000) (x:Idt):Zam Tryz.prog 125 [.agg u.enc,.agg x.enc] (wayV (wayT x u)):=by
 induction hu with
 | mk u h hk hs ih =>
  have hw:=wayT_eq x u;rw [Zaj,List.length_cons] at hn;have ih':∀ k∈u.kids,Zam Tryz.prog 125 [.agg k.enc,.agg x.enc] (wayV (wayT x k)):=fun k hk'=>ih k hk' (by have:=Zbn hk';omega);have hlen:∀ k∈u.kids,(wayT x k).length≤1000:=fun k hk'=>by have:=way_len (x:=x) (hs k hk');have:=Zbn hk';omega
  have he:=id_eqs (idU u) x;have hxe:x.enc=[pI x.act,pI x.item,pI x.n]:=rfl;refine Zad ?_ (closed_way _) (Zcn u x);refine Gn (vc:=c_unit_way) [.t 4] Tryz.func125 ?_;unfold c_unit_way;try dsimp only [ZM,ZO,ZN,ZG,ZR,ZU]
  have hue:=Un.Zaf u;rw [hue,hxe];refine Rp0 [2,3] ?_;refine Zaw [(2,.ro [pI u.act,pI u.item,pI u.n,pI u.kind,.str u.label,.sl 4 (u.head.map Wd.enc),.sl 4 (u.words.map Wd.enc),.sl 8 (u.kids.map Un.enc)]),(3,.ro [pI x.act,pI x.item,pI x.n])] ⟨View.loc (z:=8) (fz:=false) (es:=[[pI u.act,pI u.item,pI u.n,pI u.kind,.str u.label,.sl 4 (u.head.map Wd.enc),.sl 4 (u.words.map Wd.enc),.sl 8 (u.kids.map Un.enc)]]) rfl (by simp) rfl (by simp),View.loc (z:=3) (fz:=false) (es:=[[pI x.act,pI x.item,pI x.n]]) rfl (by simp) rfl (by simp),trivial⟩ ?_;generalize u.head.map Wd.enc=EH at *;generalize u.words.map Wd.enc=EW at *;refine Zaa ?_;refine Rp0 [2,3,11] ?_;have he':((u.act==x.act&&(u.item==x.item&&(u.n==x.n&&true))) != false)=decide (idU u=x):=he;rw [he'];by_cases hid:idU u=x
  ·rw [if_pos hid] at hw;rw [hw,decide_eq_true hid];have hv:wayV [u]=.sl 8 [u.enc]:=rfl;rw [hv,hue];refine Ct ?_;refine Rp0 [4] ?_;refine Tp0 ?_;exact View.own_all (fz:=false) rfl rfl
  rw [if_neg hid] at hw;rw [decide_eq_false hid];refine Fp0 ?_;refine Zaa ?_;refine Rp1 [2,3,15,16,17] @xlm ?_;rw [hw];clear hw hid he he' ih;generalize hKL:u.kids=L at hk hn ih' hlen hue ⊢;refine Zab ?_;refine Zak (σ:={ y:Nat×Nat//y.1≤L.length∧∀ (j:Nat) (hj:j<L.length),j<y.1→wayT x L[j]=[] }) (fun y=>([(2,.ro [pI u.act,pI u.item,pI u.n,pI u.kind,.str u.label,.sl 4 EH,.sl 4 EW,.sl 8 (L.map Un.enc)]),(3,.ro [pI x.act,pI x.item,pI x.n]),(15,.sl 8 (L.map Un.enc)),(16,pI L.length),(17,pI y.1.1)],⟨[],y.1.2⟩)) (fun y=>L.length-y.1.1) ⟨(0,2),Nat.zero_le _,fun j _ h=>by cases h⟩ ?_ ?_ ?_
  ·exact Fn0
  ·exact Sc0
  rintro ⟨⟨k,t⟩,hkk,hpre⟩;simp only [] at hkk hpre ⊢;refine Rp0 [2,3,15,16,17,18] ?_;refine Zaa ?_;refine Zac rfl (fun h1=>?_) (fun h1=>?_)
  ·have ka:k<L.length:=by simp only [Zx3] at h1;omega
   have hrow:(L.map Un.enc).getD k []=L[k].enc:=rowm ka;have R:=ih' _ (List.getElem_mem ka);have hl:=hlen _ (List.getElem_mem ka);have hhit:=wayL_hit ka hpre;generalize hv:L[k]=v at hrow R hl hhit;rw [Un.Zaf,hxe] at R;rw [Un.Zaf] at hrow;refine Kp0 ?_;refine Zaa ?_;refine Zab ?_;refine Rp1 [2,3,6,15,16,17] (x2 @xlm hrow) ?_;refine Ok ?_;refine Rp0 [2,3,7,15,16,17] ?_;refine Zaq R ?_;unfold wayV;by_cases hw0:wayT x v=[]
   ·rw [if_pos hw0]
    skip
    refine Rp0 [2,3,15,16,17,25] ?_;rintro b rfl _;refine Fp0 ?_;refine rp1 [2,3,15,16,17] (ad1 (a:=k) (by omega)) ?_;refine ⟨⟨(k+1,t+1),ka,fun j hj hjk=>?_⟩,?_⟩
    ·by_cases e:j=k
     ·subst e;rw [hv];exact hw0
     ·exact hpre j hj (by omega)
    ·exact Fn0
   ·rw [if_neg hw0];have hq:=hhit hw0;rw [hq];obtain ⟨a,q,haq⟩:∃ a q,wayT x v=a::q:=by
     cases hc:wayT x v with
     | nil=>exact absurd hc hw0
     | cons a q=>exact ⟨a,q,rfl⟩
    rw [haq] at hl ⊢;refine Zaa (Zae [2,7,25] ?_);simp only [vmL,Nat.reduceEqDiff,reduceCtorEq,List.map_cons];rintro b-rfl;refine Ct ?_;refine Rp1 [4] @xlm ?_;refine ⟨by simp at hl;omega,by simp at hl;omega,?_⟩;refine Tp0 ?_;rw [hue];exact View.own_all (fz:=false) (by simp [Heap.get,HL.get]) (by simp;omega)
  ·have ka:k=L.length:=by simp only [Zx2] at h1;omega
   subst ka;rw [wayL_miss fun j hj=>hpre j hj hj];refine Ep0 ?_;exact Rv0 [4]
def zeroU:Un:=.mk 0 0 0 0 [] [] [] []
def Zb6 (x:Idt) (u:Un):Un×Bool:=match (wayT x u).getLast? with
 | some v=>(v,true)
 | none=>(zeroU,false)
theorem view_zero (h:Heap):View h (.agg [pI 0,pI 0,pI 0,pI 0,.str [],.nilsl,.nilsl,.nilsl]) (.agg zeroU.enc):=by
 rw [Un.Zaf];refine View.agg rfl fun j hj=>?_;have hj':j=0∨j=1∨j=2∨j=3∨j=4∨j=5∨j=6∨j=7:=by simp only [List.length_cons,List.length_nil] at hj;omega
 rcases hj' with rfl|rfl|rfl|rfl|rfl|rfl|rfl|rfl
 ·exact View.refl _ _
 ·exact View.refl _ _
 ·exact View.refl _ _
 ·exact View.refl _ _
 ·exact View.refl _ _
 ·exact View.nil _ _
 ·exact View.nil _ _
 ·exact View.nil _ _
theorem sp_unit_Find {u:Un} (hu:SmT u) (hn:(unitsT u).length≤1000) (x:Idt):Zam Tryz.prog 68 [.agg u.enc,.agg x.enc] (.tup [.agg (Zb6 x u).1.enc,.bool (Zb6 x u).2]):=by
 have Wy:=sp_unit_way hu hn x;have hwl:=way_len (x:=x) hu;have hmem:=way_mem (x:=x) hu;have hxe:x.enc=[pI x.act,pI x.item,pI x.n]:=rfl;refine Zad ?_ (Zbl (by simp only [List.mem_cons,List.not_mem_nil,or_false,forall_eq_or_imp,forall_eq];exact ⟨Zao _,cB _⟩)) (Zcn u x);refine Gn (vc:=c_unit_Find) [.c 4 true 8,.t 5] Tryz.func68 ?_;unfold c_unit_Find;try dsimp only [ZM,ZO,ZN,ZG,ZR,ZU]
 have hue:=Un.Zaf u;rw [hue,hxe] at Wy ⊢;generalize u.head.map Wd.enc=EH at Wy ⊢;generalize u.words.map Wd.enc=EW at Wy ⊢;generalize u.kids.map Un.enc=EK at Wy ⊢;refine Rp0 [2,3,4,5] ?_;refine Rp0 [4,5,6] ?_;refine Zaq Wy ?_;unfold Zb6;refine Zaa ?_;by_cases hw0:wayT x u=[]
 ·rw [hw0];have hv:wayV []=.nilsl:=rfl;rw [hv]
  skip
  refine Rp0 [4,5,6,12] ?_;refine Ct ?_;refine Rp0 [4,5] ?_;refine Tp0 ?_;exact View.tup2 (view_zero _) (View.refl _ _)
 ·have hv:wayV (wayT x u)=.sl 8 ((wayT x u).map Un.enc):=by unfold wayV;rw [if_neg hw0]
  rw [hv];obtain ⟨p,v,hpv⟩:∃ p v,wayT x u=p++[v]:=⟨_,_,(List.dropLast_concat_getLast hw0).symm⟩;have hC:=sp_unit_copied (hu.units v (hmem v (by rw [hpv];simp)));have hgl:(wayT x u).getLast?=some v:=by rw [hpv];simp
  rw [hgl];have hrow:((wayT x u).map Un.enc).getD p.length []=v.enc:=by rw [hpv];simp
  have hwl2:(wayT x u).length=p.length+1:=by rw [hpv];simp
  have hWl:((wayT x u).map Un.enc).length=p.length+1:=by rw [List.length_map,hwl2]
  generalize (wayT x u).map Un.enc=WE at hrow hWl ⊢;have hz:(((p.length+1:Nat):Int)==0)=false:=by rw [beq_eq_false_iff_ne];omega
  have hm1:IntKind.i64.wrap (((p.length+1:Nat):Int)-1)=(p.length:Int):=by rw [w64 (by omega) (by omega)];omega
  have hve:=Un.Zaf v;rw [hve] at hC hrow ⊢;refine Sp0 ?_;refine Rp1 [4,5,6,12] (x2 hWl hz) ?_;refine Fp0 ?_;refine Rp1 [4,5] (x3 hWl hm1 hrow) ?_;refine ⟨⟨by omega,by omega⟩,?_⟩;refine Ap0 hC ?_;exact Tv0
end Go.Proofs.w
namespace Go.VM
open Go
def kidsU (u:Un) (ks:List Un):Un:=.mk u.act u.item u.n u.kind u.label u.head u.words ks
mutual
def atT (f : Un → Un) (x : Idt) : Un → Option Un
 | .mk a i n k l h w ks => if (⟨a, i, n⟩ : Idt) = x then some (f (.mk a i n k l h w ks)) else match atL f x ks with
  | some ks' => some (.mk a i n k l h w ks')
  | none => none
def atL (f : Un → Un) (x : Idt) : List Un → Option (List Un)
 | [] => none
 | k :: r => match atT f x k with
  | some k' => some (k' :: r)
  | none => match atL f x r with
   | some r' => some (k :: r')
   | none => none
end
theorem atT_eq (f : Un → Un) (x : Idt) (u : Un) : atT f x u = if idU u = x then some (f u) else match atL f x u.kids with
  | some ks'=>some (kidsU u ks')
  | none=>none:=by cases u;rw [atT];rfl
theorem atL_hit {f:Un→Un} {x:Idt} {y:Un}:∀ {L:List Un} {k:Nat} (hk:k<L.length),(∀ (j:Nat) (hj:j<L.length),j<k→atT f x L[j]=none)→atT f x L[k]=some y→atL f x L=some (L.set k y)
 | a::r,0,_,_,h=>by
  have h':atT f x a=some y:=h;rw [atL,h'];rfl
 | a::r,k+1,hk,hp,h=>by
  have h0:atT f x a=none:=hp 0 (by simp) (by omega);rw [atL,h0,atL_hit (k:=k) (by simpa using hk) (fun j hj hjk=>hp (j+1) (by simpa using hj) (by omega)) h];rfl
theorem atL_miss {f:Un→Un} {x:Idt}:∀ {L:List Un},(∀ (j:Nat) (hj:j<L.length),atT f x L[j]=none)→atL f x L=none
 | [],_=>by rw [atL]
 | a::r,h=>by
  have h0:atT f x a=none:=h 0 (by simp);rw [atL,h0,atL_miss (fun j hj=>h (j+1) (by simpa using hj))]
def parT (x:Idt) (u:Un):Idt×Int×Bool :=
 if (wayT x u).length<2 then (idZ,-1,false) else
  (idU ((wayT x u).getD ((wayT x u).length-2) (.mk 0 0 0 0 [] [] [] [])),idxF (fun k=>decide (wayT x k≠[])) ((wayT x u).getD ((wayT x u).length-2) (.mk 0 0 0 0 [] [] [] [])).kids,true)
theorem wayL_ne {x:Idt}:∀ {L:List Un},wayL x L≠[]→∃ k∈L,wayT x k≠[]∧wayL x L=wayT x k
 | [],h=>by rw [wayL] at h;exact absurd rfl h
 | a::r,h=>by
  rw [wayL] at h ⊢;cases hw:wayT x a with
  | nil =>
   rw [hw] at h;obtain ⟨k,h1,h2,h3⟩:=wayL_ne h;exact ⟨k,Zx7 _ h1,h2,h3⟩
  | cons b q=>exact ⟨a,List.mem_cons_self,by rw [hw];simp,by rw [hw]⟩
theorem par_spec {x:Idt} {u:Un} (h:SmT u):2≤(wayT x u).length→∃ p∈unitsT u,(wayT x u).getD ((wayT x u).length-2) (.mk 0 0 0 0 [] [] [] [])=p∧∃ k∈p.kids,wayT x k≠[]:=by
 induction h with
 | mk u h hk hs ih =>
  intro h2;have hw:=wayT_eq x u;split at hw
  ·rw [hw] at h2;simp at h2
  ·cases hl:wayL x u.kids with
   | nil=>rw [hl] at hw;rw [hw] at h2;simp at h2
   | cons b q =>
    rw [hl] at hw
    replace hw:wayT x u=u::(b::q):=hw
    obtain ⟨k,k1,k2,k3⟩:=wayL_ne (x:=x) (L:=u.kids) (by rw [hl];simp);rw [hl] at k3;by_cases h3:2≤(wayT x k).length
    ·obtain ⟨p,p1,p2,p3⟩:=ih k k1 h3;refine ⟨p,Zb8 k1 p1,?_,p3⟩;rw [hw,k3];have:(u::wayT x k).length-2=((wayT x k).length-2)+1:=by simp only [List.length_cons];omega
     rw [this,List.getD_cons_succ];exact p2
    ·refine ⟨u,Zau u,?_,k,k1,k2⟩;rw [hw,k3];have h4:(wayT x k).length=1:=by
      have:=List.length_pos_iff.2 k2;omega
     have:(u::wayT x k).length-2=0:=by simp only [List.length_cons];omega
     rw [this];rfl
theorem idxF_some {α:Type} {p:α→Bool} {l:List α} {x:α} (hx:x∈l) (hp:p x=true):∃ i,i<l.length∧idxF p l=(i:Int):=by
 have ha:l.any p=true:=List.any_eq_true.2 ⟨x,hx,hp⟩;unfold idxF;rw [if_pos ha];exact ⟨_,List.findIdx_lt_length_of_exists ⟨x,hx,hp⟩,rfl⟩
theorem ids_inj {u a b:Un} (h:(idsT u).Nodup) (ha:a∈unitsT u) (hb:b∈unitsT u) (he:idU a=idU b):a=b:=by
 unfold idsT at h;generalize unitsT u=l at h ha hb
 induction l with
 | nil=>cases ha
 | cons c r ih =>
  rw [List.map_cons,List.nodup_cons] at h;rcases List.mem_cons.1 ha with ea|ha'
  ·rcases List.mem_cons.1 hb with eb|hb'
   ·rw [ea,eb]
   ·exact absurd (by rw [← ea,he];exact List.mem_map_of_mem hb') h.1
  ·rcases List.mem_cons.1 hb with eb|hb'
   ·exact absurd (by rw [← eb,← he];exact List.mem_map_of_mem ha') h.1
   ·exact ih h.2 ha' hb'
theorem units_le {u:Un} (h:SmT u):∀ p∈unitsT u,(unitsT p).length≤(unitsT u).length:=by
 induction h with
 | mk u h hk hs ih =>
  intro p hp;rw [Zaj u] at hp;rcases List.mem_cons.1 hp with rfl|hp
  ·exact Nat.le_refl _
  ·rw [Zat] at hp;obtain ⟨k,h1,h2⟩:=List.mem_flatMap.1 hp;have h3:=ih k h1 p h2;have h4:=Zbn h1;rw [Zaj u,List.length_cons];omega
def lessU (i:Nat) (u:Un):Un:=kidsU u (u.kids.take i++u.kids.drop (i+1))
theorem way_id {x:Idt} {u:Un} (h:SmT u):∀ v,(wayT x u).getLast?=some v→idU v=x:=by
 induction h with
 | mk u h hk hs ih =>
  intro v hv;have hw:=wayT_eq x u;split at hw
  ·rename_i he;rw [hw] at hv;simp only [List.getLast?_singleton,Zx0] at hv;rw [← hv];exact he
  ·cases hl:wayL x u.kids with
   | nil=>rw [hl] at hw;rw [hw] at hv;cases hv
   | cons b q =>
    rw [hl] at hw
    replace hw:wayT x u=u::(b::q):=hw
    obtain ⟨k,k1,k2,k3⟩:=wayL_ne (x:=x) (L:=u.kids) (by rw [hl];simp);rw [hl] at k3;rw [hw,List.getLast?_cons_cons,k3] at hv;exact ih k k1 v hv
def Za0 (l:List Ln):Nat:=(l.map fun x=>x.notes.length).sum
def up1 (n:Nat):Nat:=if 0<n then n+1 else n
def Zda (l:List Ln):Nat:=1+l.length+up1 (Za0 l)
theorem notesN_step {l:List Ln} {k:Nat} (h:k<l.length):Za0 (l.take (k+1))=Za0 (l.take k)+l[k].notes.length:=by
 unfold Za0;rw [List.take_succ_eq_append_getElem h,List.map_append,List.sum_append];simp
theorem Zb4 (a b:List Ln):Za0 (a++b)=Za0 a+Za0 b:=by
 unfold Za0;rw [List.map_append,List.sum_append]
theorem notesN_take (l:List Ln) (k:Nat):Za0 (l.take k)≤Za0 l:=by
 have:Za0 l=Za0 (l.take k)+Za0 (l.drop k):=by rw [← Zb4,List.take_append_drop]
 omega
def grpG (acc:List Ln):List Ln→List (List Ln)
 | []=>if acc=[] then [] else [acc]
 | x::r=>if x.tied=true then grpG (acc++[x]) r else (acc++[x])::grpG [] r
theorem grpG_flat:∀ (l acc:List Ln),(grpG acc l).flatten=acc++l
 | [],acc=>by
  unfold grpG;split
  ·rename_i h;rw [h];rfl
  ·simp
 | x::r,acc=>by
  unfold grpG;split
  ·rw [grpG_flat r];simp
  ·rw [List.flatten_cons,grpG_flat r];simp
theorem grpG_ne:∀ (l acc:List Ln),∀ g∈grpG acc l,g≠[]
 | [],acc,g,h=>by
  unfold grpG at h;split at h
  ·cases h
  ·rename_i e;rw [List.mem_singleton] at h;subst h;exact e
 | x::r,acc,g,h=>by
  unfold grpG at h;split at h
  ·exact grpG_ne r _ g h
  ·rcases List.mem_cons.1 h with rfl|h
   ·simp
   ·exact grpG_ne r _ g h
def addG (m:Int):Option (List (List Ln)×List Ln)→List Ln→Option (List (List Ln)×List Ln)
 | none,_=>none
 | some (D,N),g=>if m<(Zda g:Int) then none else if N≠[]∧m<(Zda (N++g):Int) then some (D++[N],g) else some (D,N++g)
def pagG (m:Int) (G:List (List Ln)):Option (List (List Ln)×List Ln):=G.foldl (addG m) (some ([],[]))
def endG:List (List Ln)×List Ln→List (List Ln)
 | (D,N)=>if N=[] then D else D++[N]
theorem addG_none (m:Int) (G:List (List Ln)):G.foldl (addG m) none=none:=by
 induction G with
 | nil=>rfl
 | cons g r ih=>exact ih
theorem pagG_snoc (m:Int) (G:List (List Ln)) (g:List Ln):pagG m (G++[g])=addG m (pagG m G) g:=by
 unfold pagG;rw [List.foldl_append];rfl
theorem pagG_pre {m:Int} {G:List (List Ln)} {g:List Ln} {q:List (List Ln)} (h:addG m (pagG m G) g=none):pagG m (G++g::q)=none:=by
 have:G++g::q=(G++[g])++q:=by simp
 rw [this];unfold pagG at h ⊢;rw [List.foldl_append,List.foldl_append];show List.foldl (addG m) (addG m _ g) q=none;rw [h];exact addG_none m q
def pagesG (m:Int) (l:List Ln):Option (List (List Ln)):=(pagG m (grpG [] l)).map endG
theorem range'_one {f:Nat→Nat} {c:Nat} {a:Nat} (h:∀ j,f j≤a) (h0:∀ j,j≠c→f j=0):∀ (n s:Nat),((List.range' s n).map f).sum≤a∧(c<s→((List.range' s n).map f).sum=0)
 | 0,s=>by simp
 | n+1,s=>by
  obtain ⟨h1,h2⟩:=range'_one h h0 n (s+1);rw [List.range'_succ,List.map_cons,List.sum_cons];by_cases hc:s=c
  ·subst hc;have:=h2 (by omega);have:=h s;refine ⟨by omega,fun hh=>by omega⟩
  ·have:=h0 s hc;refine ⟨by omega,fun hh=>?_⟩;have:=h2 (by omega);omega
theorem sum_add {α:Type} (f g:α→Nat):∀ l:List α,(l.map fun x=>f x+g x).sum=(l.map f).sum+(l.map g).sum
 | []=>rfl
 | x::r=>by simp only [List.map_cons,List.sum_cons];rw [sum_add f g r];omega
theorem notesK_sum {u:Un} (w:Int) (s n:Nat):∀ {ks:List Un},(∀ k∈ks,SmU k)→((List.range' s n).map fun j=>(notesK w u j ks).length).sum≤ks.length*602
 | [],_=>by
  have:∀ l:List Nat,(l.map fun j=>(notesK w u j []).length).sum=0:=by
   intro l
   induction l with
   | nil=>rfl
   | cons a r ih=>rw [List.map_cons,List.sum_cons,ih];rfl
  rw [this];simp
 | k::ks,h=>by
  have ih:=notesK_sum w s n (u:=u) (ks:=ks) fun x hx=>h x (Zx7 _ hx);have hk:=linesU_le (h k List.mem_cons_self) w;have e:∀ j:Nat,(notesK w u j (k::ks)).length=(if Zag u k==(j:Int) then (Zaz w k).length else 0)+(notesK w u j ks).length:=by
   intro j;unfold notesK;rw [List.filter_cons];split
   ·rw [List.flatMap_cons,Zx5]
   ·simp
  have e2:((List.range' s n).map fun j=>(notesK w u j (k::ks)).length).sum=((List.range' s n).map fun (j:Nat)=>(if Zag u k==(j:Int) then (Zaz w k).length else 0)).sum+((List.range' s n).map fun j=>(notesK w u j ks).length).sum:=by
   rw [← sum_add];congr 1;exact List.map_congr_left fun j _=>e j
  rw [e2];have h1:=(range'_one (f:=fun (j:Nat)=>if Zag u k==(j:Int) then (Zaz w k).length else 0) (c:=(Zag u k).toNat) (a:=602) (fun j=>by
   show (if _ then _ else _)≤602;split<;>omega) (fun j hj=>by
   show (if _ then _ else _)=0;rw [if_neg];intro hh;rw [beq_iff_eq] at hh;omega) n s).1
  simp only [List.length_cons,Nat.add_mul,Nat.one_mul] at *;omega
theorem notesR_few {u:Un} (hs:∀ k∈u.kids,SmU k) (w:Int) (a b:Nat):(notesR w u a b).length≤u.kids.length*602:=by
 unfold notesR;rw [List.length_flatMap];exact notesK_sum w a (b-a) hs
theorem notes_ownF {u:Un} (hs:∀ k∈u.kids,SmU k) (w:Int) (t:Bool):∀ (l:List Str) (E:List Nat) (fr:Nat),Za0 (ownF w u t fr l E)≤l.length*(u.kids.length*602)
 | [],E,fr=>by unfold ownF;simp [Za0]
 | s::l,[],fr=>by unfold ownF;simp [Za0]
 | s::l,e::E,fr=>by
  have ih:=notes_ownF hs w t l E (toN u e);have h1:=notesR_few hs w fr (toN u e);unfold ownF;unfold Za0 at ih ⊢;rw [List.map_cons,List.sum_cons,List.length_cons,Nat.add_mul,Nat.one_mul];show (notesR w u fr (toN u e)).length+_≤_;omega
theorem notes_ownL {u:Un} (hu:SmT u) (w:Int):Za0 (ownL w u)≤362404*u.kids.length:=by
 have h1:=notes_ownF (fun k hk=>(hu.kids.2 k hk).u) w (tiedU u) (Zaz w u) (Zbu w (rowT u)) 0;have h2:=linesU_le hu.u w;unfold ownL;refine Nat.le_trans h1 ?_;have h3:(Zaz w u).length*(u.kids.length*602)≤602*(u.kids.length*602):=Nat.mul_le_mul_right _ h2;omega
theorem notes_bodyT {u:Un} (hu:SmT u) (w:Int):Za0 (bodyT w u)≤362404*(unitsL u.kids).length:=by
 induction hu with
 | mk u h hk hs ih =>
  rw [bodyT_eq,Zb4];have h1:=notes_ownL (.mk u h hk hs) w;have key:∀ L:List Un,(∀ k∈L,k∈u.kids)→Za0 (bodyL w u L)+362404*L.length≤362404*(unitsL L).length:=by
   intro L
   induction L with
   | nil=>intro _;rw [bodyL];simp [Za0]
   | cons a r ihr =>
    intro hL;have h2:=ih a (hL a List.mem_cons_self);have h3:=ihr fun k hk=>hL k (Zx7 _ hk);rw [bodyL,Zb4,unitsL,Zx5,Zaj,List.length_cons,List.length_cons];have h4:Za0 (if Zag u a<0 then bodyT w a else [])≤362404*(unitsL a.kids).length:=by
     split
     ·exact h2
     ·simp [Za0]
    omega
  have:=key u.kids fun k hk=>hk;omega
theorem notes_kids {u:Un} (hu:SmT u) (hn:(unitsT u).length≤1000) (w:Int):Za0 (kidsB w true u u.kids)≤362404*1000:=by
 have key:∀ L:List Un,(∀ k∈L,k∈u.kids)→Za0 (L.flatMap (bodyT w))≤362404*(unitsL L).length:=by
  intro L
  induction L with
  | nil=>intro _;simp [Za0]
  | cons a r ihr =>
   intro hL;have h2:=notes_bodyT (hu.kids.2 a (hL a List.mem_cons_self)) w;have h3:=ihr fun k hk=>hL k (Zx7 _ hk);rw [List.flatMap_cons,Zb4,unitsL,Zx5,Zaj,List.length_cons];omega
 have:=key u.kids fun k hk=>hk;rw [Zaj,List.length_cons] at hn;unfold kidsB;rw [if_pos rfl];omega
theorem notesN_sub {a b c:List Ln}:Za0 b≤Za0 (a++b++c):=by
 rw [Zb4,Zb4];omega
theorem high_len (l:List Ln):l.length≤Zda l:=by unfold Zda;omega
theorem high_notes (l:List Ln):Za0 l≤Zda l:=by unfold Zda up1;split<;>omega
theorem grp_mem {l g:List Ln} {pre post:List (List Ln)} (h:grpG [] l=pre++g::post):∃ a b,l=a++g++b:=by
 have:=grpG_flat l [];rw [h,List.flatten_append,List.flatten_cons,List.nil_append] at this;exact ⟨pre.flatten,post.flatten,by rw [← this,List.append_assoc]⟩
structure PgI (m : Int) (L : List Ln) (s : List (List Ln) × List Ln) : Prop where
 flat : s.1.flatten ++ s.2 = L
 ne : ∀ l ∈ s.1, l ≠ []
 hi : ∀ l ∈ s.1, (Zda l : Int) ≤ m
 now : s.2 ≠ [] → (Zda s.2 : Int) ≤ m
 last : L ≠ [] → s.2 ≠ []
theorem addG_eq (m:Int) (D:List (List Ln)) (N g:List Ln):addG m (some (D,N)) g=if m<(Zda g:Int) then none else if N≠[]∧m<(Zda (N++g):Int) then some (D++[N],g) else some (D,N++g):=rfl
theorem pgI_step {m:Int} {L:List Ln} {s s':List (List Ln)×List Ln} {g:List Ln} (I:PgI m L s) (hg:g≠[]) (h:addG m (some s) g=some s'):PgI m (L++g) s':=by
 obtain ⟨D,N⟩:=s;have hf:D.flatten++N=L:=I.flat
 rw [addG_eq] at h;split at h
 ·cases h
 rename_i h1;split at h
 ·rename_i h2;simp only [Zx0] at h;subst h;refine ⟨?_,?_,?_,fun _=>by show (Zda g:Int)≤m;omega,fun _=>hg⟩
  ·show (D++[N]).flatten++g=L++g;rw [← hf,List.flatten_append];simp
  ·intro l hl;rcases List.mem_append.1 hl with hl|hl
   ·exact I.ne l hl
   ·rw [List.mem_singleton] at hl;subst hl;exact h2.1
  ·intro l hl;rcases List.mem_append.1 hl with hl|hl
   ·exact I.hi l hl
   ·rw [List.mem_singleton] at hl;subst hl;exact I.now h2.1
 ·rename_i h2;simp only [Zx0] at h;subst h;have hne:N++g≠[]:=by simp [hg]
  refine ⟨?_,I.ne,I.hi,fun _=>?_,fun _=>hne⟩
  ·show D.flatten++(N++g)=L++g;rw [← hf,List.append_assoc]
  ·show (Zda (N++g):Int)≤m;by_cases hN:N=[]
   ·subst hN;rw [List.nil_append];omega
   ·by_cases h3:m<(Zda (N++g):Int)
    ·exact absurd ⟨hN,h3⟩ h2
    ·omega
theorem pgI_fold {m:Int}:∀ (G:List (List Ln)) {L:List Ln} {s s':List (List Ln)×List Ln},PgI m L s→(∀ g∈G,g≠[])→G.foldl (addG m) (some s)=some s'→PgI m (L++G.flatten) s'
 | [],L,s,s',I,_,h=>by
  simp only [List.foldl_nil,Zx0] at h;subst h
  simpa using I
 | g::r,L,s,s',I,hG,h=>by
  rw [List.foldl_cons] at h;cases hs:addG m (some s) g with
  | none=>rw [hs,addG_none] at h;cases h
  | some s2 =>
   rw [hs] at h;have:=pgI_fold r (pgI_step I (hG g List.mem_cons_self) hs) (fun x hx=>hG x (Zx7 _ hx)) h;rw [List.flatten_cons,← List.append_assoc];exact this
theorem pgI_nil (m:Int):PgI m [] ([],[]) where
 flat:=rfl
 ne:=fun l h=>by cases h
 hi:=fun l h=>by cases h
 now:=fun h=>absurd rfl h
 last:=fun h=>absurd rfl h
theorem pagG_inv {m:Int} {G:List (List Ln)} {s:List (List Ln)×List Ln} (hG:∀ g∈G,g≠[]) (h:pagG m G=some s):PgI m G.flatten s:=by
 have:=pgI_fold G (pgI_nil m) hG h
 simpa using this
theorem flat_count:∀ {D:List (List Ln)},(∀ l∈D,l≠[])→D.length≤D.flatten.length
 | [],_=>by simp
 | a::r,h=>by
  have h1:=flat_count (D:=r) fun l hl=>h l (Zx7 _ hl);have h2:=List.length_pos_iff.2 (h a List.mem_cons_self);rw [List.length_cons,List.flatten_cons,Zx5];omega
theorem pgI_few {m:Int} {L:List Ln} {s:List (List Ln)×List Ln} (I:PgI m L s):s.1.length≤L.length:=by
 have h1:=flat_count I.ne;have h2:=congrArg List.length I.flat
 rw [Zx5] at h2;omega
theorem addG_hi {m:Int} {D:List (List Ln)} {N g:List Ln} (h:m<(Zda g:Int)):addG m (some (D,N)) g=none:=by
 rw [addG_eq,if_pos h]
theorem addG_new {m:Int} {D:List (List Ln)} {N g:List Ln} (h:¬ m<(Zda g:Int)) (h0:N≠[]) (h1:m<(Zda (N++g):Int)):addG m (some (D,N)) g=some (D++[N],g):=by
 rw [addG_eq,if_neg h,if_pos ⟨h0,h1⟩]
theorem addG_on {m:Int} {D:List (List Ln)} {N g:List Ln} (h:¬ m<(Zda g:Int)) (h1:N=[]∨¬ m<(Zda (N++g):Int)):addG m (some (D,N)) g=some (D,N++g):=by
 rw [addG_eq,if_neg h,if_neg (by rintro ⟨a,b⟩;rcases h1 with h1|h1;exact a h1;exact h1 b)]
section
variable {α : Type} {le : α → α → Prop}
def seg (d:Nat→α) (a b:Nat):List α:=(List.range' a (b-a)).map d
theorem mem_seg {d:Nat→α} {a b:Nat} {x:α}:x∈seg d a b↔∃ i,a≤i∧i<b∧d i=x:=by
 simp only [seg,List.mem_map,List.mem_range'_1];constructor
 ·rintro ⟨i,⟨h1,h2⟩,h3⟩;exact ⟨i,h1,by omega,h3⟩
 ·rintro ⟨i,h1,h2,h3⟩;exact ⟨i,⟨h1,by omega⟩,h3⟩
theorem Zcu (d:Nat→α) {a m b:Nat} (h1:a≤m) (h2:m≤b):seg d a b=seg d a m++seg d m b:=by
 simp only [seg,← List.map_append]
 congr 1
 have:=List.range'_append_1 (s:=a) (m:=m-a) (n:=b-m);rw [show a+(m-a)=m by omega,show m-a+(b-m)=b-a by omega] at this;exact this.symm
theorem seg_congr {d d':Nat→α} {a b:Nat} (h:∀ i,a≤i→i<b→d' i=d i):seg d' a b=seg d a b:=by
 simp only [seg];refine List.map_congr_left fun i hi=>?_;have:=List.mem_range'_1.1 hi;exact h i this.1 (by omega)
theorem seg_shift {d d':Nat→α} {a b a':Nat} (h:∀ i,i<b-a→d' (a'+i)=d (a+i)):seg d' a' (a'+(b-a))=seg d a b:=by
 simp only [seg,Nat.add_sub_cancel_left];rw [List.range'_eq_map_range,List.range'_eq_map_range,List.map_map,List.map_map];refine List.map_congr_left fun i hi=>?_;exact h i (List.mem_range.1 hi)
def Srt (le:α→α→Prop) (d:Nat→α) (a b:Nat):Prop:=∀ i j,a≤i→i<j→j<b→le (d i) (d j)
def Same (d d':Nat→α) (a b:Nat):Prop:=∀ i,i<a∨b≤i→d' i=d i
structure Mrg (le : α → α → Prop) (d d' : Nat → α) (a m b : Nat) : Prop where
 out : Same d d' a b
 perm : (seg d' a b).Perm (seg d a b)
 srt : Srt le d a m → Srt le d m b → Srt le d' a b
structure Rot (d d' : Nat → α) (s m e : Nat) : Prop where
 out : Same d d' s e
 fst : ∀ i, i < e - m → d' (s + i) = d (m + i)
 snd : ∀ i, i < m - s → d' (s + (e - m) + i) = d (s + i)
theorem Rot.perm {d d':Nat→α} {s m e:Nat} (h:Rot d d' s m e) (h1:s≤m) (h2:m≤e):(seg d' s e).Perm (seg d s e):=by
 rw [Zcu d' (show s≤s+(e-m) by omega) (show s+(e-m)≤e by omega),Zcu d h1 h2];have e1:seg d' s (s+(e-m))=seg d m e:=seg_shift h.fst;have e2:seg d' (s+(e-m)) e=seg d s m:=by
  have:=seg_shift (a':=s+(e-m)) h.snd
  rwa [show s+(e-m)+(m-s)=e by omega] at this
 rw [e1,e2];exact List.perm_append_comm
structure Swp (d d' : Nat → α) (a b n : Nat) : Prop where
 fst : ∀ i, i < n → d' (a + i) = d (b + i)
 snd : ∀ i, i < n → d' (b + i) = d (a + i)
 out : ∀ i, (i < a ∨ a + n ≤ i) → (i < b ∨ b + n ≤ i) → d' i = d i
theorem Rot.last {d d':Nat→α} {m i:Nat} (hi:i≤m) (h:Swp d d' (m-i) m i):Rot d d' (m-i) m (m+i):=by
 refine ⟨fun k hk=>h.out k (by omega) (by omega),fun k hk=>h.fst k (by omega),fun k hk=>?_⟩;have:=h.snd k (by omega)
 rwa [show m-i+(m+i-m)+k=m+k by omega]
theorem Rot.left {d d1 d':Nat→α} {m i j:Nat} (hi:i≤m) (hij:j<i) (h:Swp d d1 (m-i) m j) (hr:Rot d1 d' (m-(i-j)) m (m+j)):Rot d d' (m-i) m (m+j):=by
 refine ⟨fun k hk=>?_,fun k hk=>?_,fun k hk=>?_⟩
 ·rw [hr.out k (by omega),h.out k (by omega) (by omega)]
 ·rw [hr.out _ (by omega),h.fst k (by omega)]
 ·rcases Nat.lt_or_ge k j with h1|h1
  ·have:=hr.fst k (by omega);rw [show m-i+(m+j-m)+k=m-(i-j)+k by omega,this,h.snd k h1]
  ·have:=hr.snd (k-j) (by omega);rw [show m-(i-j)+(m+j-m)+(k-j)=m-i+(m+j-m)+k by omega] at this;rw [this,show m-(i-j)+(k-j)=m-i+k by omega,h.out _ (by omega) (by omega)]
theorem Rot.right {d d1 d':Nat→α} {m i j:Nat} (hi:i≤m) (hij:i<j) (h:Swp d d1 (m-i) (m+j-i) i) (hr:Rot d1 d' (m-i) m (m+(j-i))):Rot d d' (m-i) m (m+j):=by
 refine ⟨fun k hk=>?_,fun k hk=>?_,fun k hk=>?_⟩
 ·rw [hr.out k (by omega),h.out k (by omega) (by omega)]
 ·rcases Nat.lt_or_ge k (j-i) with h1|h1
  ·rw [hr.fst k (by omega),h.out _ (by omega) (by omega)]
  ·have:=hr.snd (k-(j-i)) (by omega);rw [show m-i+(m+(j-i)-m)+(k-(j-i))=m-i+k by omega] at this;rw [this,h.fst _ (by omega)]
   congr 1;omega
 ·have:=h.snd k (by omega);rw [hr.out _ (by omega),show m-i+(m+j-m)+k=m+j-i+k by omega,this]
theorem Mrg.of_sorted {d:Nat→α} {a m b:Nat} (h:Srt le d a m→Srt le d m b→Srt le d a b):Mrg le d d a m b:=⟨fun _ _=>rfl,.refl _,h⟩
theorem Mrg.join {d d1 d2 d3 : Nat → α} {a s m e b mid : Nat} (hle : ∀ {x y z}, le x y → le y z → le x z) (h1 : a ≤ s) (h2 : s ≤ m) (h3 : m ≤ e) (h4 : e ≤ b) (hm : mid = s + (e - m))
  (hr:Rot d d1 s m e) (m1:Mrg le d1 d2 a s mid) (m2:Mrg le d2 d3 mid e b)
  (x1:Srt le d a m→Srt le d m b→s=a∨e=b∨le (d (s-1)) (d e)) (x2:Srt le d a m→Srt le d m b→s=m∨e=m∨le (d (e-1)) (d s)):Mrg le d d3 a m b:=by
 have p1:(seg d1 a b).Perm (seg d a b):=by
  rw [Zcu d1 (show a≤s by omega) (show s≤b by omega),Zcu d1 (show s≤e by omega) h4,Zcu d (show a≤s by omega) (show s≤b by omega),Zcu d (show s≤e by omega) h4,
   seg_congr (d:=d) (d':=d1) (a:=a) (b:=s) (fun i _ hi=>hr.out i (.inl hi)),seg_congr (d:=d) (d':=d1) (a:=e) (b:=b) (fun i hi _=>hr.out i (.inr hi))]
  exact (List.Perm.append_left _ ((hr.perm h2 h3).append_right _))
 have q1:seg d2 mid b=seg d1 mid b:=seg_congr fun i hi _=>m1.out i (.inr hi);have q2:seg d3 a mid=seg d2 a mid:=seg_congr fun i _ hi=>m2.out i (.inl hi);refine ⟨fun i hi=>?_,?_,fun sA sB=>?_⟩
 ·rw [m2.out i (by omega),m1.out i (by omega),hr.out i (by omega)]
 ·refine List.Perm.trans ?_ p1;rw [Zcu d3 (show a≤mid by omega) (show mid≤b by omega),Zcu d1 (show a≤mid by omega) (show mid≤b by omega),q2,← q1];exact m1.perm.append m2.perm
 ·have sl:∀ i,a≤i→i<s→d1 i=d i:=fun i _ hi=>hr.out i (.inl hi);have sr:∀ i,e≤i→i<b→d1 i=d i:=fun i hi _=>hr.out i (.inr hi);have s2:Srt le d2 a mid:=by
   refine m1.srt (fun i j hi hij hj=>?_) (fun i j hi hij hj=>?_)
   ·rw [sl i hi (by omega),sl j (by omega) hj];exact sA i j hi hij (by omega)
   ·have e1:=hr.fst (i-s) (by omega);have e2:=hr.fst (j-s) (by omega);rw [show s+(i-s)=i by omega] at e1;rw [show s+(j-s)=j by omega] at e2;rw [e1,e2];exact sB _ _ (by omega) (by omega) (by omega)
  have s3:Srt le d3 mid b:=by
   refine m2.srt (fun i j hi hij hj=>?_) (fun i j hi hij hj=>?_)
   ·rw [m1.out i (.inr hi),m1.out j (.inr (by omega))];have e1:=hr.snd (i-mid) (by omega);have e2:=hr.snd (j-mid) (by omega);rw [show s+(e-m)+(i-mid)=i by omega] at e1;rw [show s+(e-m)+(j-mid)=j by omega] at e2;rw [e1,e2];exact sA _ _ (by omega) (by omega) (by omega)
   ·rw [m1.out i (.inr (by omega)),m1.out j (.inr (by omega)),sr i hi (by omega),sr j (by omega) hj];exact sB i j (by omega) hij hj
  intro i j hi hij hj;by_cases hjm:j<mid
  ·rw [m2.out i (.inl (by omega)),m2.out j (.inl hjm)];exact s2 i j hi hij hjm
  by_cases him:mid≤i
  ·exact s3 i j him hij hj
  have xi:d3 i∈seg d1 a mid:=m1.perm.mem_iff.1 (q2▸mem_seg.2 ⟨i,hi,by omega,rfl⟩);have yj:d3 j∈seg d1 mid b:=q1▸(m2.perm.mem_iff.1 (mem_seg.2 ⟨j,by omega,hj,rfl⟩));obtain ⟨k,k1,k2,k3⟩:=mem_seg.1 xi;obtain ⟨n,n1,n2,n3⟩:=mem_seg.1 yj;rw [← k3,← n3];have lA:∀ u v,a≤u→u≤v→v<m→u=v∨le (d u) (d v):=fun u v h h' h''=>by
   rcases Nat.lt_or_ge u v with hh|hh
   ·exact .inr (sA u v h hh h'')
   ·exact .inl (by omega)
  have lB:∀ u v,m≤u→u≤v→v<b→u=v∨le (d u) (d v):=fun u v h h' h''=>by
   rcases Nat.lt_or_ge u v with hh|hh
   ·exact .inr (sB u v h hh h'')
   ·exact .inl (by omega)
  have trL:∀ u v w,(u=v∨le (d u) (d v))→le (d v) (d w)→le (d u) (d w):=fun u v w h h'=>by
   rcases h with rfl|h
   ·exact h'
   ·exact hle h h'
  have trR:∀ u v w,le (d u) (d v)→(v=w∨le (d v) (d w))→le (d u) (d w):=fun u v w h h'=>by
   rcases h' with rfl|h'
   ·exact h
   ·exact hle h h'
  have src1:(∃ u,a≤u∧u<s∧d1 k=d u)∨(∃ u,m≤u∧u<e∧d1 k=d u):=by
   by_cases hk:k<s
   ·exact .inl ⟨k,k1,hk,sl k k1 hk⟩
   ·have e1:=hr.fst (k-s) (by omega);rw [show s+(k-s)=k by omega] at e1;exact .inr ⟨m+(k-s),by omega,by omega,e1⟩
  have src2:(∃ u,s≤u∧u<m∧d1 n=d u)∨(∃ u,e≤u∧u<b∧d1 n=d u):=by
   by_cases hn:n<e
   ·have e1:=hr.snd (n-mid) (by omega);rw [show s+(e-m)+(n-mid)=n by omega] at e1;exact .inl ⟨s+(n-mid),by omega,by omega,e1⟩
   ·exact .inr ⟨n,by omega,n2,sr n (by omega) n2⟩
  rcases src1 with ⟨u,u1,u2,u3⟩|⟨u,u1,u2,u3⟩<;>rcases src2 with ⟨v,v1,v2,v3⟩|⟨v,v1,v2,v3⟩<;>rw [u3,v3]
  ·exact sA u v u1 (by omega) v2
  ·rcases x1 sA sB with h|h|h
   ·omega
   ·omega
   ·exact trR _ _ _ (trL _ _ _ (lA u (s-1) u1 (by omega) (by omega)) h) (lB e v h3 v1 v2)
  ·rcases x2 sA sB with h|h|h
   ·omega
   ·omega
   ·exact trR _ _ _ (trL _ _ _ (lB u (e-1) u1 (by omega) (by omega)) h) (lA s v h1 v1 v2)
  ·exact sB u v u1 (by omega) v2
theorem Swp.one {d:Nat→α} {d':Nat→α} {k:Nat} (h1:d' k=d (k+1)) (h2:d' (k+1)=d k) (ho:∀ i,i≠k→i≠k+1→d' i=d i):Swp d d' k (k+1) 1 :=
  ⟨fun i hi => by obtain rfl : i = 0 := by omega
                  exact h1, fun i hi => by obtain rfl : i = 0 := by omega
                                           exact h2,fun i h h'=>ho i (by omega) (by omega)⟩
theorem Swp.perm {d d':Nat→α} {k a b:Nat} (h:Swp d d' k (k+1) 1) (h1:a≤k) (h2:k+1<b):(seg d' a b).Perm (seg d a b):=by
 have hr:Rot d d' k (k+1) (k+2):=by
  refine ⟨fun i hi=>h.out i (by omega) (by omega),fun i hi=>?_,fun i hi=>?_⟩
  ·obtain rfl:i=0:=by omega
   exact h.fst 0 (by omega)
  ·obtain rfl:i=0:=by omega
   have:=h.snd 0 (by omega)
   rwa [show k+1+0=k+(k+2-(k+1))+0 by omega] at this
 rw [Zcu d' (show a≤k by omega) (show k≤b by omega),Zcu d' (show k≤k+2 by omega) (show k+2≤b by omega),Zcu d (show a≤k by omega) (show k≤b by omega),Zcu d (show k≤k+2 by omega) (show k+2≤b by omega),
  seg_congr (d:=d) (d':=d') (a:=a) (b:=k) (fun i _ hi=>h.out i (by omega) (by omega)),seg_congr (d:=d) (d':=d') (a:=k+2) (b:=b) (fun i hi _=>h.out i (by omega) (by omega))]
 exact List.Perm.append_left _ ((hr.perm (by omega) (by omega)).append_right _)
theorem Rot.refl_left (d:Nat→α) (a:Nat):Rot d d a (a+1) (a+1):=⟨fun _ _=>rfl,fun i hi=>by omega,fun i hi=>by rw [show a+(a+1-(a+1))+i=a+i by omega]⟩
theorem Rot.refl_right (d:Nat→α) (m:Nat):Rot d d m m (m+1):=⟨fun _ _=>rfl,fun i hi=>rfl,fun i hi=>by omega⟩
theorem Rot.up {d d1 d':Nat→α} {a k:Nat} (hk:a≤k) (hr:Rot d d1 a (a+1) (k+1)) (h:Swp d1 d' k (k+1) 1):Rot d d' a (a+1) (k+2):=by
 have f0:=h.fst 0 (by omega);have s0:=h.snd 0 (by omega);simp only [Nat.add_zero] at f0 s0;refine ⟨fun i hi=>?_,fun i hi=>?_,fun i hi=>?_⟩
 ·rw [h.out i (by omega) (by omega),hr.out i (by omega)]
 ·rcases Nat.lt_or_ge (a+i) k with h1|h1
  ·rw [h.out _ (by omega) (by omega),hr.fst i (by omega)]
  ·rw [show a+i=k by omega,f0,hr.out (k+1) (by omega)]
   congr 1;omega
 ·obtain rfl:i=0:=by omega
  have:=hr.snd 0 (by omega);rw [show a+(k+1-(a+1))+0=k by omega] at this;rw [show a+(k+2-(a+1))+0=k+1 by omega,s0,this]
theorem Rot.down {d d1 d':Nat→α} {m k:Nat} (hk:k+1≤m) (hr:Rot d d1 (k+1) m (m+1)) (h:Swp d1 d' k (k+1) 1):Rot d d' k m (m+1):=by
 have f0:=h.fst 0 (by omega);have s0:=h.snd 0 (by omega);simp only [Nat.add_zero] at f0 s0;refine ⟨fun i hi=>?_,fun i hi=>?_,fun i hi=>?_⟩
 ·rw [h.out i (by omega) (by omega),hr.out i (by omega)]
 ·obtain rfl:i=0:=by omega
  have:=hr.fst 0 (by omega);simp only [Nat.add_zero] at this ⊢;rw [f0,this]
 ·rcases Nat.eq_zero_or_pos i with h1|h1
  ·subst h1;rw [show k+(m+1-m)+0=k+1 by omega,s0,hr.out k (by omega)];rfl
  ·rw [h.out _ (by omega) (by omega)];have:=hr.snd (i-1) (by omega);rw [show k+1+(m+1-m)+(i-1)=k+(m+1-m)+i by omega] at this;rw [this]
   congr 1;omega
theorem Mrg.ins_left {d d':Nat→α} {a i b:Nat} (hle:∀ {x y z},le x y→le y z→le x z) (h1:a+1≤i) (h2:i≤b) (hr:Rot d d' a (a+1) i) (x1:i=b∨le (d a) (d i)) (x2:i=a+1∨le (d (i-1)) (d a)):Mrg le d d' a (a+1) b:=by
 refine Mrg.join (s:=a) (e:=i) (mid:=a+(i-(a+1))) (d2:=d') hle (by omega) (by omega) h1 h2 rfl hr (.of_sorted fun _ h=>h) (.of_sorted fun _ sB=>?_) (fun _ _=>.inl rfl) (fun _ _=>?_)
 ·intro u v hu huv hv;rcases Nat.lt_or_ge u i with hui|hui
  ·have hd:=hr.snd 0 (by omega);rw [show a+(i-(a+1))+0=u by omega,Nat.add_zero] at hd;have ho:∀ w,i≤w→d' w=d w:=fun w hw=>hr.out w (.inr hw);rw [hd,ho v (by omega)];rcases x1 with x1|x1
   ·omega
   ·rcases Nat.lt_or_ge i v with hv'|hv'
    ·have:=sB i v (Nat.le_refl _) hv' hv;rw [ho i (Nat.le_refl _),ho v (by omega)] at this;exact hle x1 this
    ·obtain rfl:v=i:=by omega
     exact x1
  ·exact sB u v hui huv hv
 ·rcases x2 with x2|x2
  ·exact .inr (.inl x2)
  ·exact .inr (.inr x2)
theorem Mrg.ins_right {d d':Nat→α} {a i m:Nat} (hle:∀ {x y z},le x y→le y z→le x z) (h1:a≤i) (h2:i≤m) (hr:Rot d d' i m (m+1)) (x1:i=a∨le (d (i-1)) (d m)) (x2:i=m∨le (d m) (d i)):Mrg le d d' a m (m+1):=by
 refine Mrg.join (s:=i) (e:=m+1) (mid:=i+(m+1-m)) (d2:=d') hle h1 h2 (by omega) (by omega) rfl hr (.of_sorted fun sA _=>?_) (.of_sorted fun h _=>h) (fun _ _=>.inr (.inl rfl)) (fun _ _=>?_)
 ·intro u v hu huv hv;rcases Nat.lt_or_ge v i with hvi|hvi
  ·exact sA u v hu huv hvi
  ·obtain rfl:v=i:=by omega
   have hd:=hr.fst 0 (by omega);simp only [Nat.add_zero] at hd;have ho:∀ w,w<v→d' w=d w:=fun w hw=>hr.out w (.inl hw);rw [hd,ho u huv];rcases x1 with x1|x1
   ·omega
   ·rcases Nat.lt_or_ge u (v-1) with hu'|hu'
    ·have:=sA u (v-1) hu hu' (by omega);rw [ho u huv,ho (v-1) (by omega)] at this;exact hle this x1
    ·obtain rfl:u=v-1:=by omega
     exact x1
 ·rcases x2 with x2|x2
  ·exact .inl x2
  ·exact .inr (.inr x2)
theorem cut_of_search {d : Nat → α} {a m b mid n s st r : Nat} (hn : n = mid + m) (hmid : a ≤ mid ∧ mid ≤ b) (hs : st ≤ s ∧ s ≤ r) (hb : s ≤ n ∧ n ≤ s + b)
  (hst:st=a∨st+b=n) (hr:r=m∨r=mid) (g1:s=st∨le (d (s-1)) (d (n-1-(s-1)))) (g2:s=r∨le (d (n-1-s)) (d s)) :
  (s=a∨n-s=b∨le (d (s-1)) (d (n-s)))∧(s=m∨n-s=m∨le (d (n-s-1)) (d s)):=by
 constructor
 ·rcases g1 with g1|g1
  ·omega
  ·rcases Nat.eq_zero_or_pos s with h0|h0
   ·omega
   ·rw [show n-1-(s-1)=n-s by omega] at g1;exact .inr (.inr g1)
 ·rcases g2 with g2|g2
  ·omega
  ·rw [show n-1-s=n-s-1 by omega] at g2;exact .inr (.inr g2)
def Ins (le:α→α→Prop) (d:Nat→α) (a i j:Nat):Prop:=∀ x y,a≤x→x<y→y≤i→y≠j→le (d x) (d y)
theorem Ins.start {d:Nat→α} {a i:Nat} (h:Srt le d a i):Ins le d a i i:=fun x y h1 h2 h3 h4=>h x y h1 h2 (by omega)
theorem Ins.step {d d':Nat→α} {a i k:Nat} (h:Ins le d a i (k+1)) (hk:k+1≤i) (ha:a≤k) (hs:Swp d d' k (k+1) 1) (hl:le (d (k+1)) (d k)):Ins le d' a i k:=by
 have f0:=hs.fst 0 (by omega);have s0:=hs.snd 0 (by omega);simp only [Nat.add_zero] at f0 s0;have ho:∀ w,w≠k→w≠k+1→d' w=d w:=fun w h1 h2=>hs.out w (by omega) (by omega);intro x y h1 h2 h3 h4;by_cases hy:y=k+1
 ·subst hy;rw [s0];by_cases hx:x=k
  ·subst hx;rw [f0];exact hl
  ·rw [ho x hx (by omega)];exact h x k h1 (by omega) (by omega) (by omega)
 ·rw [ho y h4 hy];by_cases hx:x=k
  ·subst hx;rw [f0];exact h (x+1) y (by omega) (by omega) h3 hy
  ·by_cases hx':x=k+1
   ·subst hx';rw [s0];exact h k y ha (by omega) h3 hy
   ·rw [ho x hx hx'];exact h x y h1 h2 h3 hy
theorem Ins.done {d:Nat→α} {a i j:Nat} (hle:∀ {x y z},le x y→le y z→le x z) (h:Ins le d a i j) (hj:j=a∨a<j∧le (d (j-1)) (d j)):Srt le d a (i+1):=by
 intro x y h1 h2 h3;by_cases hy:y=j
 ·subst hy;rcases hj with hj|⟨hj,hl⟩
  ·omega
  ·rcases Nat.lt_or_ge x (y-1) with h4|h4
   ·exact hle (h x (y-1) h1 h4 (by omega) (by omega)) hl
   ·obtain rfl:x=y-1:=by omega
    exact hl
 ·exact h x y h1 h2 (by omega) hy
end
section
variable {α : Type} {le : α → α → Prop}
theorem perm_sorted_eq {r:α→α→Prop}:∀ {l m:List α},l.Perm m→l.Pairwise r→m.Pairwise r→(∀ x∈l,∀ y∈l,r x y→r y x→x=y)→l=m
 | [],m,h,_,_,_=>(List.nil_perm.1 h).symm
 | x::l,[],h,_,_,_=>by have:=h.length_eq;simp at this
 | x::l,y::m,h,h1,h2,ha=>by
  have hxy:x=y:=by
   have hx:x∈y::m:=h.mem_iff.1 List.mem_cons_self;have hy:y∈x::l:=h.mem_iff.2 List.mem_cons_self;rcases List.mem_cons.1 hx with e|hx'
   ·exact e
   rcases List.mem_cons.1 hy with e|hy'
   ·exact e.symm
   exact ha x List.mem_cons_self y hy ((List.pairwise_cons.1 h1).1 y hy') ((List.pairwise_cons.1 h2).1 x hx')
  subst hxy;rw [perm_sorted_eq ((List.perm_cons x).1 h) (List.pairwise_cons.1 h1).2 (List.pairwise_cons.1 h2).2 (fun a ha' b hb'=>ha a (Zx7 _ ha') b (Zx7 _ hb'))]
theorem Srt.pairwise {d:Nat→α} {a b:Nat} (h:Srt le d a b):(seg d a b).Pairwise le:=by
 unfold seg;rw [List.pairwise_map];refine List.Pairwise.imp_of_mem (fun {i j} hi hj hij=>?_) List.pairwise_lt_range';have h1:=List.mem_range'_1.1 hi;have h2:=List.mem_range'_1.1 hj;exact h i j h1.1 hij (by omega)
def rowF [Inhabited α] (l:List α):Nat→α:=fun i=>l.getD i default
theorem seg_rowF [Inhabited α] (l:List α):seg (rowF l) 0 l.length=l:=by
 refine List.ext_getElem (by simp [seg]) fun i h1 h2=>?_;simp [seg,rowF,Zx1,h2]
def Blk (le:α→α→Prop) (d:Nat→α) (bs lo hi:Nat):Prop:=∀ q i j,lo≤i→q*bs≤i→i<j→j<q*bs+bs→j<hi→le (d i) (d j)
theorem Blk.zero {d:Nat→α} {bs:Nat}:Blk le d bs 0 0:=fun _ _ _ _ _ _ _ h=>absurd h (Nat.not_lt_zero _)
theorem Blk.more {d d':Nat→α} {bs q0 b:Nat} (h:Blk le d bs 0 (q0*bs)) (ho:Same d d' (q0*bs) b) (hs:Srt le d' (q0*bs) b) (hb:b≤q0*bs+bs):Blk le d' bs 0 b:=by
 intro q i j _ h1 h2 h3 h4;rcases Nat.lt_or_ge q q0 with hq|hq
 ·have h5:(q+1)*bs≤q0*bs:=Nat.mul_le_mul_right bs hq;rw [Nat.add_mul,Nat.one_mul] at h5;rw [ho i (by omega),ho j (by omega)];exact h q i j (Nat.zero_le _) h1 h2 h3 (by omega)
 ·have h5:q0*bs≤q*bs:=Nat.mul_le_mul_right bs hq;exact hs i j (by omega) h2 h4
theorem Blk.merge {d d' : Nat → α} {bs q0 b n : Nat} (h1 : Blk le d (2 * bs) 0 (q0 * (2 * bs))) (h2 : Blk le d bs (q0 * (2 * bs)) n) (hbn : b ≤ n) (hb : b ≤ q0 * (2 * bs) + 2 * bs) (hbm : q0 * (2 * bs) + bs ≤ b)
  (hm:Mrg le d d' (q0*(2*bs)) (q0*(2*bs)+bs) b):Blk le d' (2*bs) 0 b∧Blk le d' bs b n:=by
 have e0:q0*(2*bs)=(2*q0)*bs:=by rw [Nat.mul_comm 2 q0,Nat.mul_assoc]
 have e1:q0*(2*bs)+bs=(2*q0+1)*bs:=by rw [Nat.add_mul,Nat.one_mul,e0]
 refine ⟨Blk.more h1 hm.out (hm.srt (fun i j x1 x2 x3=>?_) (fun i j x1 x2 x3=>?_)) hb,fun q i j x0 x1 x2 x3 x4=>?_⟩
 ·exact h2 (2*q0) i j x1 (by omega) x2 (by omega) (by omega)
 ·exact h2 (2*q0+1) i j (by omega) (by omega) x2 (by omega) (by omega)
 ·rw [hm.out i (by omega),hm.out j (by omega)];exact h2 q i j (by omega) x1 x2 x3 x4
theorem Blk.rest {d:Nat→α} {bs q0 n:Nat} (h1:Blk le d (2*bs) 0 (q0*(2*bs))) (h2:Blk le d bs (q0*(2*bs)) n) (hn:n≤q0*(2*bs)+bs):Blk le d (2*bs) 0 n:=by
 have e0:q0*(2*bs)=(2*q0)*bs:=by rw [Nat.mul_comm 2 q0,Nat.mul_assoc]
 rcases Nat.lt_or_ge n (q0*(2*bs)) with hlt|hge
 ·intro q i j x0 x1 x2 x3 x4;exact h1 q i j x0 x1 x2 x3 (by omega)
 ·exact Blk.more h1 (fun _ _=>rfl) (fun i j x1 x2 x3=>h2 (2*q0) i j x1 (by omega) x2 (by omega) x3) (by omega)
theorem Blk.all {d:Nat→α} {bs n:Nat} (h:Blk le d bs 0 n) (hn:n≤bs):Srt le d 0 n:=fun i j h1 h2 h3=>h 0 i j h1 (by omega) h2 (by omega) h3
end
def lineI (u:Un) (E:List Nat) (k:Un):Nat:=E.findIdx fun (e:Nat)=>decide (Zag u k+(2+(u.head.length:Int))<(e:Int))
def ntsP (w:Int) (u:Un) (E:List Nat) (ks:List Un) (i:Nat):List Str:=(ks.filter fun k=>decide (0≤Zag u k)&&(lineI u E k==i)).flatMap (Zaz w)
def tbP (u:Un) (ks:List Un):Bool:=ks.any fun k=>decide (Zag u k<0)
def ownQ (w:Int) (u:Un) (ks:List Un):List Ln:=(List.range (Zaz w u).length).map fun i=>⟨idU u,(Zaz w u).getD i [],ntsP w u (Zbu w (rowT u)) ks i,tbP u ks&&(i+1==(Zaz w u).length)⟩
def KeyU (u:Un):Prop:=u.kids.Pairwise fun a b=>0≤Zag u a→Zag u a≠Zag u b
theorem rises_pair {n:Nat}:∀ {E:List Nat} {a:Nat},Zcf n a E=true→E.Pairwise (·<·)∧∀ e∈E,a<e∧e≤n
  | [],_,_=>⟨.nil,fun e h=>by cases h⟩
  | x::r,a,h=>by
    rw [Zcf] at h;simp only [Zx4,Bool.not_eq_true',Bool.or_eq_false_iff,Zx2] at h;obtain ⟨h1,h2⟩:=rises_pair h.2;refine ⟨List.pairwise_cons.2 ⟨fun e he=>(h2 e he).1,h1⟩,fun e he=>?_⟩;rcases List.mem_cons.1 he with rfl|he
    · omega
    · have:=h2 e he;omega
theorem rises_end {n:Nat}:∀ {E:List Nat} {a x:Nat},Zcf n a E=true→a≤x→x<n→∃ e∈E,x<e
 | [],a,x,h,h1,h2=>by rw [Zcf,beq_iff_eq] at h;omega
 | e::r,a,x,h,h1,h2=>by
  rw [Zcf] at h;simp only [Zx4,Bool.not_eq_true',Bool.or_eq_false_iff,Zx2] at h;by_cases hx:x<e
  ·exact ⟨e,List.mem_cons_self,hx⟩
  ·obtain ⟨y,hy,hxy⟩:=rises_end h.2 (show e≤x by omega) h2;exact ⟨y,Zx7 _ hy,hxy⟩
theorem calledT_lt (u k:Un):Zag u k<(u.words.length:Int)∨Zag u k = -1:=by
 unfold Zag;split
 ·rcases idxF_bd (callsB k) u.words with h|h
  ·exact .inl h.2
  ·exact .inr h
 ·exact .inr rfl
theorem lineI_lt {w:Int} {u k:Un} (hw:Zcr w (rowT u)=0) (hk:0≤Zag u k):lineI u (Zbu w (rowT u)) k<(Zbu w (rowT u)).length:=by
 have hr:=Zcg hw;have hlen:=rowT_len u;have hc:=calledT_lt u k;obtain ⟨e,he,hx⟩:=rises_end (x:=(Zag u k).toNat+2+u.head.length) hr (Nat.zero_le _) (by omega);refine List.findIdx_lt_length_of_exists ⟨e,he,?_⟩;rw [Zx3];omega
theorem ntsP_step (w:Int) (u:Un) (E:List Nat) (i:Nat) {ks:List Un} {j:Nat} (h:j<ks.length):ntsP w u E (ks.take (j+1)) i=ntsP w u E (ks.take j) i++(if (decide (0≤Zag u ks[j])&&(lineI u E ks[j]==i))=true then Zaz w ks[j] else []):=by
 unfold ntsP;rw [List.take_add_one,List.getElem?_eq_getElem h,Option.toList_some,List.filter_append,List.flatMap_append]
 congr 1
 cases hq:(decide (0≤Zag u ks[j])&&(lineI u E ks[j]==i)) with
 | true=>rw [List.filter_cons_of_pos (by exact hq),if_pos rfl];simp
 | false=>rw [List.filter_cons_of_neg (by rw [hq];exact Bool.false_ne_true)];rfl
theorem tbP_step (u:Un) {ks:List Un} {j:Nat} (h:j<ks.length):tbP u (ks.take (j+1))=(tbP u (ks.take j)||decide (Zag u ks[j]<0)):=by
 unfold tbP;rw [List.take_add_one,List.getElem?_eq_getElem h,Option.toList_some,List.any_append];simp
theorem ntsP_le {u:Un} (w:Int) (E:List Nat) {ks:List Un} (hs:∀ k∈ks,SmU k) (i:Nat):(ntsP w u E ks i).length≤ks.length*602:=by
 unfold ntsP;refine Nat.le_trans (flatMap_le _ 602 _ fun k hk=>linesU_le (hs k (List.mem_filter.1 hk).1) w) ?_;exact Nat.mul_le_mul_right _ (List.length_filter_le _ _)
def frI (u:Un) (E:List Nat) (i:Nat):Nat:=if i=0 then 0 else toN u (E.getD (i-1) 0)
theorem ownF_range {w:Int} {u:Un} {t:Bool} {l:List Str} {E:List Nat} (hE:l.length=E.length):∀ (m i:Nat),m=l.length-i→i≤l.length→ownF w u t (frI u E i) (l.drop i) (E.drop i)=(List.range' i m).map fun j=>⟨idU u,l.getD j [],notesR w u (frI u E j) (toN u (E.getD j 0)),t&&(j+1==l.length)⟩
 | 0,i,h,h2=>by
  have:i=l.length:=by omega
  subst this;rw [List.drop_length];have:ownF w u t (frI u E l.length) [] (E.drop l.length)=[]:=by rw [ownF];intros;simp_all
  rw [this];rfl
 | m+1,i,h,h2=>by
  have hi:i<l.length:=by omega
  have hi2:i<E.length:=by omega
  have hfr:frI u E (i+1)=toN u E[i]:=by
   unfold frI;rw [if_neg (by omega),Nat.add_sub_cancel,Zx1,List.getElem?_eq_getElem hi2];rfl
  rw [ownF_step hi hi2,← hfr,ownF_range hE m (i+1) (by omega) (by omega),List.range'_succ,List.map_cons]
  congr 2
  ·rw [Zx1,List.getElem?_eq_getElem hi];rfl
def calF (u:Un) (ks:List Un) (a b:Nat):List Un:=(List.range' a (b-a)).flatMap fun (j:Nat)=>ks.filter fun k=>Zag u k==(j:Int)
theorem notesR_calF (w:Int) (u:Un) (a b:Nat):notesR w u a b=(calF u u.kids a b).flatMap (Zaz w):=by
 unfold notesR calF notesK;rw [List.flatMap_assoc]
theorem calF_step (u:Un) (ks:List Un) {a b:Nat} (h:a≤b):calF u ks a (b+1)=calF u ks a b++ks.filter fun k=>Zag u k==(b:Int):=by
 unfold calF;rw [show b+1-a=(b-a)+1 by omega,List.range'_1_concat,List.flatMap_append,List.flatMap_cons,List.flatMap_nil,List.append_nil,show a+(b-a)=b by omega]
theorem filter_two {α:Type} {p q r:α→Bool} (h:∀ x,r x=(p x||q x)) (hd:∀ x,p x=true→q x=false):∀ l:List α,(l.filter p++l.filter q).Perm (l.filter r)
 | []=>.refl _
 | x::l=>by
  have ih:=filter_two h hd l;have hr:=h x;cases hp:p x with
  | true =>
   have hq:=hd x hp;rw [hp,Bool.true_or] at hr;rw [List.filter_cons_of_pos (by exact hp),List.filter_cons_of_neg (by rw [hq];exact Bool.false_ne_true),List.filter_cons_of_pos (by exact hr),List.cons_append];exact ih.cons x
  | false =>
   cases hq:q x with
   | true =>
    rw [hp,hq] at hr;rw [List.filter_cons_of_neg (by rw [hp];exact Bool.false_ne_true),List.filter_cons_of_pos (by exact hq),List.filter_cons_of_pos (by exact hr)];exact List.perm_middle.trans (ih.cons x)
   | false =>
    rw [hp,hq] at hr;rw [List.filter_cons_of_neg (by rw [hp];exact Bool.false_ne_true),List.filter_cons_of_neg (by rw [hq];exact Bool.false_ne_true),List.filter_cons_of_neg (by rw [hr];exact Bool.false_ne_true)];exact ih
theorem calF_perm (u:Un) (ks:List Un) (a:Nat):∀ m,(calF u ks a (a+m)).Perm (ks.filter fun k=>decide ((a:Int)≤Zag u k)&&decide (Zag u k<((a+m:Nat):Int)))
 | 0=>by
  have h1:calF u ks a (a+0)=[]:=by unfold calF;rw [Nat.add_zero,Nat.sub_self];rfl
  rw [h1];have h2:(ks.filter fun k=>decide ((a:Int)≤Zag u k)&&decide (Zag u k<((a+0:Nat):Int)))=[]:=by
   rw [List.filter_eq_nil_iff];intro x _;simp only [Zx4,Zx3];omega
  rw [h2]
 | m+1=>by
  rw [← Nat.add_assoc,calF_step u ks (by omega)];refine ((calF_perm u ks a m).append_right _).trans ?_;refine filter_two (fun x=>?_) (fun x hx=>?_) ks
  ·rw [Bool.eq_iff_iff];simp only [Zx4,Bool.or_eq_true,Zx3,beq_iff_eq];omega
  ·simp only [Zx4,Zx3] at hx;rw [beq_eq_false_iff_ne];omega
theorem key_ne {u:Un} {l:List Un} (h:l.Pairwise fun a b=>0≤Zag u a→Zag u a≠Zag u b) (j:Nat):(l.filter fun k=>Zag u k==(j:Int)).Pairwise fun a b=>Zag u a<Zag u b:=by
 refine (List.Pairwise.filter _ h).imp_of_mem fun {a b} ha hb hab=>?_;have h1:=(List.mem_filter.1 ha).2;have h2:=(List.mem_filter.1 hb).2;rw [beq_iff_eq] at h1 h2;exact absurd (h1.trans h2.symm) (hab (by omega))
theorem calF_sorted {u:Un} (h:KeyU u) (a:Nat):∀ m,(calF u u.kids a (a+m)).Pairwise fun x y=>Zag u x<Zag u y
 | 0=>by
  have h1:calF u u.kids a (a+0)=[]:=by unfold calF;rw [Nat.add_zero,Nat.sub_self];rfl
  rw [h1];exact .nil
 | m+1=>by
  rw [← Nat.add_assoc,calF_step u u.kids (by omega)];refine List.pairwise_append.2 ⟨calF_sorted h a m,key_ne h (a+m),fun x hx y hy=>?_⟩;have h1:=(List.mem_filter.1 ((calF_perm u u.kids a m).mem_iff.1 hx)).2;have h2:=(List.mem_filter.1 hy).2;simp only [Zx4,Zx3,beq_iff_eq] at h1 h2;omega
theorem nts_eq {w:Int} {u:Un} {ks:List Un} (hk:KeyU u) (hp:ks.Perm u.kids) (hs:ks.Pairwise (leU u)) {E:List Nat} (hE:E.Pairwise (·<·)) {i:Nat} (hi:i<E.length):ntsP w u E ks i=notesR w u (frI u E i) (toN u (E.getD i 0)):=by
  have hEi:E.getD i 0=E[i]:=by rw [Zx1,List.getElem?_eq_getElem hi];rfl
  rw [hEi];have hmono:∀ (x y:Nat) (hx:x<E.length) (hy:y<E.length),x<y→E[x]<E[y]:=fun x y hx hy hxy=>List.pairwise_iff_getElem.1 hE x y hx hy hxy;have hfr:frI u E i≤toN u E[i]:=by
    unfold frI;split
    · omega
    · rename_i h0
      have hi1:i-1<E.length:=by omega
      have:=hmono (i-1) i hi1 hi (by omega);rw [Zx1,List.getElem?_eq_getElem hi1];unfold toN;show E[i-1]-_≤_;omega
  rw [notesR_calF];unfold ntsP
  congr 1
  have hpred:∀ k:Un,(decide (0≤Zag u k)&&(lineI u E k==i))=(decide ((frI u E i:Int)≤Zag u k)&&decide (Zag u k<((toN u E[i]:Nat):Int))):=by
    intro k;rw [Bool.eq_iff_iff];simp only [Zx4,Zx3,beq_iff_eq];have hli:lineI u E k=i↔(Zag u k+(2+(u.head.length:Int))<(E[i]:Int))∧∀ (j:Nat) (hj:j<i),¬ (Zag u k+(2+(u.head.length:Int))<(E[j]:Int)):=by
      unfold lineI;rw [List.findIdx_eq hi];simp only [Zx3,Zx2]
    rw [hli];have hto:∀ (e:Nat),0≤Zag u k→(Zag u k<((toN u e:Nat):Int)↔Zag u k+(2+(u.head.length:Int))<(e:Int)):=by
      intro e h0;unfold toN;omega
    constructor
    · rintro ⟨h0,h1,h2⟩
      refine ⟨?_,(hto _ h0).2 h1⟩;unfold frI;split
      · exact h0
      · rename_i hz
        have hi1:i-1<E.length:=by omega
        have:=h2 (i-1) (by omega);rw [Zx1,List.getElem?_eq_getElem hi1];have h3:=(not_congr (hto E[i-1] h0)).2 this;show ((toN u E[i-1]:Nat):Int)≤_;omega
    · rintro ⟨h1,h2⟩
      have h0:0≤Zag u k:=by omega
      refine ⟨h0,(hto _ h0).1 h2,fun j hj hlt=>?_⟩;have h3:=(hto E[j] h0).2 hlt;unfold frI at h1;rw [if_neg (by omega)] at h1;have hi1:i-1<E.length:=by omega
      rw [Zx1,List.getElem?_eq_getElem hi1] at h1;have h1':((toN u E[i-1]:Nat):Int)≤Zag u k:=h1;have h4:E[j]≤E[i-1]:=by
        by_cases e:j=i-1
        · subst e;exact Nat.le_refl _
        · exact Nat.le_of_lt (hmono j (i-1) (by omega) hi1 (by omega))
      unfold toN at h3 h1';omega
  have hfun:(fun k=>decide (0≤Zag u k)&&(lineI u E k==i))=fun k=>decide ((frI u E i:Int)≤Zag u k)&&decide (Zag u k<((toN u E[i]:Nat):Int)):=funext hpred;rw [hfun];obtain ⟨m,hm⟩:∃ m,toN u E[i]=frI u E i+m:=⟨toN u E[i]-frI u E i,by omega⟩;rw [hm];have hks:ks.Pairwise fun a b=>0≤Zag u a→Zag u a≠Zag u b:=by
    refine (hp.symm.pairwise_iff (fun {x y} hxy h1 h2=>?_)).1 hk;exact hxy (by rw [← h2];exact h1) h2.symm
  refine perm_sorted_eq (r:=fun x y=>Zag u x<Zag u y) ((hp.filter _).trans (calF_perm u u.kids (frI u E i) m).symm) ?_ (calF_sorted hk _ m) (fun x _ y _ h1 h2=>by omega);refine (List.Pairwise.filter _ (List.Pairwise.and hs hks)).imp_of_mem fun {a b} ha hb hab=>?_;have h1:=(List.mem_filter.1 ha).2;simp only [Zx4,Zx3] at h1;have h2:=leU_iff.1 hab.1;have h3:=hab.2 (by omega);omega
theorem ownQ_eq {w:Int} {u:Un} {ks:List Un} (hw:Zcr w (rowT u)=0) (hk:KeyU u) (hp:ks.Perm u.kids) (hs:ks.Pairwise (leU u)):ownQ w u ks=ownL w u:=by
 have hlen:=linesU_len w u;have hr:=rises_pair (Zcg hw);have h0:=ownF_range (w:=w) (u:=u) (t:=tiedU u) hlen (Zaz w u).length 0 (by omega) (Nat.zero_le _);have hf0:frI u (Zbu w (rowT u)) 0=0:=rfl;rw [hf0,List.drop_zero,List.drop_zero] at h0;unfold ownL ownQ;rw [h0,List.range_eq_range'];refine List.map_congr_left fun i hi=>?_;rw [List.mem_range'_1] at hi;have ht:tbP u ks=tiedU u:=by
  unfold tbP tiedU;rw [Bool.eq_iff_iff,List.any_eq_true,List.any_eq_true];constructor
  ·rintro ⟨x,h1,h2⟩;exact ⟨x,hp.mem_iff.1 h1,h2⟩
  ·rintro ⟨x,h1,h2⟩;exact ⟨x,hp.mem_iff.2 h1,h2⟩
 rw [nts_eq hk hp hs hr.1 (by omega),ht]
end Go.VM
namespace Go.Proofs.w
open Go Go.VM
def Zb0:VC:=(ZR [ZO 10 (.mv (.c (.int .i64 0)))] (.block 0 (.loop (.seq (ZR [ZM 11 10,ZM 12 3,ZO 13 (.bin .lss (.t 11) (.t 12))] (.cond (.t 13) .skip (.exit 0))) (.seq (.block 1 (.draw2 [ZM 16 0,ZM 17 1,ZM 18 10,ZO 19 (.bin .add (.t 17) (.t 18)),ZM 20 0,ZM 21 2,ZM 22 10,ZO 23 (.bin .add (.t 21) (.t 22)),ZM 24 0,ZM 25 2,ZM 26 10,ZO 27 (.bin .add (.t 25) (.t 26)),ZO 28 (.iaddr 8 (.t 24) (.t 27)),ZO 29 (.load true 8 (.t 28)),ZM 30 0,ZM 31 1,ZM 32 10,ZO 33 (.bin .add (.t 31) (.t 32)),ZO 34 (.iaddr 8 (.t 30) (.t 33)),ZO 35 (.load true 8 (.t 34)),ZO 36 (.iaddr 8 (.t 16) (.t 19)),ZN (.store 8 (.t 36) (.t 29)),ZO 37 (.iaddr 8 (.t 20) (.t 23)),ZN (.store 8 (.t 37) (.t 35))] [true,true,true,true,false,false,false,false,true,true,true,true,true,true,true,true,true,true,true,true,true,false,false,false])) (.region [ZM 14 10,ZO 15 (.bin .add (.t 14) (.c (.int .i64 1))),ZM 10 15] false))))))
def Zci:VC:=(ZR [ZM 12 2,ZM 13 1,ZO 14 (.bin .sub (.t 12) (.t 13)),ZM 10 14] (ZR [ZM 15 3,ZM 16 2,ZO 17 (.bin .sub (.t 15) (.t 16)),ZM 11 17] (.seq (.block 0 (.loop (.seq (ZR [ZM 18 10,ZM 19 11,ZO 20 (.bin .neq (.t 18) (.t 19))] (.cond (.t 20) .skip (.exit 0))) (.block 1 (ZR [ZM 21 10,ZM 22 11,ZO 23 (.bin .gtr (.t 21) (.t 22))] (.cond (.t 23) (ZR [ZM 24 0,ZM 25 2,ZM 26 10,ZO 27 (.bin .sub (.t 25) (.t 26)),ZM 28 2,ZM 29 11,ZM 30 4,ZO 31 (.call 253 [.t 24,.t 27,.t 28,.t 29,.t 30])] (.region [ZM 32 10,ZM 33 11,ZO 34 (.bin .sub (.t 32) (.t 33)),ZM 10 34] false)) (ZR [ZM 35 0,ZM 36 2,ZM 37 10,ZO 38 (.bin .sub (.t 36) (.t 37)),ZM 39 2,ZM 40 11,ZO 41 (.bin .add (.t 39) (.t 40)),ZM 42 10,ZO 43 (.bin .sub (.t 41) (.t 42)),ZM 44 10,ZM 45 4,ZO 46 (.call 253 [.t 35,.t 38,.t 43,.t 44,.t 45])] (.region [ZM 47 11,ZM 48 10,ZO 49 (.bin .sub (.t 47) (.t 48)),ZM 11 49] false)))))))) (.region [ZM 50 0,ZM 51 2,ZM 52 10,ZO 53 (.bin .sub (.t 51) (.t 52)),ZM 54 2,ZM 55 10,ZM 56 4,ZO 57 (.call 253 [.t 50,.t 53,.t 54,.t 55,.t 56])] false))))
def rwsU (d:Nat→Un) (N:Nat):List (List PV):=(List.range N).map fun i=>(d i).enc
def updU (d:Nat→Un) (i:Nat) (x:Un):Nat→Un:=fun j=>if j=i then x else d j
theorem rws_lenU (d:Nat→Un) (N:Nat):(rwsU d N).length=N:=by simp [rwsU]
theorem Zcc {d:Nat→Un} {N i:Nat} (h:i<N):(rwsU d N).getD i []=(d i).enc:=by simp [rwsU,Zx1,h]
theorem rws_setU (d:Nat→Un) (N i:Nat) (x:Un):(rwsU d N).set i x.enc=rwsU (updU d i x) N:=by
 refine List.ext_getElem (by simp [rwsU]) fun k h1 h2=>?_;simp only [rwsU,updU,List.getElem_set,List.getElem_map,List.getElem_range];by_cases h:i=k
 ·subst h;simp
 ·rw [if_neg h,if_neg (fun e=>h e.symm)]
theorem un_len8 (x:Un):x.enc.length=8:=by rw [Un.Zaf];rfl
theorem un_take8 (x:Un):x.enc.take 8=x.enc:=by rw [Un.Zaf];rfl
theorem un_drop8 (x:Un):x.enc.drop 8=[]:=by rw [Un.Zaf];rfl
theorem upd_atU (d:Nat→Un) (i:Nat) (x:Un):updU d i x i=x:=if_pos rfl
theorem upd_neU (d:Nat→Un) {i j:Nat} (x:Un) (h:j≠i):updU d i x j=d j:=if_neg h
theorem swp_moreU {d d1:Nat→Un} {a b i:Nat} (h:Swp d d1 a b i) (hd:a+i<b):Swp d (updU (updU d1 (a+i) (d1 (b+i))) (b+i) (d1 (a+i))) a b (i+1):=by
 refine ⟨fun k hk=>?_,fun k hk=>?_,fun k h1 h2=>?_⟩
 ·rw [upd_neU _ _ (by omega)];by_cases e:k=i
  ·subst e;rw [upd_atU];exact h.out _ (by omega) (by omega)
  ·rw [upd_neU _ _ (by omega)];exact h.fst k (by omega)
 ·by_cases e:k=i
  ·subst e;rw [upd_atU];exact h.out _ (by omega) (by omega)
  ·rw [upd_neU _ _ (by omega),upd_neU _ _ (by omega)];exact h.snd k (by omega)
 ·rw [upd_neU _ _ (by omega),upd_neU _ _ (by omega)];exact h.out k (by omega) (by omega)
theorem adIU {a b:Nat} (h:a+b≤4611686018427387904):IntKind.i64.wrap ((a:Int)+(b:Int))=((a+b:Nat):Int):=by rw [w64 (by omega) (by omega)];omega
theorem ad1U {a:Nat} (h:a≤4611686018427387904):IntKind.i64.wrap ((a:Int)+1)=((a+1:Nat):Int):=by rw [w64 (by omega) (by omega)];omega
theorem sbIU {a b:Nat} (h:b≤a) (h2:a≤4611686018427387904):IntKind.i64.wrap ((a:Int)-(b:Int))=((a-b:Nat):Int):=by rw [w64 (by omega) (by omega)];omega
theorem sb1U {a:Nat} (h:1≤a) (h2:a≤4611686018427387904):IntKind.i64.wrap ((a:Int)-1)=((a-1:Nat):Int):=by rw [w64 (by omega) (by omega)];omega
theorem sp_swapRangeU (F : PV) (id N a b n t : Nat) (d : Nat → Un) (hid : id < t) (hab : a + n ≤ b) (hbN : b + n ≤ N) (hN : N ≤ 1000000) :
  Zal Tryz.prog 253 [.own id 0 N,pI a,pI b,pI n,F] ⟨[(id,.arr false 8 (rwsU d N))],t⟩ (fun _ h'=>∃ d',Swp d d' a b n∧∃ t',t≤t'∧h'=⟨[(id,.arr false 8 (rwsU d' N))],t'⟩):=by
 refine Gn (vc:=Zb0) [] Tryz.func253 ?_;unfold Zb0;try dsimp only [ZM,ZO,ZN,ZG,ZR,ZU]
 refine Rp0 [0,1,2,3,10] ?_;refine Zab ?_;refine Zak (σ:={ s:Nat×(Nat→Un)×Nat//s.1≤n∧Swp d s.2.1 a b s.1∧t≤s.2.2 }) (fun s=>([(0,.own id 0 N),(1,pI a),(2,pI b),(3,pI n),(10,pI s.1.1)],⟨[(id,.arr false 8 (rwsU s.1.2.1 N))],s.1.2.2⟩)) (fun s=>n-s.1.1) ⟨(0,d,t),by simp only [];exact ⟨by omega,⟨fun i hi=>by omega,fun i hi=>by omega,fun _ _ _=>rfl⟩,by omega⟩⟩ ?_ ?_ ?_
 ·simp only [vmL,Nat.reduceEqDiff,reduceCtorEq]
  try first|rfl|exact ⟨rfl,rfl⟩
 ·exact Sc0
 rintro ⟨⟨i,d1,t1⟩,hi,hsw,ht⟩;simp only [] at hi hsw ht ⊢;refine Zaa ?_;refine Rp0 [0,1,2,3,10,13] ?_;refine Zac rfl (fun h1=>?_) (fun h1=>?_)
 ·refine Kp0 ?_;simp only [Zx3] at h1;have e1:=adIU (a:=a) (b:=i) (by omega);have e2:=adIU (a:=b) (b:=i) (by omega);refine Zaa ?_;refine Zab ?_;refine VW_draw2H [0,1,2,3,10] (by simp [Heap.le,Heap.get,HL.le,HL.get]) ?_;have g1:∀ d:Nat→Un,(rwsU d N).getD (a+i) []=(d (a+i)).enc:=fun d=>Zcc (by omega);have g2:∀ d:Nat→Un,(rwsU d N).getD (b+i) []=(d (b+i)).enc:=fun d=>Zcc (by omega);simp only [vmL,Nat.reduceEqDiff,Nat.reduceAdd,reduceCtorEq,e1,e2,g1,g2,un_take8,un_len8,un_drop8,rws_lenU,rws_setU,List.append_nil];refine Ok ?_;refine Zae [0,1,2,3,10] ?_;simp only [vmL,Nat.reduceEqDiff,reduceCtorEq,ad1U (a:=i) (by omega)];refine ⟨⟨(i+1,updU (updU d1 (a+i) (d1 (b+i))) (b+i) (d1 (a+i)),t1),by simp only [];omega,swp_moreU hsw (by omega),ht⟩,?_,?_,?_⟩
  ·exact Sc0
  ·exact Sc0
  ·simp only [];omega
 ·simp only [Zx2] at h1;refine Ep0 ?_;obtain rfl:i=n:=by omega
  exact ⟨d1,hsw,t1,ht,rfl⟩
theorem sp_rotateU (F : PV) (id N a m b t : Nat) (d : Nat → Un) (hid : id < t) (ham : a < m) (hmb : m < b) (hbN : b ≤ N) (hN : N ≤ 1000000) :
  Zal Tryz.prog 232 [.own id 0 N,pI a,pI m,pI b,F] ⟨[(id,.arr false 8 (rwsU d N))],t⟩ (fun _ h'=>∃ d',Rot d d' a m b∧∃ t',t≤t'∧h'=⟨[(id,.arr false 8 (rwsU d' N))],t'⟩):=by
 refine Gn (vc:=Zci) [] Tryz.func232 ?_;unfold Zci;try dsimp only [ZM,ZO,ZN,ZG,ZR,ZU]
 refine Zaa (Zae [0,2,3,4,10] ?_);simp only [vmL,Nat.reduceEqDiff,Nat.reduceAdd,reduceCtorEq,sbIU (a:=m) (b:=a) (by omega) (by omega)];refine Zaa (Zae [0,2,4,10,11] ?_);simp only [vmL,Nat.reduceEqDiff,reduceCtorEq,sbIU (a:=b) (b:=m) (by omega) (by omega)];refine Zaa ?_;refine Zab ?_;refine Zak (σ:={ s:Nat×Nat×(Nat→Un)×Nat//0<s.1∧0<s.2.1∧s.1≤m-a∧s.2.1≤b-m∧(∀ d',Rot s.2.2.1 d' (m-s.1) m (m+s.2.1)→Rot d d' a m b)∧t≤s.2.2.2 }) (fun s=>([(0,.own id 0 N),(2,pI m),(4,F),(10,pI s.1.1),(11,pI s.1.2.1)],⟨[(id,.arr false 8 (rwsU s.1.2.2.1 N))],s.1.2.2.2⟩)) (fun s=>s.1.1+s.1.2.1) ⟨(m-a,b-m,d,t),by simp only [];refine ⟨by omega,by omega,by omega,by omega,fun d' h=>?_,by omega⟩;rwa [show m-(m-a)=a by omega,show m+(b-m)=b by omega] at h⟩ ?_ ?_ ?_
 ·simp only [vmL,Nat.reduceEqDiff,reduceCtorEq]
  try first|rfl|exact ⟨rfl,rfl⟩
 ·exact Sc0
 rintro ⟨⟨i,j,d1,t1⟩,hi0,hj0,hi,hj,hsw,ht⟩;simp only [] at hi0 hj0 hi hj hsw ht ⊢;refine Zaa ?_;refine Rp0 [0,2,4,10,11,20] ?_;refine Zac rfl (fun h1=>?_) (fun h1=>?_)
 ·refine Kp0 ?_;simp only [bne_iff_ne,ne_eq,Int.natCast_inj] at h1;have e1:=sbIU (a:=m) (b:=i) (by omega) (by omega);have e2:=adIU (a:=m) (b:=j) (by omega);refine Zab ?_;refine Rp0 [0,2,4,10,11,23] ?_;refine Zac rfl (fun h2=>?_) (fun h2=>?_)
  ·simp only [Zx3] at h2;refine Rp1 [0,2,4,10,11] e1 ?_;refine Zal.mono (sp_swapRangeU F id N (m-i) m j t1 d1 (by omega) (by omega) (by omega) hN) ?_;rintro p h' ⟨d2,hs2,t2,ht2,rfl⟩
   skip
   refine Zae [0,2,4,10,11] ?_;simp only [vmL,Nat.reduceEqDiff,reduceCtorEq,sbIU (a:=i) (b:=j) (by omega) (by omega)];refine ⟨⟨(i-j,j,d2,t2),by simp only [];exact ⟨by omega,by omega,by omega,by omega,fun d' h=>hsw d' (Rot.left (by omega) (by omega) hs2 h),by omega⟩⟩,?_,?_,?_⟩
   ·exact Sc0
   ·exact Sc0
   ·simp only [];omega
  ·simp only [Zx2] at h2;have e3:=sbIU (a:=m+j) (b:=i) (by omega) (by omega);refine Rp1 [0,2,4,10,11] (x3 e1 e2 e3) ?_;refine Zal.mono (sp_swapRangeU F id N (m-i) (m+j-i) i t1 d1 (by omega) (by omega) (by omega) hN) ?_;rintro p h' ⟨d2,hs2,t2,ht2,rfl⟩
   skip
   refine Zae [0,2,4,10,11] ?_;simp only [vmL,Nat.reduceEqDiff,reduceCtorEq,sbIU (a:=j) (b:=i) (by omega) (by omega)];refine ⟨⟨(i,j-i,d2,t2),by simp only [];exact ⟨by omega,by omega,by omega,by omega,fun d' h=>hsw d' (Rot.right (by omega) (by omega) hs2 h),by omega⟩⟩,?_,?_,?_⟩
   ·exact Sc0
   ·exact Sc0
   ·simp only [];omega
 ·simp only [bne_eq_false_iff_eq,Int.natCast_inj] at h1;subst h1;refine Ep0 ?_;refine Zae [] ?_;simp only [vmL,Nat.reduceEqDiff,reduceCtorEq,sbIU (a:=m) (b:=i) (by omega) (by omega)];refine Zal.mono (sp_swapRangeU F id N (m-i) m i t1 d1 (by omega) (by omega) (by omega) hN) ?_;rintro p h' ⟨d2,hs2,t2,ht2,rfl⟩
  skip
  exact ⟨d2,hsw d2 (Rot.last (by omega) hs2),t2,by omega,rfl⟩
def Zbk:VC:=(ZR [ZM 10 1,ZO 11 (.bin .add (.t 10) (.c (.int .i64 1))),ZM 8 11] (.block 0 (.loop (.seq (ZR [ZM 12 8,ZM 13 2,ZO 14 (.bin .lss (.t 12) (.t 13))] (.cond (.t 14) .skip (.exit 0))) (.seq (.block 1 (ZR [ZM 17 8,ZM 9 17] (.block 2 (.loop (.seq (.seq (.region [ZM 18 9,ZM 19 1,ZO 20 (.bin .gtr (.t 18) (.t 19)),ZM 21 20,ZG 22 (.mv (.t 3)) 21 true,ZG 23 (.mv (.t 0)) 21 true,ZG 24 (.mv (.t 9)) 21 true,ZG 25 (.iaddr 8 (.t 23) (.t 24)) 21 true,ZG 26 (.load true 8 (.t 25)) 21 true,ZG 27 (.mv (.t 0)) 21 true,ZG 28 (.mv (.t 9)) 21 true,ZG 29 (.bin .sub (.t 28) (.c (.int .i64 1))) 21 true,ZG 30 (.iaddr 8 (.t 27) (.t 29)) 21 true,ZG 31 (.load true 8 (.t 30)) 21 true,ZG 32 (.callv (.t 22) [.t 26,.t 31]) 21 true,ZG 33 (.bin .lss (.t 32) (.c (.int .i64 0))) 21 true,ZO 34 (.pick (.t 21) (.t 33) (.c (.bool false)))] true) (.cond (.t 34) .skip (.exit 2))) (.seq (.block 3 (.draw2 [ZM 37 0,ZM 38 9,ZM 39 0,ZM 40 9,ZO 41 (.bin .sub (.t 40) (.c (.int .i64 1))),ZM 42 0,ZM 43 9,ZO 44 (.bin .sub (.t 43) (.c (.int .i64 1))),ZO 45 (.iaddr 8 (.t 42) (.t 44)),ZO 46 (.load true 8 (.t 45)),ZM 47 0,ZM 48 9,ZO 49 (.iaddr 8 (.t 47) (.t 48)),ZO 50 (.load true 8 (.t 49)),ZO 51 (.iaddr 8 (.t 37) (.t 38)),ZN (.store 8 (.t 51) (.t 46)),ZO 52 (.iaddr 8 (.t 39) (.t 41)),ZN (.store 8 (.t 52) (.t 50))] [true,true,false,false,false,true,true,true,true,true,true,true,true,true,true,false,false,false])) (.region [ZM 35 9,ZO 36 (.bin .sub (.t 35) (.c (.int .i64 1))),ZM 9 36] false))))))) (.region [ZM 15 8,ZO 16 (.bin .add (.t 15) (.c (.int .i64 1))),ZM 8 16] false))))))
theorem swp_oneU (d:Nat→Un) (k:Nat):Swp d (updU (updU d (k+1) (d k)) k (d (k+1))) k (k+1) 1 :=
 Swp.one (upd_atU _ _ _) (by rw [upd_neU _ _ (by omega),upd_atU]) (fun i h1 h2=>by rw [upd_neU _ _ h1,upd_neU _ _ h2])
theorem swp_oneU' (d:Nat→Un) (k:Nat):Swp d (updU (updU d k (d (k+1))) (k+1) (d k)) k (k+1) 1 :=
 Swp.one (by rw [upd_neU _ _ (by omega),upd_atU]) (upd_atU _ _ _) (fun i h1 h2=>by rw [upd_neU _ _ h2,upd_neU _ _ h1])
theorem swp_sameU {d d' d0:Nat→Un} {k a b:Nat} (h:Swp d d' k (k+1) 1) (hs:Same d0 d a b) (h1:a≤k) (h2:k+1<b):Same d0 d' a b:=fun i hi=>by
 rw [h.out i (by omega) (by omega)];exact hs i hi
theorem srt_oneU {u:Un} (d:Nat→Un) (a:Nat):Srt (leU u) d a (a+1):=fun i j h1 h2 h3=>by omega
theorem sp_insertionU {u : Un} (hu : SmU u) (id N a b t : Nat) (d : Nat → Un) (hid : id < t) (hab : a ≤ b) (hbN : b ≤ N) (hN : N ≤ 1000000) :
  Zal Tryz.prog 213 [.own id 0 N,pI a,pI b,.fn (.func 119) [] [.ro u.enc]] ⟨[(id,.arr false 8 (rwsU d N))],t⟩
   (fun _ h'=>∃ d',(Same d d' a b∧(seg d' a b).Perm (seg d a b)∧Srt (leU u) d' a b)∧∃ t',t≤t'∧h'=⟨[(id,.arr false 8 (rwsU d' N))],t'⟩):=by
 refine Gn (vc:=Zbk) [] Tryz.func213 ?_;unfold Zbk;try dsimp only [ZM,ZO,ZN,ZG,ZR,ZU]
 refine Zaa (Zae [0,1,2,3,8] ?_);simp only [vmL,Nat.reduceEqDiff,Nat.reduceAdd,reduceCtorEq,ad1U (a:=a) (by omega)];refine Zab ?_;refine Zak (σ:={ s:Nat×(Nat→Un)×Nat//a+1≤s.1∧(s.1≤b∨s.1=a+1)∧Same d s.2.1 a b∧(seg s.2.1 a b).Perm (seg d a b)∧Srt (leU u) s.2.1 a s.1∧t≤s.2.2 }) (fun s=>([(0,.own id 0 N),(1,pI a),(2,pI b),(3,.fn (.func 119) [] [.ro u.enc]),(8,pI s.1.1)],⟨[(id,.arr false 8 (rwsU s.1.2.1 N))],s.1.2.2⟩)) (fun s=>b-s.1.1) ⟨(a+1,d,t),⟨Nat.le_refl _,.inr rfl,fun _ _=>rfl,.refl _,srt_oneU d a,Nat.le_refl _⟩⟩ ?_ ?_ ?_
 ·simp only [vmL,Nat.reduceEqDiff,reduceCtorEq]
  try first|rfl|exact ⟨rfl,rfl⟩
 ·exact Sc0
 rintro ⟨⟨i,d1,t1⟩,hi,hib,hsm,hpm,hsr,ht⟩;simp only [] at hi hib hsm hpm hsr ht ⊢;refine Zaa ?_;refine Rp0 [0,1,2,3,8,14] ?_;refine Zac rfl (fun h1=>?_) (fun h1=>?_)
 ·refine Kp0 ?_;simp only [Zx3] at h1;have ib:i<b:=by omega
  refine Zaa ?_;refine Zab ?_;refine Rp0 [0,1,2,3,8,9] ?_;refine Zab ?_;refine Zak (σ:={ s:Nat×(Nat→Un)×Nat//a≤s.1∧s.1≤i∧Same d s.2.1 a b∧(seg s.2.1 a b).Perm (seg d a b)∧Ins (leU u) s.2.1 a i s.1∧t≤s.2.2 }) (fun s=>([(0,.own id 0 N),(1,pI a),(2,pI b),(3,.fn (.func 119) [] [.ro u.enc]),(8,pI i),(9,pI s.1.1)],⟨[(id,.arr false 8 (rwsU s.1.2.1 N))],s.1.2.2⟩)) (fun s=>s.1.1) ⟨(i,d1,t1),by simp only [];exact ⟨by omega,by omega,hsm,hpm,Ins.start hsr,ht⟩⟩ ?_ ?_ ?_
  ·simp only [vmL,Nat.reduceEqDiff,reduceCtorEq]
   try first|rfl|exact ⟨rfl,rfl⟩
  ·exact Sc0
  rintro ⟨⟨j,d2,t2⟩,haj,hji,hsm2,hpm2,hins,ht2⟩;simp only [] at haj hji hsm2 hpm2 hins ht2 ⊢;refine Zaa ?_;by_cases hj:a<j
  ·obtain ⟨k,rfl⟩:∃ k,j=k+1:=⟨j-1,by omega⟩;have g1:∀ d:Nat→Un,(rwsU d N).getD k []=(d k).enc:=fun d=>Zcc (by omega);have g2:∀ d:Nat→Un,(rwsU d N).getD (k+1) []=(d (k+1)).enc:=fun d=>Zcc (by omega);have e0:decide ((a:Int)<((k+1:Nat):Int))=true:=decide_eq_true (by omega);have e1:IntKind.i64.wrap (((k+1:Nat):Int)-1)=((k:Nat):Int):=by rw [w64 (by omega) (by omega)];omega
   refine Zaa (Zbh [0,1,2,3,8,9,34] (by simp [Heap.le,Heap.get,HL.le,HL.get]) ?_);simp only [vmL,Nat.reduceEqDiff,reduceCtorEq,e0,e1,g1,g2,un_take8,un_len8,rws_lenU];refine Ok ?_;refine ⟨_,.inl (sp_own_1 hu ..),?_⟩;refine Sp1 @cmpU_lt ?_;refine Zac rfl (fun h2=>?_) (fun h2=>?_)
   ·refine Kp0 ?_;refine Zaa ?_;refine Zab ?_;refine VW_draw2H [0,1,2,3,8,9] (by simp [Heap.le,Heap.get,HL.le,HL.get]) ?_;simp only [vmL,Nat.reduceEqDiff,Nat.reduceAdd,reduceCtorEq,e1,g1,g2,un_take8,un_len8,un_drop8,rws_lenU,rws_setU,List.append_nil];refine Ok ?_;refine rp1 [0,1,2,3,8,9] e1 ?_;have hs:=swp_oneU d2 k;refine ⟨⟨(k,updU (updU d2 (k+1) (d2 k)) k (d2 (k+1)),t2),by simp only [];exact ⟨by omega,by omega,swp_sameU hs hsm2 (by omega) (by omega),(hs.perm (by omega) (by omega)).trans hpm2,hins.step (by omega) (by omega) hs (leU_of_ahead h2),ht2⟩⟩,?_,?_,?_⟩
    ·exact Sc0
    ·exact Sc0
    ·simp only [];omega
   ·refine Ep0 ?_;refine Zae [0,1,2,3,8] ?_;simp only [vmL,Nat.reduceEqDiff,reduceCtorEq,ad1U (a:=i) (by omega)];refine ⟨⟨(i+1,d2,t2),by simp only [];exact ⟨by omega,by omega,hsm2,hpm2,hins.done leU_trans (.inr ⟨hj,h2⟩),ht2⟩⟩,?_,?_,?_⟩
    ·exact Sc0
    ·exact Sc0
    ·simp only [];omega
  ·obtain rfl:j=a:=by omega
   have e0:decide ((j:Int)<(j:Int))=false:=decide_eq_false (by omega);refine Zaa (Zbh [0,1,2,3,8,9,34] (by simp [Heap.le,Heap.get,HL.le,HL.get]) ?_);refine Sp1 e0 ?_;refine Zac rfl (fun h2=>by cases h2) (fun h2=>?_);refine Ep0 ?_;refine Zae [0,1,2,3,8] ?_;simp only [vmL,Nat.reduceEqDiff,reduceCtorEq,ad1U (a:=i) (by omega)];refine ⟨⟨(i+1,d2,t2),by simp only [];exact ⟨by omega,by omega,hsm2,hpm2,hins.done leU_trans (.inl rfl),ht2⟩⟩,?_,?_,?_⟩
   ·exact Sc0
   ·exact Sc0
   ·simp only [];omega
 ·simp only [Zx2] at h1;refine Ep0 ?_;exact ⟨d1,⟨hsm,hpm,fun x y h2 h3 h4=>hsr x y h2 h3 (by omega)⟩,t1,ht,rfl⟩
def Zb7:VC:=(.seq (ZR [ZM 25 2,ZM 26 1,ZO 27 (.bin .sub (.t 25) (.t 26)),ZO 28 (.bin .eql (.t 27) (.c (.int .i64 1)))] (.cond (.t 28) (ZR [ZM 29 2,ZM 10 29] (ZR [ZM 30 3,ZM 11 30] (.seq (.block 0 (.loop (.seq (ZR [ZM 31 10,ZM 32 11,ZO 33 (.bin .lss (.t 31) (.t 32))] (.cond (.t 33) .skip (.exit 0))) (.block 1 (ZR [ZM 34 10,ZM 35 11,ZO 36 (.bin .add (.t 34) (.t 35)),ZO 37 (.conv .u64 (.t 36)),ZO 38 (.bin .shr (.t 37) (.c (.int .u64 1))),ZO 39 (.conv .i64 (.t 38)),ZM 12 39] (.seq (.region [ZM 40 4,ZM 41 0,ZM 42 12,ZO 43 (.iaddr 8 (.t 41) (.t 42)),ZO 44 (.load true 8 (.t 43)),ZM 45 0,ZM 46 1,ZO 47 (.iaddr 8 (.t 45) (.t 46)),ZO 48 (.load true 8 (.t 47)),ZO 49 (.callv (.t 40) [.t 44,.t 48]),ZO 50 (.bin .lss (.t 49) (.c (.int .i64 0)))] true) (.cond (.t 50) (.region [ZM 51 12,ZO 52 (.bin .add (.t 51) (.c (.int .i64 1))),ZM 10 52] false) (.region [ZM 53 12,ZM 11 53] false)))))))) (.seq (ZR [ZM 54 1,ZM 13 54] (.block 2 (.loop (.seq (ZR [ZM 55 13,ZM 56 10,ZO 57 (.bin .sub (.t 56) (.c (.int .i64 1))),ZO 58 (.bin .lss (.t 55) (.t 57))] (.cond (.t 58) .skip (.exit 2))) (.seq (.block 3 (.draw2 [ZM 61 0,ZM 62 13,ZM 63 0,ZM 64 13,ZO 65 (.bin .add (.t 64) (.c (.int .i64 1))),ZM 66 0,ZM 67 13,ZO 68 (.bin .add (.t 67) (.c (.int .i64 1))),ZO 69 (.iaddr 8 (.t 66) (.t 68)),ZO 70 (.load true 8 (.t 69)),ZM 71 0,ZM 72 13,ZO 73 (.iaddr 8 (.t 71) (.t 72)),ZO 74 (.load true 8 (.t 73)),ZO 75 (.iaddr 8 (.t 61) (.t 62)),ZN (.store 8 (.t 75) (.t 70)),ZO 76 (.iaddr 8 (.t 63) (.t 65)),ZN (.store 8 (.t 76) (.t 74))] [true,true,false,false,false,true,true,true,true,true,true,true,true,true,true,false,false,false])) (.region [ZM 59 13,ZO 60 (.bin .add (.t 59) (.c (.int .i64 1))),ZM 13 60] false)))))) .ret)))) .skip)) (.seq (ZR [ZM 77 3,ZM 78 2,ZO 79 (.bin .sub (.t 77) (.t 78)),ZO 80 (.bin .eql (.t 79) (.c (.int .i64 1)))] (.cond (.t 80) (ZR [ZM 81 1,ZM 14 81] (ZR [ZM 82 2,ZM 15 82] (.seq (.block 4 (.loop (.seq (ZR [ZM 83 14,ZM 84 15,ZO 85 (.bin .lss (.t 83) (.t 84))] (.cond (.t 85) .skip (.exit 4))) (.block 5 (ZR [ZM 86 14,ZM 87 15,ZO 88 (.bin .add (.t 86) (.t 87)),ZO 89 (.conv .u64 (.t 88)),ZO 90 (.bin .shr (.t 89) (.c (.int .u64 1))),ZO 91 (.conv .i64 (.t 90)),ZM 16 91] (.seq (.region [ZM 92 4,ZM 93 0,ZM 94 2,ZO 95 (.iaddr 8 (.t 93) (.t 94)),ZO 96 (.load true 8 (.t 95)),ZM 97 0,ZM 98 16,ZO 99 (.iaddr 8 (.t 97) (.t 98)),ZO 100 (.load true 8 (.t 99)),ZO 101 (.callv (.t 92) [.t 96,.t 100]),ZO 102 (.bin .lss (.t 101) (.c (.int .i64 0))),ZO 103 (.un .not (.t 102))] true) (.cond (.t 103) (.region [ZM 104 16,ZO 105 (.bin .add (.t 104) (.c (.int .i64 1))),ZM 14 105] false) (.region [ZM 106 16,ZM 15 106] false)))))))) (.seq (ZR [ZM 107 2,ZM 17 107] (.block 6 (.loop (.seq (ZR [ZM 108 17,ZM 109 14,ZO 110 (.bin .gtr (.t 108) (.t 109))] (.cond (.t 110) .skip (.exit 6))) (.seq (.block 7 (.draw2 [ZM 113 0,ZM 114 17,ZM 115 0,ZM 116 17,ZO 117 (.bin .sub (.t 116) (.c (.int .i64 1))),ZM 118 0,ZM 119 17,ZO 120 (.bin .sub (.t 119) (.c (.int .i64 1))),ZO 121 (.iaddr 8 (.t 118) (.t 120)),ZO 122 (.load true 8 (.t 121)),ZM 123 0,ZM 124 17,ZO 125 (.iaddr 8 (.t 123) (.t 124)),ZO 126 (.load true 8 (.t 125)),ZO 127 (.iaddr 8 (.t 113) (.t 114)),ZN (.store 8 (.t 127) (.t 122)),ZO 128 (.iaddr 8 (.t 115) (.t 117)),ZN (.store 8 (.t 128) (.t 126))] [true,true,false,false,false,true,true,true,true,true,true,true,true,true,true,false,false,false])) (.region [ZM 111 17,ZO 112 (.bin .sub (.t 111) (.c (.int .i64 1))),ZM 17 112] false)))))) .ret)))) .skip)) (ZR [ZM 129 1,ZM 130 3,ZO 131 (.bin .add (.t 129) (.t 130)),ZO 132 (.conv .u64 (.t 131)),ZO 133 (.bin .shr (.t 132) (.c (.int .u64 1))),ZO 134 (.conv .i64 (.t 133)),ZM 18 134] (ZR [ZM 135 18,ZM 136 2,ZO 137 (.bin .add (.t 135) (.t 136)),ZM 19 137] (ZR [ZO 20 (.mv (.c (.int .i64 0))),ZO 21 (.mv (.c (.int .i64 0)))] (.seq (ZR [ZM 138 2,ZM 139 18,ZO 140 (.bin .gtr (.t 138) (.t 139))] (.cond (.t 140) (ZR [ZM 141 19,ZM 142 3,ZO 143 (.bin .sub (.t 141) (.t 142)),ZM 20 143] (.region [ZM 144 18,ZM 21 144] false)) (ZR [ZM 145 1,ZM 20 145] (.region [ZM 146 2,ZM 21 146] false)))) (ZR [ZM 147 19,ZO 148 (.bin .sub (.t 147) (.c (.int .i64 1))),ZM 22 148] (.seq (.block 8 (.loop (.seq (ZR [ZM 149 20,ZM 150 21,ZO 151 (.bin .lss (.t 149) (.t 150))] (.cond (.t 151) .skip (.exit 8))) (.block 9 (ZR [ZM 152 20,ZM 153 21,ZO 154 (.bin .add (.t 152) (.t 153)),ZO 155 (.conv .u64 (.t 154)),ZO 156 (.bin .shr (.t 155) (.c (.int .u64 1))),ZO 157 (.conv .i64 (.t 156)),ZM 23 157] (.seq (.region [ZM 158 4,ZM 159 0,ZM 160 22,ZM 161 23,ZO 162 (.bin .sub (.t 160) (.t 161)),ZO 163 (.iaddr 8 (.t 159) (.t 162)),ZO 164 (.load true 8 (.t 163)),ZM 165 0,ZM 166 23,ZO 167 (.iaddr 8 (.t 165) (.t 166)),ZO 168 (.load true 8 (.t 167)),ZO 169 (.callv (.t 158) [.t 164,.t 168]),ZO 170 (.bin .lss (.t 169) (.c (.int .i64 0))),ZO 171 (.un .not (.t 170))] true) (.cond (.t 171) (.region [ZM 172 23,ZO 173 (.bin .add (.t 172) (.c (.int .i64 1))),ZM 20 173] false) (.region [ZM 174 23,ZM 21 174] false)))))))) (ZR [ZM 175 19,ZM 176 20,ZO 177 (.bin .sub (.t 175) (.t 176)),ZM 24 177] (.seq (ZR [ZM 178 20,ZM 179 2,ZO 180 (.bin .lss (.t 178) (.t 179)),ZM 181 180,ZG 182 (.mv (.t 2)) 181 true,ZG 183 (.mv (.t 24)) 181 true,ZG 184 (.bin .lss (.t 182) (.t 183)) 181 true,ZO 185 (.pick (.t 181) (.t 184) (.c (.bool false)))] (.cond (.t 185) (.region [ZM 186 0,ZM 187 20,ZM 188 2,ZM 189 24,ZM 190 4,ZO 191 (.call 232 [.t 186,.t 187,.t 188,.t 189,.t 190])] false) .skip)) (.seq (ZR [ZM 192 1,ZM 193 20,ZO 194 (.bin .lss (.t 192) (.t 193)),ZM 195 194,ZG 196 (.mv (.t 20)) 195 true,ZG 197 (.mv (.t 18)) 195 true,ZG 198 (.bin .lss (.t 196) (.t 197)) 195 true,ZO 199 (.pick (.t 195) (.t 198) (.c (.bool false)))] (.cond (.t 199) (.region [ZM 200 0,ZM 201 1,ZM 202 20,ZM 203 18,ZM 204 4,ZO 205 (.call 214 [.t 200,.t 201,.t 202,.t 203,.t 204])] false) .skip)) (ZR [ZM 206 18,ZM 207 24,ZO 208 (.bin .lss (.t 206) (.t 207)),ZM 209 208,ZG 210 (.mv (.t 24)) 209 true,ZG 211 (.mv (.t 3)) 209 true,ZG 212 (.bin .lss (.t 210) (.t 211)) 209 true,ZO 213 (.pick (.t 209) (.t 212) (.c (.bool false)))] (.cond (.t 213) (.region [ZM 214 0,ZM 215 18,ZM 216 24,ZM 217 3,ZM 218 4,ZO 219 (.call 214 [.t 214,.t 215,.t 216,.t 217,.t 218])] false) .skip)))))))))))))
theorem half_uU {n:Nat} (h:n≤4611686018427387904):IntKind.i64.wrap ((IntKind.u64.wrap (n:Int)).fdiv (2 ^ min 1 IntKind.u64.bits))=((n / 2:Nat):Int):=by
 have e1:IntKind.u64.wrap (n:Int)=(n:Int):=by
  simp only [IntKind.wrap,IntKind.signed,IntKind.bits];simp;omega
 have e2:(2:Int) ^ min 1 IntKind.u64.bits=2:=by decide
 have e3:(n:Int).fdiv 2=((n / 2:Nat):Int):=by
  rw [Int.fdiv_eq_ediv_of_nonneg _ (by omega)];omega
 rw [e1,e2,e3,w64 (by omega) (by omega)]
theorem rot_lU (d:Nat→Un) {m e:Nat}:Rot d d m m e:=⟨fun _ _=>rfl,fun i hi=>rfl,fun i hi=>by omega⟩
theorem rot_rU (d:Nat→Un) {s m:Nat}:Rot d d s m m:=⟨fun _ _=>rfl,fun i hi=>by omega,fun i hi=>by rw [show s+(m-m)+i=s+i by omega]⟩
theorem mrg_noneU {u:Un} (d:Nat→Un) {a s b:Nat} (h:s=a∨s=b):Mrg (leU u) d d a s b:=Mrg.of_sorted fun h1 h2=>by
 rcases h with rfl|rfl
 ·exact h2
 ·exact h1
theorem sp_symMergeU {u : Un} (hu : SmU u) : ∀ (z id N a m b t : Nat) (d : Nat → Un), b - a ≤ z → id < t → a < m → m < b → b ≤ N → N ≤ 1000000 →
  Zal Tryz.prog 214 [.own id 0 N,pI a,pI m,pI b,.fn (.func 119) [] [.ro u.enc]] ⟨[(id,.arr false 8 (rwsU d N))],t⟩
   (fun _ h'=>∃ d',Mrg (leU u) d d' a m b∧∃ t',t≤t'∧h'=⟨[(id,.arr false 8 (rwsU d' N))],t'⟩):=by
 intro z
 induction z with
 | zero=>intro id N a m b t d h1 h2 h3 h4;omega
 | succ z ih =>
 intro id N a m b t d hz hid ham hmb hbN hN;refine Gn (vc:=Zb7) [] Tryz.func214 ?_;unfold Zb7;try dsimp only [ZM,ZO,ZN,ZG,ZR,ZU]
 have e1:=sbIU (a:=m) (b:=a) (by omega) (by omega);have e2:=sbIU (a:=b) (b:=m) (by omega) (by omega);refine Zaa ?_;refine Rp1 [0,1,2,3,4,28] e1 ?_;refine Zac rfl (fun h1=>?_) (fun h1=>?_)
 ·simp only [beq_iff_eq] at h1;obtain rfl:m=a+1:=by omega
  refine Rp0 [0,1,3,4,10] ?_;refine Rp0 [0,1,4,10,11] ?_;refine Zaa ?_;refine Zab ?_;refine Zak (σ:={ s:Nat×Nat//a+1≤s.1∧s.1≤s.2∧s.2≤b∧(s.2=b∨(leU u) (d a) (d s.2))∧(s.1=a+1∨(leU u) (d (s.1-1)) (d a)) }) (fun s=>([(0,.own id 0 N),(1,pI a),(4,.fn (.func 119) [] [.ro u.enc]),(10,pI s.1.1),(11,pI s.1.2)],⟨[(id,.arr false 8 (rwsU d N))],t⟩)) (fun s=>s.1.2-s.1.1) ⟨(a+1,b),⟨Nat.le_refl _,by show a+1≤b;omega,Nat.le_refl _,.inl rfl,.inl rfl⟩⟩ ?_ ?_ ?_
  ·exact Fn0
  ·exact Fn0
  rintro ⟨⟨i,j⟩,hi,hij,hj,hgj,hgi⟩;simp only [] at hi hij hj hgj hgi ⊢;refine Zaa ?_;refine Rp0 [0,1,4,10,11,33] ?_;refine Zac rfl (fun h2=>?_) (fun h2=>?_)
  ·refine Kp0 ?_;simp only [Zx3] at h2;have e3:=adIU (a:=i) (b:=j) (by omega);have e4:=half_uU (n:=i+j) (by omega);obtain ⟨c,hc⟩:∃ c,c=(i+j) / 2:=⟨_,rfl⟩;rw [← hc] at e4;have hci:i≤c:=by omega
   have hcj:c<j:=by omega
   refine Zab ?_;refine Rp1 [0,1,4,10,11,12] (x2 e3 e4) ?_;refine Ok ?_;have g1:∀ d:Nat→Un,(rwsU d N).getD c []=(d c).enc:=fun d=>Zcc (by omega);have g2:∀ d:Nat→Un,(rwsU d N).getD a []=(d a).enc:=fun d=>Zcc (by omega);refine Zaa (Zbh [0,1,4,10,11,12,50] (by simp [Heap.le,Heap.get,HL.le,HL.get]) ?_);simp only [vmL,Nat.reduceEqDiff,reduceCtorEq,e4,g1,g2,un_take8,un_len8,rws_lenU];refine Ok ?_;refine ⟨_,.inl (sp_own_1 hu ..),?_⟩;refine Sp1 @cmpU_lt ?_;refine Zac rfl (fun h3=>?_) (fun h3=>?_)
   ·refine Zae [0,1,4,10,11] ?_;simp only [vmL,Nat.reduceEqDiff,reduceCtorEq,ad1U (a:=c) (by omega)];refine ⟨⟨(c+1,j),by show a+1≤c+1;omega,by show c+1≤j;omega,hj,hgj,.inr (leU_of_ahead h3)⟩,?_⟩;exact Fn0
   ·refine rp0 [0,1,4,10,11] ?_;refine ⟨⟨(i,c),hi,hci,by show c≤b;omega,.inr h3,hgi⟩,?_⟩;exact Fn0
  ·simp only [Zx2] at h2;obtain rfl:i=j:=by omega
   refine Ep0 ?_;refine Zaa ?_;refine Rp0 [0,10,13] ?_;refine Zab ?_;refine Zak (σ:={ s:Nat×(Nat→Un)×Nat//a≤s.1∧s.1<i∧Rot d s.2.1 a (a+1) (s.1+1)∧t≤s.2.2 }) (fun s=>([(0,.own id 0 N),(10,pI i),(13,pI s.1.1)],⟨[(id,.arr false 8 (rwsU s.1.2.1 N))],s.1.2.2⟩)) (fun s=>i-s.1.1) ⟨(a,d,t),⟨Nat.le_refl _,by show a<i;omega,Rot.refl_left d a,Nat.le_refl _⟩⟩ ?_ ?_ ?_
   ·exact Fn0
   ·exact Fn0
   rintro ⟨⟨k,d2,t2⟩,hk,hki,hrot,ht2⟩;simp only [] at hk hki hrot ht2 ⊢;have e3:=sb1U (a:=i) (by omega) (by omega);refine Zaa ?_;refine Rp1 [0,10,13,58] e3 ?_;refine Zac rfl (fun h4=>?_) (fun h4=>?_)
   ·refine Kp0 ?_;simp only [Zx3] at h4;have e4:=ad1U (a:=k) (by omega);have g1:∀ d:Nat→Un,(rwsU d N).getD k []=(d k).enc:=fun d=>Zcc (by omega);have g2:∀ d:Nat→Un,(rwsU d N).getD (k+1) []=(d (k+1)).enc:=fun d=>Zcc (by omega);refine Zaa ?_;refine Zab ?_;refine VW_draw2H [0,10,13] (by simp [Heap.le,Heap.get,HL.le,HL.get]) ?_;simp only [vmL,Nat.reduceEqDiff,Nat.reduceAdd,reduceCtorEq,e4,g1,g2,un_take8,un_len8,un_drop8,rws_lenU,rws_setU,List.append_nil];refine Ok ?_;refine rp1 [0,10,13] e4 ?_;refine ⟨⟨(k+1,updU (updU d2 k (d2 (k+1))) (k+1) (d2 k),t2),by show a≤k+1;omega,by show k+1<i;omega,Rot.up hk hrot (swp_oneU' d2 k),ht2⟩,?_⟩;exact Fn0
   ·simp only [Zx2] at h4;obtain rfl:i=k+1:=by omega
    refine Ep0 ?_;refine Tp0 ?_;exact ⟨d2,Mrg.ins_left leU_trans (by omega) (by omega) hrot hgj hgi,t2,ht2,rfl⟩
 simp only [beq_eq_false_iff_ne,ne_eq] at h1;refine Kp0 ?_;refine Zaa ?_;refine Rp1 [0,1,2,3,4,80] e2 ?_;refine Zac rfl (fun h5=>?_) (fun h5=>?_)
 ·simp only [beq_iff_eq] at h5;obtain rfl:b=m+1:=by omega
  refine Rp0 [0,2,4,14] ?_;refine Rp0 [0,2,4,14,15] ?_;refine Zaa ?_;refine Zab ?_;refine Zak (σ:={ s:Nat×Nat//a≤s.1∧s.1≤s.2∧s.2≤m∧(s.1=a∨(leU u) (d (s.1-1)) (d m))∧(s.2=m∨(leU u) (d m) (d s.2)) }) (fun s=>([(0,.own id 0 N),(2,pI m),(4,.fn (.func 119) [] [.ro u.enc]),(14,pI s.1.1),(15,pI s.1.2)],⟨[(id,.arr false 8 (rwsU d N))],t⟩)) (fun s=>s.1.2-s.1.1) ⟨(a,m),⟨Nat.le_refl _,by show a≤m;omega,Nat.le_refl _,.inl rfl,.inl rfl⟩⟩ ?_ ?_ ?_
  ·exact Fn0
  ·exact Fn0
  rintro ⟨⟨i,j⟩,hi,hij,hj,hgi,hgj⟩;simp only [] at hi hij hj hgj hgi ⊢;refine Zaa ?_;refine Rp0 [0,2,4,14,15,85] ?_;refine Zac rfl (fun h6=>?_) (fun h6=>?_)
  ·refine Kp0 ?_;simp only [Zx3] at h6;have e3:=adIU (a:=i) (b:=j) (by omega);have e4:=half_uU (n:=i+j) (by omega);obtain ⟨c,hc⟩:∃ c,c=(i+j) / 2:=⟨_,rfl⟩;rw [← hc] at e4;have hci:i≤c:=by omega
   have hcj:c<j:=by omega
   refine Zab ?_;refine Rp1 [0,2,4,14,15,16] (x2 e3 e4) ?_;refine Ok ?_;have g1:∀ d:Nat→Un,(rwsU d N).getD c []=(d c).enc:=fun d=>Zcc (by omega);have g2:∀ d:Nat→Un,(rwsU d N).getD m []=(d m).enc:=fun d=>Zcc (by omega);refine Zaa (Zbh [0,2,4,14,15,16,103] (by simp [Heap.le,Heap.get,HL.le,HL.get]) ?_);simp only [vmL,Nat.reduceEqDiff,reduceCtorEq,e4,g1,g2,un_take8,un_len8,rws_lenU];refine Ok ?_;refine ⟨_,.inl (sp_own_1 hu ..),?_⟩;refine Sp1 @cmpU_lt ?_;refine Zac rfl (fun h7=>?_) (fun h7=>?_)
   ·simp only [Bool.not_eq_true'] at h7;refine Zae [0,2,4,14,15] ?_;simp only [vmL,Nat.reduceEqDiff,reduceCtorEq,ad1U (a:=c) (by omega)];refine ⟨⟨(c+1,j),by show a≤c+1;omega,by show c+1≤j;omega,hj,.inr h7,hgj⟩,?_⟩;exact Fn0
   ·simp only [Bool.not_eq_false'] at h7;refine rp0 [0,2,4,14,15] ?_;refine ⟨⟨(i,c),hi,hci,by show c≤m;omega,hgi,.inr (leU_of_ahead h7)⟩,?_⟩;exact Fn0
  ·simp only [Zx2] at h6;obtain rfl:i=j:=by omega
   refine Ep0 ?_;refine Zaa ?_;refine Rp0 [0,14,17] ?_;refine Zab ?_;refine Zak (σ:={ s:Nat×(Nat→Un)×Nat//i≤s.1∧s.1≤m∧Rot d s.2.1 s.1 m (m+1)∧t≤s.2.2 }) (fun s=>([(0,.own id 0 N),(14,pI i),(17,pI s.1.1)],⟨[(id,.arr false 8 (rwsU s.1.2.1 N))],s.1.2.2⟩)) (fun s=>s.1.1) ⟨(m,d,t),⟨by show i≤m;omega,Nat.le_refl _,Rot.refl_right d m,Nat.le_refl _⟩⟩ ?_ ?_ ?_
   ·exact Fn0
   ·exact Fn0
   rintro ⟨⟨k,d2,t2⟩,hk,hkm,hrot,ht2⟩;simp only [] at hk hkm hrot ht2 ⊢;refine Zaa ?_;refine Rp0 [0,14,17,110] ?_;refine Zac rfl (fun h8=>?_) (fun h8=>?_)
   ·refine Kp0 ?_;simp only [Zx3] at h8;obtain ⟨q,rfl⟩:∃ q,k=q+1:=⟨k-1,by omega⟩;have e4:IntKind.i64.wrap (((q+1:Nat):Int)-1)=((q:Nat):Int):=by rw [w64 (by omega) (by omega)];omega
    have g1:∀ d:Nat→Un,(rwsU d N).getD q []=(d q).enc:=fun d=>Zcc (by omega);have g2:∀ d:Nat→Un,(rwsU d N).getD (q+1) []=(d (q+1)).enc:=fun d=>Zcc (by omega);refine Zaa ?_;refine Zab ?_;refine VW_draw2H [0,14,17] (by simp [Heap.le,Heap.get,HL.le,HL.get]) ?_;simp only [vmL,Nat.reduceEqDiff,Nat.reduceAdd,reduceCtorEq,e4,g1,g2,un_take8,un_len8,un_drop8,rws_lenU,rws_setU,List.append_nil];refine Ok ?_;refine rp1 [0,14,17] e4 ?_;refine ⟨⟨(q,updU (updU d2 (q+1) (d2 q)) q (d2 (q+1)),t2),by show i≤q;omega,by show q≤m;omega,Rot.down hkm hrot (swp_oneU d2 q),ht2⟩,?_⟩;exact Fn0
   ·simp only [Zx2] at h8;obtain rfl:i=k:=by omega
    refine Ep0 ?_;refine Tp0 ?_;exact ⟨d2,Mrg.ins_right leU_trans (by omega) (by omega) hrot hgi hgj,t2,ht2,rfl⟩
 simp only [beq_eq_false_iff_ne,ne_eq] at h5;refine Kp0 ?_;have e3:=adIU (a:=a) (b:=b) (by omega);have e4:=half_uU (n:=a+b) (by omega);obtain ⟨mid,hmid⟩:∃ c,c=(a+b) / 2:=⟨_,rfl⟩;rw [← hmid] at e4;have hmid1:a<mid:=by omega
 have hmid2:mid<b:=by omega
 have e5:=adIU (a:=mid) (b:=m) (by omega);refine Rp1 [0,1,2,3,4,18] (x2 e3 e4) ?_;refine Ok ?_;refine Rp1 [0,1,2,3,4,18,19] e5 ?_;refine Rp0 [0,1,2,3,4,18,19] ?_;refine Zaa ?_;refine Zc1 (σ:={ s:Nat×Nat//(s.1=a∨s.1+b=mid+m)∧(s.2=m∨s.2=mid)∧a≤s.1∧s.1≤s.2∧s.2≤m∧s.2≤mid∧mid+m≤s.1+b }) (fun s=>([(0,.own id 0 N),(1,pI a),(2,pI m),(3,pI b),(4,.fn (.func 119) [] [.ro u.enc]),(18,pI mid),(19,pI (mid+m:Nat)),(20,pI s.1.1),(21,pI s.1.2)],⟨[(id,.arr false 8 (rwsU d N))],t⟩)) ?_ (fun s=>?_)
 ·refine Rp0 [0,1,2,3,4,18,19,140] ?_;refine Zac rfl (fun h9=>?_) (fun h9=>?_)
  ·simp only [Zx3] at h9;refine Zaa (Zae [0,1,2,3,4,18,19,20] ?_);simp only [vmL,Nat.reduceEqDiff,reduceCtorEq,sbIU (a:=mid+m) (b:=b) (by omega) (by omega)];refine rp0 [0,1,2,3,4,18,19,20,21] ?_;refine ⟨⟨(mid+m-b,mid),⟨.inr (by show mid+m-b+b=mid+m;omega),.inr rfl,by show a≤mid+m-b;omega,by show mid+m-b≤mid;omega,by show mid≤m;omega,Nat.le_refl _,by show mid+m≤mid+m-b+b;omega⟩⟩,?_⟩;exact Fn0
  ·simp only [Zx2] at h9;refine Rp0 [0,1,2,3,4,18,19,20] ?_;refine rp0 [0,1,2,3,4,18,19,20,21] ?_;refine ⟨⟨(a,m),⟨.inl rfl,.inl rfl,Nat.le_refl _,by show a≤m;omega,Nat.le_refl _,by show m≤mid;omega,by show mid+m≤a+b;omega⟩⟩,?_⟩;exact Fn0
 obtain ⟨⟨st,r⟩,hst,hr,hast,hstr,hrm,hrmid,hstb⟩:=s;simp only [] at hst hr hast hstr hrm hrmid hstb ⊢;have e6:=sb1U (a:=mid+m) (by omega) (by omega);refine Rp1 [0,1,2,3,4,18,19,20,21,22] e6 ?_;refine Zaa ?_;refine Zab ?_;refine Zak (σ:={ s:Nat×Nat//st≤s.1∧s.1≤s.2∧s.2≤r∧(s.1=st∨(leU u) (d (s.1-1)) (d (mid+m-1-(s.1-1))))∧(s.2=r∨(leU u) (d (mid+m-1-s.2)) (d s.2)) })
  (fun s=>([(0,.own id 0 N),(1,pI a),(2,pI m),(3,pI b),(4,.fn (.func 119) [] [.ro u.enc]),(18,pI mid),(19,pI (mid+m:Nat)),(20,pI s.1.1),(21,pI s.1.2),(22,pI (mid+m-1:Nat))],⟨[(id,.arr false 8 (rwsU d N))],t⟩)) (fun s=>s.1.2-s.1.1) ⟨(st,r),⟨Nat.le_refl _,hstr,Nat.le_refl _,.inl rfl,.inl rfl⟩⟩ ?_ ?_ ?_
 ·exact Fn0
 ·exact Fn0
 rintro ⟨⟨s,r1⟩,hs1,hs2,hs3,hg1,hg2⟩;simp only [] at hs1 hs2 hs3 hg1 hg2 ⊢;refine Zaa ?_;refine Rp0 [0,1,2,3,4,18,19,20,21,22,151] ?_;refine Zac rfl (fun h10=>?_) (fun h10=>?_)
 ·refine Kp0 ?_;simp only [Zx3] at h10;have f3:=adIU (a:=s) (b:=r1) (by omega);have f4:=half_uU (n:=s+r1) (by omega);obtain ⟨c,hc⟩:∃ c,c=(s+r1) / 2:=⟨_,rfl⟩;rw [← hc] at f4;have hci:s≤c:=by omega
  have hcj:c<r1:=by omega
  have f5:=sbIU (a:=mid+m-1) (b:=c) (by omega) (by omega);refine Zab ?_;refine Rp1 [0,1,2,3,4,18,19,20,21,22,23] (x2 f3 f4) ?_;refine Ok ?_;have g1:∀ d:Nat→Un,(rwsU d N).getD c []=(d c).enc:=fun d=>Zcc (by omega);have g2:∀ d:Nat→Un,(rwsU d N).getD (mid+m-1-c) []=(d (mid+m-1-c)).enc:=fun d=>Zcc (by omega);refine Zaa (Zbh [0,1,2,3,4,18,19,20,21,22,23,171] (by simp [Heap.le,Heap.get,HL.le,HL.get]) ?_);simp only [vmL,Nat.reduceEqDiff,reduceCtorEq,f5,g1,g2,un_take8,un_len8,rws_lenU];refine Ok ?_;refine ⟨_,.inl (sp_own_1 hu ..),?_⟩;refine Sp1 @cmpU_lt ?_;refine Zac rfl (fun h11=>?_) (fun h11=>?_)
  ·simp only [Bool.not_eq_true'] at h11;refine Zae [0,1,2,3,4,18,19,20,21,22] ?_;simp only [vmL,Nat.reduceEqDiff,reduceCtorEq,ad1U (a:=c) (by omega)];refine ⟨⟨(c+1,r1),by show st≤c+1;omega,by show c+1≤r1;omega,hs3,.inr h11,hg2⟩,?_⟩;exact Fn0
  ·simp only [Bool.not_eq_false'] at h11;refine rp0 [0,1,2,3,4,18,19,20,21,22] ?_;refine ⟨⟨(s,c),hs1,hci,by show c≤r;omega,hg1,.inr (leU_of_ahead h11)⟩,?_⟩;exact Fn0
 simp only [Zx2] at h10;obtain rfl:s=r1:=by omega
 have hcut:=cut_of_search (le:=(leU u)) (d:=d) (a:=a) (m:=m) (b:=b) (mid:=mid) (n:=mid+m) (s:=s) (st:=st) (r:=r) rfl ⟨by omega,by omega⟩ ⟨hs1,hs3⟩ ⟨by omega,by omega⟩ hst hr hg1 hg2;obtain ⟨en,hen⟩:∃ e,e=mid+m-s:=⟨_,rfl⟩;have f6:=sbIU (a:=mid+m) (b:=s) (by omega) (by omega);rw [← hen] at f6 hcut;refine Ep0 ?_;refine Rp1 [0,1,2,3,4,18,20,24] f6 ?_;refine Zaa ?_;refine Zc1 (σ:={ x:(Nat→Un)×Nat//Rot d x.1 s m en∧t≤x.2 }) (fun x=>([(0,.own id 0 N),(1,pI a),(3,pI b),(4,.fn (.func 119) [] [.ro u.enc]),(18,pI mid),(20,pI s),(24,pI en)],⟨[(id,.arr false 8 (rwsU x.1.1 N))],x.1.2⟩)) ?_ (fun x=>?_)
 ·refine VW_seqJ (σ:=Unit) [0,1,2,3,4,18,20,24,185] (fun _=>([(0,.own id 0 N),(1,pI a),(2,pI m),(3,pI b),(4,.fn (.func 119) [] [.ro u.enc]),(18,pI mid),(20,pI s),(24,pI en),(185,.bool (decide (s<m∧m<en)))],⟨[(id,.arr false 8 (rwsU d N))],t⟩)) ?_ (fun _=>?_)
  ·by_cases c1:s<m<;>by_cases c2:m<en
   all_goals
    simp only [c1,c2,decide_true,decide_false,true_and,and_true,false_and,and_false]
    first
    |have q1:decide ((s:Int)<(m:Int))=true:=decide_eq_true (by omega)
     first
     |have q2:decide ((m:Int)<(en:Int))=true:=decide_eq_true (by omega)
      refine Sp1 (x2 q1 q2) ?_;exact ⟨(),by first|trivial|rfl⟩
     |have q2:decide ((m:Int)<(en:Int))=false:=decide_eq_false (by omega)
      refine Sp1 (x2 q1 q2) ?_;exact ⟨(),by first|trivial|rfl⟩
    |have q1:decide ((s:Int)<(m:Int))=false:=decide_eq_false (by omega)
     refine Sp1 q1 ?_;exact ⟨(),by first|trivial|rfl⟩
  refine Zac rfl (fun h12=>?_) (fun h12=>?_)
  ·simp only [Zx3] at h12;refine rp0 [0,1,3,4,18,20,24] ?_;refine Zal.mono (sp_rotateU _ id N s m en t d hid h12.1 h12.2 (by omega) hN) ?_;rintro p h' ⟨d2,hs2,t2,ht2,rfl⟩;refine Sp0 ?_;refine ⟨⟨(d2,t2),hs2,ht2⟩,?_⟩;exact Fn0
  ·simp only [Zx2] at h12;refine Kp0 ?_;have hrot:Rot d d s m en:=by
    by_cases c1:s=m
    ·subst c1;exact rot_lU d
    ·obtain rfl:en=m:=by omega
     exact rot_rU d
   refine ⟨⟨(d,t),hrot,Nat.le_refl _⟩,?_⟩;exact Fn0
 obtain ⟨⟨d1,t1⟩,hrot,ht1⟩:=x;simp only [] at hrot ht1 ⊢;refine Zaa ?_;refine Zc1 (σ:={ x:(Nat→Un)×Nat//Mrg (leU u) d1 x.1 a s mid∧t≤x.2 }) (fun x=>([(0,.own id 0 N),(3,pI b),(4,.fn (.func 119) [] [.ro u.enc]),(18,pI mid),(24,pI en)],⟨[(id,.arr false 8 (rwsU x.1.1 N))],x.1.2⟩)) ?_ (fun x=>?_)
 ·refine VW_seqJ (σ:=Unit) [0,1,3,4,18,20,24,199] (fun _=>([(0,.own id 0 N),(1,pI a),(3,pI b),(4,.fn (.func 119) [] [.ro u.enc]),(18,pI mid),(20,pI s),(24,pI en),(199,.bool (decide (a<s∧s<mid)))],⟨[(id,.arr false 8 (rwsU d1 N))],t1⟩)) ?_ (fun _=>?_)
  ·by_cases c1:a<s<;>by_cases c2:s<mid
   all_goals
    simp only [c1,c2,decide_true,decide_false,true_and,and_true,false_and,and_false]
    first
    |have q1:decide ((a:Int)<(s:Int))=true:=decide_eq_true (by omega)
     first
     |have q2:decide ((s:Int)<(mid:Int))=true:=decide_eq_true (by omega)
      refine Sp1 (x2 q1 q2) ?_;exact ⟨(),by first|trivial|rfl⟩
     |have q2:decide ((s:Int)<(mid:Int))=false:=decide_eq_false (by omega)
      refine Sp1 (x2 q1 q2) ?_;exact ⟨(),by first|trivial|rfl⟩
    |have q1:decide ((a:Int)<(s:Int))=false:=decide_eq_false (by omega)
     refine Sp1 q1 ?_;exact ⟨(),by first|trivial|rfl⟩
  refine Zac rfl (fun h13=>?_) (fun h13=>?_)
  ·simp only [Zx3] at h13;refine rp0 [0,3,4,18,24] ?_;refine Zal.mono (ih id N a s mid t1 d1 (by omega) (by omega) h13.1 h13.2 (by omega) hN) ?_;rintro p h' ⟨d2,hs2,t2,ht2,rfl⟩;refine Sp0 ?_;refine ⟨⟨(d2,t2),hs2,Nat.le_trans ht1 ht2⟩,?_⟩;exact Fn0
  ·simp only [Zx2] at h13;refine Kp0 ?_;refine ⟨⟨(d1,t1),mrg_noneU d1 (by omega),ht1⟩,?_⟩;exact Fn0
 obtain ⟨⟨d2,t2⟩,hm1,ht2⟩:=x;simp only [] at hm1 ht2 ⊢;have fin:∀ d3,Mrg (leU u) d2 d3 mid en b→Mrg (leU u) d d3 a m b:=fun d3 hm2 =>
  Mrg.join leU_trans (by omega) (by omega) (by omega) (by omega) (by omega) hrot hm1 hm2 (fun _ _=>hcut.1) (fun _ _=>hcut.2)
 refine VW_seqJ (σ:=Unit) [0,3,4,18,24,213] (fun _=>([(0,.own id 0 N),(3,pI b),(4,.fn (.func 119) [] [.ro u.enc]),(18,pI mid),(24,pI en),(213,.bool (decide (mid<en∧en<b)))],⟨[(id,.arr false 8 (rwsU d2 N))],t2⟩)) ?_ (fun _=>?_)
 ·by_cases c1:mid<en<;>by_cases c2:en<b
  all_goals
   simp only [c1,c2,decide_true,decide_false,true_and,and_true,false_and,and_false]
   first
   |have q1:decide ((mid:Int)<(en:Int))=true:=decide_eq_true (by omega)
    first
    |have q2:decide ((en:Int)<(b:Int))=true:=decide_eq_true (by omega)
     refine Sp1 (x2 q1 q2) ?_;exact ⟨(),by first|trivial|rfl⟩
    |have q2:decide ((en:Int)<(b:Int))=false:=decide_eq_false (by omega)
     refine Sp1 (x2 q1 q2) ?_;exact ⟨(),by first|trivial|rfl⟩
   |have q1:decide ((mid:Int)<(en:Int))=false:=decide_eq_false (by omega)
    refine Sp1 q1 ?_;exact ⟨(),by first|trivial|rfl⟩
 refine Zac rfl (fun h14=>?_) (fun h14=>?_)
 ·simp only [Zx3] at h14;refine rp0 [] ?_;refine Zal.mono (ih id N mid en b t2 d2 (by omega) (by omega) h14.1 h14.2 (by omega) hN) ?_;rintro p h' ⟨d3,hs3,t3,ht3,rfl⟩
  skip
  exact ⟨d3,fin d3 hs3,t3,Nat.le_trans ht2 ht3,rfl⟩
 ·simp only [Zx2] at h14;refine Kp0 ?_;exact ⟨d2,fin d2 (mrg_noneU d2 (by omega)),t2,ht2,rfl⟩
end Go.Proofs.w
