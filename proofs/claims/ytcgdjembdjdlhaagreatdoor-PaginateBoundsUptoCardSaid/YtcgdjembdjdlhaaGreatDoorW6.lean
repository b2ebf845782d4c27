import Derived.Test.YtcgdjembdjdlhaaGreatDoorY1
import Derived.Test.YtcgdjembdjdlhaaGreatDoorVmPk
import Derived.Test.YtcgdjembdjdlhaaGreatDoorGc
import Derived.Test.YtcgdjembdjdlhaaGreatDoorY4
import Derived.Test.YtcgdjembdjdlhaaGreatDoorYa
set_option linter.all false
set_option maxRecDepth 20000
set_option maxHeartbeats 0
namespace Go.Proofs.YtcgdjembdjdlhaaGreatDoor.w
open Go Go.VM
def c_unit_Depth:VC:=(ZR [ZO 1 (.box 8 (.t 0)),ZO 2 (.mv (.c (.int .i64 0)))] (ZR [ZO 3 (.mv (.c (.int .i64 0)))] (.seq (ZR [ZO 6 (.faddr 7 (.t 1)),ZO 7 (.load false 1 (.t 6)),ZO 8 (.len false (.t 7)),ZO 9 (.mv (.c (.int .i64 0)))] (.block 0 (.loop (ZR [ZO 10 (.bin .lss (.t 9) (.t 8))] (.seq (.cond (.t 10) .skip (.exit 0)) (.seq (.block 1 (ZR [ZO 11 (.iaddr 8 (.t 7) (.t 9)),ZO 12 (.load true 8 (.t 11)),ZO 5 (.alloc ZU),ZN (.store 8 (.t 5) (.t 12))] (.region [ZM 13 3,ZO 14 (.load true 8 (.t 5)),ZO 15 (.call 202 [.t 14]),ZO 16 (.bin .add (.c (.int .i64 1)) (.t 15)),ZO 17 (.mm true [.t 13,.t 16]),ZM 3 17] false))) (.region [ZO 18 (.bin .add (.t 9) (.c (.int .i64 1))),ZM 9 18] false))))))) (ZR [ZM 19 3,ZM 2 19] .ret))))
theorem sp_unit_Depth {u:Un} (hu:SmT u) (hn:(unitsT u).length≤1000):Zak Tryz.prog 202 [.agg u.enc] (pI (depthT u)):=by
 induction hu with
 | mk u h hk hs ih =>
  have hb:∀ k∈u.kids,1+depthT k≤1000:=fun k hk'=>by have:=depth_le (hs k hk');have:=Zbc hk';rw [Zan,List.length_cons] at hn;omega
  have ih':∀ k∈u.kids,Zak Tryz.prog 202 [.agg k.enc] (pI (depthT k)):=fun k hk'=>ih k hk' (by have:=Zbc hk';rw [Zan,List.length_cons] at hn;omega);rw [depthT_eq];refine Gp (vc:=c_unit_Depth) [.t 2] (cI _) Tryz.func202 ?_;unfold c_unit_Depth;try dsimp only [ZM,ZO,ZN,ZG,ZR,ZU]
  rw [Un.Zaf];refine Rp0 [1] ?_;refine Zat [(1,.ro [pI u.act,pI u.item,pI u.n,pI u.kind,.str u.label,.sl 4 (u.head.map Wd.enc),.sl 4 (u.words.map Wd.enc),.sl 8 (u.kids.map Un.enc)])] ⟨View.loc (z:=8) (fz:=false) (es:=[[pI u.act,pI u.item,pI u.n,pI u.kind,.str u.label,.sl 4 (u.head.map Wd.enc),.sl 4 (u.words.map Wd.enc),.sl 8 (u.kids.map Un.enc)]]) rfl (by simp) rfl (by simp),trivial⟩ ?_;generalize u.head.map Wd.enc=EH;generalize u.words.map Wd.enc=EW;generalize u.kids=L at hk hb ih' ⊢;refine Rp0 [1,3] ?_;refine Zaa ?_;refine Rp1 [3,7,8,9] @xlm ?_;refine Zab ?_;refine Zah (σ:={ x:Nat×Nat//x.1≤L.length }) (fun x=>([(3,pI ((L.take x.1.1).foldl dpF 0:Nat)),(7,.sl 8 (L.map Un.enc)),(8,pI L.length),(9,pI x.1.1)],⟨[],x.1.2⟩)) (fun x=>L.length-x.1.1) ⟨(0,1),Nat.zero_le _⟩ ?_ ?_ ?_
  ·exact Fn0
  ·exact Sc0
  rintro ⟨⟨k,t⟩,hkk⟩;simp only [] at hkk ⊢;refine Rp0 [3,7,8,9,10] ?_;refine Zaa ?_;refine Zac rfl (fun h1=>?_) (fun h1=>?_)
  ·have ka:k<L.length:=by simp only [decide_eq_true_eq] at h1;omega
   have hst:=dpF_step ka;have hrow:(L.map Un.enc).getD k []=L[k].enc:=rowm ka;have R:=ih' _ (List.getElem_mem ka);have hkb:=hb _ (List.getElem_mem ka);have hd:=dpF_bd (L.take k) 0 1000 (by omega) (fun x hx=>hb x (List.mem_of_mem_take hx));generalize L[k]=v at hst hrow R hkb;generalize (L.take k).foldl dpF 0=D at hst hd ⊢;rw [Un.Zaf] at hrow R;generalize depthT v=dv at hst R hkb;refine Kp0 ?_;refine Zaa ?_;refine Zab ?_;refine Rp1 [3,5,7,8,9] (x2 @xlm hrow) ?_;refine Ok ?_;refine rp0 [3,7,8,9] ?_;refine Ap1 R (w64 (n:=(1:Int)+dv) (by omega) (by omega)) ?_;have e:(if (1:Int)+dv>D then (1:Int)+dv else (D:Int))=((max D (1+dv):Nat):Int):=by split<;>omega
   rw [e];refine rp1 [3,7,8,9] (ad1 (a:=k) (by omega)) ?_;refine ⟨⟨(k+1,t+1),ka⟩,?_⟩;simp only [hst]
   all_goals exact Fn0
  ·have ka:k=L.length:=by simp only [decide_eq_false_iff_not] at h1;omega
   subst ka;rw [List.take_length];refine Ep0 ?_;exact Rv0 [2]
end Go.Proofs.YtcgdjembdjdlhaaGreatDoor.w
namespace Go.Proofs.YtcgdjembdjdlhaaGreatDoor.w
open Go Go.VM
theorem id_eqs (a b:Idt):((a.act==b.act&&(a.item==b.item&&(a.n==b.n&&true))) != false)=decide (a=b):=by
 rw [Bool.eq_iff_iff];cases a;cases b;simp
end Go.Proofs.YtcgdjembdjdlhaaGreatDoor.w
namespace Go.VM
open Go
mutual
def wayT (x : Idt) : Un → List Un
 | .mk a i n k l h w ks => if (⟨a, i, n⟩ : Idt) = x then [.mk a i n k l h w ks] else match wayL x ks with
  | [] => []
  | v :: r => .mk a i n k l h w ks :: v :: r
def wayL (x : Idt) : List Un → List Un
 | [] => []
 | k :: r => match wayT x k with
  | [] => wayL x r
  | v :: q => v :: q
end
theorem wayT_eq (x : Idt) (u : Un) : wayT x u = if idU u = x then [u] else match wayL x u.kids with
  | []=>[]
  | v::r=>u::v::r:=by cases u;rw [wayT];rfl
theorem wayL_skip {x:Idt}:∀ {L:List Un} {k:Nat},(∀ (j:Nat) (hj:j<L.length),j<k→wayT x L[j]=[])→wayL x L=wayL x (L.drop k)
 | _,0,_=>rfl
 | [],k+1,_=>rfl
 | a::r,k+1,h=>by
  have h0:wayT x a=[]:=h 0 (by simp) (by omega);rw [wayL,h0,List.drop_succ_cons];exact wayL_skip (k:=k) fun j hj hjk=>h (j+1) (by simpa using hj) (by omega)
theorem wayL_hit {x:Idt} {L:List Un} {k:Nat} (hk:k<L.length) (h:∀ (j:Nat) (hj:j<L.length),j<k→wayT x L[j]=[]) (hne:wayT x L[k]≠[]):wayL x L=wayT x L[k]:=by
 rw [wayL_skip h,List.drop_eq_getElem_cons hk,wayL];cases hw:wayT x L[k] with
 | nil=>exact absurd hw hne
 | cons v q=>rfl
theorem wayL_miss {x:Idt} {L:List Un} (h:∀ (j:Nat) (hj:j<L.length),wayT x L[j]=[]):wayL x L=[]:=by
 rw [wayL_skip (k:=L.length) fun j hj _=>h j hj,List.drop_length,wayL]
def wayV (w:List Un):PV:=if w=[] then .nilsl else .sl 8 (w.map Un.enc)
theorem way_mem {x:Idt} {u:Un} (h:SmT u):∀ v∈wayT x u,v∈unitsT u:=by
 induction h with
 | mk u h hk hs ih =>
  intro v hv;rw [wayT_eq] at hv;split at hv
  ·rw [List.mem_singleton] at hv;subst hv;exact Zbb _
  ·have key : ∀ L : List Un, (∀ k ∈ L, k ∈ u.kids) → ∀ v ∈ wayL x L, ∃ k ∈ u.kids, v ∈ unitsT k := by
    intro L
    induction L with
    | nil=>intro _ v hv;rw [wayL] at hv;cases hv
    | cons a r ihr =>
     intro hL v hv;rw [wayL] at hv;cases hw:wayT x a with
     | nil=>rw [hw] at hv;exact ihr (fun k hk=>hL k (List.mem_cons_of_mem _ hk)) v hv
     | cons b q =>
      rw [hw] at hv;exact ⟨a,hL a List.mem_cons_self,ih a (hL a List.mem_cons_self) v (by rw [hw];exact hv)⟩
   cases hw:wayL x u.kids with
   | nil=>rw [hw] at hv;cases hv
   | cons b q =>
    rw [hw] at hv;rcases List.mem_cons.1 hv with rfl|hv
    ·exact Zbb _
    ·obtain ⟨k,h1,h2⟩:=key u.kids (fun k hk=>hk) v (by rw [hw];exact hv);exact Zb6 h1 h2
theorem way_len {x:Idt} {u:Un} (h:SmT u):(wayT x u).length≤(unitsT u).length:=by
 induction h with
 | mk u h hk hs ih =>
  have hw:=wayT_eq x u;rw [Zan,List.length_cons,hw];split
  ·simp
  ·have key : ∀ L : List Un, (∀ k ∈ L, k ∈ u.kids) → (wayL x L).length ≤ (unitsL L).length := by
    intro L
    induction L with
    | nil=>intro _;rw [wayL];simp
    | cons a r ihr =>
     intro hL;rw [wayL,unitsL,List.length_append];have h1:=ih a (hL a List.mem_cons_self);have h2:=ihr fun k hk=>hL k (List.mem_cons_of_mem _ hk);cases hw:wayT x a with
     | nil=>show (wayL x r).length≤_;omega
     | cons b q=>rw [hw] at h1;show (b::q).length≤_;omega
   have:=key u.kids fun k hk=>hk;cases hw2:wayL x u.kids with
   | nil=>simp
   | cons b q=>rw [hw2] at this;simp only [List.length_cons] at this ⊢;omega
end Go.VM
namespace Go.Proofs.YtcgdjembdjdlhaaGreatDoor.w
open Go Go.VM
def c_unit_way:VC:=(ZR [ZO 2 (.box 8 (.t 0)),ZO 3 (.box 3 (.t 1)),ZO 4 (.mv (.c .nilsl))] (.seq (ZR [ZO 8 (.faddr 0 (.t 2)),ZO 9 (.load true 3 (.t 8)),ZO 10 (.load true 3 (.t 3)),ZO 11 (.eqs false [.i,.i,.i] (.t 9) (.t 10))] (.cond (.t 11) (ZR [ZO 12 (.load true 8 (.t 2)),ZO 13 (.bslice 8 1 ZU [(0,(.t 12))]),ZM 4 13] .ret) .skip)) (.seq (ZR [ZO 14 (.faddr 7 (.t 2)),ZO 15 (.load false 1 (.t 14)),ZO 16 (.len false (.t 15)),ZO 17 (.mv (.c (.int .i64 0)))] (.block 0 (.loop (ZR [ZO 18 (.bin .lss (.t 17) (.t 16))] (.seq (.cond (.t 18) .skip (.exit 0)) (.seq (.block 1 (ZR [ZO 19 (.iaddr 8 (.t 15) (.t 17)),ZO 20 (.load true 8 (.t 19)),ZO 6 (.alloc ZU),ZN (.store 8 (.t 6) (.t 20))] (ZR [ZO 21 (.load true 8 (.t 6)),ZO 22 (.load true 3 (.t 3)),ZO 23 (.call 125 [.t 21,.t 22]),ZM 7 23] (ZR [ZM 24 7,ZO 25 (.nd true (.t 24))] (.cond (.t 25) (ZR [ZO 26 (.load true 8 (.t 2)),ZO 27 (.bslice 8 1 ZU [(0,(.t 26))]),ZM 28 7,ZO 29 (.app 8 120 ZU false (.t 27) (.t 28)),ZM 4 29] .ret) .skip))))) (.region [ZO 30 (.bin .add (.t 17) (.c (.int .i64 1))),ZM 17 30] false))))))) (ZR [ZO 4 (.mv (.c .nilsl))] .ret))))
def c_unit_Find:VC:=(ZR [ZO 2 (.box 8 (.t 0)),ZO 3 (.box 3 (.t 1)),ZO 4 (.alloc ZU),ZO 5 (.mv (.c (.bool false)))] (ZR [ZO 7 (.load true 8 (.t 2)),ZO 8 (.load true 3 (.t 3)),ZO 9 (.call 125 [.t 7,.t 8]),ZM 6 9] (.seq (ZR [ZM 10 6,ZO 11 (.len false (.t 10)),ZO 12 (.bin .eql (.t 11) (.c (.int .i64 0)))] (.cond (.t 12) (ZR [ZO 13 (.build ZU []),ZN (.store 8 (.t 4) (.t 13)),ZO 5 (.mv (.c (.bool false)))] .ret) .skip)) (ZR [ZM 14 6,ZM 15 6,ZO 16 (.len false (.t 15)),ZO 17 (.bin .sub (.t 16) (.c (.int .i64 1))),ZO 18 (.iaddr 8 (.t 14) (.t 17)),ZO 19 (.load true 8 (.t 18)),ZO 20 (.call 126 [.t 19]),ZN (.store 8 (.t 4) (.t 20)),ZO 5 (.mv (.c (.bool true)))] .ret))))
def c_unit_Ancestors:VC:=(ZR [ZO 2 (.box 8 (.t 0)),ZO 3 (.box 3 (.t 1)),ZO 4 (.mv (.c .nilsl))] (ZR [ZO 5 (.mv (.c .nilsl))] (ZR [ZO 8 (.load true 8 (.t 2)),ZO 9 (.load true 3 (.t 3)),ZO 10 (.call 125 [.t 8,.t 9]),ZM 6 10] (.seq (ZR [ZM 11 6,ZO 12 (.len false (.t 11)),ZO 13 (.bin .sub (.t 12) (.c (.int .i64 2))),ZM 7 13] (.block 0 (.loop (.seq (ZR [ZM 14 7,ZO 15 (.bin .geq (.t 14) (.c (.int .i64 0)))] (.cond (.t 15) .skip (.exit 0))) (.seq (.block 1 (.region [ZM 18 5,ZM 19 6,ZM 20 7,ZO 21 (.iaddr 8 (.t 19) (.t 20)),ZO 22 (.faddr 0 (.t 21)),ZO 23 (.load true 3 (.t 22)),ZO 24 (.bslice 3 1 [.int .i64 0,.int .i64 0,.int .i64 0] [(0,(.t 23))]),ZO 25 (.app 3 24 [.int .i64 0,.int .i64 0,.int .i64 0] false (.t 18) (.t 24)),ZM 5 25] false)) (.region [ZM 16 7,ZO 17 (.bin .sub (.t 16) (.c (.int .i64 1))),ZM 7 17] false)))))) (ZR [ZM 26 5,ZM 4 26] .ret)))))
def c_treeedit_has:VC:=(ZR [ZO 2 (.box 8 (.t 0)),ZO 3 (.box 3 (.t 1)),ZO 4 (.mv (.c (.bool false)))] (ZR [ZO 8 (.load true 8 (.t 2)),ZO 9 (.load true 3 (.t 3)),ZO 10 (.call 68 [.t 8,.t 9]),ZM 7 10,ZO 11 (.ext (.t 7) 0),ZO 12 (.ext (.t 7) 1),ZO 5 (.alloc ZU),ZN (.store 8 (.t 5) (.t 11)),ZM 6 12] (ZR [ZM 13 6,ZM 4 13] .ret)))
theorem closed_way (w:List Un):Closed (wayV w):=by
 unfold wayV;split
 ·exact closed_nilsl
 ·exact closed_uns _
theorem Zbe (u:Un) (x:Idt):Za0 [.agg u.enc,.agg x.enc]:=by
 intro y hy;simp only [List.mem_cons,List.not_mem_nil,or_false] at hy;rcases hy with rfl|rfl
 ·exact Zap _
 ·exact Zax x.closed
theorem sp_unit_way {u:Un} (hu:SmT u) (hn:(unitsT u).length≤1000) (x:Idt):Zak Tryz.prog 125 [.agg u.enc,.agg x.enc] (wayV (wayT x u)):=by
 induction hu with
 | mk u h hk hs ih =>
  have hw:=wayT_eq x u;rw [Zan,List.length_cons] at hn;have ih':∀ k∈u.kids,Zak Tryz.prog 125 [.agg k.enc,.agg x.enc] (wayV (wayT x k)):=fun k hk'=>ih k hk' (by have:=Zbc hk';omega);have hlen:∀ k∈u.kids,(wayT x k).length≤1000:=fun k hk'=>by have:=way_len (x:=x) (hs k hk');have:=Zbc hk';omega
  have he:=id_eqs (idU u) x;have hxe:x.enc=[pI x.act,pI x.item,pI x.n]:=rfl;refine Zad ?_ (closed_way _) (Zbe u x);refine Gn (vc:=c_unit_way) [.t 4] Tryz.func125 ?_;unfold c_unit_way;try dsimp only [ZM,ZO,ZN,ZG,ZR,ZU]
  have hue:=Un.Zaf u;rw [hue,hxe];refine Rp0 [2,3] ?_;refine Zat [(2,.ro [pI u.act,pI u.item,pI u.n,pI u.kind,.str u.label,.sl 4 (u.head.map Wd.enc),.sl 4 (u.words.map Wd.enc),.sl 8 (u.kids.map Un.enc)]),(3,.ro [pI x.act,pI x.item,pI x.n])] ⟨View.loc (z:=8) (fz:=false) (es:=[[pI u.act,pI u.item,pI u.n,pI u.kind,.str u.label,.sl 4 (u.head.map Wd.enc),.sl 4 (u.words.map Wd.enc),.sl 8 (u.kids.map Un.enc)]]) rfl (by simp) rfl (by simp),View.loc (z:=3) (fz:=false) (es:=[[pI x.act,pI x.item,pI x.n]]) rfl (by simp) rfl (by simp),trivial⟩ ?_;generalize u.head.map Wd.enc=EH at *;generalize u.words.map Wd.enc=EW at *;refine Zaa ?_;refine Rp0 [2,3,11] ?_;have he':((u.act==x.act&&(u.item==x.item&&(u.n==x.n&&true))) != false)=decide (idU u=x):=he;rw [he'];by_cases hid:idU u=x
  ·rw [if_pos hid] at hw;rw [hw,decide_eq_true hid];have hv:wayV [u]=.sl 8 [u.enc]:=rfl;rw [hv,hue];refine Ct ?_;refine Rp0 [4] ?_;refine Tp0 ?_;exact View.own_all (fz:=false) rfl rfl
  rw [if_neg hid] at hw;rw [decide_eq_false hid];refine Fp0 ?_;refine Zaa ?_;refine Rp1 [2,3,15,16,17] @xlm ?_;rw [hw];clear hw hid he he' ih;generalize hKL:u.kids=L at hk hn ih' hlen hue ⊢;refine Zab ?_;refine Zah (σ:={ y:Nat×Nat//y.1≤L.length∧∀ (j:Nat) (hj:j<L.length),j<y.1→wayT x L[j]=[] }) (fun y=>([(2,.ro [pI u.act,pI u.item,pI u.n,pI u.kind,.str u.label,.sl 4 EH,.sl 4 EW,.sl 8 (L.map Un.enc)]),(3,.ro [pI x.act,pI x.item,pI x.n]),(15,.sl 8 (L.map Un.enc)),(16,pI L.length),(17,pI y.1.1)],⟨[],y.1.2⟩)) (fun y=>L.length-y.1.1) ⟨(0,2),Nat.zero_le _,fun j _ h=>by cases h⟩ ?_ ?_ ?_
  ·exact Fn0
  ·exact Sc0
  rintro ⟨⟨k,t⟩,hkk,hpre⟩;simp only [] at hkk hpre ⊢;refine Rp0 [2,3,15,16,17,18] ?_;refine Zaa ?_;refine Zac rfl (fun h1=>?_) (fun h1=>?_)
  ·have ka:k<L.length:=by simp only [decide_eq_true_eq] at h1;omega
   have hrow:(L.map Un.enc).getD k []=L[k].enc:=rowm ka;have R:=ih' _ (List.getElem_mem ka);have hl:=hlen _ (List.getElem_mem ka);have hhit:=wayL_hit ka hpre;generalize hv:L[k]=v at hrow R hl hhit;rw [Un.Zaf,hxe] at R;rw [Un.Zaf] at hrow;refine Kp0 ?_;refine Zaa ?_;refine Zab ?_;refine Rp1 [2,3,6,15,16,17] (x2 @xlm hrow) ?_;refine Ok ?_;refine Rp0 [2,3,7,15,16,17] ?_;refine Zao R ?_;unfold wayV;by_cases hw0:wayT x v=[]
   ·rw [if_pos hw0]
    skip
    refine Rp0 [2,3,15,16,17,25] ?_;rintro b rfl _;refine Fp0 ?_;refine rp1 [2,3,15,16,17] (ad1 (a:=k) (by omega)) ?_;refine ⟨⟨(k+1,t+1),ka,fun j hj hjk=>?_⟩,?_⟩
    ·by_cases e:j=k
     ·subst e;rw [hv];exact hw0
     ·exact hpre j hj (by omega)
    ·exact Fn0
   ·rw [if_neg hw0];have hq:=hhit hw0;rw [hq];obtain ⟨a,q,haq⟩:∃ a q,wayT x v=a::q:=by
     cases hc:wayT x v with
     | nil=>exact absurd hc hw0
     | cons a q=>exact ⟨a,q,rfl⟩
    rw [haq] at hl ⊢;refine Zaa (Zae [2,7,25] ?_);simp only [vmL,Nat.reduceEqDiff,reduceCtorEq,List.map_cons];rintro b-rfl;refine Ct ?_;refine Rp1 [4] @xlm ?_;refine ⟨by simp at hl;omega,by simp at hl;omega,?_⟩;refine Tp0 ?_;rw [hue];exact View.own_all (fz:=false) (by simp [Heap.get,HL.get]) (by simp;omega)
  ·have ka:k=L.length:=by simp only [decide_eq_false_iff_not] at h1;omega
   subst ka;rw [wayL_miss fun j hj=>hpre j hj hj];refine Ep0 ?_;exact Rv0 [4]
def zeroU:Un:=.mk 0 0 0 0 [] [] [] []
def Zau (x:Idt) (u:Un):Un×Bool:=match (wayT x u).getLast? with
 | some v=>(v,true)
 | none=>(zeroU,false)
theorem view_zero (h:Heap):View h (.agg [pI 0,pI 0,pI 0,pI 0,.str [],.nilsl,.nilsl,.nilsl]) (.agg zeroU.enc):=by
 rw [Un.Zaf];refine View.agg rfl fun j hj=>?_;have hj':j=0∨j=1∨j=2∨j=3∨j=4∨j=5∨j=6∨j=7:=by simp only [List.length_cons,List.length_nil] at hj;omega
 rcases hj' with rfl|rfl|rfl|rfl|rfl|rfl|rfl|rfl
 ·exact View.refl _ _
 ·exact View.refl _ _
 ·exact View.refl _ _
 ·exact View.refl _ _
 ·exact View.refl _ _
 ·exact View.nil _ _
 ·exact View.nil _ _
 ·exact View.nil _ _
theorem sp_unit_Find {u:Un} (hu:SmT u) (hn:(unitsT u).length≤1000) (x:Idt):Zak Tryz.prog 68 [.agg u.enc,.agg x.enc] (.tup [.agg (Zau x u).1.enc,.bool (Zau x u).2]):=by
 have Wy:=sp_unit_way hu hn x;have hwl:=way_len (x:=x) hu;have hmem:=way_mem (x:=x) hu;have hxe:x.enc=[pI x.act,pI x.item,pI x.n]:=rfl;refine Zad ?_ (Zbs (by simp only [List.mem_cons,List.not_mem_nil,or_false,forall_eq_or_imp,forall_eq];exact ⟨Zap _,cB _⟩)) (Zbe u x);refine Gn (vc:=c_unit_Find) [.c 4 true 8,.t 5] Tryz.func68 ?_;unfold c_unit_Find;try dsimp only [ZM,ZO,ZN,ZG,ZR,ZU]
 have hue:=Un.Zaf u;rw [hue,hxe] at Wy ⊢;generalize u.head.map Wd.enc=EH at Wy ⊢;generalize u.words.map Wd.enc=EW at Wy ⊢;generalize u.kids.map Un.enc=EK at Wy ⊢;refine Rp0 [2,3,4,5] ?_;refine Rp0 [4,5,6] ?_;refine Zao Wy ?_;unfold Zau;refine Zaa ?_;by_cases hw0:wayT x u=[]
 ·rw [hw0];have hv:wayV []=.nilsl:=rfl;rw [hv]
  skip
  refine Rp0 [4,5,6,12] ?_;refine Ct ?_;refine Rp0 [4,5] ?_;refine Tp0 ?_;exact View.tup2 (view_zero _) (View.refl _ _)
 ·have hv:wayV (wayT x u)=.sl 8 ((wayT x u).map Un.enc):=by unfold wayV;rw [if_neg hw0]
  rw [hv];obtain ⟨p,v,hpv⟩:∃ p v,wayT x u=p++[v]:=⟨_,_,(List.dropLast_concat_getLast hw0).symm⟩;have hC:=sp_unit_copied (hu.units v (hmem v (by rw [hpv];simp)));have hgl:(wayT x u).getLast?=some v:=by rw [hpv];simp
  rw [hgl];have hrow:((wayT x u).map Un.enc).getD p.length []=v.enc:=by rw [hpv];simp
  have hwl2:(wayT x u).length=p.length+1:=by rw [hpv];simp
  have hWl:((wayT x u).map Un.enc).length=p.length+1:=by rw [List.length_map,hwl2]
  generalize (wayT x u).map Un.enc=WE at hrow hWl ⊢;have hz:(((p.length+1:Nat):Int)==0)=false:=by rw [beq_eq_false_iff_ne];omega
  have hm1:IntKind.i64.wrap (((p.length+1:Nat):Int)-1)=(p.length:Int):=by rw [w64 (by omega) (by omega)];omega
  have hve:=Un.Zaf v;rw [hve] at hC hrow ⊢;refine Sp0 ?_;refine Rp1 [4,5,6,12] (x2 hWl hz) ?_;refine Fp0 ?_;refine Rp1 [4,5] (x3 hWl hm1 hrow) ?_;refine ⟨⟨by omega,by omega⟩,?_⟩;refine Ap0 hC ?_;exact Tv0
end Go.Proofs.YtcgdjembdjdlhaaGreatDoor.w
namespace Go.VM
open Go
def kidsU (u:Un) (ks:List Un):Un:=.mk u.act u.item u.n u.kind u.label u.head u.words ks
mutual
def atT (f : Un → Un) (x : Idt) : Un → Option Un
 | .mk a i n k l h w ks => if (⟨a, i, n⟩ : Idt) = x then some (f (.mk a i n k l h w ks)) else match atL f x ks with
  | some ks' => some (.mk a i n k l h w ks')
  | none => none
def atL (f : Un → Un) (x : Idt) : List Un → Option (List Un)
 | [] => none
 | k :: r => match atT f x k with
  | some k' => some (k' :: r)
  | none => match atL f x r with
   | some r' => some (k :: r')
   | none => none
end
theorem atT_eq (f : Un → Un) (x : Idt) (u : Un) : atT f x u = if idU u = x then some (f u) else match atL f x u.kids with
  | some ks'=>some (kidsU u ks')
  | none=>none:=by cases u;rw [atT];rfl
theorem atL_hit {f:Un→Un} {x:Idt} {y:Un}:∀ {L:List Un} {k:Nat} (hk:k<L.length),(∀ (j:Nat) (hj:j<L.length),j<k→atT f x L[j]=none)→atT f x L[k]=some y→atL f x L=some (L.set k y)
 | a::r,0,_,_,h=>by
  have h':atT f x a=some y:=h;rw [atL,h'];rfl
 | a::r,k+1,hk,hp,h=>by
  have h0:atT f x a=none:=hp 0 (by simp) (by omega);rw [atL,h0,atL_hit (k:=k) (by simpa using hk) (fun j hj hjk=>hp (j+1) (by simpa using hj) (by omega)) h];rfl
theorem atL_miss {f:Un→Un} {x:Idt}:∀ {L:List Un},(∀ (j:Nat) (hj:j<L.length),atT f x L[j]=none)→atL f x L=none
 | [],_=>by rw [atL]
 | a::r,h=>by
  have h0:atT f x a=none:=h 0 (by simp);rw [atL,h0,atL_miss (fun j hj=>h (j+1) (by simpa using hj))]
def parT (x:Idt) (u:Un):Idt×Int×Bool :=
 if (wayT x u).length<2 then (idZ,-1,false) else
  (idU ((wayT x u).getD ((wayT x u).length-2) (.mk 0 0 0 0 [] [] [] [])),idxF (fun k=>decide (wayT x k≠[])) ((wayT x u).getD ((wayT x u).length-2) (.mk 0 0 0 0 [] [] [] [])).kids,true)
theorem wayL_ne {x:Idt}:∀ {L:List Un},wayL x L≠[]→∃ k∈L,wayT x k≠[]∧wayL x L=wayT x k
 | [],h=>by rw [wayL] at h;exact absurd rfl h
 | a::r,h=>by
  rw [wayL] at h ⊢;cases hw:wayT x a with
  | nil =>
   rw [hw] at h;obtain ⟨k,h1,h2,h3⟩:=wayL_ne h;exact ⟨k,List.mem_cons_of_mem _ h1,h2,h3⟩
  | cons b q=>exact ⟨a,List.mem_cons_self,by rw [hw];simp,by rw [hw]⟩
theorem par_spec {x:Idt} {u:Un} (h:SmT u):2≤(wayT x u).length→∃ p∈unitsT u,(wayT x u).getD ((wayT x u).length-2) (.mk 0 0 0 0 [] [] [] [])=p∧∃ k∈p.kids,wayT x k≠[]:=by
 induction h with
 | mk u h hk hs ih =>
  intro h2;have hw:=wayT_eq x u;split at hw
  ·rw [hw] at h2;simp at h2
  ·cases hl:wayL x u.kids with
   | nil=>rw [hl] at hw;rw [hw] at h2;simp at h2
   | cons b q =>
    rw [hl] at hw
    replace hw:wayT x u=u::(b::q):=hw
    obtain ⟨k,k1,k2,k3⟩:=wayL_ne (x:=x) (L:=u.kids) (by rw [hl];simp);rw [hl] at k3;by_cases h3:2≤(wayT x k).length
    ·obtain ⟨p,p1,p2,p3⟩:=ih k k1 h3;refine ⟨p,Zb6 k1 p1,?_,p3⟩;rw [hw,k3];have:(u::wayT x k).length-2=((wayT x k).length-2)+1:=by simp only [List.length_cons];omega
     rw [this,List.getD_cons_succ];exact p2
    ·refine ⟨u,Zbb u,?_,k,k1,k2⟩;rw [hw,k3];have h4:(wayT x k).length=1:=by
      have:=List.length_pos_iff.2 k2;omega
     have:(u::wayT x k).length-2=0:=by simp only [List.length_cons];omega
     rw [this];rfl
theorem idxF_some {α:Type} {p:α→Bool} {l:List α} {x:α} (hx:x∈l) (hp:p x=true):∃ i,i<l.length∧idxF p l=(i:Int):=by
 have ha:l.any p=true:=List.any_eq_true.2 ⟨x,hx,hp⟩;unfold idxF;rw [if_pos ha];exact ⟨_,List.findIdx_lt_length_of_exists ⟨x,hx,hp⟩,rfl⟩
theorem ids_inj {u a b:Un} (h:(idsT u).Nodup) (ha:a∈unitsT u) (hb:b∈unitsT u) (he:idU a=idU b):a=b:=by
 unfold idsT at h;generalize unitsT u=l at h ha hb
 induction l with
 | nil=>cases ha
 | cons c r ih =>
  rw [List.map_cons,List.nodup_cons] at h;rcases List.mem_cons.1 ha with ea|ha'
  ·rcases List.mem_cons.1 hb with eb|hb'
   ·rw [ea,eb]
   ·exact absurd (by rw [← ea,he];exact List.mem_map_of_mem hb') h.1
  ·rcases List.mem_cons.1 hb with eb|hb'
   ·exact absurd (by rw [← eb,← he];exact List.mem_map_of_mem ha') h.1
   ·exact ih h.2 ha' hb'
theorem units_le {u:Un} (h:SmT u):∀ p∈unitsT u,(unitsT p).length≤(unitsT u).length:=by
 induction h with
 | mk u h hk hs ih =>
  intro p hp;rw [Zan u] at hp;rcases List.mem_cons.1 hp with rfl|hp
  ·exact Nat.le_refl _
  ·rw [Zaz] at hp;obtain ⟨k,h1,h2⟩:=List.mem_flatMap.1 hp;have h3:=ih k h1 p h2;have h4:=Zbc h1;rw [Zan u,List.length_cons];omega
def lessU (i:Nat) (u:Un):Un:=kidsU u (u.kids.take i++u.kids.drop (i+1))
theorem way_id {x:Idt} {u:Un} (h:SmT u):∀ v,(wayT x u).getLast?=some v→idU v=x:=by
 induction h with
 | mk u h hk hs ih =>
  intro v hv;have hw:=wayT_eq x u;split at hw
  ·rename_i he;rw [hw] at hv;simp only [List.getLast?_singleton,Option.some.injEq] at hv;rw [← hv];exact he
  ·cases hl:wayL x u.kids with
   | nil=>rw [hl] at hw;rw [hw] at hv;cases hv
   | cons b q =>
    rw [hl] at hw
    replace hw:wayT x u=u::(b::q):=hw
    obtain ⟨k,k1,k2,k3⟩:=wayL_ne (x:=x) (L:=u.kids) (by rw [hl];simp);rw [hl] at k3;rw [hw,List.getLast?_cons_cons,k3] at hv;exact ih k k1 v hv
end Go.VM
namespace Go.VM
open Go
def Zam (l:List Ln):Nat:=(l.map fun x=>x.notes.length).sum
def up1 (n:Nat):Nat:=if 0<n then n+1 else n
def Zbf (l:List Ln):Nat:=1+l.length+up1 (Zam l)
theorem notesN_step {l:List Ln} {k:Nat} (h:k<l.length):Zam (l.take (k+1))=Zam (l.take k)+l[k].notes.length:=by
 unfold Zam;rw [List.take_succ_eq_append_getElem h,List.map_append,List.sum_append];simp
theorem Zba (a b:List Ln):Zam (a++b)=Zam a+Zam b:=by
 unfold Zam;rw [List.map_append,List.sum_append]
theorem notesN_take (l:List Ln) (k:Nat):Zam (l.take k)≤Zam l:=by
 have:Zam l=Zam (l.take k)+Zam (l.drop k):=by rw [← Zba,List.take_append_drop]
 omega
def grpG (acc:List Ln):List Ln→List (List Ln)
 | []=>if acc=[] then [] else [acc]
 | x::r=>if x.tied=true then grpG (acc++[x]) r else (acc++[x])::grpG [] r
theorem grpG_flat:∀ (l acc:List Ln),(grpG acc l).flatten=acc++l
 | [],acc=>by
  unfold grpG;split
  ·rename_i h;rw [h];rfl
  ·simp
 | x::r,acc=>by
  unfold grpG;split
  ·rw [grpG_flat r];simp
  ·rw [List.flatten_cons,grpG_flat r];simp
theorem grpG_ne:∀ (l acc:List Ln),∀ g∈grpG acc l,g≠[]
 | [],acc,g,h=>by
  unfold grpG at h;split at h
  ·cases h
  ·rename_i e;rw [List.mem_singleton] at h;subst h;exact e
 | x::r,acc,g,h=>by
  unfold grpG at h;split at h
  ·exact grpG_ne r _ g h
  ·rcases List.mem_cons.1 h with rfl|h
   ·simp
   ·exact grpG_ne r _ g h
def addG (m:Int):Option (List (List Ln)×List Ln)→List Ln→Option (List (List Ln)×List Ln)
 | none,_=>none
 | some (D,N),g=>if m<(Zbf g:Int) then none else if N≠[]∧m<(Zbf (N++g):Int) then some (D++[N],g) else some (D,N++g)
def pagG (m:Int) (G:List (List Ln)):Option (List (List Ln)×List Ln):=G.foldl (addG m) (some ([],[]))
def endG:List (List Ln)×List Ln→List (List Ln)
 | (D,N)=>if N=[] then D else D++[N]
theorem addG_none (m:Int) (G:List (List Ln)):G.foldl (addG m) none=none:=by
 induction G with
 | nil=>rfl
 | cons g r ih=>exact ih
theorem pagG_snoc (m:Int) (G:List (List Ln)) (g:List Ln):pagG m (G++[g])=addG m (pagG m G) g:=by
 unfold pagG;rw [List.foldl_append];rfl
theorem pagG_pre {m:Int} {G:List (List Ln)} {g:List Ln} {q:List (List Ln)} (h:addG m (pagG m G) g=none):pagG m (G++g::q)=none:=by
 have:G++g::q=(G++[g])++q:=by simp
 rw [this];unfold pagG at h ⊢;rw [List.foldl_append,List.foldl_append];show List.foldl (addG m) (addG m _ g) q=none;rw [h];exact addG_none m q
def pagesG (m:Int) (l:List Ln):Option (List (List Ln)):=(pagG m (grpG [] l)).map endG
end Go.VM
namespace Go.Proofs.YtcgdjembdjdlhaaGreatDoor.w
open Go Go.VM
def c_paginate_high:VC:=(ZR [ZO 2 (.mv (.c (.int .i64 0)))] (ZR [ZM 7 0,ZO 8 (.len false (.t 7)),ZO 9 (.bin .add (.c (.int .i64 1)) (.t 8)),ZM 3 9,ZO 4 (.mv (.c (.int .i64 0)))] (.seq (ZR [ZM 10 0,ZO 11 (.len false (.t 10)),ZO 12 (.mv (.c (.int .i64 0)))] (.block 0 (.loop (ZR [ZO 13 (.bin .lss (.t 12) (.t 11))] (.seq (.cond (.t 13) .skip (.exit 0)) (.seq (.block 1 (ZR [ZO 14 (.iaddr 6 (.t 10) (.t 12)),ZO 15 (.load true 6 (.t 14)),ZO 6 (.alloc [(.str []),.int .i64 0,.int .i64 0,.int .i64 0,(.bool false),.nilsl]),ZN (.store 6 (.t 6) (.t 15))] (.region [ZM 16 4,ZO 17 (.faddr 5 (.t 6)),ZO 18 (.load false 1 (.t 17)),ZO 19 (.len false (.t 18)),ZO 20 (.bin .add (.t 16) (.t 19)),ZM 4 20] false))) (.region [ZO 21 (.bin .add (.t 12) (.c (.int .i64 1))),ZM 12 21] false))))))) (.seq (ZR [ZM 22 4,ZO 23 (.bin .gtr (.t 22) (.c (.int .i64 0)))] (.cond (.t 23) (.region [ZM 24 4,ZO 25 (.bin .add (.t 24) (.c (.int .i64 1))),ZM 4 25] false) .skip)) (ZR [ZM 26 3,ZM 27 4,ZO 28 (.bin .add (.t 26) (.t 27)),ZM 2 28] .ret)))))
def c_paginate_groups:VC:=(ZR [ZO 1 (.box 1 (.t 0)),ZO 2 (.mv (.c .nilfn))] (ZR [ZO 3 (.mkfn (.func 62) [] [.t 1]),ZM 2 3] .ret))
theorem sp_high (l:List Ln) (hl:l.length≤1000000) (hn:Zam l≤900000000):Zak Tryz.prog 33 [.sl 6 (l.map Ln.encP)] (pI (Zbf l)):=by
 refine Zad ?_ (cI _) (by intro y hy;rw [List.mem_singleton] at hy;subst hy;exact closed_lnsP l);refine Gn (vc:=c_paginate_high) [.t 2] Tryz.func33 ?_;unfold c_paginate_high;try dsimp only [ZM,ZO,ZN,ZG,ZR,ZU]
 unfold Zbf;refine Rp0 [0] ?_;refine Rp1 [0,3,4] (x2 @xlm (w64 (n:=1+(l.length:Int)) (by omega) (by omega))) ?_;refine Zaa ?_;refine Rp1 [3,4,10,11,12] @xlm ?_;refine Zab ?_;refine Zah (σ:={ x:Nat×Nat//x.1≤l.length }) (fun x=>([(3,pI (1+(l.length:Int))),(4,pI (Zam (l.take x.1.1))),(10,.sl 6 (l.map Ln.encP)),(11,pI l.length),(12,pI x.1.1)],⟨[],x.1.2⟩)) (fun x=>l.length-x.1.1) ⟨(0,0),Nat.zero_le _⟩ ?_ ?_ ?_
 ·simp only [vmL,Nat.reduceEqDiff]
  try trivial
 ·simp only [vmL]
  try trivial
 rintro ⟨⟨k,t⟩,hk⟩;simp only [] at hk ⊢;have qq:=N2 t (t+1);refine Rp1 [3,4,10,11,12,13] qq ?_;refine Zaa ?_;refine Zac rfl (fun h1=>?_) (fun h1=>?_)
 ·have ka:k<l.length:=by simp only [decide_eq_true_eq] at h1;omega
  have hst:=notesN_step ka;have htk:=notesN_take l k;have htk2:=notesN_take l (k+1);have hrow:(l.map Ln.encP).getD k []=l[k].encP:=rowm ka;generalize l[k]=x at hst hrow;have hx:x.encP=[.str x.text,pI x.id.act,pI x.id.item,pI x.id.n,.bool x.tied,It.strs x.notes]:=rfl;rw [hx] at hrow;have hnl:(x.notes.map fun s=>[PV.str s]).length=x.notes.length:=List.length_map _;unfold It.strs at hrow;generalize (x.notes.map fun s=>[PV.str s])=NE at hrow hnl;refine Kp0 ?_;refine Zaa ?_;refine Zab ?_;refine Rp1 [3,4,6,10,11,12] (x3 @xlm hrow qq) ?_;refine Ok ?_;refine rp1 [3,4,10,11,12] (x3 hnl (w64 (n:=(Zam (l.take k):Int)+(x.notes.length:Int)) (by omega) (by omega)) qq) ?_;refine rp1 [3,4,10,11,12] (x2 (ad1 (a:=k) (by omega)) qq) ?_;refine ⟨⟨(k+1,t+1),ka⟩,?_⟩;have e:(Zam (l.take k):Int)+(x.notes.length:Int)=(Zam (l.take (k+1)):Nat):=by omega
  exact Fn1 (x2 e qq)
 ·have ka:k=l.length:=by simp only [decide_eq_false_iff_not] at h1;omega
  subst ka;rw [List.take_length];refine Ep0 ?_;generalize Zam l=n at hn ⊢;refine Zaa ?_;refine Rp0 [3,4,23] ?_;by_cases h0:0<n
  ·have e1:decide ((n:Int)>0)=true:=decide_eq_true (by omega);refine Zac rfl (fun _=>?_) (fun h=>by rw [e1] at h;cases h);refine rp1 [3,4] (ad1 (a:=n) (by omega)) ?_;refine Rp1 [2] (w64 (n:=1+(l.length:Int)+((n+1:Nat):Int)) (by omega) (by omega)) ?_;refine Tp0 ?_;rw [show ((1+l.length+up1 n:Nat):Int)=1+(l.length:Int)+((n+1:Nat):Int) by unfold up1;rw [if_pos h0];omega];exact View.refl _ _
  ·have e1:decide ((n:Int)>0)=false:=decide_eq_false (by omega);refine Zac rfl (fun h=>by rw [e1] at h;cases h) (fun _=>?_);refine Kp0 ?_;refine Rp1 [2] (w64 (n:=1+(l.length:Int)+(n:Int)) (by omega) (by omega)) ?_;refine Tp0 ?_;rw [show ((1+l.length+up1 n:Nat):Int)=1+(l.length:Int)+(n:Int) by unfold up1;rw [if_neg h0];omega];exact View.refl _ _
theorem closed_grp (l:List Ln):Closed (.fn (.func 62) [] [.ro [.sl 6 (l.map Ln.encP)]]):=Zbt (by
 intro y hy;rw [List.mem_singleton] at hy;subst hy;exact Zbg fun z hz=>by rw [List.mem_singleton] at hz;subst hz;exact closed_lnsP l)
theorem sp_groups (l:List Ln):Zak Tryz.prog 31 [.sl 6 (l.map Ln.encP)] (.fn (.func 62) [] [.ro [.sl 6 (l.map Ln.encP)]]):=by
 refine Zad ?_ (closed_grp l) (by intro y hy;rw [List.mem_singleton] at hy;subst hy;exact closed_lnsP l);refine Gn (vc:=c_paginate_groups) [.t 2] Tryz.func31 ?_;unfold c_paginate_groups;try dsimp only [ZM,ZO,ZN,ZG,ZR,ZU]
 generalize l.map Ln.encP=E;refine Rp0 [1,2] ?_;refine Rp0 [2] ?_;refine Tp0 ?_;refine View.fn rfl rfl (fun j hj=>absurd hj (Nat.not_lt_zero _)) (fun j hj=>?_);obtain rfl:j=0:=by simp at hj;omega
 exact View.loc (z:=1) (fz:=false) (es:=[[.sl 6 E]]) rfl (by simp) rfl (by simp)
end Go.Proofs.YtcgdjembdjdlhaaGreatDoor.w
