import Derived.Test.YtcgdjembdjdlhaaGreatDoorBc
import Derived.Test.YtcgdjembdjdlhaaGreatDoorVmPk
import Derived.Test.YtcgdjembdjdlhaaGreatDoorVmBc
import Derived.Test.YtcgdjembdjdlhaaGreatDoorY1
import Derived.KernelRfl
import Derived.Test.YtcgdjembdjdlhaaGreatDoorYa
import Derived.Test.YtcgdjembdjdlhaaGreatDoorVmC
import Derived.Lib.FieldsP
set_option linter.all false
set_option maxRecDepth 20000
set_option maxHeartbeats 0
namespace Go.Proofs.YtcgdjembdjdlhaaGreatDoor.w
open Go Go.VM
def c_paginate_Paginate_asg:VC:=(.region [ZM 11 28] false)
def Zc0:VC:=(.block 1 (.seq (.seq (.region [ZM 29 11,ZO 30 (.call 33 [.t 29]),ZO 31 (.load false 1 (.t 5)),ZO 32 (.bin .gtr (.t 30) (.t 31))] true) (.cond (.t 32) (ZR [ZN (.store 1 (.t 6) (.c .nilsl)),ZN (.store 1 (.t 7) (.c (.int .i64 6)))] .ret) .skip)) (.seq (.seq (.region [ZO 33 (.load false 1 (.t 10)),ZO 34 (.len false (.t 33)),ZO 35 (.bin .gtr (.t 34) (.c (.int .i64 0))),ZM 36 35,ZG 37 (.load false 1 (.t 10)) 36 true,ZG 38 (.mv (.t 11)) 36 true,ZG 39 (.bslice 1 2 [.nilsl] [(0,(.t 37)),(1,(.t 38))]) 36 true,ZG 40 (.call 34 [.t 39]) 36 true,ZG 41 (.call 33 [.t 40]) 36 true,ZG 42 (.load false 1 (.t 5)) 36 true,ZG 43 (.bin .gtr (.t 41) (.t 42)) 36 true,ZO 44 (.pick (.t 36) (.t 43) (.c (.bool false)))] true) (.cond (.t 44) (.seq (.draw2 [ZO 45 (.load false 1 (.t 9)),ZO 46 (.load true 8 (.t 3)),ZO 47 (.load false 1 (.t 9)),ZO 48 (.len false (.t 47)),ZO 49 (.bin .add (.t 48) (.c (.int .i64 1))),ZO 50 (.load false 1 (.t 10)),ZO 51 (.call 35 [.t 46,.t 49,.t 50]),ZO 52 (.bslice 4 1 [.int .i64 0,(.str []),.nilsl,.nilsl] [(0,(.t 51))]),ZO 53 (.app 4 72 [.int .i64 0,(.str []),.nilsl,.nilsl] false (.t 45) (.t 52)),ZN (.store 1 (.t 9) (.t 53))] [true,true,true,true,true,true,true,true,false,false]) (.region [ZN (.store 1 (.t 10) (.c .nilsl))] false)) .skip)) (.region [ZO 54 (.load false 1 (.t 10)),ZM 55 11,ZO 56 (.bslice 1 2 [.nilsl] [(0,(.t 54)),(1,(.t 55))]),ZO 57 (.call 34 [.t 56]),ZN (.store 1 (.t 10) (.t 57))] false))))
def pgsF (u:Un):Nat→List (List Ln)→List Pg
 | _,[]=>[]
 | n,l::r=>pageP u ((n+1:Nat):Int) l::pgsF u (n+1) r
theorem pgsF_app (u:Un):∀ (A B:List (List Ln)) (n:Nat),pgsF u n (A++B)=pgsF u n A++pgsF u (n+A.length) B
 | [],B,n=>by simp [pgsF]
 | a::A,B,n=>by
  simp only [List.cons_append,pgsF,List.length_cons];rw [pgsF_app u A B (n+1),show n+1+A.length=n+(A.length+1) by omega]
theorem pgsF_len (u:Un):∀ (A:List (List Ln)) (n:Nat),(pgsF u n A).length=A.length
 | [],n=>rfl
 | a::A,n=>by simp only [pgsF,List.length_cons];rw [pgsF_len u A]
def nowV (N:List Ln):PV:=if N=[] then .nilsl else .sl 6 (N.map Ln.encP)
def outV (Dn:List (List Ln)) (id:Nat):PV:=if Dn=[] then .nilsl else .own id 0 Dn.length
def outB (u:Un) (Dn:List (List Ln)) (id:Nat):List (Nat×AB):=if Dn=[] then [] else [(id,.arr false 4 ((pgsF u 0 Dn).map Pg.enc))]
def stB (RB:AB) (D:Nat) (u:Un) (Dn:List (List Ln)) (N:List Ln) (id:Nat):List (Nat×AB) :=
 outB u Dn id++[(8,RB),(7,.dfr D true),(5,.arr false 1 [[nowV N]]),(4,.arr false 1 [[outV Dn id]]),(3,.arr false 1 [[pI 0]]),(2,.arr false 1 [[.nilsl]])]
theorem stB_get {RB:AB} {D:Nat} {u:Un} {Dn:List (List Ln)} {N:List Ln} {id:Nat} (hid:8<id):∀ k,k≤8→HL.get (stB RB D u Dn N id) k=HL.get [(8,RB),(7,.dfr D true),(5,.arr false 1 [[nowV N]]),(4,.arr false 1 [[outV Dn id]]),(3,.arr false 1 [[pI 0]]),(2,.arr false 1 [[.nilsl]])] k:=by
 intro k hk;unfold stB outB;split
 ·rfl
 ·rw [List.cons_append,List.nil_append,HL.get,if_neg (by omega)]
theorem stB_le5 {RB:AB} {D:Nat} {u:Un} {Dn:List (List Ln)} {N:List Ln} {id t T:Nat} (hid:8<id) (hT:t≤T):Heap.le ⟨[(5,.arr false 1 [[nowV N]])],T⟩ ⟨stB RB D u Dn N id,t⟩ :=
 ⟨hT,(stB_get hid 5 (by omega)).trans rfl,trivial⟩
theorem stB_leF {RB:AB} {D:Nat} {u:Un} {Dn:List (List Ln)} {N:List Ln} {id t:Nat} (hid:8<id):Heap.le ⟨[(8,RB),(7,.dfr D true),(3,.arr false 1 [[pI 0]]),(2,.arr false 1 [[.nilsl]])],t⟩ ⟨stB RB D u Dn N id,t⟩ :=
 ⟨Nat.le_refl _,(stB_get hid 8 (by omega)).trans rfl,(stB_get hid 7 (by omega)).trans rfl,(stB_get hid 3 (by omega)).trans rfl,(stB_get hid 2 (by omega)).trans rfl,trivial⟩
theorem stB_nod {RB:AB} {D:Nat} {u:Un} {Dn:List (List Ln)} {N:List Ln} {id:Nat} (hid:8<id):Nod (stB RB D u Dn N id):=by
 unfold stB outB;split
 ·simp [Nod]
 ·simp [Nod];omega
theorem stB_refl {RB:AB} {D:Nat} {u:Un} {Dn:List (List Ln)} {N:List Ln} {id t:Nat} (hid:8<id):Heap.le ⟨stB RB D u Dn N id,t⟩ ⟨stB RB D u Dn N id,t⟩ :=
 ⟨Nat.le_refl _,by simpa using HL.le_app (P:=[]) (stB_nod hid) t⟩
theorem stB_app {RB:AB} {D:Nat} {u:Un} {Dn:List (List Ln)} {N:List Ln} {id:Nat}:stB RB D u (Dn++[N]) [] id=[(id,.arr false 4 ((pgsF u 0 (Dn++[N])).map Pg.enc)),(8,RB),(7,.dfr D true),(5,.arr false 1 [[.nilsl]]),(4,.arr false 1 [[.own id 0 (Dn.length+1)]]),(3,.arr false 1 [[pI 0]]),(2,.arr false 1 [[.nilsl]])]:=by
 have h0:Dn++[N]≠[]:=by simp
 unfold stB outB outV nowV;rw [if_neg h0,if_neg h0,if_pos rfl,List.length_append];rfl
def bodyEnv (u:Un) (m:Int) (g:List Ln):Env:=[(3,.ro u.enc),(5,.ro [pI m]),(6,.loc 2 0 0),(7,.loc 3 0 0),(9,.loc 4 0 0),(10,.loc 5 0 0),(11,.sl 6 (g.map Ln.encP))]
def endQ (RB:AB) (D:Nat) (u:Un) (m:Int) (Dn:List (List Ln)) (N g:List Ln) (x:Exit) (_:Env) (h':Heap):Prop :=
 (x=.normal∧∃ Dn' N' id' t',addG m (some (Dn,N)) g=some (Dn',N')∧8<id'∧id'<t'∧Heap.le ⟨stB RB D u Dn' N' id',t'⟩ h') ∨
 (x=.ret∧addG m (some (Dn,N)) g=none∧Heap.le ⟨[(8,RB),(7,.dfr D true),(3,.arr false 1 [[pI 6]]),(2,.arr false 1 [[.nilsl]])],h'.top⟩ h')
theorem pag_body {u : Un} (hu : SmT u) (hn : (unitsT u).length ≤ 1000) (m : Int) (h2 : 2 ≤ m) (h200 : m ≤ 200) (l D : Nat) (RB : AB) (hRB : ∀ fz z, RB ≠ .arr fz z []) (Dn : List (List Ln)) (N g : List Ln) (id t : Nat) (hid : 8 < id) (hit : id < t) (hg0 : g ≠ []) (hgl : g.length ≤ 1000000) (hgn : Zam g ≤ 900000000) (hNm : N ≠ [] → (Zbf N : Int) ≤ m) (hD : Dn.length ≤ 1000000) :
  VW Tryz.prog ⟨Tryz.f11.ntmps,some l,[],fun _ _=>False⟩ Zc0 (endQ RB D u m Dn N g) (bodyEnv u m g) ⟨stB RB D u Dn N id,t⟩:=by
 have HG:=sp_high g hgl hgn;have PP:=fun (h0:N≠[]) (h1:N.length≤1000000) (h2:Zam N≤1000000)=>sp_page hu hn ((Dn.length+1:Nat):Int) N h0 h1 h2;unfold Zc0 bodyEnv;rw [Un.Zaf u] at PP ⊢;generalize u.head.map Wd.enc=EH at *;generalize u.words.map Wd.enc=EW at *;generalize u.kids.map Un.enc=EK at *;refine Zab ?_;refine Zaa ?_;refine Zaa (Zb9 (t+10) [3,5,6,7,9,10,11,32] (by simp) ?_);refine Sp0 ?_;refine ⟨_,.inl HG,?_⟩;refine Sp0 ?_;by_cases c1:m<(Zbf g:Int)
 ·have e1:decide ((Zbf g:Int)>m)=true:=decide_eq_true c1;refine Zac rfl (fun _=>?_) (fun h=>by rw [e1] at h;cases h);refine VW.weakenH (stB_leF hid) ?_;refine Rp0 [6,7] ?_;refine Tp0 ?_;exact .inr ⟨rfl,addG_hi c1,by simp [Heap.le,Heap.get,HL.le,HL.get]⟩
 have e1:decide ((Zbf g:Int)>m)=false:=decide_eq_false c1;have hgm:Zbf g≤200:=by omega
 have hg1:=high_len g;have hg2:=high_notes g;refine Zac rfl (fun h=>by rw [e1] at h;cases h) (fun _=>?_);refine Kp0 ?_;refine Zaa (Zbl (σ:={ x:List (List Ln)×List Ln×Nat×Nat//addG m (some (Dn,N)) g=some (x.1,x.2.1++g)∧8<x.2.2.1∧x.2.2.1<x.2.2.2∧x.2.1.length≤200 })
  (fun x=>([(10,.loc 5 0 0),(11,.sl 6 (g.map Ln.encP))],⟨stB RB D u x.1.1 x.1.2.1 x.1.2.2.1,x.1.2.2.2⟩)) ?_ ?_)
 ·by_cases hN:N=[]
  ·have hnv:nowV N=.nilsl:=by unfold nowV;rw [if_pos hN]
   refine Zaa (VW_draw [3,9,10,11,44] ⟨[(5,.arr false 1 [[nowV N]])],t+10⟩ (stB_le5 hid (by omega)) ?_);have e00:decide (((0:Nat):Int)>0)=false:=rfl;refine Sp1 (x2 hnv e00) ?_;refine Fp0 ?_;exact ⟨⟨(Dn,N,id,t),addG_on c1 (.inl hN),hid,hit,by rw [hN];simp⟩,Nat.le_refl _,(stB_refl (t:=t) hid).2⟩
  ·have hnv:nowV N=.sl 6 (N.map Ln.encP):=by unfold nowV;rw [if_neg hN]
   have hNm':=hNm hN;have hN1:=high_len N;have hN2:=high_notes N;have hNl:0<N.length:=List.length_pos_iff.2 hN;have hlN:(N.map Ln.encP).length=N.length:=List.length_map _;have e0:decide (((N.map Ln.encP).length:Int)>0)=true:=decide_eq_true (by omega);have CC:=sp_ConcatP_line [N.map Ln.encP,g.map Ln.encP] (by
    intro x hx r hr;simp only [List.mem_cons,List.not_mem_nil,or_false] at hx;rcases hx with rfl|rfl<;>(obtain ⟨y,_,rfl⟩:=List.mem_map.1 hr;exact closed_lnP y)) (by simp) (by simp [Zc2];omega)
   have HG2:=sp_high (N++g) (by rw [List.length_append];omega) (by rw [Zba];omega);have hfl:[N.map Ln.encP,g.map Ln.encP].flatten=(N++g).map Ln.encP:=by simp
   rw [hfl] at CC;refine Zaa (VW_draw [3,9,10,11,44] ⟨[(5,.arr false 1 [[nowV N]])],t+10⟩ (stB_le5 hid (by omega)) ?_);simp only [List.map_cons,List.map_nil,enW] at CC;refine Sp1 (x2 hnv e0) ?_;refine ⟨_,.inl CC,_,.inl HG2,?_⟩;refine Sp0 ?_;by_cases c2:m<(Zbf (N++g):Int)
   ·have e2:decide ((Zbf (N++g):Int)>m)=true:=decide_eq_true c2;refine Zac rfl (fun _=>?_) (fun h=>by rw [e2] at h;cases h);have P:=PP hN (by omega) (by omega);by_cases hDn:Dn=[]
    ·have e3:outV Dn id=.nilsl:=by unfold outV;rw [if_pos hDn]
     have e4:outB u Dn id=[]:=by unfold outB;rw [if_pos hDn]
     have e5:stB RB D u Dn N id=[(8,RB),(7,.dfr D true),(5,.arr false 1 [[.sl 6 (N.map Ln.encP)]]),(4,.arr false 1 [[.nilsl]]),(3,.arr false 1 [[pI 0]]),(2,.arr false 1 [[.nilsl]])]:=by unfold stB;rw [e4,e3,hnv];rfl
     rw [e5];have hd0:Dn.length=0:=by rw [hDn];rfl
     rw [hd0] at P;have hpe:pgsF u 0 (Dn++[N])=[pageP u ((0+1:Nat):Int) N]:=by rw [hDn];rfl
     generalize pageP u ((0+1:Nat):Int) N=pg at P hpe;have hpg:pg.enc=[pI pg.number,.str pg.head,.sl 1 (pg.lines.map fun s=>[PV.str s]),.sl 1 (pg.notes.map fun s=>[PV.str s])]:=rfl;rw [hpg] at P;have qq:=N7 2 3 4 5 7 8 t;refine Zaa (VW_draw2A (t+10) [10,11] ?_ ?_)
     ·exact Fn1 qq
     simp only [vmL,Nat.reduceEqDiff,Nat.reduceAdd,Nat.reduceLT,Nat.reduceLeDiff,Nat.reduceMul,DrawA,VOp.writes,false_implies,implies_true,qq,ad1 (a:=0) (by omega)];refine ⟨_,.inl P,?_⟩;try simp only [vmL,Nat.reduceAdd,DrawA,VOp.writes,false_implies,implies_true,qq]
     refine ⟨by omega,by omega,?_⟩;refine rp1 [10,11] qq ?_;refine ⟨⟨(Dn++[N],[],t,t+1),by rw [List.nil_append];exact addG_new c1 hN c2,by show 8<t;omega,Nat.lt_succ_self _,Nat.zero_le _⟩,Nat.le_refl _,?_⟩;show HL.le (stB RB D u (Dn++[N]) [] t) _;rw [stB_app,hpe,hd0];simp only [vmL,HL.le,Heap.get,HL.get,qq,List.map_cons,List.map_nil,hpg]
     try trivial
    ·have e3:outV Dn id=.own id 0 Dn.length:=by unfold outV;rw [if_neg hDn]
     have e4:outB u Dn id=[(id,.arr false 4 ((pgsF u 0 Dn).map Pg.enc))]:=by unfold outB;rw [if_neg hDn]
     have e5:stB RB D u Dn N id=[(id,.arr false 4 ((pgsF u 0 Dn).map Pg.enc)),(8,RB),(7,.dfr D true),(5,.arr false 1 [[.sl 6 (N.map Ln.encP)]]),(4,.arr false 1 [[.own id 0 Dn.length]]),(3,.arr false 1 [[pI 0]]),(2,.arr false 1 [[.nilsl]])]:=by unfold stB;rw [e4,e3,hnv];rfl
     rw [e5];have hpe:(pgsF u 0 (Dn++[N])).map Pg.enc=(pgsF u 0 Dn).map Pg.enc++[(pageP u ((Dn.length+1:Nat):Int) N).enc]:=by rw [pgsF_app,List.map_append,Nat.zero_add];rfl
     have hrl:((pgsF u 0 Dn).map Pg.enc).length=Dn.length:=by rw [List.length_map,pgsF_len]
     generalize pageP u ((Dn.length+1:Nat):Int) N=pg at P hpe;have hpg:pg.enc=[pI pg.number,.str pg.head,.sl 1 (pg.lines.map fun s=>[PV.str s]),.sl 1 (pg.notes.map fun s=>[PV.str s])]:=rfl;rw [hpg] at P hpe;generalize (pgsF u 0 Dn).map Pg.enc=R at hpe hrl ⊢;have hRt:R.take Dn.length=R:=List.take_of_length_le (by omega);have qq:=N8 2 3 4 5 7 8 id t;refine Zaa (VW_draw2A (t+10) [10,11] ?_ ?_)
     ·exact Fn1 qq
     simp only [vmL,Nat.reduceEqDiff,Nat.reduceAdd,Nat.reduceLT,Nat.reduceLeDiff,reduceCtorEq,DrawA,VOp.writes,false_implies,implies_true,qq,ad1 (a:=Dn.length) (by omega)];refine ⟨_,.inl P,?_⟩;try simp only [vmL,Nat.reduceAdd,DrawA,VOp.writes,false_implies,implies_true,hrl,hRt,qq]
     refine ⟨by omega,by omega,by omega,by omega,?_⟩;refine rp1 [10,11] qq ?_;refine ⟨⟨(Dn++[N],[],t,t+1),by rw [List.nil_append];exact addG_new c1 hN c2,by show 8<t;omega,Nat.lt_succ_self _,Nat.zero_le _⟩,Nat.le_refl _,?_⟩;show HL.le (stB RB D u (Dn++[N]) [] t) _;rw [stB_app,hpe];simp only [vmL,HL.le,Heap.get,HL.get,qq]
     try trivial
   ·have e2:decide ((Zbf (N++g):Int)>m)=false:=decide_eq_false c2;refine Zac rfl (fun h=>by rw [e2] at h;cases h) (fun _=>?_);refine Kp0 ?_;exact ⟨⟨(Dn,N,id,t),addG_on c1 (.inr c2),hid,hit,by show N.length≤200;omega⟩,Nat.le_refl _,(stB_refl (t:=t) hid).2⟩
 ·rintro ⟨⟨Da,Na,ia,ta⟩,hadd,hia,hta,hNa⟩;simp only [] at hadd hia hta hNa ⊢;clear PP hNm hD hit hid;have CC:=sp_ConcatP_line [Na.map Ln.encP,g.map Ln.encP] (by
   intro x hx r hr;simp only [List.mem_cons,List.not_mem_nil,or_false] at hx;rcases hx with rfl|rfl<;>(obtain ⟨y,_,rfl⟩:=List.mem_map.1 hr;exact closed_lnP y)) (by simp) (by simp [Zc2];omega)
  have hfl:[Na.map Ln.encP,g.map Ln.encP].flatten=(Na++g).map Ln.encP:=by simp
  rw [hfl] at CC;simp only [List.map_cons,List.map_nil,enW] at CC;have hng:Na++g≠[]:=by simp [hg0]
  have hn2:nowV (Na++g)=.sl 6 ((Na++g).map Ln.encP):=by unfold nowV;rw [if_neg hng]
  have hvw:∀ (h:Heap),h.get ta=some (.arr false 1 [[nowV Na],[.sl 6 (g.map Ln.encP)]])→View h (.own ta 0 2) (.sl 1 [[.sl 6 (Na.map Ln.encP)],[.sl 6 (g.map Ln.encP)]]):=by
   intro h hg;refine View.ownV (z:=1) (fz:=false) (es:=[[nowV Na],[.sl 6 (g.map Ln.encP)]]) hg (by simp) rfl (fun i hi=>?_) (fun i j hi hj=>?_)
   ·have:i=0∨i=1:=by omega
    rcases this with rfl|rfl<;>rfl
   ·obtain rfl:j=0:=by omega
    have:i=0∨i=1:=by omega
    rcases this with rfl|rfl
    ·show View h (nowV Na) (.sl 6 (Na.map Ln.encP));unfold nowV;split
     ·rename_i e;rw [e];exact View.nil _ _
     ·exact View.refl _ _
    ·exact View.refl _ _
  have qq:=N8 2 3 4 5 7 8 ia ta;have hV:nowV Na=.nilsl∨nowV Na=.sl 6 (Na.map Ln.encP):=by
   unfold nowV;split
   ·exact .inl rfl
   ·exact .inr rfl
  by_cases hDa:Da=[]
  ·have e4:outB u Da ia=[]:=by unfold outB;rw [if_pos hDa]
   have e5:∀ M,stB RB D u Da M ia=[(8,RB),(7,.dfr D true),(5,.arr false 1 [[nowV M]]),(4,.arr false 1 [[outV Da ia]]),(3,.arr false 1 [[pI 0]]),(2,.arr false 1 [[.nilsl]])]:=fun M=>by unfold stB;rw [e4];rfl
   have HT:∀ M,HL.le (stB RB D u Da M ia) (Heap.get ⟨[(8,RB),(7,.dfr D true),(5,.arr false 1 [[nowV M]]),(4,.arr false 1 [[outV Da ia]]),(3,.arr false 1 [[pI 0]]),(2,.arr false 1 [[.nilsl]])],ta+1⟩):=fun M=>by
    rw [e5];exact (e5 M▸stB_refl (t:=ta+1) hia).2
   rw [e5];rcases hV with hV|hV
   ·rw [hV] at hvw ⊢;refine rp1 [] qq ?_;refine Zal.frameL (l1:=[(ta,.arr false 1 [[.nilsl],[.sl 6 (g.map Ln.encP)]])]) (l2:=[(8,RB),(7,.dfr D true),(5,.arr false 1 [[.nilsl]]),(4,.arr false 1 [[outV Da ia]]),(3,.arr false 1 [[pI 0]]),(2,.arr false 1 [[.nilsl]])]) (by simp;omega) (by simp [hRB]) (ACall_f [.sl 1 [[.sl 6 (Na.map Ln.encP)],[.sl 6 (g.map Ln.encP)]]] ⟨hvw _ (by simp [Heap.get,HL.get]),trivial⟩ (Zao CC ?_));refine ⟨Nat.le_refl _,(fun _ _ q hq=>by cases hq),(fun q hq=>by cases hq),?_⟩;refine Sp1 qq ?_;refine .inl ⟨rfl,Da,Na++g,ia,ta+1,hadd,hia,by omega,Nat.le_refl _,?_⟩;have:=HT (Na++g);rw [hn2] at this;exact this
   ·rw [hV] at hvw ⊢;refine rp1 [] qq ?_;refine Zal.frameL (l1:=[(ta,.arr false 1 [[.sl 6 (Na.map Ln.encP)],[.sl 6 (g.map Ln.encP)]])]) (l2:=[(8,RB),(7,.dfr D true),(5,.arr false 1 [[.sl 6 (Na.map Ln.encP)]]),(4,.arr false 1 [[outV Da ia]]),(3,.arr false 1 [[pI 0]]),(2,.arr false 1 [[.nilsl]])]) (by simp;omega) (by simp [hRB]) (ACall_f [.sl 1 [[.sl 6 (Na.map Ln.encP)],[.sl 6 (g.map Ln.encP)]]] ⟨hvw _ (by simp [Heap.get,HL.get]),trivial⟩ (Zao CC ?_));refine ⟨Nat.le_refl _,(fun _ _ q hq=>by cases hq),(fun q hq=>by cases hq),?_⟩;refine Sp1 qq ?_;refine .inl ⟨rfl,Da,Na++g,ia,ta+1,hadd,hia,by omega,Nat.le_refl _,?_⟩;have:=HT (Na++g);rw [hn2] at this;exact this
  ·have e4:outB u Da ia=[(ia,.arr false 4 ((pgsF u 0 Da).map Pg.enc))]:=by unfold outB;rw [if_neg hDa]
   have e5:∀ M,stB RB D u Da M ia=[(ia,.arr false 4 ((pgsF u 0 Da).map Pg.enc)),(8,RB),(7,.dfr D true),(5,.arr false 1 [[nowV M]]),(4,.arr false 1 [[outV Da ia]]),(3,.arr false 1 [[pI 0]]),(2,.arr false 1 [[.nilsl]])]:=fun M=>by unfold stB;rw [e4];rfl
   have hRn:(pgsF u 0 Da).map Pg.enc≠[]:=by
    intro h;have:=congrArg List.length h;rw [List.length_map,pgsF_len] at this;exact hDa (List.eq_nil_of_length_eq_zero this)
   generalize (pgsF u 0 Da).map Pg.enc=R at e5 hRn;have HT:∀ M,HL.le (stB RB D u Da M ia) (Heap.get ⟨[(ia,.arr false 4 R),(8,RB),(7,.dfr D true),(5,.arr false 1 [[nowV M]]),(4,.arr false 1 [[outV Da ia]]),(3,.arr false 1 [[pI 0]]),(2,.arr false 1 [[.nilsl]])],ta+1⟩):=fun M=>by
    rw [e5];exact (e5 M▸stB_refl (t:=ta+1) hia).2
   rw [e5];rcases hV with hV|hV
   ·rw [hV] at hvw ⊢;refine rp1 [] qq ?_;refine Zal.frameL (l1:=[(ta,.arr false 1 [[.nilsl],[.sl 6 (g.map Ln.encP)]])]) (l2:=[(ia,.arr false 4 R),(8,RB),(7,.dfr D true),(5,.arr false 1 [[.nilsl]]),(4,.arr false 1 [[outV Da ia]]),(3,.arr false 1 [[pI 0]]),(2,.arr false 1 [[.nilsl]])]) (by simp;omega) (by simp [hRB,hRn]) (ACall_f [.sl 1 [[.sl 6 (Na.map Ln.encP)],[.sl 6 (g.map Ln.encP)]]] ⟨hvw _ (by simp [Heap.get,HL.get]),trivial⟩ (Zao CC ?_));refine ⟨Nat.le_refl _,(fun _ _ q hq=>by cases hq),(fun q hq=>by cases hq),?_⟩;refine Sp1 qq ?_;refine .inl ⟨rfl,Da,Na++g,ia,ta+1,hadd,hia,by omega,Nat.le_refl _,?_⟩;have:=HT (Na++g);rw [hn2] at this;exact this
   ·rw [hV] at hvw ⊢;refine rp1 [] qq ?_;refine Zal.frameL (l1:=[(ta,.arr false 1 [[.sl 6 (Na.map Ln.encP)],[.sl 6 (g.map Ln.encP)]])]) (l2:=[(ia,.arr false 4 R),(8,RB),(7,.dfr D true),(5,.arr false 1 [[.sl 6 (Na.map Ln.encP)]]),(4,.arr false 1 [[outV Da ia]]),(3,.arr false 1 [[pI 0]]),(2,.arr false 1 [[.nilsl]])]) (by simp;omega) (by simp [hRB,hRn]) (ACall_f [.sl 1 [[.sl 6 (Na.map Ln.encP)],[.sl 6 (g.map Ln.encP)]]] ⟨hvw _ (by simp [Heap.get,HL.get]),trivial⟩ (Zao CC ?_));refine ⟨Nat.le_refl _,(fun _ _ q hq=>by cases hq),(fun q hq=>by cases hq),?_⟩;refine Sp1 qq ?_;refine .inl ⟨rfl,Da,Na++g,ia,ta+1,hadd,hia,by omega,Nat.le_refl _,?_⟩;have:=HT (Na++g);rw [hn2] at this;exact this
end Go.Proofs.YtcgdjembdjdlhaaGreatDoor.w
namespace Go.Proofs.YtcgdjembdjdlhaaGreatDoor.w
open Go Go.VM
noncomputable def c_paginate_Paginate:VC:=(ZR [ZO 3 (.box 8 (.t 0)),ZO 5 (.box 1 (.t 2)),ZO 6 (.alloc [.nilsl]),ZO 7 (.alloc [.int .i64 0])] (.seq (ZR [ZO 12 (.load true 8 (.t 3)),ZM 13 1,ZO 14 (.call 30 [.t 12,.t 13]),ZM 8 14] (ZR [ZM 15 8,ZO 16 (.bin .neq (.t 15) (.c (.int .i64 0)))] (.cond (.t 16) (ZR [ZM 17 8,ZN (.store 1 (.t 6) (.c .nilsl)),ZN (.store 1 (.t 7) (.t 17))] .ret) .skip))) (.seq (ZR [ZO 18 (.load false 1 (.t 5)),ZO 19 (.bin .lss (.t 18) (.c (.int .i64 2))),ZM 20 19,ZG 21 (.load false 1 (.t 5)) 20 false,ZG 22 (.bin .gtr (.t 21) (.c (.int .i64 200))) 20 false,ZO 23 (.pick (.t 20) (.c (.bool true)) (.t 22))] (.cond (.t 23) (ZR [ZN (.store 1 (.t 6) (.c .nilsl)),ZN (.store 1 (.t 7) (.c (.int .i64 3)))] .ret) .skip)) (ZR [ZO 9 (.alloc [.nilsl])] (ZR [ZO 10 (.alloc [.nilsl])] (.seq (ZR [ZO 24 (.load true 8 (.t 3)),ZM 25 1,ZO 26 (.call 32 [.t 24,.t 25,(.c (.bool true))]),ZO 27 (.call 31 [.t 26])] (.block 0 (.other (rfIn Tryz.f11)))) (.seq (ZR [ZO 58 (.load false 1 (.t 10)),ZO 59 (.len false (.t 58)),ZO 60 (.bin .gtr (.t 59) (.c (.int .i64 0)))] (.cond (.t 60) (.draw2 [ZO 61 (.load false 1 (.t 9)),ZO 62 (.load true 8 (.t 3)),ZO 63 (.load false 1 (.t 9)),ZO 64 (.len false (.t 63)),ZO 65 (.bin .add (.t 64) (.c (.int .i64 1))),ZO 66 (.load false 1 (.t 10)),ZO 67 (.call 35 [.t 62,.t 65,.t 66]),ZO 68 (.bslice 4 1 [.int .i64 0,(.str []),.nilsl,.nilsl] [(0,(.t 67))]),ZO 69 (.app 4 72 [.int .i64 0,(.str []),.nilsl,.nilsl] false (.t 61) (.t 68)),ZN (.store 1 (.t 9) (.t 69))] [true,true,true,true,true,true,true,true,false,false]) .skip)) (ZR [ZO 70 (.load false 1 (.t 9)),ZN (.store 1 (.t 6) (.t 70)),ZN (.store 1 (.t 7) (.c (.int .i64 0)))] .ret))))))))
theorem le_set8 {RA RB:AB} {D:Nat} {u:Un} {Dn:List (List Ln)} {N:List Ln} {id t:Nat} {h:Heap} (hid:8<id) (H:Heap.le ⟨stB RA D u Dn N id,t⟩ h):Heap.le ⟨stB RB D u Dn N id,t⟩ (h.set 8 RB):=by
 refine ⟨H.1,?_⟩;have h2:=H.2;unfold stB outB at h2 ⊢;by_cases h0:Dn=[]
 ·rw [if_pos h0] at h2 ⊢;simp only [List.nil_append,HL.le,Heap.get_set] at h2 ⊢;obtain ⟨a,b,c,d,e,f,_⟩:=h2;exact ⟨by rw [if_pos trivial,a];rfl,by rw [if_neg (by omega)];exact b,by rw [if_neg (by omega)];exact c,by rw [if_neg (by omega)];exact d,by rw [if_neg (by omega)];exact e,by rw [if_neg (by omega)];exact f,trivial⟩
 ·rw [if_neg h0] at h2 ⊢;simp only [List.cons_append,List.nil_append,HL.le,Heap.get_set] at h2 ⊢;obtain ⟨z,a,b,c,d,e,f,_⟩:=h2;exact ⟨by rw [if_neg (by omega)];exact z,by rw [if_pos trivial,a];rfl,by rw [if_neg (by omega)];exact b,by rw [if_neg (by omega)];exact c,by rw [if_neg (by omega)];exact d,by rw [if_neg (by omega)];exact e,by rw [if_neg (by omega)];exact f,trivial⟩
noncomputable def lpP (l D:Nat) (st:LoopState) (pe:Option Code) (e:Env):AB:=lpR l st pe #[28] (rfAsg (rfIn Tryz.f11)) (rfBody (rfIn Tryz.f11)) D Tryz.f11.ntmps e
def envP (u:Un) (m:Int) (F:PV):Env:=[(3,.ro u.enc),(5,.ro [pI m]),(6,.loc 2 0 0),(7,.loc 3 0 0),(9,.loc 4 0 0),(10,.loc 5 0 0),(27,F)]
theorem pag_round {u : Un} (hu : SmT u) (hn : (unitsT u).length ≤ 1000) (m : Int) (h2 : 2 ≤ m) (h200 : m ≤ 200) (l D : Nat) (F : PV) (Dn : List (List Ln)) (N g : List Ln) (id t : Nat) (hid : 8 < id) (hit : id < t) (hg0 : g ≠ []) (hgl : g.length ≤ 1000000) (hgn : Zam g ≤ 900000000) (hNm : N ≠ [] → (Zbf N : Int) ≤ m) (hD : Dn.length ≤ 1000000) :
  AY Tryz.prog l [.sl 6 (g.map Ln.encP)] ⟨stB (lpP l D .ready none (envP u m F)) D u Dn N id,t⟩ (fun v h'=>(v=.bool true∧∃ Dn' N' id' t',addG m (some (Dn,N)) g=some (Dn',N')∧8<id'∧id'<t'∧h'=⟨stB (lpP l D .ready none (envP u m F)) D u Dn' N' id',t'⟩) ∨
   (v=.bool false∧addG m (some (Dn,N)) g=none∧∃ t',h'=⟨[(8,lpP l D .done (some .ret) (envP u m F)),(7,.dfr D true),(3,.arr false 1 [[pI 6]]),(2,.arr false 1 [[.nilsl]])],t'⟩)):=by
 have B:=pag_body hu hn m h2 h200 l D (lpP l D .busy none (envP u m F)) (fun fz z h=>by cases h) Dn N g id t hid hit hg0 hgl hgn hNm hD;have hg8:Heap.get ⟨stB (lpP l D .ready none (envP u m F)) D u Dn N id,t⟩ 8=some (lpR l .ready none #[28] (rfAsg (rfIn Tryz.f11)) (rfBody (rfIn Tryz.f11)) D Tryz.f11.ntmps (envP u m F)):=(stB_get hid 8 (Nat.le_refl _)).trans rfl;refine AY.drop (AY_round (lid:=8) hg8 rfl (fun p hp=>by
  simp only [List.mem_cons,List.not_mem_nil,or_false] at hp;subst hp;exact Nat.le_of_ble_eq_true rfl) ?_)
 refine (?_:VW Tryz.prog ⟨Tryz.f11.ntmps,some l,[],fun _ _=>False⟩ c_paginate_Paginate_asg _ _ _) (rfAsg (rfIn Tryz.f11)) (by kernel_rfl);unfold c_paginate_Paginate_asg;try dsimp only [ZM,ZO,ZN,ZG,ZR,ZU]
 refine Zae [3,5,6,7,9,10,11] ?_;refine ⟨trivial,rfl,hg8,?_⟩;have B2:=(VW.weakenH (le_set8 (RA:=lpP l D .ready none (envP u m F)) (RB:=lpP l D .busy none (envP u m F)) hid (stB_refl (t:=t) hid)) B) (rfBody (rfIn Tryz.f11)) (by kernel_rfl);refine AW.mono B2 ?_;rintro x e h' (⟨rfl,Dn',N',id',t',q1,q2,q3,q4⟩|⟨rfl,q1,q2⟩)
 ·refine ⟨(Heap.le_get q4 8 _ ((stB_get q2 8 (Nat.le_refl _)).trans rfl)),⟨stB (lpP l D .ready none (envP u m F)) D u Dn' N' id',t'⟩,?_,.inl ⟨rfl,Dn',N',id',t',q1,q2,q3,rfl⟩⟩;exact le_set8 q2 q4
 ·obtain ⟨q3,a,b,c,d,_⟩:=q2;refine ⟨a,⟨[(8,lpP l D .done (some .ret) (envP u m F)),(7,.dfr D true),(3,.arr false 1 [[pI 6]]),(2,.arr false 1 [[.nilsl]])],h'.top⟩,⟨Nat.le_refl _,?_⟩,.inr ⟨rfl,q1,h'.top,rfl⟩⟩;simp only [HL.le,Heap.get_set];exact ⟨by rw [if_pos trivial,a];rfl,by rw [if_neg (by omega)];exact b,by rw [if_neg (by omega)];exact c,by rw [if_neg (by omega)];exact d,trivial⟩
def bodyP (u:Un) (w:Int):List Ln:=Zcs w true u u.kids
def pagP (u:Un) (w m:Int):List Pg×Int :=
 if wrongP u w=0 then (if m<2∨200<m then ([],3) else match pagesG m (bodyP u w) with
  | some L=>(pgsF u 0 L,0)
  | none=>([],6)) else ([],wrongP u w)
theorem closed_pgs (l:List Pg):Closed (.sl 4 (l.map Pg.enc)):=Zaj fun p _=>Pg.closed p
theorem closed_pag (l:List Pg) (e:Int):Closed (.tup [.sl 4 (l.map Pg.enc),pI e]):=Zbs (by simp only [List.mem_cons,List.not_mem_nil,or_false,forall_eq_or_imp,forall_eq];exact ⟨closed_pgs _,cI _⟩)
theorem unm {K:PV→Heap→Prop} {p:PV} {h:Heap} (hok:Heap.le h h) (hd:∀ id D o,h.get id≠some (.dfr D o)) (hk:K p h):unmark K p h:=⟨h,hok,fun id D o e=>absurd e (hd id D o),hk⟩
theorem pagG_empty {m:Int} {G:List (List Ln)} {s:List (List Ln)×List Ln} (hG:∀ g∈G,g≠[]) (h:pagG m G=some s) (h0:s.2=[]):s.1=[]:=by
 have I:=pagG_inv hG h;have hf:G.flatten=[]:=by
  by_cases hh:G.flatten=[]
  ·exact hh
  ·exact absurd h0 (I.last hh)
 have hfl:=I.flat
 rw [h0,hf,List.append_nil] at hfl;cases hd:s.1 with
 | nil=>rfl
 | cons a r =>
  rw [hd,List.flatten_cons] at hfl;have:=I.ne a (by rw [hd];exact List.mem_cons_self);exact absurd (List.append_eq_nil_iff.1 hfl).1 this
theorem good_wrong {u:Un} (hu:SmT u) {w:Int} (h:wrongP u w=0):rightT u=true∧24≤w∧w≤200:=by
 unfold wrongP at h;split at h
 ·rename_i hs;split at h
  ·cases h
  ·unfold Zbk validT at hs;simp only [Bool.and_eq_true] at hs;exact ⟨hs.1.1,by omega,by omega⟩
 ·cases h
def stC (D:Nat) (u:Un) (Dn:List (List Ln)) (N:List Ln) (id:Nat):List (Nat×AB) :=
 outB u Dn id++[(7,.dfr D true),(5,.arr false 1 [[nowV N]]),(4,.arr false 1 [[outV Dn id]]),(3,.arr false 1 [[pI 0]]),(2,.arr false 1 [[.nilsl]])]
theorem stC_le {RB:AB} {D:Nat} {u:Un} {Dn:List (List Ln)} {N:List Ln} {id t:Nat} (hid:8<id):Heap.le ⟨stC D u Dn N id,t⟩ ⟨stB RB D u Dn N id,t⟩:=by
 have h1:=stB_refl (RB:=RB) (D:=D) (u:=u) (Dn:=Dn) (N:=N) (t:=t) hid;refine ⟨Nat.le_refl _,?_⟩;have h2:=h1.2;unfold stC;generalize hf:(Heap.get ⟨stB RB D u Dn N id,t⟩)=f at h2 ⊢;unfold stB at h2;by_cases h0:outB u Dn id=[]
 ·rw [h0] at h2 ⊢;simp only [List.nil_append,HL.le] at h2 ⊢;exact h2.2
 ·unfold outB at h2 ⊢ h0;split at h2
  ·rename_i h5;rw [if_pos h5] at h0;exact absurd rfl h0
  ·rename_i h5;rw [if_neg h5];simp only [List.cons_append,List.nil_append,HL.le] at h2 ⊢;exact ⟨h2.1,h2.2.2⟩
theorem stC_get8 {D:Nat} {u:Un} {Dn:List (List Ln)} {N:List Ln} {id:Nat} (hid:8<id):HL.get (stC D u Dn N id) 8=none:=by
 unfold stC outB;split
 ·rfl
 ·rw [List.cons_append,List.nil_append,HL.get,if_neg (by omega)];rfl
theorem dfr7 {L:List (Nat×AB)} {t i D:Nat} {o:Bool} (hL:∀ q∈L,q.1=7∨∀ D o,q.2≠.dfr D o) (h:Heap.get ⟨L,t⟩ i=some (.dfr D o)):i=7:=by
 rcases hL _ (HL.get_mem h) with h|h
 ·exact h
 ·exact absurd rfl (h D o)
theorem sp_Paginate {u:Un} (hu:SmT u) (hn:(unitsT u).length≤1000) (w m:Int):Zak Tryz.prog 11 [.agg u.enc,pI w,pI m] (.tup [.sl 4 ((pagP u w m).1.map Pg.enc),pI (pagP u w m).2]):=by
 have W:=sp_pag_wrong hu hn w;refine Zad ?_ (closed_pag _ _) (by intro y hy;simp only [List.mem_cons,List.not_mem_nil,or_false] at hy;rcases hy with rfl|rfl|rfl;exact Zap u;exact cI _;exact cI _);refine ACall_fnR (vc:=c_paginate_Paginate) (ts:=[.c 6 false 1,.c 7 false 1]) Go.Proofs.Tryz.func11 (by kernel_rfl) rfl rfl (Nat.le_of_ble_eq_true rfl) (by kernel_rfl) ?_;unfold c_paginate_Paginate;try dsimp only [ZM,ZO,ZN,ZG,ZR,ZU]
 unfold pagP;have hue:=Un.Zaf u;have BP:=fun h=>sp_pag_body hu hn w h true;have RD:=fun l D F Dn N g id t a b c d e f i=>pag_round hu hn m a b l D F Dn N g id t c d e f i;have BL:=kidsB_le hu w true u.kids.length;rw [List.take_length] at BL;have BN:=notes_kids hu hn w;have PG:=fun (k:Int) (N:List Ln) (h0:N≠[]) (h1:N.length≤1000000) (h2:Zam N≤1000000)=>sp_page hu hn k N h0 h1 h2;have hgw:=fun h=>good_wrong hu (w:=w) h;unfold envP at RD;rw [hue] at W BP RD PG ⊢;generalize u.head.map Wd.enc=EH at *;generalize u.words.map Wd.enc=EW at *;generalize u.kids.map Un.enc=EK at *;refine Rp0 [1,3,5,6,7] ?_;refine Zb7 (l1:=[(1,.arr false 1 [[pI m]]),(0,.arr false 8 [[pI u.act,pI u.item,pI u.n,pI u.kind,.str u.label,.sl 4 EH,.sl 4 EW,.sl 8 EK]])]) (l2:=[(3,.arr false 1 [[pI 0]]),(2,.arr false 1 [[.nilsl]])]) (t:=4)
  [(1,pI w),(3,.ro [pI u.act,pI u.item,pI u.n,pI u.kind,.str u.label,.sl 4 EH,.sl 4 EW,.sl 8 EK]),(5,.ro [pI m]),(6,.loc 2 0 0),(7,.loc 3 0 0)] (by simp [Heap.le,Heap.get,HL.le,HL.get]) (by simp) (by simp)
  ⟨View.refl _ _,View.loc (z:=8) (fz:=false) (es:=[[pI u.act,pI u.item,pI u.n,pI u.kind,.str u.label,.sl 4 EH,.sl 4 EW,.sl 8 EK]]) rfl (by simp) rfl (by simp),View.loc (z:=1) (fz:=false) (es:=[[pI m]]) rfl (by simp) rfl (by simp),View.refl _ _,View.refl _ _,trivial⟩ ?_
 refine Zaa ?_;refine Rp0 [1,3,5,6,7,8] ?_;refine Zao W ?_;generalize hW:wrongP u w=E at *;by_cases hE:E=0
 ·rw [if_pos hE];have e1:(E != 0)=false:=by rw [hE];rfl
  obtain ⟨hr,hw1,hw2⟩:=hgw hE
  replace BP:=BP (good_all hu hr hw1 hw2)
  refine Rp1 [1,3,5,6,7,16] e1 ?_;refine Fp0 ?_;by_cases hm:m<2∨200<m
  ·rw [if_pos hm];refine Zaa (Zbl (σ:=Empty) (fun x=>x.elim) ?_ (fun x=>x.elim));by_cases c1:m<2
   ·have e2:=decide_eq_true c1;refine Rp1 [6,7,23] e2 ?_;refine Ct ?_;refine Rp0 [6,7] ?_;refine Tp0 ?_;refine unm (by simp [Heap.le,Heap.get,HL.le,HL.get]) (fun id D o=>by simp only [Heap.get,HL.get];split<;>(try split)<;>simp) ?_;exact View.tup2 (View.nil _ _) (View.refl _ _)
   ·have e2:=decide_eq_false c1;have e3:decide (m>200)=true:=decide_eq_true (by omega);refine Rp1 [6,7,23] (x2 e2 e3) ?_;refine Ct ?_;refine Rp0 [6,7] ?_;refine Tp0 ?_;refine unm (by simp [Heap.le,Heap.get,HL.le,HL.get]) (fun id D o=>by simp only [Heap.get,HL.get];split<;>(try split)<;>simp) ?_;exact View.tup2 (View.nil _ _) (View.refl _ _)
  ·rw [if_neg hm];have c1:decide (m<2)=false:=decide_eq_false (by omega);have c2:decide (m>200)=false:=decide_eq_false (by omega);refine Zaa (Zaa (Zae [1,3,5,6,7,23] ?_));refine Sp1 (x2 c1 c2) ?_;refine Fp0 ?_;refine Rp0 [1,3,5,6,7,9] ?_;refine Rp0 [1,3,5,6,7,9,10] ?_;unfold bodyP;generalize hG:Zcs w true u u.kids=G at *;have SG:=sp_groups G;refine VW.weakenH (h':=⟨[(5,.arr false 1 [[.nilsl]]),(4,.arr false 1 [[.nilsl]]),(3,.arr false 1 [[pI 0]]),(2,.arr false 1 [[.nilsl]])],7⟩) (by simp [Heap.le,Heap.get,HL.le,HL.get]) ?_;refine VW_rangeB rfl (gx:=.tmp 27) (ps:=#[28]) (asg:=rfAsg (rfIn Tryz.f11)) (body:=rfBody (rfIn Tryz.f11)) (by kernel_rfl) ?_;refine rp0 [3,5,6,7,9,10,27] ?_;refine Zao BP ?_;refine Zao SG ?_;generalize hF:PV.fn (.func 62) [] [.ro [.sl 6 (G.map Ln.encP)]]=F at *;refine ⟨.t 27,62,[.ro [.sl 6 (G.map Ln.encP)]],rfl,hF.symm,fun l D=>?_⟩;have hGl:G.length≤602000:=by
    rw [Zan,List.length_cons] at hn;omega
   replace RD:=fun Dn N g id t c d e f i j k=>RD l D F Dn N g id t (by omega) (by omega) c d e f i j k
   generalize hE0:([(3,.ro [pI u.act,pI u.item,pI u.n,pI u.kind,.str u.label,.sl 4 EH,.sl 4 EW,.sl 8 EK]),(5,.ro [pI m]),(6,.loc 2 0 0),(7,.loc 3 0 0),(9,.loc 4 0 0),(10,.loc 5 0 0),(27,F)]:Env)=E0 at *;have hgr:∀ pre g post,grpG [] G=pre++g::post→g≠[]∧g.length≤602000∧Zam g≤362404000∧(∀ x∈pre,x≠[])∧pre.flatten.length≤602000:=by
    intro pre g post h;obtain ⟨a,b,hab⟩:=grp_mem h;have hne:=grpG_ne G [];rw [h] at hne;have h1:=congrArg List.length hab;have h2:=notesN_sub (a:=a) (b:=g) (c:=b);rw [← hab] at h2;rw [List.length_append,List.length_append] at h1;have h3:=congrArg List.length (grpG_flat G []);rw [h,List.flatten_append,List.length_append,List.nil_append] at h3;exact ⟨hne g (by simp),by omega,by omega,fun x hx=>hne x (by simp [hx]),by omega⟩
   have hI:ItI (fun pre L t=>∃ Dn N id,pagG m pre=some (Dn,N)∧8<id∧id<t∧L=stB (lpP l D .ready none E0) D u Dn N id):=by
    refine ⟨?_,?_,?_⟩
    ·rintro p L t ⟨Dn,N,id,-,h1,-,rfl⟩;exact stB_nod h1
    ·rintro p L t ⟨Dn,N,id,-,h1,h2,rfl⟩ q hq;unfold stB outB at hq;split at hq
     ·simp only [List.nil_append,List.mem_cons,List.not_mem_nil,or_false] at hq;rcases hq with rfl|rfl|rfl|rfl|rfl|rfl<;>simp only []<;>omega
     ·simp only [List.cons_append,List.nil_append,List.mem_cons,List.not_mem_nil,or_false] at hq;rcases hq with rfl|rfl|rfl|rfl|rfl|rfl|rfl<;>simp only []<;>omega
    ·rintro p L t t' ⟨Dn,N,id,h0,h1,h2,rfl⟩ hle;exact ⟨Dn,N,id,h0,h1,by omega,rfl⟩
   have IT:=sp_groups_1 l G (by omega) (Fin:=fun h'=>pagesG m G=none∧∃ t',h'=⟨[(8,lpP l D .done (some .ret) E0),(7,.dfr D true),(3,.arr false 1 [[pI 6]]),(2,.arr false 1 [[.nilsl]])],t'⟩) hI (fun pre g post L1 t1 hgp hInv=>by
    obtain ⟨Dn,N,id,q1,q2,q3,rfl⟩:=hInv;obtain ⟨g1,g2,g3,g4,g5⟩:=hgr pre g post hgp;have PI:=pagG_inv g4 q1;have hf:=pgI_few PI;refine (RD Dn N g id t1 q2 q3 g1 (by omega) (by omega) PI.now (by simp only [] at hf;omega)).mono ?_;rintro v h' (⟨rfl,Dn',N',id',t',r1,r2,r3,rfl⟩|⟨rfl,r1,t',rfl⟩)
    ·exact .inl ⟨rfl,_,_,rfl,Dn',N',id',by rw [pagG_snoc,q1];exact r1,r2,r3,rfl⟩
    ·refine .inr ⟨rfl,?_,t',rfl⟩;unfold pagesG;rw [hgp,pagG_pre (by rw [q1];exact r1)];rfl) (L0:=stB (lpP l D .ready none E0) D u [] [] 9) (t0:=10) ⟨[],[],9,rfl,by omega,by omega,rfl⟩
   refine Zal.weakenL (h0:=⟨stB (lpP l D .ready none E0) D u [] [] 9,10⟩) ?_ (Zal.mono IT ?_)
   ·simp only [vmL,Nat.reduceEqDiff,Nat.reduceAdd,Nat.reduceLeDiff,lpP,stB,outB,nowV,outV,Heap.le,HL.le,Heap.get,HL.get,List.nil_append,if_true];rfl
   rintro p h' (⟨L2,t2,rfl,Dn,N,id,q1,q2,q3,rfl⟩|⟨q1,t',rfl⟩)
   ·refine ⟨.ready,none,⟨stC D u Dn N id,t2⟩,by simp,(stB_get q2 8 (Nat.le_refl _)).trans rfl,stC_le q2,stC_get8 q2,?_⟩;have hGne:=grpG_ne G [];have PI:=pagG_inv hGne q1;have hf:=pgI_few PI;rw [grpG_flat,List.nil_append] at hf;have hpg:pagesG m G=some (endG (Dn,N)):=by unfold pagesG;rw [q1];rfl
    rw [hpg];by_cases hN:N=[]
    ·have hDn:Dn=[]:=pagG_empty hGne q1 hN;subst hN hDn hE0;have e5:stC D u [] [] id=[(7,.dfr D true),(5,.arr false 1 [[.nilsl]]),(4,.arr false 1 [[.nilsl]]),(3,.arr false 1 [[pI 0]]),(2,.arr false 1 [[.nilsl]])]:=rfl;have e00:decide (((0:Nat):Int)>0)=false:=rfl;rw [e5];refine Zaa ?_;refine Rp1 [6,7,9,60] e00 ?_;refine Fp0 ?_;refine Rp0 [6,7] ?_;refine Tp0 ?_;refine ⟨⟨⟨[(3,.arr false 1 [[pI 0]]),(2,.arr false 1 [[.nilsl]])],t2⟩,by simp [Heap.le,Heap.get,HL.le,HL.get],fun i D o h=>?_,View.tup2 (View.nil _ _) (View.refl _ _)⟩,7,D,rfl,rfl⟩;obtain rfl:=dfr7 (by simp) h;rfl
    ·have hnv:nowV N=.sl 6 (N.map Ln.encP):=by unfold nowV;rw [if_neg hN]
     have hNm:=PI.now hN;have hN1:=high_len N;have hN2:=high_notes N;simp only [] at hNm hf;have hNl:0<N.length:=List.length_pos_iff.2 hN;have hlN:(N.map Ln.encP).length=N.length:=List.length_map _;have e0:decide (((N.map Ln.encP).length:Int)>0)=true:=decide_eq_true (by omega);have P:=PG ((Dn.length+1:Nat):Int) N hN (by omega) (by omega);have hend:endG (Dn,N)=Dn++[N]:=(show (if N=[] then Dn else Dn++[N])=Dn++[N] by rw [if_neg hN]);rw [hend];have hpe:(pgsF u 0 (Dn++[N])).map Pg.enc=(pgsF u 0 Dn).map Pg.enc++[(pageP u ((Dn.length+1:Nat):Int) N).enc]:=by rw [pgsF_app,List.map_append,Nat.zero_add];rfl
     have hrl:((pgsF u 0 Dn).map Pg.enc).length=Dn.length:=by rw [List.length_map,pgsF_len]
     generalize pageP u ((Dn.length+1:Nat):Int) N=pg at P hpe;have hpg:pg.enc=[pI pg.number,.str pg.head,.sl 1 (pg.lines.map fun s=>[PV.str s]),.sl 1 (pg.notes.map fun s=>[PV.str s])]:=rfl;rw [hpg] at P hpe;subst hE0;by_cases hDn:Dn=[]
     ·have hd0:Dn.length=0:=by rw [hDn];rfl
      have hR:(pgsF u 0 Dn).map Pg.enc=[]:=List.eq_nil_of_length_eq_zero (by omega);rw [hR,List.nil_append] at hpe;rw [hd0] at P;have e5:stC D u Dn N id=[(7,.dfr D true),(5,.arr false 1 [[.sl 6 (N.map Ln.encP)]]),(4,.arr false 1 [[.nilsl]]),(3,.arr false 1 [[pI 0]]),(2,.arr false 1 [[.nilsl]])]:=by
       unfold stC outB outV;rw [if_pos hDn,if_pos hDn,hnv];rfl
      rw [e5];have qq:=N6 2 3 4 5 7 t2;refine Zaa ?_;refine Rp1 [3,6,7,9,10,60] e0 ?_;refine Ct ?_;refine VW_draw2A (t2+10) [6,7,9] ?_ ?_
      ·exact Fn1 qq
      simp only [vmL,Nat.reduceEqDiff,Nat.reduceAdd,Nat.reduceLT,Nat.reduceLeDiff,Nat.reduceMul,DrawA,VOp.writes,false_implies,implies_true,qq,ad1 (a:=0) (by omega)];refine ⟨_,.inl P,?_⟩;try simp only [vmL,Nat.reduceAdd,DrawA,VOp.writes,false_implies,implies_true,qq]
      refine ⟨by omega,by omega,?_⟩;refine Rp1 [6,7] qq ?_;refine Tp1 qq ?_;refine ⟨⟨⟨[(t2,.arr false 4 [[pI pg.number,.str pg.head,.sl 1 (pg.lines.map fun s=>[PV.str s]),.sl 1 (pg.notes.map fun s=>[PV.str s])]]),(3,.arr false 1 [[pI 0]]),(2,.arr false 1 [[.own t2 0 1]])],t2+1⟩,?_,fun i D o h=>?_,View.tup2 ?_ (View.refl _ _)⟩,7,D,?_,rfl⟩
      ·simp only [vmL,Heap.le,Heap.get,HL.le,HL.get,qq]
       try exact ⟨Nat.le_refl _,rfl,rfl,trivial⟩
      ·obtain rfl:=dfr7 (by simp) h;exact Sc1 qq
      ·show View _ _ (.sl 4 ((pgsF u 0 (Dn++[N])).map Pg.enc));rw [hpe];exact View.own_all (fz:=false) (by simp [Heap.get,HL.get]) rfl
      ·exact Sc1 qq
     ·have e5 : stC D u Dn N id = [(id, .arr false 4 ((pgsF u 0 Dn).map Pg.enc)), (7, .dfr D true), (5, .arr false 1 [[.sl 6 (N.map Ln.encP)]]), (4, .arr false 1 [[.own id 0 Dn.length]]), (3, .arr false 1 [[pI 0]]), (2, .arr false 1 [[.nilsl]])] := by
       unfold stC outB outV;rw [if_neg hDn,if_neg hDn,hnv];rfl
      rw [e5];generalize (pgsF u 0 Dn).map Pg.enc=R at hpe hrl ⊢;have hRt:R.take Dn.length=R:=List.take_of_length_le (by omega);have qq:=N7 2 3 4 5 7 id t2;refine Zaa ?_;refine Rp1 [3,6,7,9,10,60] (x2 e0 qq) ?_;refine Ct ?_;refine VW_draw2A (t2+10) [6,7,9] ?_ ?_
      ·exact Fn1 qq
      simp only [vmL,Nat.reduceEqDiff,Nat.reduceAdd,Nat.reduceLT,Nat.reduceLeDiff,reduceCtorEq,DrawA,VOp.writes,false_implies,implies_true,qq,ad1 (a:=Dn.length) (by omega)];refine ⟨_,.inl P,?_⟩;try simp only [vmL,Nat.reduceAdd,DrawA,VOp.writes,false_implies,implies_true,hrl,hRt,qq]
      refine ⟨by omega,by omega,by omega,by omega,?_⟩;refine Rp1 [6,7] qq ?_;refine Tp1 qq ?_;refine ⟨⟨⟨[(t2,.arr false 4 (R++[[pI pg.number,.str pg.head,.sl 1 (pg.lines.map fun s=>[PV.str s]),.sl 1 (pg.notes.map fun s=>[PV.str s])]])),(3,.arr false 1 [[pI 0]]),(2,.arr false 1 [[.own t2 0 (Dn.length+1)]])],t2+1⟩,?_,fun i D o h=>?_,View.tup2 ?_ (View.refl _ _)⟩,7,D,?_,rfl⟩
      ·simp only [vmL,Heap.le,Heap.get,HL.le,HL.get,qq]
       try exact ⟨Nat.le_refl _,rfl,rfl,trivial⟩
      ·obtain rfl:=dfr7 (by simp) h;exact Sc1 qq
      ·show View _ _ (.sl 4 ((pgsF u 0 (Dn++[N])).map Pg.enc));rw [hpe];exact View.own_all (fz:=false) (by simp [Heap.get,HL.get]) (by rw [List.length_append,hrl];rfl)
      ·exact Sc1 qq
   ·refine ⟨.done,some .ret,⟨[(7,.dfr D true),(3,.arr false 1 [[pI 6]]),(2,.arr false 1 [[.nilsl]])],t'⟩,by simp,rfl,by simp [Heap.le,Heap.get,HL.le,HL.get],rfl,?_⟩;rw [q1];subst hE0;refine Sp0 ?_;refine ⟨⟨⟨[(3,.arr false 1 [[pI 6]]),(2,.arr false 1 [[.nilsl]])],t'⟩,by simp [Heap.le,Heap.get,HL.le,HL.get],fun i D o h=>?_,View.tup2 (View.nil _ _) (View.refl _ _)⟩,7,D,rfl,rfl⟩;obtain rfl:=dfr7 (by simp) h;rfl
 ·rw [if_neg hE];have e1:(E != 0)=true:=by simpa using hE
  refine Rp1 [6,7,8,16] e1 ?_;refine Ct ?_;refine Rp0 [6,7] ?_;refine Tp0 ?_;refine unm (by simp [Heap.le,Heap.get,HL.le,HL.get]) (fun id D o=>by simp only [Heap.get,HL.get];split<;>(try split)<;>simp) ?_;exact View.tup2 (View.nil _ _) (View.refl _ _)
end Go.Proofs.YtcgdjembdjdlhaaGreatDoor.w
namespace Go.Proofs.YtcgdjembdjdlhaaGreatDoor.w
open Go Go.VM
def Zb3:VC:=(ZR [ZO 3 (.box 8 (.t 0)),ZO 6 (.mv (.c (.int .i64 0)))] (.seq (ZR [ZM 9 1,ZO 10 (.bin .gtr (.t 9) (.c (.int .i64 20)))] (.cond (.t 10) (ZR [ZM 11 2,ZO 12 (.bin .add (.t 11) (.c (.int .i64 1))),ZM 6 12] .ret) .skip)) (ZR [ZO 7 (.mv (.c (.int .i64 1)))] (.seq (ZR [ZO 8 (.mv (.c (.int .i64 0)))] (.block 0 (.loop (.seq (ZR [ZM 13 8,ZO 14 (.faddr 7 (.t 3)),ZO 15 (.load false 1 (.t 14)),ZO 16 (.len false (.t 15)),ZO 17 (.bin .lss (.t 13) (.t 16)),ZM 18 17,ZG 19 (.mv (.t 7)) 18 true,ZG 20 (.mv (.t 2)) 18 true,ZG 21 (.bin .leq (.t 19) (.t 20)) 18 true,ZO 22 (.pick (.t 18) (.t 21) (.c (.bool false)))] (.cond (.t 22) .skip (.exit 0))) (.seq (.block 1 (.region [ZM 25 7,ZO 26 (.faddr 7 (.t 3)),ZO 27 (.load false 1 (.t 26)),ZM 28 8,ZO 29 (.iaddr 8 (.t 27) (.t 28)),ZO 30 (.load true 8 (.t 29)),ZM 31 1,ZO 32 (.bin .add (.t 31) (.c (.int .i64 1))),ZM 33 2,ZM 34 7,ZO 35 (.bin .sub (.t 33) (.t 34)),ZO 36 (.call 53 [.t 30,.t 32,.t 35]),ZO 37 (.bin .add (.t 25) (.t 36)),ZM 7 37] false)) (.region [ZM 23 8,ZO 24 (.bin .add (.t 23) (.c (.int .i64 1))),ZM 8 24] false)))))) (ZR [ZM 38 7,ZM 6 38] .ret)))))
def c_pandectref06_short:VC:=(ZR [ZO 2 (.mv (.c (.bool false)))] (.seq (ZR [ZO 3 (.mv (.c (.int .i64 0)))] (.block 0 (.loop (.seq (ZR [ZM 4 3,ZM 5 0,ZO 6 (.len false (.t 5)),ZO 7 (.bin .lss (.t 4) (.t 6))] (.cond (.t 7) .skip (.exit 0))) (.seq (.block 1 (ZR [ZM 10 0,ZM 11 3,ZO 12 (.iaddr 4 (.t 10) (.t 11)),ZO 13 (.faddr 0 (.t 12)),ZO 14 (.load false 1 (.t 13)),ZO 15 (.len true (.t 14)),ZO 16 (.bin .gtr (.t 15) (.c (.int .i64 100)))] (.cond (.t 16) (ZR [ZO 2 (.mv (.c (.bool false)))] .ret) .skip))) (.region [ZM 8 3,ZO 9 (.bin .add (.t 8) (.c (.int .i64 1))),ZM 3 9] false)))))) (ZR [ZM 17 0,ZO 18 (.len false (.t 17)),ZO 19 (.bin .leq (.t 18) (.c (.int .i64 300))),ZM 2 19] .ret)))
def c_pandectref06_words:VC:=(ZR [ZO 1 (.box 8 (.t 0)),ZO 2 (.mv (.c (.bool false)))] (.seq (ZR [ZO 4 (.faddr 4 (.t 1)),ZO 5 (.load false 1 (.t 4)),ZO 6 (.len true (.t 5)),ZO 7 (.bin .gtr (.t 6) (.c (.int .i64 30))),ZM 8 7,ZG 9 (.faddr 5 (.t 1)) 8 false,ZG 10 (.load false 1 (.t 9)) 8 false,ZG 11 (.call 92 [.t 10]) 8 false,ZG 12 (.un .not (.t 11)) 8 false,ZO 13 (.pick (.t 8) (.c (.bool true)) (.t 12)),ZM 14 13,ZG 15 (.faddr 6 (.t 1)) 14 false,ZG 16 (.load false 1 (.t 15)) 14 false,ZG 17 (.call 92 [.t 16]) 14 false,ZG 18 (.un .not (.t 17)) 14 false,ZO 19 (.pick (.t 14) (.c (.bool true)) (.t 18))] (.cond (.t 19) (ZR [ZO 2 (.mv (.c (.bool false)))] .ret) .skip)) (.seq (ZR [ZO 3 (.mv (.c (.int .i64 0)))] (.block 0 (.loop (.seq (ZR [ZM 20 3,ZO 21 (.faddr 7 (.t 1)),ZO 22 (.load false 1 (.t 21)),ZO 23 (.len false (.t 22)),ZO 24 (.bin .lss (.t 20) (.t 23))] (.cond (.t 24) .skip (.exit 0))) (.seq (.block 1 (ZR [ZO 27 (.faddr 7 (.t 1)),ZO 28 (.load false 1 (.t 27)),ZM 29 3,ZO 30 (.iaddr 8 (.t 28) (.t 29)),ZO 31 (.load true 8 (.t 30)),ZO 32 (.call 54 [.t 31]),ZO 33 (.un .not (.t 32))] (.cond (.t 33) (ZR [ZO 2 (.mv (.c (.bool false)))] .ret) .skip))) (.region [ZM 25 3,ZO 26 (.bin .add (.t 25) (.c (.int .i64 1))),ZM 3 26] false)))))) (ZR [ZO 2 (.mv (.c (.bool true)))] .ret))))
def c_pandectref06_Few:VC:=(ZR [ZO 2 (.box 8 (.t 0)),ZO 4 (.mv (.c (.bool false)))] (ZR [ZO 5 (.load true 8 (.t 2)),ZM 6 1,ZO 7 (.call 53 [.t 5,(.c (.int .i64 0)),.t 6]),ZM 8 1,ZO 9 (.bin .leq (.t 7) (.t 8)),ZM 10 9,ZG 11 (.load true 8 (.t 2)) 10 true,ZG 12 (.call 54 [.t 11]) 10 true,ZO 13 (.pick (.t 10) (.t 12) (.c (.bool false))),ZM 4 13] .ret))
theorem sp_ref06_size:∀ (d:Nat) (u:Un) (m:Int),d≤21→0≤m→m≤1000→Zak Tryz.prog 53 [.agg u.enc,pI (21-(d:Int)),pI m] (pI (sizeT d u m))
 | 0,u,m,hd,h0,h1=>by
  have e:(21:Int)-((0:Nat):Int)=21:=rfl;rw [e];refine Gp (vc:=Zb3) [.t 6] (cI _) Tryz.func53 ?_;unfold Zb3;try dsimp only [ZM,ZO,ZN,ZG,ZR,ZU]
  rw [Un.Zaf];refine Rp0 [1,2,3] ?_;refine Zaa ?_;refine Rp0 [1,2,3,10] ?_;refine Zac rfl (fun h1=>?_) (fun h1=>by cases h1);refine Rp1 [6] (w64 (n:=m+1) (by omega) (by omega)) ?_;refine Tp0 ?_;rw [sizeT];exact View.refl _ _
 | d+1,u,m,hd,h0,h1=>by
  have A:=fun k m' a b=>sp_ref06_size d k m' (by omega) a b;have hb:=fun k m' h=>sizeT_bd d k m' h;rw [sizeT];generalize sizeT d=f at A hb ⊢;obtain ⟨D,hD⟩:∃ D:Int,D=21-((d+1:Nat):Int):=⟨_,rfl⟩;have hD1:21-(d:Int)=D+1:=by omega
  rw [← hD];rw [hD1] at A;have hD0:0≤D∧D≤20:=by omega
  clear hD hD1;refine Gp (vc:=Zb3) [.t 6] (cI _) Tryz.func53 ?_;unfold Zb3;try dsimp only [ZM,ZO,ZN,ZG,ZR,ZU]
  rw [Un.Zaf];refine Rp0 [1,2,3] ?_;refine Zat [(1,pI D),(2,pI m),(3,.ro [pI u.act,pI u.item,pI u.n,pI u.kind,.str u.label,.sl 4 (u.head.map Wd.enc),.sl 4 (u.words.map Wd.enc),.sl 8 (u.kids.map Un.enc)])] ⟨View.refl _ _,View.refl _ _,View.loc (z:=8) (fz:=false) (es:=[[pI u.act,pI u.item,pI u.n,pI u.kind,.str u.label,.sl 4 (u.head.map Wd.enc),.sl 4 (u.words.map Wd.enc),.sl 8 (u.kids.map Un.enc)]]) rfl (by simp) rfl (by simp),trivial⟩ ?_;generalize u.head.map Wd.enc=EH;generalize u.words.map Wd.enc=EW;generalize u.kids=L;refine Zaa ?_;refine Rp0 [1,2,3,10] ?_;refine Zac rfl (fun h1=>by simp at h1;omega) (fun h1=>?_);refine Kp0 ?_;refine Rp0 [1,2,3,7] ?_;refine Zaa ?_;refine Rp0 [1,2,3,7,8] ?_;refine Zab ?_;refine Zah (σ:={ x:Nat×Nat//x.1≤L.length∧(x.1:Int)+1≤m+2 }) (fun x=>([(1,pI D),(2,pI m),(3,.ro [pI u.act,pI u.item,pI u.n,pI u.kind,.str u.label,.sl 4 EH,.sl 4 EW,.sl 8 (L.map Un.enc)]),(7,pI ((L.take x.1.1).foldl (Zb8 f m) 1)),(8,pI x.1.1)],⟨[],x.1.2⟩)) (fun x=>L.length-x.1.1) ⟨(0,1),Nat.zero_le _,by simp;omega⟩ ?_ ?_ ?_
  ·exact Fn0
  ·exact Sc0
  rintro ⟨⟨k,t⟩,hk,hk2⟩;simp only [] at hk hk2 ⊢;have hn:=sizeF_bd (f:=f) (m:=m) (fun k m' h=>hb k m' h) (L.take k) 1 (Int.le_refl _) (by omega);generalize hN:(L.take k).foldl (Zb8 f m) 1=n at hn ⊢;by_cases ka:k<L.length
  ·have hc:decide ((k:Int)<(L.length:Int))=true:=by simp;omega
   by_cases kn:n≤m
   ·have hc2:decide (n≤m)=true:=by simpa using kn
    have hst:=sizeF_step f m ka;rw [hN] at hst;have hs2:Zb8 f m n L[k]=n+f L[k] (m-n):=by unfold Zb8;rw [if_pos kn]
    rw [hs2] at hst;have hrow:(L.map Un.enc).getD k []=L[k].enc:=rowm ka;have R:=A L[k] (m-n) (by omega) (by omega);have hr:=hb L[k] (m-n) (by omega);have hlow:=sizeF_low (f:=f) (m:=m) (fun k m' h=>(hb k m' h).1) (L.take k) 1 (by rw [hN];exact kn);rw [hN,List.length_take] at hlow;generalize L[k]=v at hst hs2 hrow R hr;rw [Un.Zaf] at hrow R;generalize f v (m-n)=s at hst R hr;refine Zaa ?_;refine Rp1 [1,2,3,7,8,22] (x3 @xlm hc hc2) ?_;refine Ct ?_;refine Kp0 ?_;refine Zaa ?_;refine Zab ?_;refine rp1 [1,2,3,7,8] (x4 @xlm hrow (w64 (n:=m-n) (by omega) (by omega)) (w64 (n:=D+1) (by omega) (by omega))) ?_;refine ⟨by omega,?_⟩;refine Ap1 R (w64 (n:=n+s) (by omega) (by omega)) ?_;refine rp1 [1,2,3,7,8] (ad1 (a:=k) (by omega)) ?_;refine ⟨⟨(k+1,t),ka,by simp only [];omega⟩,?_⟩;simp only [hst]
    all_goals exact Fn0
   ·have hc2:decide (n≤m)=false:=by simpa using kn
    have hst:L.foldl (Zb8 f m) 1=n:=by
     have e:L=L.take k++L.drop k:=(List.take_append_drop _ _).symm;rw [e,List.foldl_append,hN];exact sizeF_stop f m _ n (by omega)
    rw [hst];refine Zaa ?_;refine Rp1 [1,2,3,7,8,22] (x3 @xlm hc hc2) ?_;refine Cf ?_;refine Ep0 ?_;exact Rv0 [6]
  ·have hc:decide ((k:Int)<(L.length:Int))=false:=by simp;omega
   obtain rfl:k=L.length:=by omega
   rw [List.take_length] at hN;rw [hN];refine Zaa ?_;refine Rp1 [1,2,3,7,8,22] (x2 @xlm hc) ?_;refine Cf ?_;refine Ep0 ?_;exact Rv0 [6]
theorem sp_ref06_short (l:List Wd) (hl:l.length≤1048576) (ht:∀ w∈l,w.text.length≤1048576):Zak Tryz.prog 92 [.sl 4 (l.map Wd.enc)] (.bool (shortB l)):=by
 have h3:decide ((l.length:Int)≤300)=decide (l.length≤300):=decide_eq_decide.2 (by omega);refine Gp (vc:=c_pandectref06_short) [.t 2] (cB _) Tryz.func92 ?_;unfold c_pandectref06_short;try dsimp only [ZM,ZO,ZN,ZG,ZR,ZU]
 refine Rp0 [0] ?_;refine Zaa ?_;refine Rp0 [0,3] ?_;refine Zab ?_;refine Zah (σ:={ k:Nat//k≤l.length∧(l.all fun w=>decide (w.text.length≤100))=((l.drop k).all fun w=>decide (w.text.length≤100)) }) (fun x=>([(0,.sl 4 (l.map Wd.enc)),(3,pI x.1)],⟨[],0⟩)) (fun x=>l.length-x.1) ⟨0,Nat.zero_le _,rfl⟩ ?_ ?_ ?_
 ·refine Sp0 ?_;rfl
 ·exact Sc0
 rintro ⟨k,hk,hpre⟩;simp only [];refine Zaa ?_;refine Rp1 [0,3,7] @xlm ?_;refine Zac rfl (fun h1=>?_) (fun h1=>?_)
 ·have ka:k<l.length:=by simp only [decide_eq_true_eq] at h1;omega
  have hd:l.drop k=l[k]::l.drop (k+1):=List.drop_eq_getElem_cons ka;have htk:=ht _ (List.getElem_mem ka);rw [hd,List.all_cons] at hpre;have h2:decide ((100:Int)<(l[k].text.length:Int)) = !(decide (l[k].text.length≤100)):=by
   by_cases h:l[k].text.length≤100
   ·rw [decide_eq_true h,decide_eq_false (by omega)];rfl
   ·rw [decide_eq_false h,decide_eq_true (by omega)];rfl
  refine Kp0 ?_;refine Zaa ?_;refine Zab ?_;refine Zaa (Zae [0,3,16] ?_);simp only [vmL,Nat.reduceEqDiff,Nat.reduceAdd,Nat.reduceLeDiff,reduceCtorEq,List.length_map,rowm ka,Wd.enc,h2];refine Ok ?_;cases hq:decide (l[k].text.length≤100) with
  | false =>
   refine Ct ?_;refine Rp0 [2] ?_;refine Tp0 ?_;unfold shortB;rw [hpre,hq];exact View.refl _ _
  | true =>
   rw [hq,Bool.true_and] at hpre;refine Fp0 ?_;refine rp1 [0,3] (w64 (n:=(k:Int)+1) (by omega) (by omega)) ?_;refine ⟨⟨k+1,ka,hpre⟩,?_,?_⟩
   ·rfl
   ·simp only [];omega
 ·have ka:k=l.length:=by simp only [decide_eq_false_iff_not] at h1;omega
  subst ka;rw [List.drop_length] at hpre;refine Ep0 ?_;refine Rp1 [2] (x2 @xlm h3) ?_;refine Tp0 ?_;unfold shortB;rw [hpre];exact View.refl _ _
theorem wordsB_eq (u:Un):wordsB u=(briefB u&&u.kids.all wordsB):=unitsT_all briefB u
theorem sp_ref06_words {u:Un} (hu:UnB u):Zak Tryz.prog 54 [.agg u.enc] (.bool (wordsB u)):=by
 induction hu with
 | mk u h hl hh hw hk hs ih =>
  have H:=sp_ref06_short u.head hh.1 (fun w hw=>(hh.2 w hw).text);have W:=sp_ref06_short u.words hw.1 (fun w hx=>(hw.2 w hx).text);have h2:decide ((30:Int)<(u.label.length:Int)) = !(decide (u.label.length≤30)):=by
   by_cases h:u.label.length≤30
   ·rw [decide_eq_true h,decide_eq_false (by omega)];rfl
   ·rw [decide_eq_false h,decide_eq_true (by omega)];rfl
  rw [wordsB_eq];have hbr:briefB u=(decide (u.label.length≤30)&&(shortB u.head&&shortB u.words)):=rfl;rw [hbr];refine Gp (vc:=c_pandectref06_words) [.t 2] (cB _) Tryz.func54 ?_;unfold c_pandectref06_words;try dsimp only [ZM,ZO,ZN,ZG,ZR,ZU]
  rw [Un.Zaf];refine Rp0 [1] ?_;refine Zat [(1,.ro [pI u.act,pI u.item,pI u.n,pI u.kind,.str u.label,.sl 4 (u.head.map Wd.enc),.sl 4 (u.words.map Wd.enc),.sl 8 (u.kids.map Un.enc)])] ⟨View.loc (z:=8) (fz:=false) (es:=[[pI u.act,pI u.item,pI u.n,pI u.kind,.str u.label,.sl 4 (u.head.map Wd.enc),.sl 4 (u.words.map Wd.enc),.sl 8 (u.kids.map Un.enc)]]) rfl (by simp) rfl (by simp),trivial⟩ ?_;generalize u.head.map Wd.enc=EH at H ⊢;generalize u.words.map Wd.enc=EW at W ⊢;generalize u.kids=L at hk hs ih ⊢;generalize shortB u.head=bh at H ⊢;generalize shortB u.words=bw at W ⊢;clear hbr;refine Zaa ?_;cases d1:decide (u.label.length≤30) with
  | false =>
   rw [d1] at h2;refine Rp1 [1,19] h2 ?_;refine Ct ?_;exact Rv0 [2]
  | true =>
  rw [d1] at h2;cases bh with
  | false =>
   refine Rp1 [1,19] h2 ?_;refine Ap0 H ?_;refine Ct ?_;exact Rv0 [2]
  | true =>
  cases bw with
  | false =>
   refine Rp1 [1,19] h2 ?_;refine Ap0 H ?_;refine Ap0 W ?_;refine Ct ?_;exact Rv0 [2]
  | true =>
  refine Rp1 [1,19] h2 ?_;refine Ap0 H ?_;refine Ap0 W ?_;refine Fp0 ?_;refine Zaa ?_;refine Rp0 [1,3] ?_;refine Zab ?_;refine Zah (σ:={ x:Nat×Nat//x.1≤L.length∧L.all wordsB=(L.drop x.1).all wordsB }) (fun x=>([(1,.ro [pI u.act,pI u.item,pI u.n,pI u.kind,.str u.label,.sl 4 EH,.sl 4 EW,.sl 8 (L.map Un.enc)]),(3,pI x.1.1)],⟨[],x.1.2⟩)) (fun x=>L.length-x.1.1) ⟨(0,1),Nat.zero_le _,rfl⟩ ?_ ?_ ?_
  ·exact Fn0
  ·exact Sc0
  rintro ⟨⟨k,t⟩,hkk,hpre⟩;simp only [] at hkk hpre ⊢;refine Zaa ?_;refine Rp1 [1,3,24] @xlm ?_;refine Zac rfl (fun h1=>?_) (fun h1=>?_)
  ·have ka:k<L.length:=by simp only [decide_eq_true_eq] at h1;omega
   have hd:L.drop k=L[k]::L.drop (k+1):=List.drop_eq_getElem_cons ka;rw [hd,List.all_cons] at hpre;have hrow:(L.map Un.enc).getD k []=L[k].enc:=rowm ka;have R:=ih _ (List.getElem_mem ka);generalize L[k]=v at hpre hrow R;rw [Un.Zaf] at hrow R;refine Kp0 ?_;refine Zaa ?_;refine Zab ?_;refine Rp1 [1,3,33] (x2 @xlm hrow) ?_;refine Ok ?_;refine Ap0 R ?_;cases hq:wordsB v with
   | false =>
    refine Ct ?_;refine Rp0 [2] ?_;refine Tp0 ?_;rw [hpre,hq];exact View.refl _ _
   | true =>
    rw [hq,Bool.true_and] at hpre;refine Fp0 ?_;refine rp1 [1,3] (ad1 (a:=k) (by omega)) ?_;refine ⟨⟨(k+1,t),ka,hpre⟩,?_⟩;exact Fn0
  ·have ka:k=L.length:=by simp only [decide_eq_false_iff_not] at h1;omega
   subst ka;rw [List.drop_length] at hpre;refine Ep0 ?_;refine Rp0 [2] ?_;refine Tp0 ?_;rw [hpre];exact View.refl _ _
theorem sp_ref06_Few {u:Un} (hu:UnB u) (m:Int) (h0:0≤m) (h1:m≤1000):Zak Tryz.prog 24 [.agg u.enc,pI m] (.bool (fewB u m)):=by
 have S:=sp_ref06_size 21 u m (Nat.le_refl _) h0 h1;have e:(21:Int)-((21:Nat):Int)=0:=rfl;rw [e] at S;have W:=sp_ref06_words hu;unfold fewB;refine Gp (vc:=c_pandectref06_Few) [.t 4] (cB _) Tryz.func24 ?_;unfold c_pandectref06_Few;try dsimp only [ZM,ZO,ZN,ZG,ZR,ZU]
 rw [Un.Zaf] at S W ⊢;refine Rp0 [1,2] ?_;cases d1:decide (sizeT 21 u m≤m) with
 | false =>
  refine Rp0 [4] ?_;refine Zao S ?_;try simp only [vmL,Nat.reduceEqDiff,d1]
  exact Tv0
 | true =>
  refine Rp0 [4] ?_;refine Zao S ?_;try simp only [vmL,Nat.reduceEqDiff,Nat.reduceAdd,Nat.reduceLT,d1]
  refine Zao W ?_;exact Tv0
end Go.Proofs.YtcgdjembdjdlhaaGreatDoor.w
namespace Go.Proofs.YtcgdjembdjdlhaaGreatDoor.w
open Go Go.VM
def c_pandectlaw55_awake:VC:=(ZR [ZO 0 (.mv (.c (.bool false)))] (ZR [ZO 4 (.call 29 []),ZO 5 (.call 11 [.t 4,(.c (.int .i64 24)),(.c (.int .i64 3))]),ZM 3 5,ZO 6 (.ext (.t 3) 0),ZO 7 (.ext (.t 3) 1),ZM 1 6,ZM 2 7] (ZR [ZM 8 2,ZO 9 (.bin .eql (.t 8) (.c (.int .i64 0))),ZM 10 9,ZG 11 (.mv (.t 1)) 10 true,ZG 12 (.len false (.t 11)) 10 true,ZG 13 (.bin .eql (.t 12) (.c (.int .i64 1))) 10 true,ZO 14 (.pick (.t 10) (.t 13) (.c (.bool false))),ZM 15 14,ZG 16 (.mv (.t 1)) 15 true,ZG 17 (.iaddr 4 (.t 16) (.c (.int .i64 0))) 15 true,ZG 18 (.faddr 0 (.t 17)) 15 true,ZG 19 (.load false 1 (.t 18)) 15 true,ZG 20 (.bin .eql (.t 19) (.c (.int .i64 1))) 15 true,ZO 21 (.pick (.t 15) (.t 20) (.c (.bool false))),ZM 22 21,ZG 23 (.mv (.t 1)) 22 true,ZG 24 (.iaddr 4 (.t 23) (.c (.int .i64 0))) 22 true,ZG 25 (.faddr 1 (.t 24)) 22 true,ZG 26 (.load false 1 (.t 25)) 22 true,ZG 27 (.bin .eql (.t 26) (.c (.str [115,101,99,116,105,111,110,32,49]))) 22 true,ZO 28 (.pick (.t 22) (.t 27) (.c (.bool false))),ZM 29 28,ZG 30 (.mv (.t 1)) 29 true,ZG 31 (.iaddr 4 (.t 30) (.c (.int .i64 0))) 29 true,ZG 32 (.faddr 2 (.t 31)) 29 true,ZG 33 (.load false 1 (.t 32)) 29 true,ZG 34 (.bslice 1 2 [(.str [])] [(0,(.c (.str [115,101,99,116,105,111,110,32,49]))),(1,(.c (.str [112,97,114,97,103,114,97,112,104,32,49])))]) 29 true,ZG 35 (.call 15 [.t 33,.t 34]) 29 true,ZO 36 (.pick (.t 29) (.t 35) (.c (.bool false))),ZM 37 36,ZG 38 (.mv (.t 1)) 37 true,ZG 39 (.iaddr 4 (.t 38) (.c (.int .i64 0))) 37 true,ZG 40 (.faddr 3 (.t 39)) 37 true,ZG 41 (.load false 1 (.t 40)) 37 true,ZG 42 (.len false (.t 41)) 37 true,ZG 43 (.bin .eql (.t 42) (.c (.int .i64 0))) 37 true,ZO 44 (.pick (.t 37) (.t 43) (.c (.bool false))),ZM 0 44] .ret)))
def c_pandectlaw55_few:VC:=(ZR [ZO 1 (.box 8 (.t 0)),ZO 2 (.mv (.c (.bool false)))] (ZR [ZO 3 (.load true 8 (.t 1)),ZO 4 (.call 24 [.t 3,(.c (.int .i64 40))]),ZM 2 4] .ret))
def c_pandectlaw55_book:VC:=(ZR [ZO 0 (.alloc ZU)] (ZR [ZO 2 (.build [.int .i64 0,.int .i64 0,.int .i64 0] [(0,(1,(.c (.int .i64 1)))),(2,(1,(.c (.int .i64 2))))]),ZO 3 (.build ZU [(0,(3,(.t 2))),(3,(1,(.c (.int .i64 3)))),(4,(1,(.c (.str [49]))))]),ZO 1 (.alloc ZU),ZN (.store 8 (.t 1) (.t 3))] (ZR [ZO 4 (.build [.int .i64 0,.int .i64 0,.int .i64 0] [(0,(1,(.c (.int .i64 1)))),(2,(1,(.c (.int .i64 1))))]),ZO 5 (.load true 8 (.t 1)),ZO 6 (.bslice 8 1 ZU [(0,(.t 5))]),ZO 7 (.build ZU [(0,(3,(.t 4))),(3,(1,(.c (.int .i64 2)))),(4,(1,(.c (.str [49])))),(7,(1,(.t 6)))]),ZO 8 (.bslice 8 1 ZU [(0,(.t 7))]),ZO 9 (.build ZU [(7,(1,(.t 8)))]),ZN (.store 8 (.t 0) (.t 9))] .ret)))
def paraX:Un:=.mk 1 0 2 3 [49] [] [] []
def sectX:Un:=.mk 1 0 1 2 [49] [] [] [paraX]
def bookX:Un:=.mk 0 0 0 0 [] [] [] [sectX]
theorem ex_pag:pagP bookX 24 3=([⟨1,[115,101,99,116,105,111,110,32,49],[[115,101,99,116,105,111,110,32,49],[112,97,114,97,103,114,97,112,104,32,49]],[]⟩],0):=by kernel_rfl
theorem paraX_sm:SmT paraX:=.mk _ ⟨by unfold i64;decide,by decide,⟨by decide,fun w hw=>by cases hw⟩,⟨by decide,fun w hw=>by cases hw⟩⟩ (by decide) (fun k hk=>by cases hk)
theorem sectX_sm:SmT sectX:=.mk _ ⟨by unfold i64;decide,by decide,⟨by decide,fun w hw=>by cases hw⟩,⟨by decide,fun w hw=>by cases hw⟩⟩ (by decide) (fun k hk=>by
 have:k=paraX:=by simpa [sectX,Un.kids] using hk
 subst this;exact paraX_sm)
theorem bookX_sm:SmT bookX:=.mk _ ⟨by unfold i64;decide,by decide,⟨by decide,fun w hw=>by cases hw⟩,⟨by decide,fun w hw=>by cases hw⟩⟩ (by decide) (fun k hk=>by
 have:k=sectX:=by simpa [bookX,Un.kids] using hk
 subst this;exact sectX_sm)
theorem view_8 {h:Heap} {a b c d e k K:PV} (hk:View h k K) (j:Nat) (hj:j<8):View h (PV.nth [a,b,c,d,e,.nilsl,.nilsl,k] j) (PV.nth [a,b,c,d,e,.sl 4 [],.sl 4 [],K] j):=by
 have hj':j=0∨j=1∨j=2∨j=3∨j=4∨j=5∨j=6∨j=7:=by omega
 rcases hj' with rfl|rfl|rfl|rfl|rfl|rfl|rfl|rfl
 ·exact View.refl _ _
 ·exact View.refl _ _
 ·exact View.refl _ _
 ·exact View.refl _ _
 ·exact View.refl _ _
 ·exact View.nil _ _
 ·exact View.nil _ _
 ·exact hk
theorem view_own1 {h:Heap} {id:Nat} {a b c d e k K:PV} (hg:h.get id=some (.arr false 8 [[a,b,c,d,e,.nilsl,.nilsl,k]])) (hk:View h k K):View h (.own id 0 1) (.sl 8 [[a,b,c,d,e,.sl 4 [],.sl 4 [],K]]):=by
 refine View.ownV (z:=8) (fz:=false) hg (by simp) rfl (fun i hi=>?_) (fun i j hi hj=>?_)
 ·obtain rfl:i=0:=by omega
  rfl
 ·obtain rfl:i=0:=by omega
  exact view_8 hk j hj
theorem sp_book:Zak Tryz.prog 29 [] (.agg bookX.enc):=by
 refine Zad ?_ (Zap _) (by intro y hy;cases hy);refine Gn (vc:=c_pandectlaw55_book) [.c 0 true 8] Tryz.func29 ?_;unfold c_pandectlaw55_book;try dsimp only [ZM,ZO,ZN,ZG,ZR,ZU]
 refine Rp0 [0] ?_;refine Rp0 [0,1] ?_;refine Rp0 [0] ?_;refine Tp0 ?_;exact View.agg rfl fun j hj=>view_8 (view_own1 rfl (view_own1 rfl (View.nil _ _))) j hj
theorem sp_awake:Zak Tryz.prog 9 [] (.bool true):=by
 have B:=sp_book;have P:=sp_Paginate bookX_sm (by decide) 24 3;have T:=sp_Texts [[115,101,99,116,105,111,110,32,49],[112,97,114,97,103,114,97,112,104,32,49]] [[115,101,99,116,105,111,110,32,49],[112,97,114,97,103,114,97,112,104,32,49]] (by decide) (by decide);rw [ex_pag] at P;refine Zad ?_ (cB _) (by intro y hy;cases hy);refine Gn (vc:=c_pandectlaw55_awake) [.t 0] Tryz.func9 ?_;unfold c_pandectlaw55_awake;try dsimp only [ZM,ZO,ZN,ZG,ZR,ZU]
 generalize bookX.enc=BE at *;unfold It.strs at T;refine Rp0 [0] ?_;refine Rp0 [1,2] ?_;refine Zao B ?_;refine Zao P ?_;simp only [List.map_cons,List.map_nil,Pg.enc] at T ⊢;refine Sp0 ?_;refine Zaa (Zae [0] ?_);have e1:(((0+1:Nat):Int)==1)=true:=rfl;have e2:(((1:Nat):Int)==1)=true:=rfl;have e3:(((0:Nat):Int)==0)=true:=rfl;refine Sp1 (x3 e1 e2 e3) ?_;refine ⟨⟨by omega,by omega⟩,⟨by omega,by omega⟩,⟨by omega,by omega⟩,?_⟩;refine ACall_f [.sl 1 [[PV.str [115,101,99,116,105,111,110,32,49]],[PV.str [112,97,114,97,103,114,97,112,104,32,49]]],.sl 1 [[PV.str [115,101,99,116,105,111,110,32,49]],[PV.str [112,97,114,97,103,114,97,112,104,32,49]]]] ⟨View.refl _ _,View.own_all (fz:=false) rfl rfl,trivial⟩ (Zao T ?_);refine Sp1 (x3 e1 e2 e3) ?_;refine ⟨⟨by omega,by omega⟩,?_⟩;exact Tv0
theorem sp_few {u:Un} (hu:UnB u):Zak Tryz.prog 10 [.agg u.enc] (.bool (fewB u 40)):=by
 have F:=sp_ref06_Few hu 40 (by omega) (by omega);refine Zad ?_ (cB _) (by intro y hy;rw [List.mem_singleton] at hy;subst hy;exact Zap u);refine Gn (vc:=c_pandectlaw55_few) [.t 2] Tryz.func10 ?_;unfold c_pandectlaw55_few;try dsimp only [ZM,ZO,ZN,ZG,ZR,ZU]
 rw [Un.Zaf u] at F ⊢;refine Rp0 [1,2] ?_;refine Rp0 [2] ?_;refine Zao F ?_;exact Tv0
end Go.Proofs.YtcgdjembdjdlhaaGreatDoor.w
namespace Go.Proofs.YtcgdjembdjdlhaaGreatDoor.w
open Go Go.VM
theorem pagP_cases {u:Un} (hs:SmT u) (w m:Int):((pagP u w m).2≠0∧(pagP u w m).1=[])∨∃ P,pagP u w m=(pgsF u 0 P,0)∧wrongP u w=0∧2≤m∧m≤200∧pagesG m (bodyP u w)=some P∧PgsI m (bodyP u w) P:=by
 unfold pagP;by_cases hw:wrongP u w=0
 ·rw [if_pos hw];by_cases hm:m<2∨200<m
  ·rw [if_pos hm];exact .inl ⟨by simp,rfl⟩
  ·rw [if_neg hm];cases hg:pagesG m (bodyP u w) with
   | none=>exact .inl ⟨by simp,rfl⟩
   | some P =>
    obtain ⟨hr,h1,h2⟩:=good_wrong hs hw;have hl:Zcm (bodyP u w):=kids_last hs fun x hx=>(good_all hs hr h1 h2 x hx).1;exact .inr ⟨P,rfl,hw,by omega,by omega,rfl,pagesG_inv hl hg⟩
 ·rw [if_neg hw];exact .inl ⟨hw,rfl⟩
theorem pgsF_get (u:Un):∀ (P:List (List Ln)) (n k:Nat) (hk:k<P.length),(pgsF u n P)[k]?=some (pageP u ((n+k+1:Nat):Int) P[k])
 | a::P,n,0,hk=>rfl
 | a::P,n,k+1,hk=>by
  have h:k<P.length:=by simpa using hk
  rw [pgsF,List.getElem?_cons_succ,pgsF_get u P (n+1) k h,show n+1+k+1=n+(k+1)+1 by omega];rfl
theorem pgs_row (u:Un) {P:List (List Ln)} {k:Nat} (hk:k<P.length):((pgsF u 0 P).map Pg.enc).getD k []=(pageP u ((k+1:Nat):Int) P[k]).enc:=by
 rw [List.getD_eq_getElem?_getD,List.getElem?_map,pgsF_get u P 0 k hk,Nat.zero_add];rfl
theorem body_le {u:Un} (hs:SmT u) (hn:(unitsT u).length≤1000) (w:Int):(bodyP u w).length≤602000∧Zam (bodyP u w)≤362404000:=by
 have h1:=kidsB_le hs w true u.kids.length;rw [List.take_length] at h1;have h2:=notes_kids hs hn w;rw [Zan,List.length_cons] at hn;unfold bodyP;omega
theorem bodyB_P (u:Un) (w:Int):bodyB w true u=bodyP u w:=by
 unfold bodyB bodyP Zcs bodyR;rfl
end Go.Proofs.YtcgdjembdjdlhaaGreatDoor.w
namespace Go.VM
open Go Go.Proofs.YtcgdjembdjdlhaaGreatDoor.w
def gLen:List Ln→Nat
 | []=>0
 | x::r=>if x.tied=true∧r≠[] then gLen r+1 else 1
theorem grpG_acc:∀ (l acc:List Ln),l≠[]→grpG acc l=(acc++l.take (gLen l))::grpG [] (l.drop (gLen l))
 | [],acc,h=>absurd rfl h
 | [x],acc,_=>by
  have e:gLen [x]=1:=by unfold gLen;rw [if_neg (by simp)]
  rw [e];unfold grpG;split
  ·unfold grpG;rw [if_neg (by simp)];rfl
  ·rfl
 | x::y::r,acc,_=>by
  have e1:grpG acc (x::y::r)=if x.tied=true then grpG (acc++[x]) (y::r) else (acc++[x])::grpG [] (y::r):=by rw [grpG]
  have e2:gLen (x::y::r)=if x.tied=true∧(y::r)≠[] then gLen (y::r)+1 else 1:=by rw [gLen]
  rw [e1,e2];by_cases h:x.tied=true
  ·rw [if_pos h,if_pos ⟨h,by simp⟩,grpG_acc (y::r) (acc++[x]) (by simp),List.take_succ_cons,List.drop_succ_cons,List.append_assoc];rfl
  ·rw [if_neg h,if_neg (fun q=>h q.1)];rfl
theorem gLen_eq:∀ (l:List Ln) (n:Nat),0<n→n≤l.length→(∀ j,j+1<n→(l.getD j lnZ).tied=true)→(n=l.length∨(l.getD (n-1) lnZ).tied=false)→gLen l=n
 | [],n,h1,h2,_,_=>by simp at h2;omega
 | x::r,1,_,_,_,h4=>by
  unfold gLen;rw [if_neg];rintro ⟨a,b⟩;rcases h4 with h4|h4
  ·exact b (by simpa using h4)
  ·rw [show x.tied=false from h4] at a;cases a
 | x::r,n+2,_,h2,h3,h4=>by
  have h0:x.tied=true:=h3 0 (by omega);have h5:n+1≤r.length:=by simpa using h2
  unfold gLen;rw [if_pos ⟨h0,by intro e;rw [e] at h5;simp at h5⟩,gLen_eq r (n+1) (by omega) h5 (fun j hj=>h3 (j+1) (by omega)) (by
   rcases h4 with h4|h4
   ·left;simp at h4;omega
   ·right;exact h4)]
theorem getD_drop (l:List Ln) (i j:Nat):(l.drop i).getD j lnZ=l.getD (i+j) lnZ:=by
 rw [List.getD_eq_getElem?_getD,List.getElem?_drop,List.getD_eq_getElem?_getD]
theorem gLen_at {B:List Ln} {i k:Nat} (h1:i<k) (h2:k≤B.length) (h3:∀ j,i≤j→j+1<k→(B.getD j lnZ).tied=true) (h4:k=B.length∨(B.getD (k-1) lnZ).tied=false):gLen (B.drop i)=k-i:=by
 refine gLen_eq _ _ (by omega) (by rw [List.length_drop];omega) (fun j hj=>?_) ?_
 ·rw [getD_drop];exact h3 _ (by omega) (by omega)
 ·rcases h4 with h4|h4
  ·left;rw [List.length_drop];omega
  ·right;rw [getD_drop,show i+(k-i-1)=k-1 by omega];exact h4
def SetI (m:Int) (B:List Ln) (i:Nat) (D:List (List Ln)) (N:List Ln):Prop:=i≤B.length∧∃ pre,grpG [] B=pre++grpG [] (B.drop i)∧pagG m pre=some (D,N)
theorem setI_0 (m:Int) (B:List Ln):SetI m B 0 [] []:=⟨Nat.zero_le _,[],rfl,rfl⟩
theorem setI_end {m:Int} {B:List Ln} {D:List (List Ln)} {N:List Ln} {P:List (List Ln)} (h:SetI m B B.length D N) (hp:pagesG m B=some P):P=endG (D,N):=by
 obtain ⟨_,pre,h1,h2⟩:=h;have e:grpG [] (B.drop B.length)=[]:=by rw [List.drop_length];unfold grpG;rfl
 rw [e,List.append_nil] at h1;unfold pagesG at hp;rw [h1,h2] at hp;exact (Option.some.inj hp).symm
theorem setI_empty {m:Int} {B:List Ln} {i:Nat} {D:List (List Ln)} (h:SetI m B i D []):D=[]:=by
 obtain ⟨_,pre,h1,h2⟩:=h;have:=pagG_empty (m:=m) (G:=pre) (s:=(D,[])) (fun g hg=>grpG_ne B [] g (by rw [h1];exact List.mem_append_left _ hg)) h2 rfl;exact this
theorem setI_high {m:Int} {B:List Ln} {i:Nat} {D:List (List Ln)} {N:List Ln} (h:SetI m B i D N) (hN:N≠[]):(Zbf N:Int)≤m∧D.length≤B.length:=by
 obtain ⟨_,pre,h1,h2⟩:=h;have I:=pagG_inv (m:=m) (G:=pre) (fun g hg=>grpG_ne B [] g (by rw [h1];exact List.mem_append_left _ hg)) h2;refine ⟨I.now hN,?_⟩;have h3:=pgI_few I;have h4:=congrArg List.length (congrArg List.flatten h1);rw [grpG_flat,List.nil_append,List.flatten_append,List.length_append] at h4;have:((D,N).1).length=D.length:=rfl;omega
theorem setI_step {m : Int} {B : List Ln} {i k : Nat} {D : List (List Ln)} {N : List Ln} {P : List (List Ln)} (h : SetI m B i D N) (hp : pagesG m B = some P) (h1 : i < k) (h2 : k ≤ B.length) (h3 : ∀ j, i ≤ j → j + 1 < k → (B.getD j lnZ).tied = true) (h4 : k = B.length ∨ (B.getD (k - 1) lnZ).tied = false) :
  (Zbf ((B.drop i).take (k-i)):Int)≤m∧((N≠[]∧m<(Zbf (N++(B.drop i).take (k-i)):Int)∧SetI m B k (D++[N]) ((B.drop i).take (k-i)))∨((N=[]∨(Zbf (N++(B.drop i).take (k-i)):Int)≤m)∧SetI m B k D (N++(B.drop i).take (k-i)))):=by
 obtain ⟨_,pre,g1,g2⟩:=h;have hne:B.drop i≠[]:=by intro e;have:=congrArg List.length e;rw [List.length_drop,List.length_nil] at this;omega
 have hgl:=gLen_at h1 h2 h3 h4;have hgr:=grpG_acc (B.drop i) [] hne;rw [hgl,List.nil_append,List.drop_drop,show i+(k-i)=k by omega] at hgr;rw [hgr] at g1;generalize (B.drop i).take (k-i)=g at *;have hpre:grpG [] B=(pre++[g])++grpG [] (B.drop k):=by rw [g1];simp
 have hsn:=pagG_snoc m pre g;rw [g2] at hsn;have hnn:addG m (some (D,N)) g≠none:=by
  intro e;have:=pagG_pre (m:=m) (G:=pre) (g:=g) (q:=grpG [] (B.drop k)) (by rw [g2];exact e);unfold pagesG at hp;rw [g1,this] at hp;cases hp
 rw [addG_eq] at hsn hnn;by_cases c1:m<(Zbf g:Int)
 ·rw [if_pos c1] at hnn;exact absurd rfl hnn
 rw [if_neg c1] at hsn;refine ⟨by omega,?_⟩;by_cases c2:N≠[]∧m<(Zbf (N++g):Int)
 ·rw [if_pos c2] at hsn;exact .inl ⟨c2.1,c2.2,h2,_,hpre,hsn⟩
 ·rw [if_neg c2] at hsn;refine .inr ⟨?_,h2,_,hpre,hsn⟩;by_cases hN:N=[]
  ·exact .inl hN
  ·right
   have:¬ m<(Zbf (N++g):Int):=fun h=>c2 ⟨hN,h⟩;omega
theorem pages_basic {m:Int} {B:List Ln} {P:List (List Ln)} (hp:pagesG m B=some P):(∀ l∈P,l≠[])∧∀ l∈P,l.length≤B.length:=by
 unfold pagesG at hp;obtain ⟨s,hs,rfl⟩:=Option.map_eq_some_iff.1 hp;have I:=pagG_inv (fun g hg=>grpG_ne B [] g hg) hs;have hf:=I.flat
 rw [grpG_flat,List.nil_append] at hf;obtain ⟨D,N⟩:=s;have h1:=I.ne;simp only [] at hf h1;have hE:endG (D,N)=if N=[] then D else D++[N]:=rfl;rw [hE];have hfl:(if N=[] then D else D++[N]).flatten=B:=by
  by_cases h:N=[]
  ·rw [if_pos h];rw [h,List.append_nil] at hf;exact hf
  ·rw [if_neg h,List.flatten_append];simpa using hf
 refine ⟨fun l hl=>?_,fun l hl=>?_⟩
 ·by_cases h:N=[]
  ·rw [if_pos h] at hl;exact h1 l hl
  ·rw [if_neg h] at hl;rcases List.mem_append.1 hl with hl|hl
   ·exact h1 l hl
   ·rw [List.mem_singleton] at hl;subst hl;exact h
 ·rw [← hfl];obtain ⟨a,b,e⟩:=List.append_of_mem hl;rw [e,List.flatten_append,List.flatten_cons,List.length_append,List.length_append];omega
theorem pages_few {m:Int} {B:List Ln} {P:List (List Ln)} (hp:pagesG m B=some P):P.length≤B.length:=by
 have h:=(pages_basic hp).1;have h2:=flat_count h;unfold pagesG at hp;obtain ⟨s,hs,rfl⟩:=Option.map_eq_some_iff.1 hp;have I:=pagG_inv (fun g hg=>grpG_ne B [] g hg) hs;have hf:=I.flat
 rw [grpG_flat,List.nil_append] at hf;obtain ⟨D,N⟩:=s;have hE:endG (D,N)=if N=[] then D else D++[N]:=rfl;rw [hE] at h2 ⊢;simp only [] at hf;have hfl:(if N=[] then D else D++[N]).flatten=B:=by
  by_cases h:N=[]
  ·rw [if_pos h];rw [h,List.append_nil] at hf;exact hf
  ·rw [if_neg h,List.flatten_append];simpa using hf
 rw [hfl] at h2;exact h2
end Go.VM
namespace Go.Proofs.YtcgdjembdjdlhaaGreatDoor.w
open Go Go.VM
def c_pandectref55_notes:VC:=(ZR [ZO 4 (.box 8 (.t 0)),ZO 8 (.mv (.c .nilsl))] (ZR [ZO 14 (.fx (.mk0 1) []),ZM 9 14] (.seq (ZR [ZM 15 1,ZM 10 15] (.block 0 (.loop (.seq (ZR [ZM 16 10,ZM 17 2,ZO 18 (.bin .lss (.t 16) (.t 17))] (.cond (.t 18) .skip (.exit 0))) (.seq (.block 1 (ZR [ZO 11 (.mv (.c (.int .i64 0)))] (.block 2 (.loop (.seq (ZR [ZM 21 11,ZO 22 (.faddr 7 (.t 4)),ZO 23 (.load false 1 (.t 22)),ZO 24 (.len false (.t 23)),ZO 25 (.bin .lss (.t 21) (.t 24))] (.cond (.t 25) .skip (.exit 2))) (.seq (.block 3 (.seq (.region [ZO 28 (.load true 8 (.t 4)),ZO 29 (.faddr 7 (.t 4)),ZO 30 (.load false 1 (.t 29)),ZM 31 11,ZO 32 (.iaddr 8 (.t 30) (.t 31)),ZO 33 (.load true 8 (.t 32)),ZO 34 (.call 41 [.t 28,.t 33]),ZM 35 10,ZO 36 (.bin .eql (.t 34) (.t 35))] true) (.cond (.t 36) (ZR [ZO 38 (.faddr 7 (.t 4)),ZO 39 (.load false 1 (.t 38)),ZM 40 11,ZO 41 (.iaddr 8 (.t 39) (.t 40)),ZO 42 (.load true 8 (.t 41)),ZM 43 3,ZO 44 (.call 42 [.t 42,.t 43]),ZM 37 44,ZO 45 (.ext (.t 37) 0),ZO 46 (.ext (.t 37) 1),ZM 12 45,ZM 13 46] (.region [ZM 47 9,ZM 48 12,ZO 49 (.app 1 16 [(.str [])] false (.t 47) (.t 48)),ZM 9 49] false)) .skip))) (.region [ZM 26 11,ZO 27 (.bin .add (.t 26) (.c (.int .i64 1))),ZM 11 27] false))))))) (.region [ZM 19 10,ZO 20 (.bin .add (.t 19) (.c (.int .i64 1))),ZM 10 20] false)))))) (ZR [ZM 50 9,ZM 8 50] .ret))))
theorem sp_ref55_notes {u:Un} (hu:SmT u) (w:Int) (a b:Nat) (ha:a≤1000) (hb:b≤1000):Zak Tryz.prog 43 [.agg u.enc,pI a,pI b,pI w] (It.strs (Zbv w u a b)):=by
 have hs:∀ k∈u.kids,SmU k:=fun k hk=>(hu.kids.2 k hk).u;have CL:=fun k=>sp_ref55_caller hu.u k;have OW:=fun k hk=>sp_ref55_own (hs k hk) w;have hkl:=hu.kids.1;have hnl:=fun j=>notesR_le hs w a j;have hns:=fun j (h:a≤j)=>notesR_step w u h;have hks:=fun (j k:Nat) (h:k<u.kids.length)=>notesK_step w u j h;have hkk:=fun j k=>notesK_le (u:=u) (ks:=u.kids.take k) (fun x hx=>hs x (List.mem_of_mem_take hx)) w j;refine Zad ?_ (Zay _) (by intro z hz;simp only [List.mem_cons,List.not_mem_nil,or_false] at hz;rcases hz with rfl|rfl|rfl|rfl;exact Zap _;exact cI _;exact cI _;exact cI _);refine Gn (vc:=c_pandectref55_notes) [.t 8] Tryz.func43 ?_;unfold c_pandectref55_notes;try dsimp only [ZM,ZO,ZN,ZG,ZR,ZU]
 have hend:∀ i,a≤i→(i≤b∨i=a)→¬ (i<b)→Zbv w u a i=Zbv w u a b:=by
  intro i h1 h2 h3;by_cases e:a≤b
  ·rw [show i=b by omega]
  ·unfold Zbv;rw [show i-a=0 by omega,show b-a=0 by omega]
 have h0:Zbv w u a a=[]:=by unfold Zbv;rw [Nat.sub_self];rfl
 generalize Zbv w u a b=RES at hend ⊢;unfold It.strs;have hue:=Un.Zaf u;generalize hKL:u.kids=KL at *;rw [hue] at CL ⊢;generalize u.head.map Wd.enc=EH at *;generalize u.words.map Wd.enc=EW at *;refine Rp0 [1,2,3,4] ?_;refine Zat [(1,pI a),(2,pI b),(3,pI w),(4,.ro [pI u.act,pI u.item,pI u.n,pI u.kind,.str u.label,.sl 4 EH,.sl 4 EW,.sl 8 (KL.map Un.enc)])] ⟨View.refl _ _,View.refl _ _,View.refl _ _,View.loc (z:=8) (fz:=false) (es:=[[pI u.act,pI u.item,pI u.n,pI u.kind,.str u.label,.sl 4 EH,.sl 4 EW,.sl 8 (KL.map Un.enc)]]) rfl (by simp) rfl (by simp),trivial⟩ ?_;refine Rp0 [1,2,3,4,9] ?_;refine Zaa ?_;refine Rp0 [2,3,4,9,10] ?_;refine Zab ?_;refine Zah (σ:={ x:Nat×Nat×Nat//a≤x.1∧(x.1≤b∨x.1=a)∧x.2.1<x.2.2 }) (fun x=>([(2,pI b),(3,pI w),(4,.ro [pI u.act,pI u.item,pI u.n,pI u.kind,.str u.label,.sl 4 EH,.sl 4 EW,.sl 8 (KL.map Un.enc)]),(9,.own x.1.2.1 0 (Zbv w u a x.1.1).length),(10,pI x.1.1)],⟨[(x.1.2.1,.arr false 1 ((Zbv w u a x.1.1).map fun s=>[PV.str s]))],x.1.2.2⟩)) (fun x=>b-x.1.1) ⟨(a,1,2),Nat.le_refl _,.inr rfl,by simp⟩ ?_ ?_ ?_
 ·simp only [vmL,Nat.reduceEqDiff,Nat.reduceAdd,Nat.reduceLT,Nat.reduceLeDiff,Nat.reduceSub,Nat.reduceMul,reduceIte,reduceCtorEq,Int.reduceToNat,h0]
  first|done|rfl|exact ⟨rfl,rfl⟩
 ·simp only [vmL,Nat.reduceEqDiff,Nat.reduceAdd,Nat.reduceLT,Nat.reduceLeDiff,Nat.reduceSub,Nat.reduceMul,reduceIte,reduceCtorEq,Int.reduceToNat,h0]
  first|done|rfl|exact ⟨rfl,rfl⟩
 rintro ⟨⟨i,id,t⟩,hai,hib,hid⟩;simp only [] at hai hib hid ⊢;refine Zaa ?_;refine Rp0 [2,3,4,9,10,18] ?_;refine Zac rfl (fun h1=>?_) (fun h1=>?_)
 ·have hlb:i<b:=by simp only [decide_eq_true_eq] at h1;omega
  have hni:=hnl i;have hst:=hns i hai;have hkst:=hks i;have hkle:=hkk i;have hfull:Zcc w u i (KL.take KL.length)=Zcc w u i KL:=by rw [List.take_length]
  have hk0:Zcc w u i []=[]:=rfl;refine Kp0 ?_;refine Zaa ?_;refine Zab ?_;refine Rp0 [2,3,4,9,10,11] ?_;refine Zab ?_;generalize Zbv w u a i=A at hni hst ⊢;have hA:A.length≤602000000:=by
   refine Nat.le_trans hni ?_;exact Nat.le_trans (Nat.mul_le_mul (show i-a≤1000 by omega) (Nat.mul_le_mul_right 602 hkl)) (by decide)
  refine Zah (σ:={ x:Nat×Nat×Nat//x.1≤KL.length∧x.2.1<x.2.2 }) (fun x=>([(2,pI b),(3,pI w),(4,.ro [pI u.act,pI u.item,pI u.n,pI u.kind,.str u.label,.sl 4 EH,.sl 4 EW,.sl 8 (KL.map Un.enc)]),(9,.own x.1.2.1 0 (A++Zcc w u i (KL.take x.1.1)).length),(10,pI i),(11,pI x.1.1)],⟨[(x.1.2.1,.arr false 1 ((A++Zcc w u i (KL.take x.1.1)).map fun s=>[PV.str s]))],x.1.2.2⟩)) (fun x=>KL.length-x.1.1) ⟨(0,id,t),Nat.zero_le _,hid⟩ ?_ ?_ ?_
  ·simp only [vmL,Nat.reduceEqDiff,Nat.reduceAdd,Nat.reduceLT,Nat.reduceLeDiff,Nat.reduceSub,Nat.reduceMul,reduceIte,reduceCtorEq,Int.reduceToNat,hk0,List.append_nil]
   first|done|rfl|exact ⟨rfl,rfl⟩
  ·simp only [vmL,Nat.reduceEqDiff,Nat.reduceAdd,Nat.reduceLT,Nat.reduceLeDiff,Nat.reduceSub,Nat.reduceMul,reduceIte,reduceCtorEq,Int.reduceToNat,hk0,List.append_nil]
   first|done|rfl|exact ⟨rfl,rfl⟩
  rintro ⟨⟨k,id2,t2⟩,hk,hid2⟩;simp only [] at hk hid2 ⊢;refine Zaa ?_;refine Rp1 [2,3,4,9,10,11,25] @xlm ?_;refine Zac rfl (fun h2=>?_) (fun h2=>?_)
  ·have ka:k<KL.length:=by simp only [decide_eq_true_eq] at h2;omega
   have hrow:(KL.map Un.enc).getD k []=KL[k].enc:=rowm ka;have C:=CL KL[k];have O:=OW _ (List.getElem_mem ka);have hsl:=linesU_le (hs _ (List.getElem_mem ka)) w;have hkst':=hkst k ka;have hkle':=hkle k;generalize KL[k]=v at hrow C O hsl hkst';rw [Un.Zaf v] at hrow C O;generalize hcv:Zag u v=cv at C hkst';generalize hB:A++Zcc w u i (KL.take k)=B at *;have hBl:B.length≤700000000:=by
    rw [← hB,List.length_append];have:(KL.take k).length*602≤1000*602:=Nat.mul_le_mul_right 602 (by rw [List.length_take];omega);omega
   have hB':A++Zcc w u i (KL.take (k+1))=B++(if cv==(i:Int) then Za1 w v else []):=by rw [hkst',← List.append_assoc,hB]
   refine Kp0 ?_;refine Zaa ?_;refine Zab ?_;refine Zaa (Zb9 (t2+10) [2,3,4,9,10,11,36] (by simp) ?_);refine Sp1 (x2 @xlm hrow) ?_;refine Ok ?_;refine ⟨_,.inl C,?_⟩;refine Sp0 ?_;have qq:=N3 id2 t2 (t2+1);cases hq:(cv==(i:Int)) with
   | true =>
    rw [hq,if_pos rfl] at hB';refine Ct ?_;generalize Za1 w v=LV at O hsl hB';generalize Za9 w (rowT v)=BE at O;unfold It.strs endsV at O;refine Rp1 [2,3,4,9,10,11,12] (x2 @xlm hrow) ?_;refine Ok ?_;refine Ap0 O ?_;have hale:(B.map fun s=>[PV.str s]).length=B.length:=List.length_map _;have hatk:List.take B.length (B.map fun s=>[PV.str s])=B.map fun s=>[PV.str s]:=List.take_of_length_le (by omega);have hlal:(LV.map fun s=>[PV.str s]).length=LV.length:=List.length_map _;refine rp1 [2,3,4,9,10,11] (x4 hale hatk hlal qq) ?_;refine ⟨by omega,by omega,?_⟩;refine rp1 [2,3,4,9,10,11] (x2 (ad1 (a:=k) (by omega)) qq) ?_;refine ⟨⟨(k+1,t2,t2+1),ka,by simp⟩,?_⟩;simp only [hB',List.length_append,List.map_append]
    all_goals exact Fn1 qq
   | false =>
    rw [hq,if_neg Bool.false_ne_true,List.append_nil] at hB';refine Fp0 ?_;refine rp1 [2,3,4,9,10,11] (x2 (ad1 (a:=k) (by omega)) qq) ?_;refine ⟨⟨(k+1,id2,t2),ka,hid2⟩,?_⟩;simp only [hB']
    all_goals exact Fn1 qq
  ·have ka:k=KL.length:=by simp only [decide_eq_false_iff_not] at h2;omega
   subst ka;rw [hfull,← hst];refine Ep0 ?_;refine rp1 [2,3,4,9,10] (ad1 (a:=i) (by omega)) ?_;refine ⟨⟨(i+1,id2,t2),by show a≤i+1;omega,by show i+1≤b∨_;omega,hid2⟩,?_⟩;exact ⟨⟨rfl,rfl⟩,⟨Nat.le_refl _,if_pos rfl⟩,by show b-(i+1)<b-i;omega⟩
 ·have hlb:¬ i<b:=by simp only [decide_eq_false_iff_not] at h1;omega
  rw [hend i hai hib hlb];refine Ep0 ?_;refine Rp0 [8] ?_;refine Tp0 ?_;exact View.own_all (fz:=false) (by simp [Heap.get,HL.get]) (by rw [List.length_map])
end Go.Proofs.YtcgdjembdjdlhaaGreatDoor.w
namespace Go.Proofs.YtcgdjembdjdlhaaGreatDoor.w
open Go Go.VM
def c_pandectref55_Body:VC:=(ZR [ZO 3 (.box 8 (.t 0)),ZO 6 (.mv (.c .nilsl))] (ZR [ZO 17 (.fx (.mk0 6) []),ZM 7 17] (ZR [ZO 8 (.mv (.c (.bool false)))] (.seq (ZR [ZO 9 (.mv (.c (.int .i64 0)))] (.block 0 (.loop (.seq (ZR [ZM 18 9,ZO 19 (.faddr 7 (.t 3)),ZO 20 (.load false 1 (.t 19)),ZO 21 (.len false (.t 20)),ZO 22 (.bin .lss (.t 18) (.t 21))] (.cond (.t 22) .skip (.exit 0))) (.seq (.block 1 (.region [ZM 25 8,ZM 26 25,ZG 27 (.load true 8 (.t 3)) 26 false,ZG 28 (.faddr 7 (.t 3)) 26 false,ZG 29 (.load false 1 (.t 28)) 26 false,ZG 30 (.mv (.t 9)) 26 false,ZG 31 (.iaddr 8 (.t 29) (.t 30)) 26 false,ZG 32 (.load true 8 (.t 31)) 26 false,ZG 33 (.call 41 [.t 27,.t 32]) 26 false,ZG 34 (.bin .lss (.t 33) (.c (.int .i64 0))) 26 false,ZO 35 (.pick (.t 26) (.c (.bool true)) (.t 34)),ZM 8 35] true)) (.region [ZM 23 9,ZO 24 (.bin .add (.t 23) (.c (.int .i64 1))),ZM 9 24] false)))))) (.seq (ZR [ZM 36 2,ZO 37 (.un .not (.t 36))] (.cond (.t 37) (ZR [ZO 39 (.load true 8 (.t 3)),ZM 40 1,ZO 41 (.call 42 [.t 39,.t 40]),ZM 38 41,ZO 42 (.ext (.t 38) 0),ZO 43 (.ext (.t 38) 1),ZM 10 42,ZM 11 43] (ZR [ZO 44 (.faddr 5 (.t 3)),ZO 45 (.load false 1 (.t 44)),ZO 46 (.len false (.t 45)),ZO 47 (.bin .add (.c (.int .i64 2)) (.t 46)),ZM 12 47] (ZR [ZO 13 (.mv (.c (.int .i64 0)))] (ZR [ZO 14 (.mv (.c (.int .i64 0)))] (.block 2 (.loop (.seq (ZR [ZM 48 14,ZM 49 10,ZO 50 (.len false (.t 49)),ZO 51 (.bin .lss (.t 48) (.t 50))] (.cond (.t 51) .skip (.exit 2))) (.seq (.block 3 (ZR [ZM 54 11,ZM 55 14,ZO 56 (.iaddr 1 (.t 54) (.t 55)),ZO 57 (.load false 1 (.t 56)),ZM 58 12,ZO 59 (.bin .sub (.t 57) (.t 58)),ZM 15 59] (.seq (ZR [ZM 60 15,ZO 61 (.bin .lss (.t 60) (.c (.int .i64 0)))] (.cond (.t 61) (.region [ZO 15 (.mv (.c (.int .i64 0)))] false) .skip)) (.seq (.draw2 [ZM 62 7,ZO 63 (.faddr 0 (.t 3)),ZO 64 (.load true 3 (.t 63)),ZM 65 10,ZM 66 14,ZO 67 (.iaddr 1 (.t 65) (.t 66)),ZO 68 (.load false 1 (.t 67)),ZO 69 (.load true 8 (.t 3)),ZM 70 13,ZM 71 15,ZM 72 1,ZO 73 (.call 43 [.t 69,.t 70,.t 71,.t 72]),ZM 74 8,ZM 75 74,ZG 76 (.mv (.t 14)) 75 true,ZG 77 (.mv (.t 10)) 75 true,ZG 78 (.len false (.t 77)) 75 true,ZG 79 (.bin .sub (.t 78) (.c (.int .i64 1))) 75 true,ZG 80 (.bin .eql (.t 76) (.t 79)) 75 true,ZO 81 (.pick (.t 75) (.t 80) (.c (.bool false))),ZO 82 (.build [.int .i64 0,.int .i64 0,.int .i64 0,(.str []),.nilsl,(.bool false)] [(0,(3,(.t 64))),(3,(1,(.t 68))),(4,(1,(.t 73))),(5,(1,(.t 81)))]),ZO 83 (.bslice 6 1 [.int .i64 0,.int .i64 0,.int .i64 0,(.str []),.nilsl,(.bool false)] [(0,(.t 82))]),ZO 84 (.app 6 72 [.int .i64 0,.int .i64 0,.int .i64 0,(.str []),.nilsl,(.bool false)] false (.t 62) (.t 83)),ZM 7 84] [true,true,true,true,true,true,true,true,true,true,true,true,true,true,true,true,true,true,true,true,true,true,false,false]) (.region [ZM 85 15,ZM 13 85] false))))) (.region [ZM 52 14,ZO 53 (.bin .add (.t 52) (.c (.int .i64 1))),ZM 14 53] false))))))))) .skip)) (.seq (ZR [ZO 16 (.mv (.c (.int .i64 0)))] (.block 4 (.loop (.seq (ZR [ZM 86 16,ZO 87 (.faddr 7 (.t 3)),ZO 88 (.load false 1 (.t 87)),ZO 89 (.len false (.t 88)),ZO 90 (.bin .lss (.t 86) (.t 89))] (.cond (.t 90) .skip (.exit 4))) (.seq (.block 5 (.seq (.region [ZM 93 2,ZM 94 93,ZG 95 (.load true 8 (.t 3)) 94 false,ZG 96 (.faddr 7 (.t 3)) 94 false,ZG 97 (.load false 1 (.t 96)) 94 false,ZG 98 (.mv (.t 16)) 94 false,ZG 99 (.iaddr 8 (.t 97) (.t 98)) 94 false,ZG 100 (.load true 8 (.t 99)) 94 false,ZG 101 (.call 41 [.t 95,.t 100]) 94 false,ZG 102 (.bin .lss (.t 101) (.c (.int .i64 0))) 94 false,ZO 103 (.pick (.t 94) (.c (.bool true)) (.t 102))] true) (.cond (.t 103) (.region [ZM 104 7,ZO 105 (.faddr 7 (.t 3)),ZO 106 (.load false 1 (.t 105)),ZM 107 16,ZO 108 (.iaddr 8 (.t 106) (.t 107)),ZO 109 (.load true 8 (.t 108)),ZM 110 1,ZO 111 (.call 14 [.t 109,.t 110,(.c (.bool false))]),ZO 112 (.app 6 72 [.int .i64 0,.int .i64 0,.int .i64 0,(.str []),.nilsl,(.bool false)] false (.t 104) (.t 111)),ZM 7 112] false) .skip))) (.region [ZM 91 16,ZO 92 (.bin .add (.t 91) (.c (.int .i64 1))),ZM 16 92] false)))))) (ZR [ZM 113 7,ZM 6 113] .ret)))))))
theorem closed_lnR (x:Ln):∀ y∈x.encR,Closed y:=by
 intro y hy;simp only [Ln.encR,List.mem_cons,List.not_mem_nil,or_false] at hy;rcases hy with rfl|rfl|rfl|rfl|rfl|rfl
 ·exact cI _
 ·exact cI _
 ·exact cI _
 ·exact cS _
 ·exact Zay _
 ·exact cB _
theorem closed_lnsR (l:List Ln):Closed (.sl 6 (l.map Ln.encR)):=Zaj fun x _=>closed_lnR x
theorem sp_ref55_Body {u:Un} (hu:SmT u) (hn:(unitsT u).length≤1000) (w:Int):∀ root:Bool,Zak Tryz.prog 14 [.agg u.enc,pI w,.bool root] (.sl 6 ((bodyB w root u).map Ln.encR)):=by
 induction hu with
 | mk u h hk hs ih =>
  intro root;have hu:SmT u:=.mk u h hk hs;rw [Zan,List.length_cons] at hn;have ih':∀ k∈u.kids,Zak Tryz.prog 14 [.agg k.enc,pI w,.bool false] (.sl 6 ((bodyT w k).map Ln.encR)):=fun k hk'=>ih k hk' (by have:=Zbc hk';omega) false;clear ih;have CL:=fun k=>sp_ref55_caller h k;have OW:=sp_ref55_own h w;have NT:=fun a b ha hb=>sp_ref55_notes hu w a b ha hb;have hbe:=bodyB_eq w root u;have hpl:=preB_le h w root;have hkl:=kidsB_le hu w root;have hks:=fun k (hk:k<u.kids.length)=>kidsB_step (w:=w) (r:=root) (p:=u) hk;have hte:tiedU u=u.kids.any fun k=>decide (Zag u k<0):=rfl;have hlen:=linesU_len w u;have hle:=linesU_le h w;have hof:=fun fr i hi hE=>ownF_step (w:=w) (u:=u) (t:=tiedU u) (fr:=fr) (i:=i) (l:=Za1 w u) (E:=Za9 w (rowT u)) hi hE;have hol:ownL w u=ownF w u (tiedU u) 0 (Za1 w u) (Za9 w (rowT u)):=rfl;have hEb:∀ e∈Za9 w (rowT u),e≤602:=by
   intro e he;by_cases hw0:Zbu w (rowT u)=0
   ·have hr:=breakE_rises hw0;have hl:(rowT u).length≤602:=by rw [rowT_len];have:=h.head.1;have:=h.words.1;omega
    have key:∀ (E:List Nat) (a n:Nat),Zbp n a E=true→∀ e∈E,e≤n:=by
     intro E
     induction E with
     | nil=>intro _ _ _ e he;cases he
     | cons x r ih =>
      intro a n hr e he;rw [Zbp] at hr;simp only [Bool.and_eq_true,Bool.not_eq_true',Bool.or_eq_false_iff,decide_eq_false_iff_not] at hr;rcases List.mem_cons.1 he with rfl|he
      ·omega
      ·exact ih x n hr.2 e he
    have:=key _ _ _ hr e he;omega
   ·unfold Za9 at he;rw [if_neg hw0] at he;cases he
  have hhd:=h.head.1;generalize bodyB w root u=RES at hbe ⊢;refine Zad ?_ (closed_lnsR _) (by intro z hz;simp only [List.mem_cons,List.not_mem_nil,or_false] at hz;rcases hz with rfl|rfl|rfl;exact Zap _;exact cI _;exact cB _);refine Gn (vc:=c_pandectref55_Body) [.t 6] Tryz.func14 ?_;unfold c_pandectref55_Body;try dsimp only [ZM,ZO,ZN,ZG,ZR,ZU]
  have hue:=Un.Zaf u;rw [hue] at CL OW NT ⊢;have hHl:(u.head.map Wd.enc).length=u.head.length:=List.length_map _;generalize u.head.map Wd.enc=EH at *;generalize u.words.map Wd.enc=EW at *;refine Rp0 [1,2,3] ?_;refine Zat [(1,pI w),(2,.bool root),(3,.ro [pI u.act,pI u.item,pI u.n,pI u.kind,.str u.label,.sl 4 EH,.sl 4 EW,.sl 8 (u.kids.map Un.enc)])] ⟨View.refl _ _,View.refl _ _,View.loc (z:=8) (fz:=false) (es:=[[pI u.act,pI u.item,pI u.n,pI u.kind,.str u.label,.sl 4 EH,.sl 4 EW,.sl 8 (u.kids.map Un.enc)]]) rfl (by simp) rfl (by simp),trivial⟩ ?_;generalize hKL:u.kids=KL at *;refine Rp0 [1,2,3,7] ?_;refine Rp0 [1,2,3,7,8] ?_;refine Zaa (Zbl (σ:=Unit) (fun _=>([(1,pI w),(2,.bool root),(3,.ro [pI u.act,pI u.item,pI u.n,pI u.kind,.str u.label,.sl 4 EH,.sl 4 EW,.sl 8 (KL.map Un.enc)]),(7,.own 1 0 0),(8,.bool (tiedU u))],⟨[(1,.arr false 6 [])],2⟩)) ?_ (fun _=>?_))
  ·refine Rp0 [1,2,3,7,8,9] ?_;refine Zab ?_;refine Zah (σ:={ k:Nat//k≤KL.length }) (fun k=>([(1,pI w),(2,.bool root),(3,.ro [pI u.act,pI u.item,pI u.n,pI u.kind,.str u.label,.sl 4 EH,.sl 4 EW,.sl 8 (KL.map Un.enc)]),(7,.own 1 0 0),(8,.bool ((KL.take k.1).any fun k=>decide (Zag u k<0))),(9,pI k.1)],⟨[(1,.arr false 6 [])],2⟩)) (fun k=>KL.length-k.1) ⟨0,Nat.zero_le _⟩ ?_ ?_ ?_
   ·simp only [vmL,Nat.reduceEqDiff,Nat.reduceAdd,Nat.reduceLT,Nat.reduceLeDiff,Nat.reduceSub,Nat.reduceMul,reduceIte,reduceCtorEq,Int.reduceToNat,List.any_nil]
    first|done|rfl|exact ⟨rfl,rfl⟩
   ·exact Sr0
   rintro ⟨k,hk2⟩;simp only [];refine Zaa ?_;refine Rp1 [1,2,3,7,8,9,22] @xlm ?_;refine Zac rfl (fun h1=>?_) (fun h1=>?_)
   ·have ka:k<KL.length:=by simp only [decide_eq_true_eq] at h1;omega
    have hrow:(KL.map Un.enc).getD k []=KL[k].enc:=rowm ka;have C:=CL KL[k];have hst:(KL.take (k+1)).any (fun k=>decide (Zag u k<0))=((KL.take k).any (fun k=>decide (Zag u k<0))||decide (Zag u KL[k]<0)):=by
     rw [List.take_add_one,List.getElem?_eq_getElem ka,Option.toList_some,List.any_append];simp
    generalize (KL.take k).any (fun k=>decide (Zag u k<0))=tb at hst ⊢;generalize KL[k]=v at hrow C hst;rw [Un.Zaf v] at hrow C;generalize hcv:Zag u v=cv at C hst;refine Kp0 ?_;refine Zaa ?_;refine Zab ?_;cases tb with
    | true =>
     rw [Bool.true_or] at hst;refine Zb9 20 [1,2,3,7,8,9] (by simp) ?_;refine Sp0 ?_;refine rp1 [1,2,3,7,8,9] (ad1 (a:=k) (by omega)) ?_;refine ⟨⟨k+1,ka⟩,?_⟩;simp only [hst]
     all_goals exact Fn0
    | false =>
     rw [Bool.false_or] at hst;refine Zb9 20 [1,2,3,7,8,9] (by simp) ?_;refine Sp1 (x2 @xlm hrow) ?_;refine Ok ?_;refine ⟨_,.inl C,?_⟩;refine Sp0 ?_;refine rp1 [1,2,3,7,8,9] (ad1 (a:=k) (by omega)) ?_;refine ⟨⟨k+1,ka⟩,?_⟩;simp only [hst]
     all_goals exact Fn0
   ·have ka:k=KL.length:=by simp only [decide_eq_false_iff_not] at h1;omega
    subst ka;rw [List.take_length,← hte];refine Ep0 ?_;refine ⟨(),?_⟩;exact Fn0
  refine Zaa (Zbl (σ:={ x:Nat×Nat//x.1<x.2 }) (fun x=>([(1,pI w),(2,.bool root),(3,.ro [pI u.act,pI u.item,pI u.n,pI u.kind,.str u.label,.sl 4 EH,.sl 4 EW,.sl 8 (KL.map Un.enc)]),(7,.own x.1.1 0 (preB w root u).length)],⟨[(x.1.1,.arr false 6 ((preB w root u).map Ln.encR))],x.1.2⟩)) ?_ (fun x=>?_))
  ·cases root with
   | true =>
    have hp:preB w true u=[]:=rfl;rw [hp];refine Rp0 [1,2,3,7,37] ?_;refine Fp0 ?_;refine ⟨⟨(1,2),by simp⟩,?_⟩;exact Fn0
   | false =>
    have hp:preB w false u=ownL w u:=rfl;rw [hp] at hpl ⊢;rw [hol] at hpl ⊢;refine Rp0 [1,2,3,7,8,37] ?_;refine Ct ?_;generalize Za1 w u=l at OW hlen hle hof hpl ⊢;generalize Za9 w (rowT u)=E at OW hlen hof hEb hpl ⊢;generalize tiedU u=td at hof hpl ⊢;unfold It.strs endsV at OW;refine Rp0 [1,2,3,7,8,10,11] ?_;refine Ap0 OW ?_;refine Rp1 [1,2,3,7,8,10,11,12] (x2 hHl (w64 (n:=2+(u.head.length:Int)) (by omega) (by omega))) ?_;refine Rp0 [1,2,3,7,8,10,11,12,13] ?_;refine Rp0 [1,2,3,7,8,10,11,12,13,14] ?_;refine Zab ?_;refine Zah (σ:={ x:Nat×Nat×List Ln×Nat×Nat//x.1≤l.length∧x.2.1≤602∧x.2.2.2.1<x.2.2.2.2∧ownF w u td 0 l E=x.2.2.1++ownF w u td x.2.1 (l.drop x.1) (E.drop x.1) }) (fun x=>([(1,pI w),(2,.bool false),(3,.ro [pI u.act,pI u.item,pI u.n,pI u.kind,.str u.label,.sl 4 EH,.sl 4 EW,.sl 8 (KL.map Un.enc)]),(7,.own x.1.2.2.2.1 0 x.1.2.2.1.length),(8,.bool td),(10,.sl 1 (l.map fun s=>[PV.str s])),(11,.sl 1 (E.map fun e=>[pI (e:Nat)])),(12,pI (2+(u.head.length:Int))),(13,pI x.1.2.1),(14,pI x.1.1)],⟨[(x.1.2.2.2.1,.arr false 6 (x.1.2.2.1.map Ln.encR))],x.1.2.2.2.2⟩)) (fun x=>l.length-x.1.1) ⟨(0,0,[],1,2),Nat.zero_le _,Nat.zero_le _,by simp,rfl⟩ ?_ ?_ ?_
    ·exact Fn0
    ·exact Sr0
    rintro ⟨⟨i,fr,acc,id,t⟩,hi,hfr,hid,hac⟩;simp only [] at hi hfr hid hac ⊢;refine Zaa ?_;refine Rp1 [1,2,3,7,8,10,11,12,13,14,51] @xlm ?_;refine Zac rfl (fun h1=>?_) (fun h1=>?_)
    ·have ka:i<l.length:=by simp only [decide_eq_true_eq] at h1;omega
     have ke:i<E.length:=by omega
     have hrow:(l.map fun s=>[PV.str s]).getD i []=[PV.str l[i]]:=rowm ka;have hrowE:(E.map fun e=>[pI (e:Nat)]).getD i []=[pI (E[i]:Nat)]:=rowm (enc:=fun e:Nat=>[pI (e:Nat)]) ke;have hst:=hof fr i ka ke;have hee:=hEb _ (List.getElem_mem ke);rw [hst] at hac;generalize l[i]=s at hrow hac;generalize E[i]=e at hrowE hac hee;have hto:toN u e≤602:=by unfold toN;omega
     have hN:=NT fr (toN u e) (by omega) (by omega);have htv:pI (toN u e:Nat)=if (e:Int)-(2+(u.head.length:Int))<0 then pI 0 else pI ((e:Int)-(2+(u.head.length:Int))):=by
      unfold toN;split
      ·congr 1;omega
      ·congr 1;omega
     generalize Zbv w u fr (toN u e)=NR at hN hac;unfold It.strs at hN;refine Kp0 ?_;refine Zaa ?_;refine Zab ?_;refine Rp1 [1,2,3,7,8,10,11,12,13,14,15] (x3 @xlm hrowE (w64 (n:=(e:Int)-(2+(u.head.length:Int))) (by omega) (by omega))) ?_;refine Ok ?_;refine Zaa (Zbl (σ:=Unit) (fun _=>([(1,pI w),(2,.bool false),(3,.ro [pI u.act,pI u.item,pI u.n,pI u.kind,.str u.label,.sl 4 EH,.sl 4 EW,.sl 8 (KL.map Un.enc)]),(7,.own id 0 acc.length),(8,.bool td),(10,.sl 1 (l.map fun s=>[PV.str s])),(11,.sl 1 (E.map fun e=>[pI (e:Nat)])),(12,pI (2+(u.head.length:Int))),(13,pI fr),(14,pI i),(15,pI (toN u e:Nat))],⟨[(id,.arr false 6 (acc.map Ln.encR))],t⟩)) ?_ (fun _=>?_))
     ·refine Rp0 [1,2,3,7,8,10,11,12,13,14,15,61] ?_;by_cases hneg:(e:Int)-(2+(u.head.length:Int))<0
      ·rw [if_pos hneg] at htv;rw [htv];refine Zac rfl (fun _=>?_) (fun h=>by simp at h;omega);refine rp0 [1,2,3,7,8,10,11,12,13,14,15] ?_;refine ⟨(),?_⟩;exact Fn0
      ·rw [if_neg hneg] at htv;rw [htv];refine Zac rfl (fun h=>by simp at h;omega) (fun _=>?_);refine Kp0 ?_;refine ⟨(),?_⟩;exact Fn0
     have hale:(acc.map Ln.encR).length=acc.length:=List.length_map _;have hacl:acc.length≤602:=by
      have:=congrArg List.length hac;rw [List.length_append] at this;omega
     have hatk:List.take acc.length (acc.map Ln.encR)=acc.map Ln.encR:=List.take_of_length_le (by omega);have hid3:(idU u).act=u.act∧(idU u).item=u.item∧(idU u).n=u.n:=⟨rfl,rfl,rfl⟩;have hlast:((i:Int)==(l.length:Int)-1)=(i+1==l.length):=by
      rw [Bool.eq_iff_iff,beq_iff_eq,beq_iff_eq];omega
     generalize hnd:({ id:=idU u,text:=s,notes:=NR,tied:=td&&i+1==l.length }:Ln)=nd at hac;have hnde:[[pI u.act,pI u.item,pI u.n,.str s,.sl 1 (NR.map fun s=>[PV.str s]),.bool (td&&i+1==l.length)]]=[nd.encR]:=by rw [← hnd];rfl
     have haccE:(acc++[nd]).map Ln.encR=acc.map Ln.encR++[nd.encR]:=by rw [List.map_append];rfl
     have haccL:(acc++[nd]).length=acc.length+1:=by simp
     have qq:=N3 id t (t+1);refine Zaa (Zbl (σ:=Unit) (fun _=>([(1,pI w),(2,.bool false),(3,.ro [pI u.act,pI u.item,pI u.n,pI u.kind,.str u.label,.sl 4 EH,.sl 4 EW,.sl 8 (KL.map Un.enc)]),(7,.own t 0 (acc.length+1)),(8,.bool td),(10,.sl 1 (l.map fun s=>[PV.str s])),(11,.sl 1 (E.map fun e=>[pI (e:Nat)])),(12,pI (2+(u.head.length:Int))),(14,pI i),(15,pI (toN u e:Nat))],⟨[(t,.arr false 6 (acc.map Ln.encR++[nd.encR]))],t+1⟩)) ?_ (fun _=>?_))
     ·cases td with
      | true =>
       rw [Bool.true_and] at hnde;refine VW_draw2E (t+10) [1,2,3,7,8,10,11,12,14,15] (by simp) ?_;refine Sp1 (x3 @xlm hrow (w64 (n:=(l.length:Int)-1) (by omega) (by omega))) ?_;refine Ok ?_;refine ⟨_,.inl hN,?_⟩;try simp only [vmL,Nat.reduceEqDiff,Nat.reduceAdd,Nat.reduceLT,Nat.reduceLeDiff,Nat.reduceSub,Nat.reduceMul,reduceIte,reduceCtorEq,Int.reduceToNat,List.length_map,hale,hatk,hlast,w64 (n:=(l.length:Int)-1) (by omega) (by omega),qq]
       refine ⟨by omega,by omega,by omega,(),?_⟩;rw [hnde]
      | false =>
       rw [Bool.false_and] at hnde;refine VW_draw2E (t+10) [1,2,3,7,8,10,11,12,14,15] (by simp) ?_;refine Sp1 (x2 @xlm hrow) ?_;refine Ok ?_;refine ⟨_,.inl hN,?_⟩;refine Sp1 (x3 hale hatk qq) ?_;refine ⟨by omega,by omega,by omega,(),?_⟩;rw [hnde]
     refine rp0 [1,2,3,7,8,10,11,12,13,14] ?_;refine rp1 [1,2,3,7,8,10,11,12,13,14] (ad1 (a:=i) (by omega)) ?_;refine ⟨⟨(i+1,toN u e,acc++[nd],t,t+1),ka,hto,by simp,by show _=acc++[nd]++_;rw [hac];simp⟩,?_⟩;simp only [haccE,haccL]
     all_goals exact Fn1 qq
    ·have ka:i=l.length:=by simp only [decide_eq_false_iff_not] at h1;omega
     subst ka;rw [List.drop_length] at hac;have hnil:ownF w u td fr [] (E.drop l.length)=[]:=by rw [ownF];intros;simp_all
     rw [hnil,List.append_nil] at hac;rw [hac];refine Ep0 ?_;refine ⟨⟨(id,t),hid⟩,?_⟩;try simp only [vmL,Nat.reduceEqDiff,Nat.reduceAdd,Nat.reduceLT,Nat.reduceLeDiff,Nat.reduceSub,Nat.reduceMul,reduceIte,reduceCtorEq,Int.reduceToNat,qq]
     all_goals (repeat' (first|rfl|trivial|omega|(simp only [];omega)|refine And.intro ?_ ?_))
     exact if_pos rfl
  obtain ⟨⟨id0,t0⟩,hid0⟩:=x;simp only [] at hid0 ⊢;have hk0:Zcs w root u []=[]:=by unfold Zcs;cases root<;>rfl
  have hkf:Zcs w root u (KL.take KL.length)=Zcs w root u KL:=by rw [List.take_length]
  generalize preB w root u=PB at hbe hpl ⊢;refine Zaa ?_;refine Rp0 [1,2,3,7,16] ?_;refine Zab ?_;refine Zah (σ:={ x:Nat×Nat×Nat//x.1≤KL.length∧x.2.1<x.2.2 }) (fun x=>([(1,pI w),(2,.bool root),(3,.ro [pI u.act,pI u.item,pI u.n,pI u.kind,.str u.label,.sl 4 EH,.sl 4 EW,.sl 8 (KL.map Un.enc)]),(7,.own x.1.2.1 0 (PB++Zcs w root u (KL.take x.1.1)).length),(16,pI x.1.1)],⟨[(x.1.2.1,.arr false 6 ((PB++Zcs w root u (KL.take x.1.1)).map Ln.encR))],x.1.2.2⟩)) (fun x=>KL.length-x.1.1) ⟨(0,id0,t0),Nat.zero_le _,hid0⟩ ?_ ?_ ?_
  ·simp only [vmL,Nat.reduceEqDiff,Nat.reduceAdd,Nat.reduceLT,Nat.reduceLeDiff,Nat.reduceSub,Nat.reduceMul,reduceIte,reduceCtorEq,Int.reduceToNat,hk0,List.append_nil]
   first|done|rfl|exact ⟨rfl,rfl⟩
  ·simp only [vmL,Nat.reduceEqDiff,Nat.reduceAdd,Nat.reduceLT,Nat.reduceLeDiff,Nat.reduceSub,Nat.reduceMul,reduceIte,reduceCtorEq,Int.reduceToNat,hk0,List.append_nil]
   first|done|rfl|exact ⟨rfl,rfl⟩
  rintro ⟨⟨k,id,t⟩,hkk,hid⟩;simp only [] at hkk hid ⊢;refine Zaa ?_;refine Rp1 [1,2,3,7,16,90] @xlm ?_;refine Zac rfl (fun h1=>?_) (fun h1=>?_)
  ·have ka:k<KL.length:=by simp only [decide_eq_true_eq] at h1;omega
   have hrow:(KL.map Un.enc).getD k []=KL[k].enc:=rowm ka;have C:=CL KL[k];have R:=ih' _ (List.getElem_mem ka);have hst:=hks k ka;have hle2:=hkl k;have hbl:=bodyT_le (hs _ (List.getElem_mem ka)) w;have hul:=Zbc (List.getElem_mem ka);generalize KL[k]=v at hrow C R hst hbl hul;rw [Un.Zaf v] at hrow C R;generalize hcv:Zag u v=cv at C hst;generalize hB:PB++Zcs w root u (KL.take k)=B at *;have hBl:B.length≤700000:=by
    rw [← hB,List.length_append];omega
   have hB':PB++Zcs w root u (KL.take (k+1))=B++(if (root||decide (cv<0))=true then bodyT w v else []):=by rw [hst,← List.append_assoc,hB]
   generalize bodyT w v=LV at R hbl hB';refine Kp0 ?_;refine Zaa ?_;refine Zab ?_;have qq:=N3 id t (t+1);refine Zaa (Zbl (σ:=Unit) (fun _=>([(1,pI w),(2,.bool root),(3,.ro [pI u.act,pI u.item,pI u.n,pI u.kind,.str u.label,.sl 4 EH,.sl 4 EW,.sl 8 (KL.map Un.enc)]),(7,.own id 0 B.length),(16,pI k),(103,.bool (root||decide (cv<0)))],⟨[(id,.arr false 6 (B.map Ln.encR))],t⟩)) ?_ (fun _=>?_))
   ·cases root with
    | true =>
     refine Zb9 (t+10) [1,2,3,7,16,103] (by simp) ?_;refine Sp0 ?_;refine ⟨(),?_⟩;exact Fn1 qq
    | false =>
     refine Zb9 (t+10) [1,2,3,7,16,103] (by simp) ?_;refine Sp1 (x2 @xlm hrow) ?_;refine Ok ?_;refine ⟨_,.inl C,?_⟩;refine Sp0 ?_;refine ⟨(),?_⟩;exact Fn1 qq
   cases hq:(root||decide (cv<0)) with
   | true =>
    rw [hq,if_pos rfl] at hB';refine Ct ?_;have hale:(B.map Ln.encR).length=B.length:=List.length_map _;have hatk:List.take B.length (B.map Ln.encR)=B.map Ln.encR:=List.take_of_length_le (by omega);have hlal:(LV.map Ln.encR).length=LV.length:=List.length_map _;refine rp1 [1,2,3,7,16] (x2 @xlm hrow) ?_;refine Ok ?_;refine Ap1 R (x4 hale hatk hlal qq) ?_;refine ⟨by omega,by omega,?_⟩;refine rp1 [1,2,3,7,16] (x2 (ad1 (a:=k) (by omega)) qq) ?_;refine ⟨⟨(k+1,t,t+1),ka,by simp⟩,?_⟩;simp only [hB',List.length_append,List.map_append]
    all_goals exact Fn1 qq
   | false =>
    rw [hq,if_neg Bool.false_ne_true,List.append_nil] at hB';refine Fp0 ?_;refine rp1 [1,2,3,7,16] (x2 (ad1 (a:=k) (by omega)) qq) ?_;refine ⟨⟨(k+1,id,t),ka,hid⟩,?_⟩;simp only [hB']
    all_goals exact Fn1 qq
  ·have ka:k=KL.length:=by simp only [decide_eq_false_iff_not] at h1;omega
   subst ka;rw [hkf,← hbe];refine Ep0 ?_;refine Rp0 [6] ?_;refine Tp0 ?_;exact View.own_all (fz:=false) (by simp [Heap.get,HL.get]) (by rw [List.length_map])
end Go.Proofs.YtcgdjembdjdlhaaGreatDoor.w
namespace Go.Proofs.YtcgdjembdjdlhaaGreatDoor.w
open Go Go.VM
theorem decode_low (s:ByteArray) (i:Nat) (h:(s.get! i).toNat<128):Utf8.decode s i=((s.get! i).toNat,1):=by
 simp [Utf8.decode,h]
theorem decode_high (s:ByteArray) (i:Nat) (hi:i<s.size) (h:¬ (s.get! i).toNat<128):128≤(Utf8.decode s i).1∧1≤(Utf8.decode s i).2∧∀ k,k<(Utf8.decode s i).2→i+k<s.size∧¬ (s.get! (i+k)).toNat<128:=by
 have one:∀ k,k<1→i+k<s.size∧¬ (s.get! (i+k)).toNat<128:=fun k hk=>by
  obtain rfl:k=0:=by omega
  exact ⟨hi,h⟩
 have h':¬ (s.get! (i+0)).toNat<0x80:=h;unfold Utf8.decode;simp only [h',if_false,Utf8.runeError];split
 ·rename_i h1;simp only [Bool.and_eq_true,decide_eq_true_eq,beq_iff_eq] at h1;split
  ·rename_i h2;refine ⟨h2,(by simp),fun k hk=>?_⟩;simp only at hk;obtain rfl|rfl:k=0∨k=1:=by omega
   ·exact ⟨hi,h⟩
   ·exact ⟨h1.2.1,by omega⟩
  ·exact ⟨by simp,by simp,one⟩
 ·split
  ·rename_i h1;simp only [Bool.and_eq_true,decide_eq_true_eq,beq_iff_eq] at h1;split
   ·rename_i h2;simp only [Bool.and_eq_true,decide_eq_true_eq] at h2;refine ⟨by simp only [];omega,(by simp),fun k hk=>?_⟩;simp only at hk;obtain rfl|rfl|rfl:k=0∨k=1∨k=2:=by omega
    ·exact ⟨hi,h⟩
    ·exact ⟨h1.1.2.1,by omega⟩
    ·exact ⟨h1.2.1,by omega⟩
   ·exact ⟨by simp,by simp,one⟩
  ·split
   ·rename_i h1;simp only [Bool.and_eq_true,decide_eq_true_eq,beq_iff_eq] at h1;split
    ·rename_i h2;simp only [Bool.and_eq_true,decide_eq_true_eq] at h2;refine ⟨by simp only [];omega,(by simp),fun k hk=>?_⟩;simp only at hk;obtain rfl|rfl|rfl|rfl:k=0∨k=1∨k=2∨k=3:=by omega
     ·exact ⟨hi,h⟩
     ·exact ⟨h1.1.1.2.1,by omega⟩
     ·exact ⟨h1.1.2.1,by omega⟩
     ·exact ⟨h1.2.1,by omega⟩
    ·exact ⟨by simp,by simp,one⟩
   ·exact ⟨by simp,by simp,one⟩
theorem get!_at (s:ByteArray) (i:Nat) (h:i<s.size):s.get! i=s.data.toList[i]'(by simpa using h):=by
 have h2:i<s.data.size:=h;have:s.get! i=s.data[i]!:=rfl;rw [this,getElem!_pos s.data i h2,Array.getElem_toList]
end Go.Proofs.YtcgdjembdjdlhaaGreatDoor.w
namespace Go.Proofs.YtcgdjembdjdlhaaGreatDoor.w
open Go Go.VM
def strR (l:List Str):List (List PV):=l.map fun s=>[.str s]
theorem strR_len (l:List Str):(strR l).length=l.length:=by simp [strR]
theorem strR_take (l:List Str):(strR l).take l.length=strR l:=List.take_of_length_le (by rw [strR_len];exact Nat.le_refl _)
theorem strR_app (a b:List Str):strR a++strR b=strR (a++b):=by simp [strR]
end Go.Proofs.YtcgdjembdjdlhaaGreatDoor.w
namespace Go.VM
open Go
theorem ap8 {a b c d e f g h s:Nat} (h1:[a,b,c,d,e,f,g,h].Nodup) (h2:∀ y∈[a,b,c,d,e,f,g,h],y<s):(a=b)=False∧(a=c)=False∧(a=d)=False∧(a=e)=False∧(a=f)=False∧(a=g)=False∧(a=h)=False∧(s=a)=False∧(a=s)=False∧(s+1=a)=False∧(a=s+1)=False∧(s+1+1=a)=False∧(a=s+1+1)=False∧(s+1+1+1=a)=False∧(a=s+1+1+1)=False∧(s+1+1+1+1=a)=False∧(a=s+1+1+1+1)=False∧(s+1+1+1+1+1=a)=False∧(a=s+1+1+1+1+1)=False∧(s+1+1+1+1+1+1=a)=False∧(a=s+1+1+1+1+1+1)=False∧(b=a)=False∧(b=c)=False∧(b=d)=False∧(b=e)=False∧(b=f)=False∧(b=g)=False∧(b=h)=False∧(s=b)=False∧(b=s)=False∧(s+1=b)=False∧(b=s+1)=False∧(s+1+1=b)=False∧(b=s+1+1)=False∧(s+1+1+1=b)=False∧(b=s+1+1+1)=False∧(s+1+1+1+1=b)=False∧(b=s+1+1+1+1)=False∧(s+1+1+1+1+1=b)=False∧(b=s+1+1+1+1+1)=False∧(s+1+1+1+1+1+1=b)=False∧(b=s+1+1+1+1+1+1)=False∧(c=a)=False∧(c=b)=False∧(c=d)=False∧(c=e)=False∧(c=f)=False∧(c=g)=False∧(c=h)=False∧(s=c)=False∧(c=s)=False∧(s+1=c)=False∧(c=s+1)=False∧(s+1+1=c)=False∧(c=s+1+1)=False∧(s+1+1+1=c)=False∧(c=s+1+1+1)=False∧(s+1+1+1+1=c)=False∧(c=s+1+1+1+1)=False∧(s+1+1+1+1+1=c)=False∧(c=s+1+1+1+1+1)=False∧(s+1+1+1+1+1+1=c)=False∧(c=s+1+1+1+1+1+1)=False∧(d=a)=False∧(d=b)=False∧(d=c)=False∧(d=e)=False∧(d=f)=False∧(d=g)=False∧(d=h)=False∧(s=d)=False∧(d=s)=False∧(s+1=d)=False∧(d=s+1)=False∧(s+1+1=d)=False∧(d=s+1+1)=False∧(s+1+1+1=d)=False∧(d=s+1+1+1)=False∧(s+1+1+1+1=d)=False∧(d=s+1+1+1+1)=False∧(s+1+1+1+1+1=d)=False∧(d=s+1+1+1+1+1)=False∧(s+1+1+1+1+1+1=d)=False∧(d=s+1+1+1+1+1+1)=False∧(e=a)=False∧(e=b)=False∧(e=c)=False∧(e=d)=False∧(e=f)=False∧(e=g)=False∧(e=h)=False∧(s=e)=False∧(e=s)=False∧(s+1=e)=False∧(e=s+1)=False∧(s+1+1=e)=False∧(e=s+1+1)=False∧(s+1+1+1=e)=False∧(e=s+1+1+1)=False∧(s+1+1+1+1=e)=False∧(e=s+1+1+1+1)=False∧(s+1+1+1+1+1=e)=False∧(e=s+1+1+1+1+1)=False∧(s+1+1+1+1+1+1=e)=False∧(e=s+1+1+1+1+1+1)=False∧(f=a)=False∧(f=b)=False∧(f=c)=False∧(f=d)=False∧(f=e)=False∧(f=g)=False∧(f=h)=False∧(s=f)=False∧(f=s)=False∧(s+1=f)=False∧(f=s+1)=False∧(s+1+1=f)=False∧(f=s+1+1)=False∧(s+1+1+1=f)=False∧(f=s+1+1+1)=False∧(s+1+1+1+1=f)=False∧(f=s+1+1+1+1)=False∧(s+1+1+1+1+1=f)=False∧(f=s+1+1+1+1+1)=False∧(s+1+1+1+1+1+1=f)=False∧(f=s+1+1+1+1+1+1)=False∧(g=a)=False∧(g=b)=False∧(g=c)=False∧(g=d)=False∧(g=e)=False∧(g=f)=False∧(g=h)=False∧(s=g)=False∧(g=s)=False∧(s+1=g)=False∧(g=s+1)=False∧(s+1+1=g)=False∧(g=s+1+1)=False∧(s+1+1+1=g)=False∧(g=s+1+1+1)=False∧(s+1+1+1+1=g)=False∧(g=s+1+1+1+1)=False∧(s+1+1+1+1+1=g)=False∧(g=s+1+1+1+1+1)=False∧(s+1+1+1+1+1+1=g)=False∧(g=s+1+1+1+1+1+1)=False∧(h=a)=False∧(h=b)=False∧(h=c)=False∧(h=d)=False∧(h=e)=False∧(h=f)=False∧(h=g)=False∧(s=h)=False∧(h=s)=False∧(s+1=h)=False∧(h=s+1)=False∧(s+1+1=h)=False∧(h=s+1+1)=False∧(s+1+1+1=h)=False∧(h=s+1+1+1)=False∧(s+1+1+1+1=h)=False∧(h=s+1+1+1+1)=False∧(s+1+1+1+1+1=h)=False∧(h=s+1+1+1+1+1)=False∧(s+1+1+1+1+1+1=h)=False∧(h=s+1+1+1+1+1+1)=False:=by
 simp only [List.nodup_cons,List.mem_cons,List.not_mem_nil,or_false,not_or,List.nodup_nil,not_false_eq_true,and_true,forall_eq_or_imp,forall_eq] at h1 h2;obtain ⟨⟨p1,p2,p3,p4,p5,p6,p7⟩,⟨p8,p9,p10,p11,p12,p13⟩,⟨p14,p15,p16,p17,p18⟩,⟨p19,p20,p21,p22⟩,⟨p23,p24,p25⟩,⟨p26,p27⟩,p28⟩:=h1;obtain ⟨q1,q2,q3,q4,q5,q6,q7,q8⟩:=h2
 and_intros<;>first|exact eq_false (by assumption)|exact eq_false (Ne.symm (by assumption))|(refine eq_false ?_;clear p1 p2 p3 p4 p5 p6 p7 p8 p9 p10 p11 p12 p13 p14 p15 p16 p17 p18 p19 p20 p21 p22 p23 p24 p25 p26 p27 p28;omega)
end Go.VM
