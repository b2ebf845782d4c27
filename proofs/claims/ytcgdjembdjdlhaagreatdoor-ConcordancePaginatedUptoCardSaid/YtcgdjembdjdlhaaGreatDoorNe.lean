import Derived.Test.YtcgdjembdjdlhaaGreatDoorCp
import Derived.Test.YtcgdjembdjdlhaaGreatDoorVmPk
set_option linter.all false
set_option maxRecDepth 20000
set_option maxHeartbeats 0
namespace Go.Proofs.w
open Go Go.VM
def c_pandectref12_Units:VC:=(ZR [ZO 1 (.box 8 (.t 0)),ZO 2 (.mv (.c .nilsl))] (ZR [ZO 5 (.load true 8 (.t 1)),ZO 6 (.bslice 8 1 ZU [(0,(.t 5))]),ZM 3 6] (.seq (ZR [ZO 4 (.mv (.c (.int .i64 0)))] (.block 0 (.loop (.seq (ZR [ZM 7 4,ZO 8 (.faddr 7 (.t 1)),ZO 9 (.load false 1 (.t 8)),ZO 10 (.len false (.t 9)),ZO 11 (.bin .lss (.t 7) (.t 10))] (.cond (.t 11) .skip (.exit 0))) (.seq (.block 1 (.region [ZM 14 3,ZO 15 (.faddr 7 (.t 1)),ZO 16 (.load false 1 (.t 15)),ZM 17 4,ZO 18 (.iaddr 8 (.t 16) (.t 17)),ZO 19 (.load true 8 (.t 18)),ZO 20 (.call 27 [.t 19]),ZO 21 (.app 8 120 ZU false (.t 14) (.t 20)),ZM 3 21] false)) (.region [ZM 12 4,ZO 13 (.bin .add (.t 12) (.c (.int .i64 1))),ZM 4 13] false)))))) (ZR [ZM 22 3,ZM 2 22] .ret))))
def c_pandectref04_Pieces:VC:=(ZR [ZO 2 (.mv (.c .nilsl))] (ZR [ZO 6 (.fx (.mk0 1) []),ZM 3 6] (.seq (ZR [ZM 7 0,ZO 8 (.bin .eql (.t 7) (.c (.str [])))] (.cond (.t 8) (ZR [ZM 9 3,ZM 2 9] .ret) .skip)) (ZR [ZO 4 (.mv (.c (.int .i64 0)))] (.seq (ZR [ZO 5 (.mv (.c (.int .i64 0)))] (.block 0 (.loop (.seq (ZR [ZM 10 5,ZM 11 0,ZO 12 (.len true (.t 11)),ZO 13 (.bin .leq (.t 10) (.t 12))] (.cond (.t 13) .skip (.exit 0))) (.seq (.block 1 (ZR [ZM 16 5,ZM 17 0,ZO 18 (.len true (.t 17)),ZO 19 (.bin .eql (.t 16) (.t 18)),ZM 20 19,ZG 21 (.mv (.t 0)) 20 false,ZG 22 (.mv (.t 5)) 20 false,ZG 23 (.idx (.t 21) (.t 22)) 20 false,ZG 24 (.bin .eql (.t 23) (.c (.int .u8 32))) 20 false,ZO 25 (.pick (.t 20) (.c (.bool true)) (.t 24))] (.cond (.t 25) (ZR [ZM 26 3,ZM 27 0,ZM 28 4,ZM 29 5,ZO 30 (.slice true 0 (.t 27) (some (.t 28)) (some (.t 29))),ZO 31 (.bslice 1 1 [(.str [])] [(0,(.t 30))]),ZO 32 (.app 1 16 [(.str [])] false (.t 26) (.t 31)),ZM 3 32] (.region [ZM 33 5,ZO 34 (.bin .add (.t 33) (.c (.int .i64 1))),ZM 4 34] false)) .skip))) (.region [ZM 14 5,ZO 15 (.bin .add (.t 14) (.c (.int .i64 1))),ZM 5 15] false)))))) (ZR [ZM 35 3,ZM 2 35] .ret))))))
def unK (u:Un) (L:List Un) (k:Nat):List Un:=u::unitsL (L.take k)
theorem sp_ref12_Units {u:Un} (hu:SmT u):(unitsT u).length≤1000→Zam Tryz.prog 27 [.agg u.enc] (.sl 8 ((unitsT u).map Un.enc)):=by
 induction hu with
 | mk u h hk hs ih =>
  intro hn;rw [Zaj,List.length_cons] at hn;have ih':∀ k∈u.kids,Zam Tryz.prog 27 [.agg k.enc] (.sl 8 ((unitsT k).map Un.enc)):=fun k hk'=>ih k hk' (by have:=Zbn hk';omega);clear ih;refine Zad ?_ (closed_uns _) (by intro y hy;rw [List.mem_singleton] at hy;subst hy;exact Zao _);refine Gn (vc:=c_pandectref12_Units) [.t 2] Tryz.func27 ?_;unfold c_pandectref12_Units;try dsimp only [ZM,ZO,ZN,ZG,ZR,ZU]
  rw [Zaj];have hue:u.enc=[pI u.act,pI u.item,pI u.n,pI u.kind,.str u.label,.sl 4 (u.head.map Wd.enc),.sl 4 (u.words.map Wd.enc),.sl 8 (u.kids.map Un.enc)]:=Un.Zaf u;have hU0:(unK u u.kids 0).map Un.enc=[[pI u.act,pI u.item,pI u.n,pI u.kind,.str u.label,.sl 4 (u.head.map Wd.enc),.sl 4 (u.words.map Wd.enc),.sl 8 (u.kids.map Un.enc)]]:=by unfold unK;rw [List.take_zero,unitsL,List.map_singleton,hue]
  have hU9:unK u u.kids u.kids.length=u::unitsL u.kids:=by unfold unK;rw [List.take_length]
  have hUl:∀ k,(unK u u.kids k).length=(unitsL (u.kids.take k)).length+1:=fun k=>by unfold unK;simp
  have hUs:∀ (k:Nat) (h:k<u.kids.length),unK u u.kids (k+1)=unK u u.kids k++unitsT u.kids[k]:=fun k h=>by unfold unK;rw [unitsL_step h];rfl
  rw [hue];generalize u.head.map Wd.enc=EH at *;generalize u.words.map Wd.enc=EW at *;have hUt:=unitsL_take u.kids;have hUu:=fun (k:Nat) (h:k<u.kids.length)=>unitsL_step h;have hUk:(unK u u.kids 0).length=1:=by rw [hUl,List.take_zero,unitsL];rfl
  generalize hF:unK u u.kids=F at *;clear hF hue;generalize u.kids=L at *;refine Rp0 [1] ?_;refine Zaw [(1,.ro [pI u.act,pI u.item,pI u.n,pI u.kind,.str u.label,.sl 4 EH,.sl 4 EW,.sl 8 (L.map Un.enc)])] ⟨View.loc (z:=8) (fz:=false) (es:=[[pI u.act,pI u.item,pI u.n,pI u.kind,.str u.label,.sl 4 EH,.sl 4 EW,.sl 8 (L.map Un.enc)]]) rfl (by simp) rfl (by simp),trivial⟩ ?_;refine Rp0 [1,3] ?_;refine Zaa ?_;refine Rp0 [1,3,4] ?_;refine Zab ?_;refine Zak (σ:={ x:Nat×Nat×Nat//x.1≤L.length∧x.2.1<x.2.2 }) (fun x=>([(1,.ro [pI u.act,pI u.item,pI u.n,pI u.kind,.str u.label,.sl 4 EH,.sl 4 EW,.sl 8 (L.map Un.enc)]),(3,.own x.1.2.1 0 (F x.1.1).length),(4,pI x.1.1)],⟨[(x.1.2.1,.arr false 8 ((F x.1.1).map Un.enc))],x.1.2.2⟩)) (fun x=>L.length-x.1.1) ⟨(0,1,2),Nat.zero_le _,by simp⟩ ?_ ?_ ?_
  ·exact Fn1 hUk
  ·simp only [vmL,Nat.reduceEqDiff,Nat.reduceAdd,Nat.reduceLT,Nat.reduceLeDiff,Nat.reduceSub,Nat.reduceMul,reduceIte,reduceCtorEq,Int.reduceToNat,hU0]
   try trivial
  rintro ⟨⟨k,id,t⟩,hkk,hid⟩;simp only [] at hkk hid ⊢;have qq:=N4 id t (t+1) (t+1+1);refine Zaa ?_;refine Rp1 [1,3,4,11] (x2 @xlm qq) ?_;refine Zac rfl (fun h1=>?_) (fun h1=>?_)
  ·have ka:k<L.length:=by simp only [Zx3] at h1;omega
   have hst:=hUs k ka;have htk:=hUt (k+1);rw [hUu k ka,Zx5] at htk;have hrow:(L.map Un.enc).getD k []=L[k].enc:=rowm ka;have R:=ih' _ (List.getElem_mem ka);have hAl:=hUl k;generalize L[k]=v at *;rw [Un.Zaf] at hrow R;have hs1:(F (k+1)).map Un.enc=(F k).map Un.enc++(unitsT v).map Un.enc:=by rw [hst,List.map_append]
   have hs2:(F (k+1)).length=(F k).length+(unitsT v).length:=by rw [hst,Zx5]
   generalize F k=A at *;generalize unitsT v=B at *;have hale:(A.map Un.enc).length=A.length:=List.length_map _;have hatk:List.take A.length (A.map Un.enc)=A.map Un.enc:=List.take_of_length_le (by omega);have hBl:(B.map Un.enc).length=B.length:=List.length_map _;refine Kp0 ?_;refine Zaa ?_;refine Zab ?_;refine rp1 [1,3,4] (x3 @xlm hrow qq) ?_;refine Ok ?_;refine Ap1 R (x4 hale hatk hBl qq) ?_;refine ⟨by omega,by omega,?_⟩;refine rp1 [1,3,4] (x2 (ad1 (a:=k) (by omega)) qq) ?_;refine ⟨⟨(k+1,t,t+1),ka,Nat.lt_succ_self _⟩,?_⟩;simp only [hs1,hs2]
   all_goals exact Fn1 qq
  ·have ka:k=L.length:=by simp only [Zx2] at h1;omega
   subst ka;rw [hU9];refine Ep0 ?_;refine Rp1 [2] qq ?_;refine Tp0 ?_;exact View.own_all (fz:=false) (by simp [Heap.get,HL.get]) (by simp)
theorem sp_Pieces (s:Str) (h0:s≠[]) (hs:s.length≤100000):Zam Tryz.prog 28 [.str s] (.sl 1 (strR (cutF [] s))):=by
 refine Zad ?_ (Zbs _) (by intro y hy;rw [List.mem_singleton] at hy;subst hy;exact cS _);refine Gn (vc:=c_pandectref04_Pieces) [.t 2] Tryz.func28 ?_;unfold c_pandectref04_Pieces;try dsimp only [ZM,ZO,ZN,ZG,ZR,ZU]
 have e0:(s==([]:Str))=false:=by simpa using h0
 refine Rp0 [0] ?_;refine Rp0 [0,3] ?_;refine Zaa ?_;refine Rp1 [0,3,8] e0 ?_;refine Fp0 ?_;refine Rp0 [0,3,4] ?_;refine Zaa ?_;refine Rp0 [0,3,4,5] ?_;refine Zab ?_;refine Zak (σ:={ x:(Nat×Nat×Nat×Nat)×List Str//x.1.1≤s.length+1∧x.1.2.1≤x.1.1∧CutOk s x.1.1 x.1.2.1 x.2∧x.2.length≤x.1.1∧x.1.2.2.1<x.1.2.2.2 }) (fun x=>([(0,.str s),(3,.own x.1.1.2.2.1 0 x.1.2.length),(4,pI x.1.1.2.1),(5,pI x.1.1.1)],⟨[(x.1.1.2.2.1,.arr false 1 (strR x.1.2))],x.1.1.2.2.2⟩)) (fun x=>s.length+1-x.1.1.1) ⟨((0,0,0,1),[]),by simp,by simp,.inl ⟨by simp,by simp⟩,by simp,by simp⟩ ?_ ?_ ?_
 ·exact Fn0
 ·exact Sr0
 rintro ⟨⟨⟨i,f,id,n⟩,O⟩,hi,hf,hO,hOl,hid⟩;simp only [] at hi hf hO hOl hid ⊢;have qq:=N3 id n (n+1);have htk:=strR_take O;have hln:=Za7 O;refine Zaa ?_;refine Rp1 [0,3,4,5,13] qq ?_;refine Zac rfl (fun h1=>?_) (fun h1=>?_)
 ·simp only [Zx3] at h1;refine Kp0 ?_;refine Zaa ?_;refine Zab ?_;refine Zaa (Zc1 (σ:={ c:Bool//c=true↔i=s.length∨∃ h:i<s.length,s[i]=32 }) (fun c=>([(0,.str s),(3,.own id 0 O.length),(4,pI f),(5,pI i),(25,.bool c.1)],⟨[(id,.arr false 1 (strR O))],n⟩)) (Zae [0,3,4,5,25] ?_) (fun c=>?_))
  ·by_cases h2:i=s.length
   ·have e1:((i:Int)==(s.length:Int))=true:=by rw [beq_iff_eq];omega
    refine Sp1 (x2 e1 qq) ?_;exact ⟨⟨true,by simp [h2]⟩,rfl⟩
   ·have e1:((i:Int)==(s.length:Int))=false:=by rw [beq_eq_false_iff_ne];omega
    have ia:i<s.length:=by omega
    have ix:List.getD s i 0=s[i]:=by simp [Zx1,ia]
    have e2:(((s[i].toNat:Nat):Int)==32)=(s[i]==32):=byte_eq s[i] 32 (by decide);refine Sp1 (x4 e1 ix e2 qq) ?_;refine ⟨by omega,⟨s[i]==32,?_⟩,rfl⟩;rw [beq_iff_eq];exact ⟨fun h=>.inr ⟨ia,h⟩,fun h=>h.elim (fun h=>absurd h h2) fun ⟨_,h⟩=>h⟩
  obtain ⟨c,hc⟩:=c;simp only [];refine Zac rfl (fun h3=>?_) (fun h3=>?_)
  ·refine Rp1 [0,3,5] (x3 htk hln qq) ?_;refine ⟨by omega,by omega,by omega,?_⟩;refine rp1 [0,3,4,5] (x2 (ad1 (a:=i) (by omega)) qq) ?_;refine rp1 [0,3,4,5] (x2 (ad1 (a:=i) (by omega)) qq) ?_;have hcut:CutOk s (i+1) (i+1) (O++[(s.drop f).take (i-f)]):=by
    rcases hc.1 h3 with h|⟨h,hb⟩
    ·subst h;exact .inr ⟨rfl,cut_end hO⟩
    ·exact cut_sp hO h hb
   refine ⟨⟨((i+1,i+1,n+1,n+1+1),O++[(s.drop f).take (i-f)]),by simp only [];omega,Nat.le_refl _,hcut,by simp only [Zx5,List.length_cons,List.length_nil];omega,by simp⟩,?_⟩;simp only [Zx5,List.length_cons,List.length_nil,← strR_app]
   all_goals exact Fn1 qq
  ·refine Kp0 ?_;refine rp1 [0,3,4,5] (x2 (ad1 (a:=i) (by omega)) qq) ?_;have hne:i≠s.length:=fun h=>by rw [hc.2 (.inl h)] at h3;cases h3
   have ia:i<s.length:=by omega
   have hb:s[i]≠32:=fun h=>by rw [hc.2 (.inr ⟨ia,h⟩)] at h3;cases h3
   refine ⟨⟨((i+1,f,id,n),O),by simp only [];omega,by simp only [];omega,cut_go hO ia hf hb,by simp only [];omega,hid⟩,?_⟩;exact Fn1 qq
 simp only [Zx2] at h1;have hOe:O=cutF [] s:=by
  rcases hO with ⟨h,_⟩|⟨_,h⟩
  ·omega
  ·exact h
 subst hOe;refine Ep0 ?_;refine Rp0 [2] ?_;refine Tp0 ?_;exact View.own_all (fz:=false) (by simp [Heap.get,HL.get]) (by rw [Za7])
end Go.Proofs.w
