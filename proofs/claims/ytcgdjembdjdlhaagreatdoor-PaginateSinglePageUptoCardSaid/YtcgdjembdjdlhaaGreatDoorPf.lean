import Derived.Test.YtcgdjembdjdlhaaGreatDoorYp
import Derived.Test.YtcgdjembdjdlhaaGreatDoorGc
import Derived.Test.YtcgdjembdjdlhaaGreatDoorYa
import Derived.Test.YtcgdjembdjdlhaaGreatDoorVmPk
set_option linter.all false
set_option maxRecDepth 20000
set_option maxHeartbeats 0
namespace Go.VM
open Go
def Zc0 (l:List Ln):Prop:=∀ x,l.getLast?=some x→x.tied=false
theorem lastOk_app {a b:List Ln} (hb:b≠[]) (h:Zc0 b):Zc0 (a++b):=by
 intro x hx;rw [List.getLast?_append] at hx;cases hl:b.getLast? with
 | none=>exact absurd (List.getLast?_eq_none_iff.1 hl) hb
 | some y =>
  rw [hl] at hx;simp only [Option.some_or,Option.some.injEq] at hx;subst hx;exact h _ hl
theorem ownF_last (w:Int) (u:Un) (t:Bool):∀ (l:List Str) (E:List Nat) (fr:Nat),l.length=E.length→∀ x,(ownF w u t fr l E).getLast?=some x→x.tied=t
 | [],E,fr,_,x,h=>by unfold ownF at h;simp at h
 | s::l,[],fr,hl,x,h=>by simp at hl
 | s::l,e::E,fr,hl,x,h=>by
  unfold ownF at h;rw [List.getLast?_cons] at h;have hl':l.length=E.length:=by simpa using hl
  cases hr:(ownF w u t (toN u e) l E).getLast? with
  | none =>
   rw [hr] at h;simp only [Option.getD_none,Option.some.injEq] at h;have hn:=List.getLast?_eq_none_iff.1 hr;have he:l=[]:=by
    cases l with
    | nil=>rfl
    | cons a r =>
     cases E with
     | nil=>simp at hl'
     | cons b q=>unfold ownF at hn;cases hn
   subst h;simp [he]
  | some y =>
   rw [hr] at h;simp only [Option.getD_some,Option.some.injEq] at h;subst h;exact ownF_last w u t l E _ hl' _ hr
theorem body_last {u:Un} (hu:SmT u) {w:Int}:(∀ x∈unitsT u,Zbg w (rowT x)=0)→bodyT w u≠[]∧Zc0 (bodyT w u):=by
 induction hu with
 | mk u h hk hs ih =>
  intro hw;have ih':∀ k∈u.kids,bodyT w k≠[]∧Zc0 (bodyT w k):=fun k hk'=>ih k hk' fun x hx=>hw x (Zbv hk' hx);rw [bodyT_eq];have hpos:0<(Zas w u).length:=Go.Proofs.YtcgdjembdjdlhaaGreatDoor.w.lines_pos (hw u (Za6 u));have hown:ownL w u≠[]:=by
   intro h0;unfold ownL at h0;have hl:=Zcv w u;cases hl1:Zas w u with
   | nil=>rw [hl1] at hpos;simp at hpos
   | cons a r =>
    rw [hl1] at hl h0;cases he:Za5 w (rowT u) with
    | nil=>rw [he] at hl;simp at hl
    | cons b q=>rw [he] at h0;unfold ownF at h0;cases h0
  refine ⟨by simp [hown],?_⟩;have key:∀ L:List Un,(∀ k∈L,k∈u.kids)→(bodyL w u L=[]∧∀ k∈L,¬ Zaf u k<0)∨(bodyL w u L≠[]∧Zc0 (bodyL w u L)):=by
   intro L
   induction L with
   | nil=>intro _;exact .inl ⟨by rw [bodyL],fun k hk=>by cases hk⟩
   | cons a r ihr =>
    intro hL;have ha:=ih' a (hL a List.mem_cons_self);rcases ihr fun k hk=>hL k (List.mem_cons_of_mem _ hk) with ⟨h1,h2⟩|⟨h1,h2⟩
    ·by_cases hc:Zaf u a<0
     ·right
      rw [bodyL,if_pos hc,h1,List.append_nil];exact ha
     ·left
      rw [bodyL,if_neg hc,h1];exact ⟨rfl,fun k hk=>by
       rcases List.mem_cons.1 hk with rfl|hk
       ·exact hc
       ·exact h2 k hk⟩
    ·right
     rw [bodyL];exact ⟨by simp [h1],lastOk_app h1 h2⟩
  rcases key u.kids fun k hk=>hk with ⟨h1,h2⟩|⟨h1,h2⟩
  ·rw [h1,List.append_nil];intro x hx;have:=ownF_last w u (tiedU u) (Zas w u) (Za5 w (rowT u)) 0 (Zcv w u) x hx;rw [this];unfold tiedU;rw [Bool.eq_false_iff];intro ht;obtain ⟨k,k1,k2⟩:=List.any_eq_true.1 ht;exact h2 k k1 (by simpa using k2)
  ·exact lastOk_app h1 h2
theorem kids_last {u:Un} (hu:SmT u) {w:Int} (hw:∀ x∈unitsL u.kids,Zbg w (rowT x)=0):Zc0 (Zbw w true u u.kids):=by
 unfold Zbw;rw [if_pos rfl];have key:∀ L:List Un,(∀ k∈L,k∈u.kids)→Zc0 (L.flatMap (bodyT w)):=by
  intro L
  induction L with
  | nil=>intro _ x hx;simp at hx
  | cons a r ihr =>
   intro hL;have ha:=body_last (hu.kids.2 a (hL a List.mem_cons_self)) (w:=w) fun x hx=>hw x (by
    rw [Zaz];exact List.mem_flatMap.2 ⟨a,hL a List.mem_cons_self,hx⟩)
   have hr:=ihr fun k hk=>hL k (List.mem_cons_of_mem _ hk);rw [List.flatMap_cons];by_cases h0:r.flatMap (bodyT w)=[]
   ·rw [h0,List.append_nil];exact ha.2
   ·exact lastOk_app h0 hr
 exact key u.kids fun k hk=>hk
theorem grp_last:∀ (l acc:List Ln),Zc0 (acc++l)→∀ g∈grpG acc l,Zc0 g
 | [],acc,h,g,hg=>by
  unfold grpG at hg;split at hg
  ·cases hg
  ·rw [List.mem_singleton] at hg;subst hg;simpa using h
 | x::r,acc,h,g,hg=>by
  unfold grpG at hg;split at hg
  ·exact grp_last r (acc++[x]) (by simpa using h) g hg
  ·rename_i ht;rcases List.mem_cons.1 hg with rfl|hg
   ·intro y hy;rw [List.getLast?_append] at hy;simp only [List.getLast?_singleton,Option.some_or,Option.some.injEq] at hy;subst hy
    simpa using ht
   ·refine grp_last r [] ?_ g hg;intro y hy;rw [List.nil_append] at hy;refine h y ?_;rw [List.getLast?_append,List.getLast?_cons,hy];rfl
end Go.VM
namespace Go.VM
open Go
theorem addG_last {m:Int} {s s':List (List Ln)×List Ln} {g:List Ln} (h1:∀ l∈s.1,Zc0 l) (h2:Zc0 s.2) (hg:g≠[]) (hg2:Zc0 g) (h:addG m (some s) g=some s'):(∀ l∈s'.1,Zc0 l)∧Zc0 s'.2:=by
 obtain ⟨D,N⟩:=s;rw [addG_eq] at h;split at h
 ·cases h
 split at h
 ·simp only [Option.some.injEq] at h;subst h;refine ⟨fun l hl=>?_,hg2⟩;rcases List.mem_append.1 hl with hl|hl
  ·exact h1 l hl
  ·rw [List.mem_singleton] at hl;subst hl;exact h2
 ·simp only [Option.some.injEq] at h;subst h;exact ⟨h1,lastOk_app hg hg2⟩
theorem lastG_fold {m:Int}:∀ (G:List (List Ln)) {s s':List (List Ln)×List Ln},(∀ l∈s.1,Zc0 l)→Zc0 s.2→(∀ g∈G,g≠[]∧Zc0 g)→G.foldl (addG m) (some s)=some s'→(∀ l∈s'.1,Zc0 l)∧Zc0 s'.2
 | [],s,s',h1,h2,_,h=>by simp only [List.foldl_nil,Option.some.injEq] at h;subst h;exact ⟨h1,h2⟩
 | g::r,s,s',h1,h2,hG,h=>by
  rw [List.foldl_cons] at h;cases hs:addG m (some s) g with
  | none=>rw [hs,addG_none] at h;cases h
  | some s2 =>
   rw [hs] at h;obtain ⟨a,b⟩:=addG_last h1 h2 (hG g List.mem_cons_self).1 (hG g List.mem_cons_self).2 hs;exact lastG_fold r a b (fun x hx=>hG x (List.mem_cons_of_mem _ hx)) h
structure PgsI (m : Int) (B : List Ln) (P : List (List Ln)) : Prop where
 flat : P.flatten = B
 ne : ∀ l ∈ P, l ≠ []
 hi : ∀ l ∈ P, (Zb3 l : Int) ≤ m
 last : ∀ l ∈ P, Zc0 l
theorem pagesG_inv {m:Int} {B:List Ln} {P:List (List Ln)} (hB:Zc0 B) (h:pagesG m B=some P):PgsI m B P:=by
 unfold pagesG at h;obtain ⟨s,hs,rfl⟩:=Option.map_eq_some_iff.1 h;have hne:=fun g hg=>grpG_ne B [] g hg;have I:=pagG_inv hne hs;have hl:=lastG_fold (grpG [] B) (s:=([],[])) (fun l h=>by cases h) (fun x h=>by cases h) (fun g hg=>⟨hne g hg,grp_last B [] hB g hg⟩) hs;have hf:=I.flat
 rw [grpG_flat,List.nil_append] at hf;obtain ⟨D,N⟩:=s;show PgsI m B (if N=[] then D else D++[N]);have h1:=I.ne;have h2:=I.hi;have h3:=I.now;simp only [] at hf h1 h2 h3 hl;by_cases h0:N=[]
 ·rw [if_pos h0];subst h0;rw [List.append_nil] at hf;exact ⟨hf,h1,h2,hl.1⟩
 ·rw [if_neg h0];refine ⟨by rw [List.flatten_append];simpa using hf,fun l h=>?_,fun l h=>?_,fun l h=>?_⟩
  all_goals rcases List.mem_append.1 h with h|h
  ·exact h1 l h
  ·rw [List.mem_singleton] at h;subst h;exact h0
  ·exact h2 l h
  ·rw [List.mem_singleton] at h;subst h;exact h3 h0
  ·exact hl.1 l h
  ·rw [List.mem_singleton] at h;subst h;exact hl.2
theorem flat_at {P:List (List Ln)} {k j:Nat} (hk:k<P.length) (hj:j<P[k].length):∃ h:(P.take k).flatten.length+j<P.flatten.length,P.flatten[(P.take k).flatten.length+j]=P[k][j]:=by
 have e:P.flatten=(P.take k).flatten++(P[k]++(P.drop (k+1)).flatten):=by
  conv=>lhs;rw [← List.take_append_drop k P,List.flatten_append,List.drop_eq_getElem_cons hk,List.flatten_cons]
 have h:(P.take k).flatten.length+j<P.flatten.length:=by rw [e,List.length_append,List.length_append];omega
 refine ⟨h,?_⟩;have:P.flatten[(P.take k).flatten.length+j]?=some P[k][j]:=by
  rw [e,List.getElem?_append_right (by omega),Nat.add_sub_cancel_left,List.getElem?_append_left hj,List.getElem?_eq_getElem hj]
 rw [List.getElem?_eq_getElem h] at this;exact Option.some.inj this
theorem flat_next {P:List (List Ln)} {k:Nat} (hk:k<P.length):(P.take (k+1)).flatten.length=(P.take k).flatten.length+P[k].length:=by
 rw [List.take_succ_eq_append_getElem hk,List.flatten_append,List.length_append];simp
end Go.VM
namespace Go.Proofs.YtcgdjembdjdlhaaGreatDoor.w
open Go Go.VM
theorem pagP_cases {u:Un} (hs:SmT u) (w m:Int):((pagP u w m).2≠0∧(pagP u w m).1=[])∨∃ P,pagP u w m=(pgsF u 0 P,0)∧Zcm u w=0∧2≤m∧m≤200∧pagesG m (bodyP u w)=some P∧PgsI m (bodyP u w) P:=by
 unfold pagP;by_cases hw:Zcm u w=0
 ·rw [if_pos hw];by_cases hm:m<2∨200<m
  ·rw [if_pos hm];exact .inl ⟨by simp,rfl⟩
  ·rw [if_neg hm];cases hg:pagesG m (bodyP u w) with
   | none=>exact .inl ⟨by simp,rfl⟩
   | some P =>
    obtain ⟨hr,h1,h2⟩:=good_wrong hs hw;have hl:Zc0 (bodyP u w):=kids_last hs fun x hx=>(good_all hs hr h1 h2 x hx).1;exact .inr ⟨P,rfl,hw,by omega,by omega,rfl,pagesG_inv hl hg⟩
 ·rw [if_neg hw];exact .inl ⟨hw,rfl⟩
theorem pgsF_get (u:Un):∀ (P:List (List Ln)) (n k:Nat) (hk:k<P.length),(pgsF u n P)[k]?=some (pageP u ((n+k+1:Nat):Int) P[k])
 | a::P,n,0,hk=>rfl
 | a::P,n,k+1,hk=>by
  have h:k<P.length:=by simpa using hk
  rw [pgsF,List.getElem?_cons_succ,pgsF_get u P (n+1) k h,show n+1+k+1=n+(k+1)+1 by omega];rfl
theorem pgs_row (u:Un) {P:List (List Ln)} {k:Nat} (hk:k<P.length):((pgsF u 0 P).map Pg.enc).getD k []=(pageP u ((k+1:Nat):Int) P[k]).enc:=by
 rw [List.getD_eq_getElem?_getD,List.getElem?_map,pgsF_get u P 0 k hk,Nat.zero_add];rfl
theorem body_le {u:Un} (hs:SmT u) (hn:(unitsT u).length≤1000) (w:Int):(bodyP u w).length≤602000∧Zaw (bodyP u w)≤362404000:=by
 have h1:=kidsB_le hs w true u.kids.length;rw [List.take_length] at h1;have h2:=notes_kids hs hn w;rw [Zai,List.length_cons] at hn;unfold bodyP;omega
theorem bodyB_P (u:Un) (w:Int):bodyB w true u=bodyP u w:=by
 unfold bodyB bodyP Zbw bodyR;rfl
end Go.Proofs.YtcgdjembdjdlhaaGreatDoor.w
namespace Go.Proofs.YtcgdjembdjdlhaaGreatDoor.w
open Go Go.VM
def c_pandectref55_notes:VC:=(ZR [ZO 4 (.box 8 (.t 0)),ZO 8 (.mv (.c .nilsl))] (ZR [ZO 14 (.fx (.mk0 1) []),ZM 9 14] (.seq (ZR [ZM 15 1,ZM 10 15] (.block 0 (.loop (.seq (ZR [ZM 16 10,ZM 17 2,ZO 18 (.bin .lss (.t 16) (.t 17))] (.cond (.t 18) .skip (.exit 0))) (.seq (.block 1 (ZR [ZO 11 (.mv (.c (.int .i64 0)))] (.block 2 (.loop (.seq (ZR [ZM 21 11,ZO 22 (.faddr 7 (.t 4)),ZO 23 (.load false 1 (.t 22)),ZO 24 (.len false (.t 23)),ZO 25 (.bin .lss (.t 21) (.t 24))] (.cond (.t 25) .skip (.exit 2))) (.seq (.block 3 (.seq (.region [ZO 28 (.load true 8 (.t 4)),ZO 29 (.faddr 7 (.t 4)),ZO 30 (.load false 1 (.t 29)),ZM 31 11,ZO 32 (.iaddr 8 (.t 30) (.t 31)),ZO 33 (.load true 8 (.t 32)),ZO 34 (.call 41 [.t 28,.t 33]),ZM 35 10,ZO 36 (.bin .eql (.t 34) (.t 35))] true) (.cond (.t 36) (ZR [ZO 38 (.faddr 7 (.t 4)),ZO 39 (.load false 1 (.t 38)),ZM 40 11,ZO 41 (.iaddr 8 (.t 39) (.t 40)),ZO 42 (.load true 8 (.t 41)),ZM 43 3,ZO 44 (.call 42 [.t 42,.t 43]),ZM 37 44,ZO 45 (.ext (.t 37) 0),ZO 46 (.ext (.t 37) 1),ZM 12 45,ZM 13 46] (.region [ZM 47 9,ZM 48 12,ZO 49 (.app 1 16 [(.str [])] false (.t 47) (.t 48)),ZM 9 49] false)) .skip))) (.region [ZM 26 11,ZO 27 (.bin .add (.t 26) (.c (.int .i64 1))),ZM 11 27] false))))))) (.region [ZM 19 10,ZO 20 (.bin .add (.t 19) (.c (.int .i64 1))),ZM 10 20] false)))))) (ZR [ZM 50 9,ZM 8 50] .ret))))
theorem sp_ref55_notes {u:Un} (hu:SmT u) (w:Int) (a b:Nat) (ha:a≤1000) (hb:b≤1000):Zaj Tryz.prog 43 [.agg u.enc,pI a,pI b,pI w] (It.strs (Zbb w u a b)):=by
 have hs:∀ k∈u.kids,SmU k:=fun k hk=>(hu.kids.2 k hk).u;have CL:=fun k=>sp_ref55_caller hu.u k;have OW:=fun k hk=>sp_ref55_own (hs k hk) w;have hkl:=hu.kids.1;have hnl:=fun j=>notesR_le hs w a j;have hns:=fun j (h:a≤j)=>notesR_step w u h;have hks:=fun (j k:Nat) (h:k<u.kids.length)=>notesK_step w u j h;have hkk:=fun j k=>notesK_le (u:=u) (ks:=u.kids.take k) (fun x hx=>hs x (List.mem_of_mem_take hx)) w j;refine Zad ?_ (Zay _) (by intro z hz;simp only [List.mem_cons,List.not_mem_nil,or_false] at hz;rcases hz with rfl|rfl|rfl|rfl;exact Zao _;exact cI _;exact cI _;exact cI _);refine Gn (vc:=c_pandectref55_notes) [.t 8] Tryz.func43 ?_;unfold c_pandectref55_notes;try dsimp only [ZM,ZO,ZN,ZG,ZR,ZU]
 have hend:∀ i,a≤i→(i≤b∨i=a)→¬ (i<b)→Zbb w u a i=Zbb w u a b:=by
  intro i h1 h2 h3;by_cases e:a≤b
  ·rw [show i=b by omega]
  ·unfold Zbb;rw [show i-a=0 by omega,show b-a=0 by omega]
 have h0:Zbb w u a a=[]:=by unfold Zbb;rw [Nat.sub_self];rfl
 generalize Zbb w u a b=RES at hend ⊢;unfold It.strs;have hue:=Un.Zag u;generalize hKL:u.kids=KL at *;rw [hue] at CL ⊢;generalize u.head.map Wd.enc=EH at *;generalize u.words.map Wd.enc=EW at *;refine Rp0 [1,2,3,4] ?_;refine Zar [(1,pI a),(2,pI b),(3,pI w),(4,.ro [pI u.act,pI u.item,pI u.n,pI u.kind,.str u.label,.sl 4 EH,.sl 4 EW,.sl 8 (KL.map Un.enc)])] ⟨View.refl _ _,View.refl _ _,View.refl _ _,View.loc (z:=8) (fz:=false) (es:=[[pI u.act,pI u.item,pI u.n,pI u.kind,.str u.label,.sl 4 EH,.sl 4 EW,.sl 8 (KL.map Un.enc)]]) rfl (by simp) rfl (by simp),trivial⟩ ?_;refine Rp0 [1,2,3,4,9] ?_;refine Zaa ?_;refine Rp0 [2,3,4,9,10] ?_;refine Zab ?_;refine Zah (σ:={ x:Nat×Nat×Nat//a≤x.1∧(x.1≤b∨x.1=a)∧x.2.1<x.2.2 }) (fun x=>([(2,pI b),(3,pI w),(4,.ro [pI u.act,pI u.item,pI u.n,pI u.kind,.str u.label,.sl 4 EH,.sl 4 EW,.sl 8 (KL.map Un.enc)]),(9,.own x.1.2.1 0 (Zbb w u a x.1.1).length),(10,pI x.1.1)],⟨[(x.1.2.1,.arr false 1 ((Zbb w u a x.1.1).map fun s=>[PV.str s]))],x.1.2.2⟩)) (fun x=>b-x.1.1) ⟨(a,1,2),Nat.le_refl _,.inr rfl,by simp⟩ ?_ ?_ ?_
 ·simp only [vmL,Nat.reduceEqDiff,Nat.reduceAdd,Nat.reduceLT,Nat.reduceLeDiff,Nat.reduceSub,Nat.reduceMul,reduceIte,reduceCtorEq,Int.reduceToNat,h0]
  first|done|rfl|exact ⟨rfl,rfl⟩
 ·simp only [vmL,Nat.reduceEqDiff,Nat.reduceAdd,Nat.reduceLT,Nat.reduceLeDiff,Nat.reduceSub,Nat.reduceMul,reduceIte,reduceCtorEq,Int.reduceToNat,h0]
  first|done|rfl|exact ⟨rfl,rfl⟩
 rintro ⟨⟨i,id,t⟩,hai,hib,hid⟩;simp only [] at hai hib hid ⊢;refine Zaa ?_;refine Rp0 [2,3,4,9,10,18] ?_;refine Zac rfl (fun h1=>?_) (fun h1=>?_)
 ·have hlb:i<b:=by simp only [decide_eq_true_eq] at h1;omega
  have hni:=hnl i;have hst:=hns i hai;have hkst:=hks i;have hkle:=hkk i;have hfull:Zbz w u i (KL.take KL.length)=Zbz w u i KL:=by rw [List.take_length]
  have hk0:Zbz w u i []=[]:=rfl;refine Kp0 ?_;refine Zaa ?_;refine Zab ?_;refine Rp0 [2,3,4,9,10,11] ?_;refine Zab ?_;generalize Zbb w u a i=A at hni hst ⊢;have hA:A.length≤602000000:=by
   refine Nat.le_trans hni ?_;exact Nat.le_trans (Nat.mul_le_mul (show i-a≤1000 by omega) (Nat.mul_le_mul_right 602 hkl)) (by decide)
  refine Zah (σ:={ x:Nat×Nat×Nat//x.1≤KL.length∧x.2.1<x.2.2 }) (fun x=>([(2,pI b),(3,pI w),(4,.ro [pI u.act,pI u.item,pI u.n,pI u.kind,.str u.label,.sl 4 EH,.sl 4 EW,.sl 8 (KL.map Un.enc)]),(9,.own x.1.2.1 0 (A++Zbz w u i (KL.take x.1.1)).length),(10,pI i),(11,pI x.1.1)],⟨[(x.1.2.1,.arr false 1 ((A++Zbz w u i (KL.take x.1.1)).map fun s=>[PV.str s]))],x.1.2.2⟩)) (fun x=>KL.length-x.1.1) ⟨(0,id,t),Nat.zero_le _,hid⟩ ?_ ?_ ?_
  ·simp only [vmL,Nat.reduceEqDiff,Nat.reduceAdd,Nat.reduceLT,Nat.reduceLeDiff,Nat.reduceSub,Nat.reduceMul,reduceIte,reduceCtorEq,Int.reduceToNat,hk0,List.append_nil]
   first|done|rfl|exact ⟨rfl,rfl⟩
  ·simp only [vmL,Nat.reduceEqDiff,Nat.reduceAdd,Nat.reduceLT,Nat.reduceLeDiff,Nat.reduceSub,Nat.reduceMul,reduceIte,reduceCtorEq,Int.reduceToNat,hk0,List.append_nil]
   first|done|rfl|exact ⟨rfl,rfl⟩
  rintro ⟨⟨k,id2,t2⟩,hk,hid2⟩;simp only [] at hk hid2 ⊢;refine Zaa ?_;refine Rp1 [2,3,4,9,10,11,25] @xlm ?_;refine Zac rfl (fun h2=>?_) (fun h2=>?_)
  ·have ka:k<KL.length:=by simp only [decide_eq_true_eq] at h2;omega
   have hrow:(KL.map Un.enc).getD k []=KL[k].enc:=rowm ka;have C:=CL KL[k];have O:=OW _ (List.getElem_mem ka);have hsl:=Zcf (hs _ (List.getElem_mem ka)) w;have hkst':=hkst k ka;have hkle':=hkle k;generalize KL[k]=v at hrow C O hsl hkst';rw [Un.Zag v] at hrow C O;generalize hcv:Zaf u v=cv at C hkst';generalize hB:A++Zbz w u i (KL.take k)=B at *;have hBl:B.length≤700000000:=by
    rw [← hB,List.length_append];have:(KL.take k).length*602≤1000*602:=Nat.mul_le_mul_right 602 (by rw [List.length_take];omega);omega
   have hB':A++Zbz w u i (KL.take (k+1))=B++(if cv==(i:Int) then Zas w v else []):=by rw [hkst',← List.append_assoc,hB]
   refine Kp0 ?_;refine Zaa ?_;refine Zab ?_;refine Zaa (VW_drawE (t2+10) [2,3,4,9,10,11,36] (by simp) ?_);refine Sp1 (x2 @xlm hrow) ?_;refine Ok ?_;refine ⟨_,.inl C,?_⟩;refine Sp0 ?_;have qq:=N3 id2 t2 (t2+1);cases hq:(cv==(i:Int)) with
   | true =>
    rw [hq,if_pos rfl] at hB';refine Ct ?_;generalize Zas w v=LV at O hsl hB';generalize Za5 w (rowT v)=BE at O;unfold It.strs endsV at O;refine Rp1 [2,3,4,9,10,11,12] (x2 @xlm hrow) ?_;refine Ok ?_;refine Ap0 O ?_;have hale:(B.map fun s=>[PV.str s]).length=B.length:=List.length_map _;have hatk:List.take B.length (B.map fun s=>[PV.str s])=B.map fun s=>[PV.str s]:=List.take_of_length_le (by omega);have hlal:(LV.map fun s=>[PV.str s]).length=LV.length:=List.length_map _;refine rp1 [2,3,4,9,10,11] (x4 hale hatk hlal qq) ?_;refine ⟨by omega,by omega,?_⟩;refine rp1 [2,3,4,9,10,11] (x2 (ad1 (a:=k) (by omega)) qq) ?_;refine ⟨⟨(k+1,t2,t2+1),ka,by simp⟩,?_⟩;simp only [hB',List.length_append,List.map_append]
    all_goals exact Fn1 qq
   | false =>
    rw [hq,if_neg Bool.false_ne_true,List.append_nil] at hB';refine Fp0 ?_;refine rp1 [2,3,4,9,10,11] (x2 (ad1 (a:=k) (by omega)) qq) ?_;refine ⟨⟨(k+1,id2,t2),ka,hid2⟩,?_⟩;simp only [hB']
    all_goals exact Fn1 qq
  ·have ka:k=KL.length:=by simp only [decide_eq_false_iff_not] at h2;omega
   subst ka;rw [hfull,← hst];refine Ep0 ?_;refine rp1 [2,3,4,9,10] (ad1 (a:=i) (by omega)) ?_;refine ⟨⟨(i+1,id2,t2),by show a≤i+1;omega,by show i+1≤b∨_;omega,hid2⟩,?_⟩;exact ⟨⟨rfl,rfl⟩,⟨Nat.le_refl _,if_pos rfl⟩,by show b-(i+1)<b-i;omega⟩
 ·have hlb:¬ i<b:=by simp only [decide_eq_false_iff_not] at h1;omega
  rw [hend i hai hib hlb];refine Ep0 ?_;refine Rp0 [8] ?_;refine Tp0 ?_;exact View.own_all (fz:=false) (by simp [Heap.get,HL.get]) (by rw [List.length_map])
end Go.Proofs.YtcgdjembdjdlhaaGreatDoor.w
namespace Go.Proofs.YtcgdjembdjdlhaaGreatDoor.w
open Go Go.VM
def c_pandectref55_Body:VC:=(ZR [ZO 3 (.box 8 (.t 0)),ZO 6 (.mv (.c .nilsl))] (ZR [ZO 17 (.fx (.mk0 6) []),ZM 7 17] (ZR [ZO 8 (.mv (.c (.bool false)))] (.seq (ZR [ZO 9 (.mv (.c (.int .i64 0)))] (.block 0 (.loop (.seq (ZR [ZM 18 9,ZO 19 (.faddr 7 (.t 3)),ZO 20 (.load false 1 (.t 19)),ZO 21 (.len false (.t 20)),ZO 22 (.bin .lss (.t 18) (.t 21))] (.cond (.t 22) .skip (.exit 0))) (.seq (.block 1 (.region [ZM 25 8,ZM 26 25,ZG 27 (.load true 8 (.t 3)) 26 false,ZG 28 (.faddr 7 (.t 3)) 26 false,ZG 29 (.load false 1 (.t 28)) 26 false,ZG 30 (.mv (.t 9)) 26 false,ZG 31 (.iaddr 8 (.t 29) (.t 30)) 26 false,ZG 32 (.load true 8 (.t 31)) 26 false,ZG 33 (.call 41 [.t 27,.t 32]) 26 false,ZG 34 (.bin .lss (.t 33) (.c (.int .i64 0))) 26 false,ZO 35 (.pick (.t 26) (.c (.bool true)) (.t 34)),ZM 8 35] true)) (.region [ZM 23 9,ZO 24 (.bin .add (.t 23) (.c (.int .i64 1))),ZM 9 24] false)))))) (.seq (ZR [ZM 36 2,ZO 37 (.un .not (.t 36))] (.cond (.t 37) (ZR [ZO 39 (.load true 8 (.t 3)),ZM 40 1,ZO 41 (.call 42 [.t 39,.t 40]),ZM 38 41,ZO 42 (.ext (.t 38) 0),ZO 43 (.ext (.t 38) 1),ZM 10 42,ZM 11 43] (ZR [ZO 44 (.faddr 5 (.t 3)),ZO 45 (.load false 1 (.t 44)),ZO 46 (.len false (.t 45)),ZO 47 (.bin .add (.c (.int .i64 2)) (.t 46)),ZM 12 47] (ZR [ZO 13 (.mv (.c (.int .i64 0)))] (ZR [ZO 14 (.mv (.c (.int .i64 0)))] (.block 2 (.loop (.seq (ZR [ZM 48 14,ZM 49 10,ZO 50 (.len false (.t 49)),ZO 51 (.bin .lss (.t 48) (.t 50))] (.cond (.t 51) .skip (.exit 2))) (.seq (.block 3 (ZR [ZM 54 11,ZM 55 14,ZO 56 (.iaddr 1 (.t 54) (.t 55)),ZO 57 (.load false 1 (.t 56)),ZM 58 12,ZO 59 (.bin .sub (.t 57) (.t 58)),ZM 15 59] (.seq (ZR [ZM 60 15,ZO 61 (.bin .lss (.t 60) (.c (.int .i64 0)))] (.cond (.t 61) (.region [ZO 15 (.mv (.c (.int .i64 0)))] false) .skip)) (.seq (.draw2 [ZM 62 7,ZO 63 (.faddr 0 (.t 3)),ZO 64 (.load true 3 (.t 63)),ZM 65 10,ZM 66 14,ZO 67 (.iaddr 1 (.t 65) (.t 66)),ZO 68 (.load false 1 (.t 67)),ZO 69 (.load true 8 (.t 3)),ZM 70 13,ZM 71 15,ZM 72 1,ZO 73 (.call 43 [.t 69,.t 70,.t 71,.t 72]),ZM 74 8,ZM 75 74,ZG 76 (.mv (.t 14)) 75 true,ZG 77 (.mv (.t 10)) 75 true,ZG 78 (.len false (.t 77)) 75 true,ZG 79 (.bin .sub (.t 78) (.c (.int .i64 1))) 75 true,ZG 80 (.bin .eql (.t 76) (.t 79)) 75 true,ZO 81 (.pick (.t 75) (.t 80) (.c (.bool false))),ZO 82 (.build [.int .i64 0,.int .i64 0,.int .i64 0,(.str []),.nilsl,(.bool false)] [(0,(3,(.t 64))),(3,(1,(.t 68))),(4,(1,(.t 73))),(5,(1,(.t 81)))]),ZO 83 (.bslice 6 1 [.int .i64 0,.int .i64 0,.int .i64 0,(.str []),.nilsl,(.bool false)] [(0,(.t 82))]),ZO 84 (.app 6 72 [.int .i64 0,.int .i64 0,.int .i64 0,(.str []),.nilsl,(.bool false)] false (.t 62) (.t 83)),ZM 7 84] [true,true,true,true,true,true,true,true,true,true,true,true,true,true,true,true,true,true,true,true,true,true,false,false]) (.region [ZM 85 15,ZM 13 85] false))))) (.region [ZM 52 14,ZO 53 (.bin .add (.t 52) (.c (.int .i64 1))),ZM 14 53] false))))))))) .skip)) (.seq (ZR [ZO 16 (.mv (.c (.int .i64 0)))] (.block 4 (.loop (.seq (ZR [ZM 86 16,ZO 87 (.faddr 7 (.t 3)),ZO 88 (.load false 1 (.t 87)),ZO 89 (.len false (.t 88)),ZO 90 (.bin .lss (.t 86) (.t 89))] (.cond (.t 90) .skip (.exit 4))) (.seq (.block 5 (.seq (.region [ZM 93 2,ZM 94 93,ZG 95 (.load true 8 (.t 3)) 94 false,ZG 96 (.faddr 7 (.t 3)) 94 false,ZG 97 (.load false 1 (.t 96)) 94 false,ZG 98 (.mv (.t 16)) 94 false,ZG 99 (.iaddr 8 (.t 97) (.t 98)) 94 false,ZG 100 (.load true 8 (.t 99)) 94 false,ZG 101 (.call 41 [.t 95,.t 100]) 94 false,ZG 102 (.bin .lss (.t 101) (.c (.int .i64 0))) 94 false,ZO 103 (.pick (.t 94) (.c (.bool true)) (.t 102))] true) (.cond (.t 103) (.region [ZM 104 7,ZO 105 (.faddr 7 (.t 3)),ZO 106 (.load false 1 (.t 105)),ZM 107 16,ZO 108 (.iaddr 8 (.t 106) (.t 107)),ZO 109 (.load true 8 (.t 108)),ZM 110 1,ZO 111 (.call 14 [.t 109,.t 110,(.c (.bool false))]),ZO 112 (.app 6 72 [.int .i64 0,.int .i64 0,.int .i64 0,(.str []),.nilsl,(.bool false)] false (.t 104) (.t 111)),ZM 7 112] false) .skip))) (.region [ZM 91 16,ZO 92 (.bin .add (.t 91) (.c (.int .i64 1))),ZM 16 92] false)))))) (ZR [ZM 113 7,ZM 6 113] .ret)))))))
theorem closed_lnR (x:Ln):∀ y∈x.encR,Closed y:=by
 intro y hy;simp only [Ln.encR,List.mem_cons,List.not_mem_nil,or_false] at hy;rcases hy with rfl|rfl|rfl|rfl|rfl|rfl
 ·exact cI _
 ·exact cI _
 ·exact cI _
 ·exact cS _
 ·exact Zay _
 ·exact cB _
theorem closed_lnsR (l:List Ln):Closed (.sl 6 (l.map Ln.encR)):=Zam fun x _=>closed_lnR x
theorem sp_ref55_Body {u:Un} (hu:SmT u) (hn:(unitsT u).length≤1000) (w:Int):∀ root:Bool,Zaj Tryz.prog 14 [.agg u.enc,pI w,.bool root] (.sl 6 ((bodyB w root u).map Ln.encR)):=by
 induction hu with
 | mk u h hk hs ih =>
  intro root;have hu:SmT u:=.mk u h hk hs;rw [Zai,List.length_cons] at hn;have ih':∀ k∈u.kids,Zaj Tryz.prog 14 [.agg k.enc,pI w,.bool false] (.sl 6 ((bodyT w k).map Ln.encR)):=fun k hk'=>ih k hk' (by have:=Za4 hk';omega) false;clear ih;have CL:=fun k=>sp_ref55_caller h k;have OW:=sp_ref55_own h w;have NT:=fun a b ha hb=>sp_ref55_notes hu w a b ha hb;have hbe:=bodyB_eq w root u;have hpl:=preB_le h w root;have hkl:=kidsB_le hu w root;have hks:=fun k (hk:k<u.kids.length)=>kidsB_step (w:=w) (r:=root) (p:=u) hk;have hte:tiedU u=u.kids.any fun k=>decide (Zaf u k<0):=rfl;have hlen:=Zcv w u;have hle:=Zcf h w;have hof:=fun fr i hi hE=>ownF_step (w:=w) (u:=u) (t:=tiedU u) (fr:=fr) (i:=i) (l:=Zas w u) (E:=Za5 w (rowT u)) hi hE;have hol:ownL w u=ownF w u (tiedU u) 0 (Zas w u) (Za5 w (rowT u)):=rfl;have hEb:∀ e∈Za5 w (rowT u),e≤602:=by
   intro e he;by_cases hw0:Zbg w (rowT u)=0
   ·have hr:=Zb6 hw0;have hl:(rowT u).length≤602:=by rw [rowT_len];have:=h.head.1;have:=h.words.1;omega
    have key:∀ (E:List Nat) (a n:Nat),Zbj n a E=true→∀ e∈E,e≤n:=by
     intro E
     induction E with
     | nil=>intro _ _ _ e he;cases he
     | cons x r ih =>
      intro a n hr e he;rw [Zbj] at hr;simp only [Bool.and_eq_true,Bool.not_eq_true',Bool.or_eq_false_iff,decide_eq_false_iff_not] at hr;rcases List.mem_cons.1 he with rfl|he
      ·omega
      ·exact ih x n hr.2 e he
    have:=key _ _ _ hr e he;omega
   ·unfold Za5 at he;rw [if_neg hw0] at he;cases he
  have hhd:=h.head.1;generalize bodyB w root u=RES at hbe ⊢;refine Zad ?_ (closed_lnsR _) (by intro z hz;simp only [List.mem_cons,List.not_mem_nil,or_false] at hz;rcases hz with rfl|rfl|rfl;exact Zao _;exact cI _;exact cB _);refine Gn (vc:=c_pandectref55_Body) [.t 6] Tryz.func14 ?_;unfold c_pandectref55_Body;try dsimp only [ZM,ZO,ZN,ZG,ZR,ZU]
  have hue:=Un.Zag u;rw [hue] at CL OW NT ⊢;have hHl:(u.head.map Wd.enc).length=u.head.length:=List.length_map _;generalize u.head.map Wd.enc=EH at *;generalize u.words.map Wd.enc=EW at *;refine Rp0 [1,2,3] ?_;refine Zar [(1,pI w),(2,.bool root),(3,.ro [pI u.act,pI u.item,pI u.n,pI u.kind,.str u.label,.sl 4 EH,.sl 4 EW,.sl 8 (u.kids.map Un.enc)])] ⟨View.refl _ _,View.refl _ _,View.loc (z:=8) (fz:=false) (es:=[[pI u.act,pI u.item,pI u.n,pI u.kind,.str u.label,.sl 4 EH,.sl 4 EW,.sl 8 (u.kids.map Un.enc)]]) rfl (by simp) rfl (by simp),trivial⟩ ?_;generalize hKL:u.kids=KL at *;refine Rp0 [1,2,3,7] ?_;refine Rp0 [1,2,3,7,8] ?_;refine Zaa (Zbo (σ:=Unit) (fun _=>([(1,pI w),(2,.bool root),(3,.ro [pI u.act,pI u.item,pI u.n,pI u.kind,.str u.label,.sl 4 EH,.sl 4 EW,.sl 8 (KL.map Un.enc)]),(7,.own 1 0 0),(8,.bool (tiedU u))],⟨[(1,.arr false 6 [])],2⟩)) ?_ (fun _=>?_))
  ·refine Rp0 [1,2,3,7,8,9] ?_;refine Zab ?_;refine Zah (σ:={ k:Nat//k≤KL.length }) (fun k=>([(1,pI w),(2,.bool root),(3,.ro [pI u.act,pI u.item,pI u.n,pI u.kind,.str u.label,.sl 4 EH,.sl 4 EW,.sl 8 (KL.map Un.enc)]),(7,.own 1 0 0),(8,.bool ((KL.take k.1).any fun k=>decide (Zaf u k<0))),(9,pI k.1)],⟨[(1,.arr false 6 [])],2⟩)) (fun k=>KL.length-k.1) ⟨0,Nat.zero_le _⟩ ?_ ?_ ?_
   ·simp only [vmL,Nat.reduceEqDiff,Nat.reduceAdd,Nat.reduceLT,Nat.reduceLeDiff,Nat.reduceSub,Nat.reduceMul,reduceIte,reduceCtorEq,Int.reduceToNat,List.any_nil]
    first|done|rfl|exact ⟨rfl,rfl⟩
   ·exact Sr0
   rintro ⟨k,hk2⟩;simp only [];refine Zaa ?_;refine Rp1 [1,2,3,7,8,9,22] @xlm ?_;refine Zac rfl (fun h1=>?_) (fun h1=>?_)
   ·have ka:k<KL.length:=by simp only [decide_eq_true_eq] at h1;omega
    have hrow:(KL.map Un.enc).getD k []=KL[k].enc:=rowm ka;have C:=CL KL[k];have hst:(KL.take (k+1)).any (fun k=>decide (Zaf u k<0))=((KL.take k).any (fun k=>decide (Zaf u k<0))||decide (Zaf u KL[k]<0)):=by
     rw [List.take_add_one,List.getElem?_eq_getElem ka,Option.toList_some,List.any_append];simp
    generalize (KL.take k).any (fun k=>decide (Zaf u k<0))=tb at hst ⊢;generalize KL[k]=v at hrow C hst;rw [Un.Zag v] at hrow C;generalize hcv:Zaf u v=cv at C hst;refine Kp0 ?_;refine Zaa ?_;refine Zab ?_;cases tb with
    | true =>
     rw [Bool.true_or] at hst;refine VW_drawE 20 [1,2,3,7,8,9] (by simp) ?_;refine Sp0 ?_;refine rp1 [1,2,3,7,8,9] (ad1 (a:=k) (by omega)) ?_;refine ⟨⟨k+1,ka⟩,?_⟩;simp only [hst]
     all_goals exact Fn0
    | false =>
     rw [Bool.false_or] at hst;refine VW_drawE 20 [1,2,3,7,8,9] (by simp) ?_;refine Sp1 (x2 @xlm hrow) ?_;refine Ok ?_;refine ⟨_,.inl C,?_⟩;refine Sp0 ?_;refine rp1 [1,2,3,7,8,9] (ad1 (a:=k) (by omega)) ?_;refine ⟨⟨k+1,ka⟩,?_⟩;simp only [hst]
     all_goals exact Fn0
   ·have ka:k=KL.length:=by simp only [decide_eq_false_iff_not] at h1;omega
    subst ka;rw [List.take_length,← hte];refine Ep0 ?_;refine ⟨(),?_⟩;exact Fn0
  refine Zaa (Zbo (σ:={ x:Nat×Nat//x.1<x.2 }) (fun x=>([(1,pI w),(2,.bool root),(3,.ro [pI u.act,pI u.item,pI u.n,pI u.kind,.str u.label,.sl 4 EH,.sl 4 EW,.sl 8 (KL.map Un.enc)]),(7,.own x.1.1 0 (preB w root u).length)],⟨[(x.1.1,.arr false 6 ((preB w root u).map Ln.encR))],x.1.2⟩)) ?_ (fun x=>?_))
  ·cases root with
   | true =>
    have hp:preB w true u=[]:=rfl;rw [hp];refine Rp0 [1,2,3,7,37] ?_;refine Fp0 ?_;refine ⟨⟨(1,2),by simp⟩,?_⟩;exact Fn0
   | false =>
    have hp:preB w false u=ownL w u:=rfl;rw [hp] at hpl ⊢;rw [hol] at hpl ⊢;refine Rp0 [1,2,3,7,8,37] ?_;refine Ct ?_;generalize Zas w u=l at OW hlen hle hof hpl ⊢;generalize Za5 w (rowT u)=E at OW hlen hof hEb hpl ⊢;generalize tiedU u=td at hof hpl ⊢;unfold It.strs endsV at OW;refine Rp0 [1,2,3,7,8,10,11] ?_;refine Ap0 OW ?_;refine Rp1 [1,2,3,7,8,10,11,12] (x2 hHl (w64 (n:=2+(u.head.length:Int)) (by omega) (by omega))) ?_;refine Rp0 [1,2,3,7,8,10,11,12,13] ?_;refine Rp0 [1,2,3,7,8,10,11,12,13,14] ?_;refine Zab ?_;refine Zah (σ:={ x:Nat×Nat×List Ln×Nat×Nat//x.1≤l.length∧x.2.1≤602∧x.2.2.2.1<x.2.2.2.2∧ownF w u td 0 l E=x.2.2.1++ownF w u td x.2.1 (l.drop x.1) (E.drop x.1) }) (fun x=>([(1,pI w),(2,.bool false),(3,.ro [pI u.act,pI u.item,pI u.n,pI u.kind,.str u.label,.sl 4 EH,.sl 4 EW,.sl 8 (KL.map Un.enc)]),(7,.own x.1.2.2.2.1 0 x.1.2.2.1.length),(8,.bool td),(10,.sl 1 (l.map fun s=>[PV.str s])),(11,.sl 1 (E.map fun e=>[pI (e:Nat)])),(12,pI (2+(u.head.length:Int))),(13,pI x.1.2.1),(14,pI x.1.1)],⟨[(x.1.2.2.2.1,.arr false 6 (x.1.2.2.1.map Ln.encR))],x.1.2.2.2.2⟩)) (fun x=>l.length-x.1.1) ⟨(0,0,[],1,2),Nat.zero_le _,Nat.zero_le _,by simp,rfl⟩ ?_ ?_ ?_
    ·exact Fn0
    ·exact Sr0
    rintro ⟨⟨i,fr,acc,id,t⟩,hi,hfr,hid,hac⟩;simp only [] at hi hfr hid hac ⊢;refine Zaa ?_;refine Rp1 [1,2,3,7,8,10,11,12,13,14,51] @xlm ?_;refine Zac rfl (fun h1=>?_) (fun h1=>?_)
    ·have ka:i<l.length:=by simp only [decide_eq_true_eq] at h1;omega
     have ke:i<E.length:=by omega
     have hrow:(l.map fun s=>[PV.str s]).getD i []=[PV.str l[i]]:=rowm ka;have hrowE:(E.map fun e=>[pI (e:Nat)]).getD i []=[pI (E[i]:Nat)]:=rowm (enc:=fun e:Nat=>[pI (e:Nat)]) ke;have hst:=hof fr i ka ke;have hee:=hEb _ (List.getElem_mem ke);rw [hst] at hac;generalize l[i]=s at hrow hac;generalize E[i]=e at hrowE hac hee;have hto:toN u e≤602:=by unfold toN;omega
     have hN:=NT fr (toN u e) (by omega) (by omega);have htv:pI (toN u e:Nat)=if (e:Int)-(2+(u.head.length:Int))<0 then pI 0 else pI ((e:Int)-(2+(u.head.length:Int))):=by
      unfold toN;split
      ·congr 1;omega
      ·congr 1;omega
     generalize Zbb w u fr (toN u e)=NR at hN hac;unfold It.strs at hN;refine Kp0 ?_;refine Zaa ?_;refine Zab ?_;refine Rp1 [1,2,3,7,8,10,11,12,13,14,15] (x3 @xlm hrowE (w64 (n:=(e:Int)-(2+(u.head.length:Int))) (by omega) (by omega))) ?_;refine Ok ?_;refine Zaa (Zbo (σ:=Unit) (fun _=>([(1,pI w),(2,.bool false),(3,.ro [pI u.act,pI u.item,pI u.n,pI u.kind,.str u.label,.sl 4 EH,.sl 4 EW,.sl 8 (KL.map Un.enc)]),(7,.own id 0 acc.length),(8,.bool td),(10,.sl 1 (l.map fun s=>[PV.str s])),(11,.sl 1 (E.map fun e=>[pI (e:Nat)])),(12,pI (2+(u.head.length:Int))),(13,pI fr),(14,pI i),(15,pI (toN u e:Nat))],⟨[(id,.arr false 6 (acc.map Ln.encR))],t⟩)) ?_ (fun _=>?_))
     ·refine Rp0 [1,2,3,7,8,10,11,12,13,14,15,61] ?_;by_cases hneg:(e:Int)-(2+(u.head.length:Int))<0
      ·rw [if_pos hneg] at htv;rw [htv];refine Zac rfl (fun _=>?_) (fun h=>by simp at h;omega);refine rp0 [1,2,3,7,8,10,11,12,13,14,15] ?_;refine ⟨(),?_⟩;exact Fn0
      ·rw [if_neg hneg] at htv;rw [htv];refine Zac rfl (fun h=>by simp at h;omega) (fun _=>?_);refine Kp0 ?_;refine ⟨(),?_⟩;exact Fn0
     have hale:(acc.map Ln.encR).length=acc.length:=List.length_map _;have hacl:acc.length≤602:=by
      have:=congrArg List.length hac;rw [List.length_append] at this;omega
     have hatk:List.take acc.length (acc.map Ln.encR)=acc.map Ln.encR:=List.take_of_length_le (by omega);have hid3:(idU u).act=u.act∧(idU u).item=u.item∧(idU u).n=u.n:=⟨rfl,rfl,rfl⟩;have hlast:((i:Int)==(l.length:Int)-1)=(i+1==l.length):=by
      rw [Bool.eq_iff_iff,beq_iff_eq,beq_iff_eq];omega
     generalize hnd:({ id:=idU u,text:=s,notes:=NR,tied:=td&&i+1==l.length }:Ln)=nd at hac;have hnde:[[pI u.act,pI u.item,pI u.n,.str s,.sl 1 (NR.map fun s=>[PV.str s]),.bool (td&&i+1==l.length)]]=[nd.encR]:=by rw [← hnd];rfl
     have haccE:(acc++[nd]).map Ln.encR=acc.map Ln.encR++[nd.encR]:=by rw [List.map_append];rfl
     have haccL:(acc++[nd]).length=acc.length+1:=by simp
     have qq:=N3 id t (t+1);refine Zaa (Zbo (σ:=Unit) (fun _=>([(1,pI w),(2,.bool false),(3,.ro [pI u.act,pI u.item,pI u.n,pI u.kind,.str u.label,.sl 4 EH,.sl 4 EW,.sl 8 (KL.map Un.enc)]),(7,.own t 0 (acc.length+1)),(8,.bool td),(10,.sl 1 (l.map fun s=>[PV.str s])),(11,.sl 1 (E.map fun e=>[pI (e:Nat)])),(12,pI (2+(u.head.length:Int))),(14,pI i),(15,pI (toN u e:Nat))],⟨[(t,.arr false 6 (acc.map Ln.encR++[nd.encR]))],t+1⟩)) ?_ (fun _=>?_))
     ·cases td with
      | true =>
       rw [Bool.true_and] at hnde;refine VW_draw2E (t+10) [1,2,3,7,8,10,11,12,14,15] (by simp) ?_;refine Sp1 (x3 @xlm hrow (w64 (n:=(l.length:Int)-1) (by omega) (by omega))) ?_;refine Ok ?_;refine ⟨_,.inl hN,?_⟩;try simp only [vmL,Nat.reduceEqDiff,Nat.reduceAdd,Nat.reduceLT,Nat.reduceLeDiff,Nat.reduceSub,Nat.reduceMul,reduceIte,reduceCtorEq,Int.reduceToNat,List.length_map,hale,hatk,hlast,w64 (n:=(l.length:Int)-1) (by omega) (by omega),qq]
       refine ⟨by omega,by omega,by omega,(),?_⟩;rw [hnde]
      | false =>
       rw [Bool.false_and] at hnde;refine VW_draw2E (t+10) [1,2,3,7,8,10,11,12,14,15] (by simp) ?_;refine Sp1 (x2 @xlm hrow) ?_;refine Ok ?_;refine ⟨_,.inl hN,?_⟩;refine Sp1 (x3 hale hatk qq) ?_;refine ⟨by omega,by omega,by omega,(),?_⟩;rw [hnde]
     refine rp0 [1,2,3,7,8,10,11,12,13,14] ?_;refine rp1 [1,2,3,7,8,10,11,12,13,14] (ad1 (a:=i) (by omega)) ?_;refine ⟨⟨(i+1,toN u e,acc++[nd],t,t+1),ka,hto,by simp,by show _=acc++[nd]++_;rw [hac];simp⟩,?_⟩;simp only [haccE,haccL]
     all_goals exact Fn1 qq
    ·have ka:i=l.length:=by simp only [decide_eq_false_iff_not] at h1;omega
     subst ka;rw [List.drop_length] at hac;have hnil:ownF w u td fr [] (E.drop l.length)=[]:=by rw [ownF];intros;simp_all
     rw [hnil,List.append_nil] at hac;rw [hac];refine Ep0 ?_;refine ⟨⟨(id,t),hid⟩,?_⟩;try simp only [vmL,Nat.reduceEqDiff,Nat.reduceAdd,Nat.reduceLT,Nat.reduceLeDiff,Nat.reduceSub,Nat.reduceMul,reduceIte,reduceCtorEq,Int.reduceToNat,qq]
     all_goals (repeat' (first|rfl|trivial|omega|(simp only [];omega)|refine And.intro ?_ ?_))
     exact if_pos rfl
  obtain ⟨⟨id0,t0⟩,hid0⟩:=x;simp only [] at hid0 ⊢;have hk0:Zbw w root u []=[]:=by unfold Zbw;cases root<;>rfl
  have hkf:Zbw w root u (KL.take KL.length)=Zbw w root u KL:=by rw [List.take_length]
  generalize preB w root u=PB at hbe hpl ⊢;refine Zaa ?_;refine Rp0 [1,2,3,7,16] ?_;refine Zab ?_;refine Zah (σ:={ x:Nat×Nat×Nat//x.1≤KL.length∧x.2.1<x.2.2 }) (fun x=>([(1,pI w),(2,.bool root),(3,.ro [pI u.act,pI u.item,pI u.n,pI u.kind,.str u.label,.sl 4 EH,.sl 4 EW,.sl 8 (KL.map Un.enc)]),(7,.own x.1.2.1 0 (PB++Zbw w root u (KL.take x.1.1)).length),(16,pI x.1.1)],⟨[(x.1.2.1,.arr false 6 ((PB++Zbw w root u (KL.take x.1.1)).map Ln.encR))],x.1.2.2⟩)) (fun x=>KL.length-x.1.1) ⟨(0,id0,t0),Nat.zero_le _,hid0⟩ ?_ ?_ ?_
  ·simp only [vmL,Nat.reduceEqDiff,Nat.reduceAdd,Nat.reduceLT,Nat.reduceLeDiff,Nat.reduceSub,Nat.reduceMul,reduceIte,reduceCtorEq,Int.reduceToNat,hk0,List.append_nil]
   first|done|rfl|exact ⟨rfl,rfl⟩
  ·simp only [vmL,Nat.reduceEqDiff,Nat.reduceAdd,Nat.reduceLT,Nat.reduceLeDiff,Nat.reduceSub,Nat.reduceMul,reduceIte,reduceCtorEq,Int.reduceToNat,hk0,List.append_nil]
   first|done|rfl|exact ⟨rfl,rfl⟩
  rintro ⟨⟨k,id,t⟩,hkk,hid⟩;simp only [] at hkk hid ⊢;refine Zaa ?_;refine Rp1 [1,2,3,7,16,90] @xlm ?_;refine Zac rfl (fun h1=>?_) (fun h1=>?_)
  ·have ka:k<KL.length:=by simp only [decide_eq_true_eq] at h1;omega
   have hrow:(KL.map Un.enc).getD k []=KL[k].enc:=rowm ka;have C:=CL KL[k];have R:=ih' _ (List.getElem_mem ka);have hst:=hks k ka;have hle2:=hkl k;have hbl:=bodyT_le (hs _ (List.getElem_mem ka)) w;have hul:=Za4 (List.getElem_mem ka);generalize KL[k]=v at hrow C R hst hbl hul;rw [Un.Zag v] at hrow C R;generalize hcv:Zaf u v=cv at C hst;generalize hB:PB++Zbw w root u (KL.take k)=B at *;have hBl:B.length≤700000:=by
    rw [← hB,List.length_append];omega
   have hB':PB++Zbw w root u (KL.take (k+1))=B++(if (root||decide (cv<0))=true then bodyT w v else []):=by rw [hst,← List.append_assoc,hB]
   generalize bodyT w v=LV at R hbl hB';refine Kp0 ?_;refine Zaa ?_;refine Zab ?_;have qq:=N3 id t (t+1);refine Zaa (Zbo (σ:=Unit) (fun _=>([(1,pI w),(2,.bool root),(3,.ro [pI u.act,pI u.item,pI u.n,pI u.kind,.str u.label,.sl 4 EH,.sl 4 EW,.sl 8 (KL.map Un.enc)]),(7,.own id 0 B.length),(16,pI k),(103,.bool (root||decide (cv<0)))],⟨[(id,.arr false 6 (B.map Ln.encR))],t⟩)) ?_ (fun _=>?_))
   ·cases root with
    | true =>
     refine VW_drawE (t+10) [1,2,3,7,16,103] (by simp) ?_;refine Sp0 ?_;refine ⟨(),?_⟩;exact Fn1 qq
    | false =>
     refine VW_drawE (t+10) [1,2,3,7,16,103] (by simp) ?_;refine Sp1 (x2 @xlm hrow) ?_;refine Ok ?_;refine ⟨_,.inl C,?_⟩;refine Sp0 ?_;refine ⟨(),?_⟩;exact Fn1 qq
   cases hq:(root||decide (cv<0)) with
   | true =>
    rw [hq,if_pos rfl] at hB';refine Ct ?_;have hale:(B.map Ln.encR).length=B.length:=List.length_map _;have hatk:List.take B.length (B.map Ln.encR)=B.map Ln.encR:=List.take_of_length_le (by omega);have hlal:(LV.map Ln.encR).length=LV.length:=List.length_map _;refine rp1 [1,2,3,7,16] (x2 @xlm hrow) ?_;refine Ok ?_;refine Ap1 R (x4 hale hatk hlal qq) ?_;refine ⟨by omega,by omega,?_⟩;refine rp1 [1,2,3,7,16] (x2 (ad1 (a:=k) (by omega)) qq) ?_;refine ⟨⟨(k+1,t,t+1),ka,by simp⟩,?_⟩;simp only [hB',List.length_append,List.map_append]
    all_goals exact Fn1 qq
   | false =>
    rw [hq,if_neg Bool.false_ne_true,List.append_nil] at hB';refine Fp0 ?_;refine rp1 [1,2,3,7,16] (x2 (ad1 (a:=k) (by omega)) qq) ?_;refine ⟨⟨(k+1,id,t),ka,hid⟩,?_⟩;simp only [hB']
    all_goals exact Fn1 qq
  ·have ka:k=KL.length:=by simp only [decide_eq_false_iff_not] at h1;omega
   subst ka;rw [hkf,← hbe];refine Ep0 ?_;refine Rp0 [6] ?_;refine Tp0 ?_;exact View.own_all (fz:=false) (by simp [Heap.get,HL.get]) (by rw [List.length_map])
end Go.Proofs.YtcgdjembdjdlhaaGreatDoor.w
namespace Go.Proofs.YtcgdjembdjdlhaaGreatDoor.w
open Go Go.VM
def Zbk:VC:=(ZR [ZO 3 (.box 8 (.t 0)),ZO 6 (.mv (.c (.bool false)))] (.seq (ZR [ZO 16 (.call 9 []),ZO 17 (.un .not (.t 16)),ZM 18 17,ZG 19 (.load true 8 (.t 3)) 18 false,ZG 20 (.call 10 [.t 19]) 18 false,ZG 21 (.un .not (.t 20)) 18 false,ZO 22 (.pick (.t 18) (.c (.bool true)) (.t 21))] (.cond (.t 22) (ZR [ZO 23 (.call 9 []),ZM 6 23] .ret) .skip)) (ZR [ZO 25 (.load true 8 (.t 3)),ZM 26 1,ZM 27 2,ZO 28 (.call 11 [.t 25,.t 26,.t 27]),ZM 24 28,ZO 29 (.ext (.t 24) 0),ZO 30 (.ext (.t 24) 1),ZM 7 29,ZM 8 30] (.seq (ZR [ZM 31 8,ZO 32 (.bin .neq (.t 31) (.c (.int .i64 0)))] (.cond (.t 32) (ZR [ZM 33 7,ZO 34 (.len false (.t 33)),ZO 35 (.bin .eql (.t 34) (.c (.int .i64 0))),ZM 6 35] .ret) .skip)) (ZR [ZO 36 (.load true 8 (.t 3)),ZM 37 1,ZO 38 (.call 14 [.t 36,.t 37,(.c (.bool true))]),ZM 9 38] (ZR [ZO 10 (.mv (.c (.int .i64 0)))] (.seq (ZR [ZM 39 7,ZO 40 (.len false (.t 39)),ZO 41 (.mv (.c (.int .i64 0)))] (.block 0 (.loop (ZR [ZO 42 (.bin .lss (.t 41) (.t 40))] (.seq (.cond (.t 42) .skip (.exit 0)) (.seq (.block 1 (ZR [ZO 43 (.iaddr 4 (.t 39) (.t 41)),ZO 44 (.load true 4 (.t 43)),ZO 12 (.alloc [.int .i64 0,(.str []),.nilsl,.nilsl]),ZN (.store 4 (.t 12) (.t 44))] (ZR [ZO 45 (.fx (.mk0 1) []),ZM 13 45] (.seq (ZR [ZO 46 (.faddr 2 (.t 12)),ZO 47 (.load false 1 (.t 46)),ZO 48 (.len false (.t 47)),ZO 49 (.mv (.c (.int .i64 0)))] (.block 2 (.loop (ZR [ZO 50 (.bin .lss (.t 49) (.t 48))] (.seq (.cond (.t 50) .skip (.exit 2)) (.seq (.block 3 (ZR [ZO 51 (.iaddr 1 (.t 47) (.t 49)),ZO 52 (.load false 1 (.t 51)),ZM 15 52] (.seq (ZR [ZM 53 10,ZM 54 9,ZO 55 (.len false (.t 54)),ZO 56 (.bin .geq (.t 53) (.t 55)),ZM 57 56,ZG 58 (.mv (.t 9)) 57 false,ZG 59 (.mv (.t 10)) 57 false,ZG 60 (.iaddr 6 (.t 58) (.t 59)) 57 false,ZG 61 (.faddr 3 (.t 60)) 57 false,ZG 62 (.load false 1 (.t 61)) 57 false,ZG 63 (.mv (.t 15)) 57 false,ZG 64 (.bin .neq (.t 62) (.t 63)) 57 false,ZO 65 (.pick (.t 57) (.c (.bool true)) (.t 64))] (.cond (.t 65) (ZR [ZO 6 (.mv (.c (.bool false)))] .ret) .skip)) (ZR [ZM 66 13,ZM 67 9,ZM 68 10,ZO 69 (.iaddr 6 (.t 67) (.t 68)),ZO 70 (.faddr 4 (.t 69)),ZO 71 (.load false 1 (.t 70)),ZO 72 (.app 1 16 [(.str [])] false (.t 66) (.t 71)),ZM 13 72] (.region [ZM 73 10,ZO 74 (.bin .add (.t 73) (.c (.int .i64 1))),ZM 10 74] false))))) (.region [ZO 75 (.bin .add (.t 49) (.c (.int .i64 1))),ZM 49 75] false))))))) (ZR [ZM 76 10,ZO 77 (.bin .gtr (.t 76) (.c (.int .i64 0))),ZM 78 77,ZG 79 (.mv (.t 9)) 78 true,ZG 80 (.mv (.t 10)) 78 true,ZG 81 (.bin .sub (.t 80) (.c (.int .i64 1))) 78 true,ZG 82 (.iaddr 6 (.t 79) (.t 81)) 78 true,ZG 83 (.faddr 5 (.t 82)) 78 true,ZG 84 (.load false 1 (.t 83)) 78 true,ZO 85 (.pick (.t 78) (.t 84) (.c (.bool false))),ZM 86 85,ZG 87 (.mv (.t 13)) 86 false,ZG 88 (.faddr 3 (.t 12)) 86 false,ZG 89 (.load false 1 (.t 88)) 86 false,ZG 90 (.call 15 [.t 87,.t 89]) 86 false,ZG 91 (.un .not (.t 90)) 86 false,ZO 92 (.pick (.t 86) (.c (.bool true)) (.t 91))] (.cond (.t 92) (ZR [ZO 6 (.mv (.c (.bool false)))] .ret) .skip)))))) (.region [ZO 93 (.bin .add (.t 41) (.c (.int .i64 1))),ZM 41 93] false))))))) (ZR [ZM 94 10,ZM 95 9,ZO 96 (.len false (.t 95)),ZO 97 (.bin .eql (.t 94) (.t 96)),ZM 6 97] .ret))))))))
theorem law_PaginateKeepTogether (u:Un) (w m:Int) (hu:UnB u) (_:i64 w) (_:i64 m):Zaj Tryz.prog 4 [.agg u.enc,pI w,pI m] (.bool true):=by
 have A:=sp_awake;have F:=sp_few hu;have X:fewB u 40=true→∃ (hs:SmT u) (hn:(unitsT u).length≤1000),Zaj Tryz.prog 11 [.agg u.enc,pI w,pI m] (.tup [.sl 4 ((pagP u w m).1.map Pg.enc),pI (pagP u w m).2])∧Zaj Tryz.prog 14 [.agg u.enc,pI w,.bool true] (.sl 6 ((bodyP u w).map Ln.encR))∧(bodyP u w).length≤602000∧Zaw (bodyP u w)≤362404000:=by
  intro h;obtain ⟨hs,hn⟩:=few_small hu (by omega) (by omega) h;have hn':(unitsT u).length≤1000:=by omega
  have RB:=sp_ref55_Body hs hn' w true;rw [bodyB_P] at RB;exact ⟨hs,hn',sp_Paginate hs hn' w m,RB,body_le hs hn' w⟩
 refine Zad ?_ (cB _) (by intro y hy;simp only [List.mem_cons,List.not_mem_nil,or_false] at hy;rcases hy with rfl|rfl|rfl;exact Zao u;exact cI _;exact cI _);refine Gn (vc:=Zbk) [.t 6] Tryz.func4 ?_;unfold Zbk;try dsimp only [ZM,ZO,ZN,ZG,ZR,ZU]
 rw [Un.Zag u] at F X ⊢;generalize u.head.map Wd.enc=EH at *;generalize u.words.map Wd.enc=EW at *;generalize u.kids.map Un.enc=EK at *;refine Rp0 [1,2,3] ?_;refine Zaa ?_;cases hf:fewB u 40 with
 | false =>
  rw [hf] at F;refine Rp0 [22] ?_;refine Ap0 A ?_;refine Ap0 F ?_;refine Ct ?_;refine Rp0 [6] ?_;refine Ap0 A ?_;exact Tv0
 | true =>
  rw [hf] at F;obtain ⟨hs,hn,PP,RB,hBl,hBn⟩:=X hf;refine Rp0 [1,2,3,22] ?_;refine Ap0 A ?_;refine Ap0 F ?_;refine Fp0 ?_;have e0:(((0:Nat):Int)==0)=true:=rfl;rcases pagP_cases hs w m with ⟨hE,h0⟩|⟨P,hP,_,_,_,_,hI⟩
  ·rw [h0] at PP;generalize (pagP u w m).2=E at *;have e1:(E != 0)=true:=by simpa using hE
   refine Rp0 [1,3,7,8] ?_;refine Ap0 PP ?_;refine Zaa ?_;refine Rp1 [7,32] e1 ?_;refine Ct ?_;refine Zaa (Zae [6] ?_);simp only [vmL,Nat.reduceEqDiff,Nat.reduceAdd,Nat.reduceLT,Nat.reduceLeDiff,Nat.reduceSub,Nat.reduceMul,reduceIte,reduceCtorEq,Int.reduceToNat,List.map_nil,List.length_nil,e0];exact Tv0
  ·rw [hP] at PP;have e1:((0:Int) != 0)=false:=rfl;have hAl:((pgsF u 0 P).map Pg.enc).length=P.length:=by rw [List.length_map,pgsF_len]
   have hAg:=fun (k:Nat) (hk:k<P.length)=>pgs_row u hk;have hPl:P.length≤602000:=by
    have:=flat_count hI.ne;rw [hI.flat] at this;omega
   generalize (pgsF u 0 P).map Pg.enc=AE at PP hAl hAg;generalize hB:bodyP u w=B at *;have hBf:=hI.flat
   have hBel:(B.map Ln.encR).length=B.length:=List.length_map _;have hBg:∀ (k:Nat) (hk:k<B.length),(B.map Ln.encR).getD k []=B[k].encR:=fun k hk=>rowm hk;generalize B.map Ln.encR=BE at RB hBel hBg;refine Rp0 [1,3,7,8] ?_;refine Ap0 PP ?_;refine Zaa ?_;refine Rp1 [1,3,7,32] e1 ?_;refine Fp0 ?_;refine Rp0 [7,9] ?_;refine Ap0 RB ?_;refine Rp0 [7,9,10] ?_;refine Zaa ?_;refine Rp1 [9,10,39,40,41] hAl ?_;refine Zab ?_;refine Zah (σ:={ x:Nat×Nat//x.1≤P.length }) (fun x=>([(9,.sl 6 BE),(10,pI (P.take x.1.1).flatten.length),(39,.sl 4 AE),(40,pI P.length),(41,pI x.1.1)],⟨[],x.1.2⟩)) (fun x=>P.length-x.1.1) ⟨(0,1),Nat.zero_le _⟩ ?_ ?_ ?_
   ·simp only [vmL,Nat.reduceEqDiff,Nat.reduceAdd,Nat.reduceLT,Nat.reduceLeDiff,Nat.reduceSub,Nat.reduceMul,reduceIte,reduceCtorEq,Int.reduceToNat,List.take_zero,List.flatten_nil]
    first|done|rfl|exact ⟨rfl,rfl⟩
   ·exact Sc0
   rintro ⟨⟨k,t0⟩,hk⟩;simp only [] at hk ⊢;have qq:=N3 t0 (t0+1) (t0+2);refine Rp0 [9,10,39,40,41,42] ?_;refine Zaa ?_;refine Zac rfl (fun h1=>?_) (fun h1=>?_)
   ·have ka:k<P.length:=by simp only [decide_eq_true_eq] at h1;omega
    have hrow:=hAg k ka;have hat:=fun (j:Nat) (hj:j<P[k].length)=>flat_at ka hj;have hnx:=flat_next ka;have hne:=hI.ne _ (List.getElem_mem ka);have hlast:=hI.last _ (List.getElem_mem ka);have hnn:Zaw P[k]≤362404000:=by
     have e:B=(P.take k).flatten++P[k]++(P.drop (k+1)).flatten:=by
      rw [← hBf]
      conv=>lhs;rw [← List.take_append_drop k P,List.flatten_append,List.drop_eq_getElem_cons ka,List.flatten_cons,← List.append_assoc]
     have:=notesN_sub (a:=(P.take k).flatten) (b:=P[k]) (c:=(P.drop (k+1)).flatten);rw [← e] at this;omega
    rw [hBf] at hat
    generalize P[k]=N at *;generalize (P.take k).flatten.length=a at *;have hpos:0<N.length:=List.length_pos_iff.2 hne;have hin:a+(N.length-1)<B.length:=(hat (N.length-1) (by omega)).1;unfold pageP Pg.enc at hrow;simp only [] at hrow;generalize headT u _ _=H at hrow;have hTl:((N.map Ln.text).map fun s=>[PV.str s]).length=N.length:=by rw [List.length_map,List.length_map]
    have hTg:∀ (j:Nat) (hj:j<N.length),((N.map Ln.text).map fun s=>[PV.str s]).getD j []=[PV.str N[j].text]:=fun j hj=>by
     rw [List.getD_eq_getElem?_getD,List.getElem?_map,List.getElem?_map,List.getElem?_eq_getElem hj];rfl
    have T:=sp_Texts (N.flatMap Ln.notes) (N.flatMap Ln.notes) (by rw [fn_len];omega) (by rw [fn_len];omega);rw [beq_self_eq_true] at T;unfold It.strs at T;generalize ((N.map Ln.text).map fun s=>[PV.str s])=TE at hrow hTl hTg;refine Kp0 ?_;refine Zaa ?_;refine Zab ?_;refine Rp1 [9,10,12,39,40,41] (x3 hAl hrow qq) ?_;refine Ok ?_;refine Rp1 [9,10,12,13,39,40,41] qq ?_;refine Zaa ?_;refine Rp1 [9,10,12,13,39,40,41,47,48,49] (x2 hTl qq) ?_;refine Zab ?_;refine Zah (σ:={ x:Nat×Nat×Nat//x.1≤N.length∧t0<x.2.1∧x.2.1<x.2.2 }) (fun x=>([(9,.sl 6 BE),(10,pI ((a+x.1.1:Nat):Int)),(12,.loc t0 0 0),(13,.own x.1.2.1 0 ((N.take x.1.1).flatMap Ln.notes).length),(39,.sl 4 AE),(40,pI P.length),(41,pI k),(47,.sl 1 TE),(48,pI N.length),(49,pI x.1.1)],⟨[(x.1.2.1,.arr false 1 (((N.take x.1.1).flatMap Ln.notes).map fun s=>[PV.str s])),(t0,.arr false 4 [[pI ((k+1:Nat):Int),.str H,.sl 1 TE,.sl 1 ((N.flatMap Ln.notes).map fun s=>[PV.str s])]])],x.1.2.2⟩)) (fun x=>N.length-x.1.1) ⟨(0,t0+1,t0+2),Nat.zero_le _,by show t0<t0+1;omega,by show t0+1<t0+2;omega⟩ ?_ ?_ ?_
    ·simp only [vmL,Nat.reduceEqDiff,Nat.reduceAdd,Nat.reduceLT,Nat.reduceLeDiff,Nat.reduceSub,Nat.reduceMul,reduceIte,reduceCtorEq,Int.reduceToNat,List.take_zero,List.flatMap_nil,qq]
     first|done|rfl|exact ⟨rfl,rfl⟩
    ·simp only [vmL,Nat.reduceEqDiff,Nat.reduceAdd,Nat.reduceLT,Nat.reduceLeDiff,Nat.reduceSub,Nat.reduceMul,reduceIte,reduceCtorEq,Int.reduceToNat,List.take_zero,List.flatMap_nil,List.map_nil,qq]
     first|done|trivial|exact ⟨Nat.le_refl _,rfl,rfl,trivial⟩
    rintro ⟨⟨j,id,t⟩,hj,hid,hit⟩;simp only [] at hj hid hit ⊢;have qq:=N4 t0 id t (t+1);refine Rp1 [9,10,12,13,39,40,41,47,48,49,50] qq ?_;refine Zaa ?_;refine Zac rfl (fun h2=>?_) (fun h2=>?_)
    ·have ja:j<N.length:=by simp only [decide_eq_true_eq] at h2;omega
     have hst:=fn_step ja;obtain ⟨hin2,hat2⟩:=hat j ja;have hrb:=hBg (a+j) hin2;rw [hat2] at hrb;have hrt:=hTg j ja;have hb2:((N.take (j+1)).flatMap Ln.notes).length≤362404000:=by rw [fn_len];exact Nat.le_trans (notesN_take N (j+1)) hnn
     rw [hst,List.length_append] at hb2;generalize N[j]=x at hst hrb hrt hb2;have hx:x.encR=[pI x.id.act,pI x.id.item,pI x.id.n,.str x.text,.sl 1 (x.notes.map fun s=>[PV.str s]),.bool x.tied]:=rfl;rw [hx] at hrb;have hs2:((N.take (j+1)).flatMap Ln.notes).map (fun s=>[PV.str s])=((N.take j).flatMap Ln.notes).map (fun s=>[PV.str s])++x.notes.map (fun s=>[PV.str s]):=by rw [hst,List.map_append]
     have hs2l:((N.take (j+1)).flatMap Ln.notes).length=((N.take j).flatMap Ln.notes).length+x.notes.length:=by rw [hst,List.length_append]
     generalize (N.take j).flatMap Ln.notes=C at hs2 hs2l hb2 ⊢;have hCl:(C.map fun s=>[PV.str s]).length=C.length:=List.length_map _;have hNl:(x.notes.map fun s=>[PV.str s]).length=x.notes.length:=List.length_map _;generalize (C.map fun s=>[PV.str s])=CE at hs2 hCl ⊢;generalize (x.notes.map fun s=>[PV.str s])=NE at *;have hCt:CE.take C.length=CE:=List.take_of_length_le (by omega);have g1:decide (((a+j:Nat):Int)≥(B.length:Int))=false:=decide_eq_false (by omega);have g2:(x.text != x.text)=false:=by simp
     refine Kp0 ?_;refine Zaa ?_;refine Zab ?_;refine Rp1 [9,10,12,13,15,39,40,41,47,48,49] (x3 hTl hrt qq) ?_;refine Ok ?_;refine Zaa ?_;refine Rp1 [9,10,12,13,39,40,41,47,48,49,65] (x5 hBel g1 hrb g2 qq) ?_;refine Ok ?_;refine Fp0 ?_;refine Zaa (Zae [9,10,12,13,39,40,41,47,48,49] ?_);simp only [vmL,Nat.reduceEqDiff,Nat.reduceAdd,Nat.reduceLT,Nat.reduceLeDiff,Nat.reduceSub,Nat.reduceMul,reduceIte,reduceCtorEq,Int.reduceToNat,hBel,hrb,hCl,hCt,hNl,qq];refine ⟨⟨by omega,by omega⟩,by omega,by omega,?_⟩;refine rp1 [9,10,12,13,39,40,41,47,48,49] (x2 (ad1 (a:=a+j) (by omega)) qq) ?_;refine rp1 [9,10,12,13,39,40,41,47,48,49] (x2 (ad1 (a:=j) (by omega)) qq) ?_;refine ⟨⟨(j+1,t,t+1),ja,by show t0<t;omega,Nat.lt_succ_self _⟩,?_⟩;simp only [hs2,hs2l,← Nat.add_assoc]
     all_goals exact Fn1 qq
    ·have ja:j=N.length:=by simp only [decide_eq_false_iff_not] at h2;omega
     subst ja;rw [List.take_length];obtain ⟨hin2,hat2⟩:=hat (N.length-1) (by omega);have hrb:=hBg (a+(N.length-1)) hin2;rw [hat2] at hrb;have htd:N[N.length-1].tied=false:=hlast _ (by rw [List.getLast?_eq_getElem?,List.getElem?_eq_getElem (by omega)]);generalize N[N.length-1]=x at hrb htd;have hx:x.encR=[pI x.id.act,pI x.id.item,pI x.id.n,.str x.text,.sl 1 (x.notes.map fun s=>[PV.str s]),.bool x.tied]:=rfl;rw [hx,htd] at hrb;have g1:decide (((a+N.length:Nat):Int)>0)=true:=decide_eq_true (by omega);have g3:IntKind.i64.wrap (((a+N.length:Nat):Int)-1)=((a+(N.length-1):Nat):Int):=by rw [w64 (by omega) (by omega)];omega
     refine Ep0 ?_;refine Rp1 [9,10,39,40,41,92] (x5 g1 g3 hBel hrb qq) ?_;refine ⟨⟨by omega,by omega⟩,?_⟩;refine ACall_f [.sl 1 ((N.flatMap Ln.notes).map fun s=>[PV.str s]),.sl 1 ((N.flatMap Ln.notes).map fun s=>[PV.str s])] ⟨View.own_all (fz:=false) (by simp [Heap.get,HL.get]) (by simp),View.refl _ _,trivial⟩ (Zan T ?_);refine Sp1 (x2 g1 qq) ?_;refine Fp0 ?_;refine rp1 [9,10,39,40,41] (x2 (ad1 (a:=k) (by omega)) qq) ?_;refine ⟨⟨(k+1,t),ka⟩,?_⟩;simp only [hnx]
     all_goals exact Fn1 qq
   ·have ka:k=P.length:=by simp only [decide_eq_false_iff_not] at h1;omega
    subst ka;rw [List.take_length,hBf];refine Ep0 ?_;refine Rp1 [6] hBel ?_;exact Tv0
end Go.Proofs.YtcgdjembdjdlhaaGreatDoor.w
