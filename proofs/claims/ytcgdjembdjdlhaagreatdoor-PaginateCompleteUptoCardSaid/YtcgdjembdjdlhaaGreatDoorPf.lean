import Derived.Test.YtcgdjembdjdlhaaGreatDoorYp
import Derived.Test.YtcgdjembdjdlhaaGreatDoorGc
import Derived.Test.YtcgdjembdjdlhaaGreatDoorYa
import Derived.Test.YtcgdjembdjdlhaaGreatDoorVmPk
set_option linter.all false
set_option maxRecDepth 20000
set_option maxHeartbeats 0
namespace Go.VM
open Go
def Zc0 (l:List Ln):Prop:=∀ x,l.getLast?=some x→x.tied=false
theorem lastOk_app {a b:List Ln} (hb:b≠[]) (h:Zc0 b):Zc0 (a++b):=by
 intro x hx;rw [List.getLast?_append] at hx;cases hl:b.getLast? with
 | none=>exact absurd (List.getLast?_eq_none_iff.1 hl) hb
 | some y =>
  rw [hl] at hx;simp only [Option.some_or,Option.some.injEq] at hx;subst hx;exact h _ hl
theorem ownF_last (w:Int) (u:Un) (t:Bool):∀ (l:List Str) (E:List Nat) (fr:Nat),l.length=E.length→∀ x,(ownF w u t fr l E).getLast?=some x→x.tied=t
 | [],E,fr,_,x,h=>by unfold ownF at h;simp at h
 | s::l,[],fr,hl,x,h=>by simp at hl
 | s::l,e::E,fr,hl,x,h=>by
  unfold ownF at h;rw [List.getLast?_cons] at h;have hl':l.length=E.length:=by simpa using hl
  cases hr:(ownF w u t (toN u e) l E).getLast? with
  | none =>
   rw [hr] at h;simp only [Option.getD_none,Option.some.injEq] at h;have hn:=List.getLast?_eq_none_iff.1 hr;have he:l=[]:=by
    cases l with
    | nil=>rfl
    | cons a r =>
     cases E with
     | nil=>simp at hl'
     | cons b q=>unfold ownF at hn;cases hn
   subst h;simp [he]
  | some y =>
   rw [hr] at h;simp only [Option.getD_some,Option.some.injEq] at h;subst h;exact ownF_last w u t l E _ hl' _ hr
theorem body_last {u:Un} (hu:SmT u) {w:Int}:(∀ x∈unitsT u,Zbg w (rowT x)=0)→bodyT w u≠[]∧Zc0 (bodyT w u):=by
 induction hu with
 | mk u h hk hs ih =>
  intro hw;have ih':∀ k∈u.kids,bodyT w k≠[]∧Zc0 (bodyT w k):=fun k hk'=>ih k hk' fun x hx=>hw x (Zbv hk' hx);rw [bodyT_eq];have hpos:0<(Zas w u).length:=Go.Proofs.YtcgdjembdjdlhaaGreatDoor.w.lines_pos (hw u (Za6 u));have hown:ownL w u≠[]:=by
   intro h0;unfold ownL at h0;have hl:=Zcv w u;cases hl1:Zas w u with
   | nil=>rw [hl1] at hpos;simp at hpos
   | cons a r =>
    rw [hl1] at hl h0;cases he:Za5 w (rowT u) with
    | nil=>rw [he] at hl;simp at hl
    | cons b q=>rw [he] at h0;unfold ownF at h0;cases h0
  refine ⟨by simp [hown],?_⟩;have key:∀ L:List Un,(∀ k∈L,k∈u.kids)→(bodyL w u L=[]∧∀ k∈L,¬ Zaf u k<0)∨(bodyL w u L≠[]∧Zc0 (bodyL w u L)):=by
   intro L
   induction L with
   | nil=>intro _;exact .inl ⟨by rw [bodyL],fun k hk=>by cases hk⟩
   | cons a r ihr =>
    intro hL;have ha:=ih' a (hL a List.mem_cons_self);rcases ihr fun k hk=>hL k (List.mem_cons_of_mem _ hk) with ⟨h1,h2⟩|⟨h1,h2⟩
    ·by_cases hc:Zaf u a<0
     ·right
      rw [bodyL,if_pos hc,h1,List.append_nil];exact ha
     ·left
      rw [bodyL,if_neg hc,h1];exact ⟨rfl,fun k hk=>by
       rcases List.mem_cons.1 hk with rfl|hk
       ·exact hc
       ·exact h2 k hk⟩
    ·right
     rw [bodyL];exact ⟨by simp [h1],lastOk_app h1 h2⟩
  rcases key u.kids fun k hk=>hk with ⟨h1,h2⟩|⟨h1,h2⟩
  ·rw [h1,List.append_nil];intro x hx;have:=ownF_last w u (tiedU u) (Zas w u) (Za5 w (rowT u)) 0 (Zcv w u) x hx;rw [this];unfold tiedU;rw [Bool.eq_false_iff];intro ht;obtain ⟨k,k1,k2⟩:=List.any_eq_true.1 ht;exact h2 k k1 (by simpa using k2)
  ·exact lastOk_app h1 h2
theorem kids_last {u:Un} (hu:SmT u) {w:Int} (hw:∀ x∈unitsL u.kids,Zbg w (rowT x)=0):Zc0 (Zbw w true u u.kids):=by
 unfold Zbw;rw [if_pos rfl];have key:∀ L:List Un,(∀ k∈L,k∈u.kids)→Zc0 (L.flatMap (bodyT w)):=by
  intro L
  induction L with
  | nil=>intro _ x hx;simp at hx
  | cons a r ihr =>
   intro hL;have ha:=body_last (hu.kids.2 a (hL a List.mem_cons_self)) (w:=w) fun x hx=>hw x (by
    rw [Zaz];exact List.mem_flatMap.2 ⟨a,hL a List.mem_cons_self,hx⟩)
   have hr:=ihr fun k hk=>hL k (List.mem_cons_of_mem _ hk);rw [List.flatMap_cons];by_cases h0:r.flatMap (bodyT w)=[]
   ·rw [h0,List.append_nil];exact ha.2
   ·exact lastOk_app h0 hr
 exact key u.kids fun k hk=>hk
theorem grp_last:∀ (l acc:List Ln),Zc0 (acc++l)→∀ g∈grpG acc l,Zc0 g
 | [],acc,h,g,hg=>by
  unfold grpG at hg;split at hg
  ·cases hg
  ·rw [List.mem_singleton] at hg;subst hg;simpa using h
 | x::r,acc,h,g,hg=>by
  unfold grpG at hg;split at hg
  ·exact grp_last r (acc++[x]) (by simpa using h) g hg
  ·rename_i ht;rcases List.mem_cons.1 hg with rfl|hg
   ·intro y hy;rw [List.getLast?_append] at hy;simp only [List.getLast?_singleton,Option.some_or,Option.some.injEq] at hy;subst hy
    simpa using ht
   ·refine grp_last r [] ?_ g hg;intro y hy;rw [List.nil_append] at hy;refine h y ?_;rw [List.getLast?_append,List.getLast?_cons,hy];rfl
end Go.VM
namespace Go.VM
open Go
theorem addG_last {m:Int} {s s':List (List Ln)×List Ln} {g:List Ln} (h1:∀ l∈s.1,Zc0 l) (h2:Zc0 s.2) (hg:g≠[]) (hg2:Zc0 g) (h:addG m (some s) g=some s'):(∀ l∈s'.1,Zc0 l)∧Zc0 s'.2:=by
 obtain ⟨D,N⟩:=s;rw [addG_eq] at h;split at h
 ·cases h
 split at h
 ·simp only [Option.some.injEq] at h;subst h;refine ⟨fun l hl=>?_,hg2⟩;rcases List.mem_append.1 hl with hl|hl
  ·exact h1 l hl
  ·rw [List.mem_singleton] at hl;subst hl;exact h2
 ·simp only [Option.some.injEq] at h;subst h;exact ⟨h1,lastOk_app hg hg2⟩
theorem lastG_fold {m:Int}:∀ (G:List (List Ln)) {s s':List (List Ln)×List Ln},(∀ l∈s.1,Zc0 l)→Zc0 s.2→(∀ g∈G,g≠[]∧Zc0 g)→G.foldl (addG m) (some s)=some s'→(∀ l∈s'.1,Zc0 l)∧Zc0 s'.2
 | [],s,s',h1,h2,_,h=>by simp only [List.foldl_nil,Option.some.injEq] at h;subst h;exact ⟨h1,h2⟩
 | g::r,s,s',h1,h2,hG,h=>by
  rw [List.foldl_cons] at h;cases hs:addG m (some s) g with
  | none=>rw [hs,addG_none] at h;cases h
  | some s2 =>
   rw [hs] at h;obtain ⟨a,b⟩:=addG_last h1 h2 (hG g List.mem_cons_self).1 (hG g List.mem_cons_self).2 hs;exact lastG_fold r a b (fun x hx=>hG x (List.mem_cons_of_mem _ hx)) h
structure PgsI (m : Int) (B : List Ln) (P : List (List Ln)) : Prop where
 flat : P.flatten = B
 ne : ∀ l ∈ P, l ≠ []
 hi : ∀ l ∈ P, (Zb3 l : Int) ≤ m
 last : ∀ l ∈ P, Zc0 l
theorem pagesG_inv {m:Int} {B:List Ln} {P:List (List Ln)} (hB:Zc0 B) (h:pagesG m B=some P):PgsI m B P:=by
 unfold pagesG at h;obtain ⟨s,hs,rfl⟩:=Option.map_eq_some_iff.1 h;have hne:=fun g hg=>grpG_ne B [] g hg;have I:=pagG_inv hne hs;have hl:=lastG_fold (grpG [] B) (s:=([],[])) (fun l h=>by cases h) (fun x h=>by cases h) (fun g hg=>⟨hne g hg,grp_last B [] hB g hg⟩) hs;have hf:=I.flat
 rw [grpG_flat,List.nil_append] at hf;obtain ⟨D,N⟩:=s;show PgsI m B (if N=[] then D else D++[N]);have h1:=I.ne;have h2:=I.hi;have h3:=I.now;simp only [] at hf h1 h2 h3 hl;by_cases h0:N=[]
 ·rw [if_pos h0];subst h0;rw [List.append_nil] at hf;exact ⟨hf,h1,h2,hl.1⟩
 ·rw [if_neg h0];refine ⟨by rw [List.flatten_append];simpa using hf,fun l h=>?_,fun l h=>?_,fun l h=>?_⟩
  all_goals rcases List.mem_append.1 h with h|h
  ·exact h1 l h
  ·rw [List.mem_singleton] at h;subst h;exact h0
  ·exact h2 l h
  ·rw [List.mem_singleton] at h;subst h;exact h3 h0
  ·exact hl.1 l h
  ·rw [List.mem_singleton] at h;subst h;exact hl.2
end Go.VM
namespace Go.Proofs.YtcgdjembdjdlhaaGreatDoor.w
open Go Go.VM
theorem pagP_cases {u:Un} (hs:SmT u) (w m:Int):((pagP u w m).2≠0∧(pagP u w m).1=[])∨∃ P,pagP u w m=(pgsF u 0 P,0)∧Zcm u w=0∧2≤m∧m≤200∧pagesG m (bodyP u w)=some P∧PgsI m (bodyP u w) P:=by
 unfold pagP;by_cases hw:Zcm u w=0
 ·rw [if_pos hw];by_cases hm:m<2∨200<m
  ·rw [if_pos hm];exact .inl ⟨by simp,rfl⟩
  ·rw [if_neg hm];cases hg:pagesG m (bodyP u w) with
   | none=>exact .inl ⟨by simp,rfl⟩
   | some P =>
    obtain ⟨hr,h1,h2⟩:=good_wrong hs hw;have hl:Zc0 (bodyP u w):=kids_last hs fun x hx=>(good_all hs hr h1 h2 x hx).1;exact .inr ⟨P,rfl,hw,by omega,by omega,rfl,pagesG_inv hl hg⟩
 ·rw [if_neg hw];exact .inl ⟨hw,rfl⟩
theorem pgsF_get (u:Un):∀ (P:List (List Ln)) (n k:Nat) (hk:k<P.length),(pgsF u n P)[k]?=some (pageP u ((n+k+1:Nat):Int) P[k])
 | a::P,n,0,hk=>rfl
 | a::P,n,k+1,hk=>by
  have h:k<P.length:=by simpa using hk
  rw [pgsF,List.getElem?_cons_succ,pgsF_get u P (n+1) k h,show n+1+k+1=n+(k+1)+1 by omega];rfl
theorem pgs_row (u:Un) {P:List (List Ln)} {k:Nat} (hk:k<P.length):((pgsF u 0 P).map Pg.enc).getD k []=(pageP u ((k+1:Nat):Int) P[k]).enc:=by
 rw [List.getD_eq_getElem?_getD,List.getElem?_map,pgsF_get u P 0 k hk,Nat.zero_add];rfl
theorem body_le {u:Un} (hs:SmT u) (hn:(unitsT u).length≤1000) (w:Int):(bodyP u w).length≤602000∧Zaw (bodyP u w)≤362404000:=by
 have h1:=kidsB_le hs w true u.kids.length;rw [List.take_length] at h1;have h2:=notes_kids hs hn w;rw [Zai,List.length_cons] at hn;unfold bodyP;omega
end Go.Proofs.YtcgdjembdjdlhaaGreatDoor.w
namespace Go.Proofs.YtcgdjembdjdlhaaGreatDoor.w
open Go Go.VM
end Go.Proofs.YtcgdjembdjdlhaaGreatDoor.w
namespace Go.Proofs.YtcgdjembdjdlhaaGreatDoor.w
open Go Go.VM
end Go.Proofs.YtcgdjembdjdlhaaGreatDoor.w
namespace Go.Proofs.YtcgdjembdjdlhaaGreatDoor.w
open Go Go.VM
end Go.Proofs.YtcgdjembdjdlhaaGreatDoor.w
