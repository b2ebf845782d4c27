import Derived.Test.YtcgdjembdjdlhaaGreatDoorPf
import Derived.Test.YtcgdjembdjdlhaaGreatDoorYp
import Derived.Test.YtcgdjembdjdlhaaGreatDoorVmPk
set_option linter.all false
set_option maxRecDepth 20000
set_option maxHeartbeats 0
namespace Go.VM
open Go Go.Proofs.YtcgdjembdjdlhaaGreatDoor.w
theorem fold_none {m:Int}:∀ (G:List (List Ln)) (s:List (List Ln)×List Ln),G.foldl (addG m) (some s)=none↔∃ g∈G,m<(Zb3 g:Int)
 | [],s=>by simp
 | g::r,(D,N)=>by
  rw [List.foldl_cons,addG_eq];split
  ·rename_i h;rw [addG_none];exact ⟨fun _=>⟨g,List.mem_cons_self,h⟩,fun _=>rfl⟩
  ·rename_i h;have key:(∃ x∈g::r,m<(Zb3 x:Int))↔∃ x∈r,m<(Zb3 x:Int):=by
    constructor
    ·rintro ⟨x,hx,hh⟩;rcases List.mem_cons.1 hx with rfl|hx
     ·exact absurd hh h
     ·exact ⟨x,hx,hh⟩
    ·rintro ⟨x,hx,hh⟩;exact ⟨x,List.mem_cons_of_mem _ hx,hh⟩
   rw [key];split<;>exact fold_none r _
theorem pagesG_mono {m m':Int} {B:List Ln} {P:List (List Ln)} (h:pagesG m B=some P) (hm:m≤m'):∃ P',pagesG m' B=some P':=by
 unfold pagesG pagG at h ⊢;cases h1:(grpG [] B).foldl (addG m') (some ([],[])) with
 | some s=>exact ⟨_,rfl⟩
 | none =>
  obtain ⟨g,hg,hh⟩:=(fold_none _ _).1 h1;have:(grpG [] B).foldl (addG m) (some ([],[]))=none:=(fold_none _ _).2 ⟨g,hg,by omega⟩;rw [this] at h;cases h
theorem highL_mono {a b c:List Ln}:Zb3 b≤Zb3 (a++b++c):=by
 have:=notesN_sub (a:=a) (b:=b) (c:=c);have:up1 (Zaw b)≤up1 (Zaw (a++b++c)):=by unfold up1;split<;>split<;>omega
 unfold Zb3;simp only [List.length_append];omega
theorem fold_one {m:Int}:∀ (G:List (List Ln)) (N:List Ln),(Zb3 (N++G.flatten):Int)≤m→G.foldl (addG m) (some ([],N))=some ([],N++G.flatten)
 | [],N,_=>by simp
 | g::r,N,h=>by
  rw [List.flatten_cons] at h;have h1:=highL_mono (a:=N) (b:=g) (c:=r.flatten);have h2:=highL_mono (a:=[]) (b:=N++g) (c:=r.flatten);rw [List.nil_append] at h2;rw [List.append_assoc] at h1 h2;rw [List.foldl_cons,addG_on (by omega) (.inr (by omega)),fold_one r (N++g) (by rw [List.append_assoc];exact h),List.flatten_cons,List.append_assoc]
theorem pages_one {m:Int} {B:List Ln} (h0:B≠[]) (h:(Zb3 B:Int)≤m):pagesG m B=some [B]:=by
 have hf:=grpG_flat B [];rw [List.nil_append] at hf;unfold pagesG pagG;rw [fold_one _ _ (by rw [List.nil_append,hf];exact h),List.nil_append,hf];show some (if B=[] then [] else []++[B])=_;rw [if_neg h0];rfl
theorem pages_ne {m:Int} {B:List Ln} {P:List (List Ln)} (I:PgsI m B P) (h0:B≠[]):1≤P.length:=by
 cases hP:P with
 | nil=>have:=I.flat;rw [hP] at this;exact absurd this.symm h0
 | cons a r=>simp
def cntK (w:Int) (u:Un) (a b:Nat) (ks:List Un):Nat:=(ks.map fun k=>if (a:Int)≤Zaf u k∧Zaf u k<(b:Int) then (Zas w k).length else 0).sum
theorem cntK_step (w:Int) (u:Un) (a b:Nat) (h:a≤b):∀ ks:List Un,cntK w u a (b+1) ks=cntK w u a b ks+(Zbz w u b ks).length
 | []=>rfl
 | k::ks=>by
  have ih:=cntK_step w u a b h ks;unfold cntK at ih ⊢;unfold Zbz at ih ⊢;rw [List.map_cons,List.map_cons,List.sum_cons,List.sum_cons,ih,List.filter_cons];by_cases e:Zaf u k=(b:Int)
  ·rw [if_pos (by omega),if_neg (by omega),if_pos (by simpa using e),List.flatMap_cons,List.length_append];omega
  ·rw [if_neg (c:=(Zaf u k==(b:Int))=true) (by simpa using e)];by_cases e2:(a:Int)≤Zaf u k∧Zaf u k<(b:Int)
   ·rw [if_pos (by omega),if_pos e2];omega
   ·rw [if_neg (by omega),if_neg e2];omega
theorem notesR_cnt (w:Int) (u:Un) (a:Nat):∀ n:Nat,(Zbb w u a (a+n)).length=cntK w u a (a+n) u.kids
 | 0=>by
  unfold Zbb cntK;rw [Nat.add_zero,Nat.sub_self];have:∀ l:List Un,(l.map fun k=>if (a:Int)≤Zaf u k∧Zaf u k<(a:Int) then (Zas w k).length else 0).sum=0:=by
   intro l
   induction l with
   | nil=>rfl
   | cons x r ih=>rw [List.map_cons,List.sum_cons,ih,if_neg (by omega)]
  rw [this];rfl
 | n+1=>by
  rw [show a+(n+1)=a+n+1 by omega,notesR_step w u (by omega),List.length_append,notesR_cnt w u a n,cntK_step w u a (a+n) (by omega)]
theorem cntK_app (w:Int) (u:Un) {a b c:Nat} (h1:a≤b) (h2:b≤c):∀ ks:List Un,cntK w u a c ks=cntK w u a b ks+cntK w u b c ks
 | []=>rfl
 | k::ks=>by
  have ih:=cntK_app w u h1 h2 ks;unfold cntK at ih ⊢;rw [List.map_cons,List.map_cons,List.map_cons,List.sum_cons,List.sum_cons,List.sum_cons,ih];by_cases e1:(a:Int)≤Zaf u k∧Zaf u k<(b:Int)
  ·rw [if_pos e1,if_pos (by omega),if_neg (by omega)];omega
  ·rw [if_neg e1];by_cases e2:(b:Int)≤Zaf u k∧Zaf u k<(c:Int)
   ·rw [if_pos e2,if_pos (by omega)];omega
   ·rw [if_neg e2,if_neg (by omega)];omega
theorem toN_mono {u:Un} {a b:Nat} (h:a≤b):toN u a≤toN u b:=by unfold toN;omega
theorem ownF_cnt {w:Int} {u:Un} {t:Bool} {B:Nat}:∀ (l:List Str) (E:List Nat) (fr:Nat),E.Pairwise (·<·)→(∀ e∈E,fr≤toN u e∧toN u e≤B)→Zaw (ownF w u t fr l E)≤cntK w u fr B u.kids
  | [],E,fr,_,_=>by unfold ownF;simp [Zaw]
  | s::l,[],fr,_,_=>by unfold ownF;simp [Zaw]
  | s::l,e::E,fr,hp,hb=>by
    rw [List.pairwise_cons] at hp;have he:=hb e List.mem_cons_self;have ih:=ownF_cnt (w:=w) (u:=u) (t:=t) (B:=B) l E (toN u e) hp.2 fun x hx=>⟨toN_mono (Nat.le_of_lt (hp.1 x hx)),(hb x (List.mem_cons_of_mem _ hx)).2⟩;have h1:=notesR_cnt w u fr (toN u e-fr);rw [show fr+(toN u e-fr)=toN u e by omega] at h1;rw [cntK_app w u he.1 he.2,← h1];unfold ownF;unfold Zaw at ih ⊢;rw [List.map_cons,List.sum_cons];show (Zbb w u fr (toN u e)).length+_≤_;omega
def cnt0 (w:Int) (u:Un) (ks:List Un):Nat:=(ks.map fun k=>if 0≤Zaf u k then (Zas w k).length else 0).sum
theorem cntK_le (w:Int) (u:Un) (a b:Nat):∀ ks:List Un,cntK w u a b ks≤cnt0 w u ks
 | []=>Nat.le_refl _
 | k::ks=>by
  have ih:=cntK_le w u a b ks;unfold cntK cnt0 at ih ⊢;rw [List.map_cons,List.map_cons,List.sum_cons,List.sum_cons];by_cases e:(a:Int)≤Zaf u k∧Zaf u k<(b:Int)
  ·rw [if_pos e,if_pos (by omega)];omega
  ·rw [if_neg e];omega
theorem own_cnt (w:Int) (u:Un):Zaw (ownL w u)≤cnt0 w u u.kids:=by
 unfold ownL;by_cases hw:Zbg w (rowT u)=0
 ·have hr:=rises_pair (Zb6 hw);exact Nat.le_trans (ownF_cnt (B:=(rowT u).length) _ _ 0 hr.1 fun e he=>⟨Nat.zero_le _,by have:=(hr.2 e he).2;unfold toN;omega⟩) (cntK_le w u 0 _ _)
 ·have:Za5 w (rowT u)=[]:=by unfold Za5;rw [if_neg hw]
  rw [this];cases Zas w u<;>(unfold ownF;simp [Zaw])
theorem linesA_cons (w:Int) (a:Un) (L:List Un):Zap w (a::L)=Zas w a++Zap w L:=by unfold Zap;rw [List.flatMap_cons]
theorem linesA_app (w:Int) (L M:List Un):Zap w (L++M)=Zap w L++Zap w M:=by unfold Zap;rw [List.flatMap_append]
theorem body_cnt {u:Un} (hu:SmT u) (w:Int):(bodyT w u).length+Zaw (bodyT w u)≤(Zap w (unitsT u)).length:=by
 induction hu with
 | mk u h hk hs ih =>
  have h1:(ownL w u).length≤(Zas w u).length:=ownF_len w u _ _ _ _;have h2:=own_cnt w u;have key:∀ L:List Un,(∀ k∈L,k∈u.kids)→(bodyL w u L).length+Zaw (bodyL w u L)+cnt0 w u L≤(Zap w (unitsL L)).length:=by
   intro L
   induction L with
   | nil=>intro _;rw [bodyL];simp [Zaw,cnt0]
   | cons a r ihr =>
    intro hL;have h3:=ih a (hL a List.mem_cons_self);have h4:=ihr fun k hk=>hL k (List.mem_cons_of_mem _ hk);have e:cnt0 w u (a::r)=(if 0≤Zaf u a then (Zas w a).length else 0)+cnt0 w u r:=by unfold cnt0;rw [List.map_cons,List.sum_cons]
    rw [bodyL,Zbd,unitsL,linesA_app,List.length_append,List.length_append,e];by_cases hc:Zaf u a<0
    ·rw [if_pos hc,if_neg (by omega)];omega
    ·rw [if_neg hc,if_pos (by omega)];rw [Zai,linesA_cons,List.length_append];simp only [List.length_nil,Zaw,List.map_nil,List.sum_nil];unfold Zaw at h4;omega
  have h3:=key u.kids fun k hk=>hk;rw [bodyT_eq,Zbd,Zai,linesA_cons,List.length_append,List.length_append];omega
theorem kids_cnt {u:Un} (hu:SmT u) (w:Int):(Zbw w true u u.kids).length+Zaw (Zbw w true u u.kids)≤(Zap w (unitsL u.kids)).length:=by
 unfold Zbw;rw [if_pos rfl];have key:∀ L:List Un,(∀ k∈L,k∈u.kids)→(L.flatMap (bodyT w)).length+Zaw (L.flatMap (bodyT w))≤(Zap w (unitsL L)).length:=by
  intro L
  induction L with
  | nil=>intro _;simp [Zaw]
  | cons a r ihr =>
   intro hL;have h3:=body_cnt (hu.kids.2 a (hL a List.mem_cons_self)) w;have h4:=ihr fun k hk=>hL k (List.mem_cons_of_mem _ hk);rw [List.flatMap_cons,Zbd,unitsL,linesA_app,List.length_append,List.length_append];omega
 exact key u.kids fun k hk=>hk
theorem kids_high {u:Un} (hu:SmT u) (w:Int):Zb3 (Zbw w true u u.kids)≤(Zap w (unitsL u.kids)).length+2:=by
 have:=kids_cnt hu w;unfold Zb3 up1;split<;>omega
end Go.VM
namespace Go.Proofs.YtcgdjembdjdlhaaGreatDoor.w
open Go Go.VM
def Zbr:VC:=(ZR [ZO 4 (.box 8 (.t 0)),ZO 8 (.mv (.c (.bool false)))] (.seq (ZR [ZO 15 (.call 9 []),ZO 16 (.un .not (.t 15)),ZM 17 16,ZG 18 (.load true 8 (.t 4)) 17 false,ZG 19 (.call 10 [.t 18]) 17 false,ZG 20 (.un .not (.t 19)) 17 false,ZO 21 (.pick (.t 17) (.c (.bool true)) (.t 20)),ZM 22 21,ZG 23 (.mv (.t 3)) 22 false,ZG 24 (.bin .lss (.t 23) (.c (.int .i64 0))) 22 false,ZO 25 (.pick (.t 22) (.c (.bool true)) (.t 24)),ZM 26 25,ZG 27 (.mv (.t 3)) 26 false,ZG 28 (.bin .gtr (.t 27) (.c (.int .i64 200))) 26 false,ZO 29 (.pick (.t 26) (.c (.bool true)) (.t 28)),ZM 30 29,ZG 31 (.load true 8 (.t 4)) 30 false,ZG 32 (.call 19 [.t 31]) 30 false,ZG 33 (.len false (.t 32)) 30 false,ZG 34 (.bin .lss (.t 33) (.c (.int .i64 2))) 30 false,ZO 35 (.pick (.t 30) (.c (.bool true)) (.t 34))] (.cond (.t 35) (ZR [ZO 36 (.call 9 []),ZM 8 36] .ret) .skip)) (ZR [ZO 38 (.load true 8 (.t 4)),ZM 39 1,ZM 40 2,ZO 41 (.call 11 [.t 38,.t 39,.t 40]),ZM 37 41,ZO 42 (.ext (.t 37) 0),ZO 43 (.ext (.t 37) 1),ZM 9 42,ZM 10 43] (ZR [ZO 45 (.load true 8 (.t 4)),ZM 46 1,ZM 47 2,ZO 48 (.mm false [.t 47,(.c (.int .i64 200))]),ZM 49 3,ZO 50 (.bin .add (.t 48) (.t 49)),ZO 51 (.call 11 [.t 45,.t 46,.t 50]),ZM 44 51,ZO 52 (.ext (.t 44) 0),ZO 53 (.ext (.t 44) 1),ZM 11 52,ZM 12 53] (.seq (ZR [ZM 54 10,ZO 55 (.bin .neq (.t 54) (.c (.int .i64 0))),ZM 56 55,ZG 57 (.mv (.t 12)) 56 false,ZG 58 (.bin .neq (.t 57) (.c (.int .i64 0))) 56 false,ZO 59 (.pick (.t 56) (.c (.bool true)) (.t 58))] (.cond (.t 59) (ZR [ZM 60 10,ZO 61 (.bin .neq (.t 60) (.c (.int .i64 0))),ZM 62 61,ZG 63 (.mv (.t 2)) 62 false,ZG 64 (.mm false [.t 63,(.c (.int .i64 200))]) 62 false,ZG 65 (.mv (.t 3)) 62 false,ZG 66 (.bin .add (.t 64) (.t 65)) 62 false,ZG 67 (.bin .gtr (.t 66) (.c (.int .i64 200))) 62 false,ZO 68 (.pick (.t 62) (.c (.bool true)) (.t 67)),ZM 8 68] .ret) .skip)) (ZR [ZO 70 (.load true 8 (.t 4)),ZM 71 1,ZO 72 (.call 16 [.t 70,.t 71]),ZM 69 72,ZO 73 (.ext (.t 69) 0),ZO 74 (.ext (.t 69) 1),ZM 13 73,ZM 14 74] (ZR [ZM 75 11,ZO 76 (.len false (.t 75)),ZO 77 (.bin .geq (.t 76) (.c (.int .i64 1))),ZM 78 77,ZG 79 (.mv (.t 13)) 78 true,ZG 80 (.len false (.t 79)) 78 true,ZG 81 (.bin .add (.t 80) (.c (.int .i64 2))) 78 true,ZG 82 (.mv (.t 2)) 78 true,ZG 83 (.mm false [.t 82,(.c (.int .i64 200))]) 78 true,ZG 84 (.mv (.t 3)) 78 true,ZG 85 (.bin .add (.t 83) (.t 84)) 78 true,ZG 86 (.bin .gtr (.t 81) (.t 85)) 78 true,ZG 87 (.mv (.t 86)) 78 true,ZG 88 (.mv (.t 11)) 87 false,ZG 89 (.len false (.t 88)) 87 false,ZG 90 (.bin .eql (.t 89) (.c (.int .i64 1))) 87 false,ZG 91 (.pick (.t 87) (.c (.bool true)) (.t 90)) 78 true,ZO 92 (.pick (.t 78) (.t 91) (.c (.bool false))),ZM 93 92,ZG 94 (.mv (.t 9)) 93 true,ZG 95 (.len false (.t 94)) 93 true,ZG 96 (.bin .geq (.t 95) (.c (.int .i64 1))) 93 true,ZO 97 (.pick (.t 93) (.t 96) (.c (.bool false))),ZM 8 97] .ret)))))))
theorem body_ne {u:Un} (hs:SmT u) {w:Int} (hw:Zcm u w=0) (h2:2≤(unitsT u).length):bodyP u w≠[]:=by
 obtain ⟨hr,h1,h3⟩:=good_wrong hs hw;unfold bodyP Zbw;rw [if_pos rfl];rw [Zai,List.length_cons] at h2;cases hk:u.kids with
 | nil=>rw [hk] at h2;simp [unitsL] at h2
 | cons a r =>
  have ha:a∈u.kids:=by rw [hk];exact List.mem_cons_self
  have:=(body_last (hs.kids.2 a ha) (w:=w) fun x hx=>(good_all hs hr h1 h3 x (by rw [Zaz];exact List.mem_flatMap.2 ⟨a,ha,hx⟩)).1).1;rw [List.flatMap_cons];simp [this]
theorem pag_mono {u:Un} {w m M:Int} {P:List (List Ln)} (hw:Zcm u w=0) (h2:2≤m) (hg:pagesG m (bodyP u w)=some P) (h1:m≤M) (h200:M≤200):(pagP u w M).2=0:=by
 obtain ⟨P',hP'⟩:=pagesG_mono hg h1;unfold pagP;rw [if_pos hw,if_neg (by omega),hP']
theorem pag_one {u:Un} (hs:SmT u) {w M:Int} {P:List (List Ln)} (hw:Zcm u w=0) (hu2:2≤(unitsT u).length) (hg:pagesG M (bodyP u w)=some P) (h:((Zap w (unitsL u.kids)).length:Int)+2≤M):P.length=1:=by
 have h1:=kids_high hs w;have h2:=pages_one (m:=M) (body_ne hs hw hu2) (by unfold bodyP;omega);rw [hg] at h2;rw [Option.some.inj h2];rfl
theorem law_PaginateSinglePage (u:Un) (w m q:Int) (hu:UnB u) (_:i64 w) (hm:i64 m) (_:i64 q):Zaj Tryz.prog 6 [.agg u.enc,pI w,pI m,pI q] (.bool true):=by
 have A:=sp_awake;have F:=sp_few hu;have X:fewB u 40=true→∃ (hs:SmT u) (hn:(unitsT u).length≤1000),(∀ k,Zaj Tryz.prog 11 [.agg u.enc,pI w,pI k] (.tup [.sl 4 ((pagP u w k).1.map Pg.enc),pI (pagP u w k).2]))∧Zaj Tryz.prog 16 [.agg u.enc,pI w] (.tup [It.strs (linesP w u),pI (Zcm u w)])∧Zaj Tryz.prog 19 [.agg u.enc] (.sl 8 ((unitsT u).map Un.enc))∧(bodyP u w).length≤602000∧(Zap w (unitsL u.kids)).length≤602000:=by
  intro h;obtain ⟨hs,hn⟩:=few_small hu (by omega) (by omega) h;have hn':(unitsT u).length≤1000:=by omega
  have hl:(Zap w (unitsL u.kids)).length≤602000:=by
   have h1:=linesA_le (w:=w) (L:=unitsL u.kids) fun x hx=>(hs.units x (by rw [Zai];exact List.mem_cons_of_mem _ hx)).u;rw [Zai,List.length_cons] at hn';omega
  exact ⟨hs,hn',fun k=>sp_Paginate hs hn' w k,sp_pag_Lines hs hn' w,sp_ref07_Every hs hn',(body_le hs hn' w).1,hl⟩
 refine Zad ?_ (cB _) (by intro y hy;simp only [List.mem_cons,List.not_mem_nil,or_false] at hy;rcases hy with rfl|rfl|rfl|rfl;exact Zao u;exact cI _;exact cI _;exact cI _);refine Gn (vc:=Zbr) [.t 8] Tryz.func6 ?_;unfold Zbr;try dsimp only [ZM,ZO,ZN,ZG,ZR,ZU]
 have hUl:((unitsT u).map Un.enc).length=(unitsT u).length:=List.length_map _;generalize (unitsT u).map Un.enc=UE at X hUl;rw [Un.Zag u] at F X ⊢;generalize u.head.map Wd.enc=EH at *;generalize u.words.map Wd.enc=EW at *;generalize u.kids.map Un.enc=EK at *;refine Rp0 [1,2,3,4] ?_;refine Zaa ?_;cases hf:fewB u 40 with
 | false =>
  rw [hf] at F;refine Rp0 [35] ?_;refine Ap0 A ?_;refine Ap0 F ?_;refine Ct ?_;refine Rp0 [8] ?_;refine Ap0 A ?_;exact Tv0
 | true =>
  rw [hf] at F;obtain ⟨hs,hn,PP,PL,EV,hBl,hLl⟩:=X hf;by_cases c1:q<0
  ·have e1:=decide_eq_true c1;refine Rp0 [35] ?_;refine Ap0 A ?_;refine Ap1 F e1 ?_;refine Ct ?_;refine Rp0 [8] ?_;refine Ap0 A ?_;exact Tv0
  have e1:=decide_eq_false c1;by_cases c2:200<q
  ·have e2:decide (q>200)=true:=decide_eq_true c2;refine Rp0 [35] ?_;refine Ap0 A ?_;refine Ap1 F (x2 e1 e2) ?_;refine Ct ?_;refine Rp0 [8] ?_;refine Ap0 A ?_;exact Tv0
  have e2:decide (q>200)=false:=decide_eq_false c2;by_cases c3:(unitsT u).length<2
  ·have e3:decide (((unitsT u).length:Int)<2)=true:=decide_eq_true (by omega);refine Rp0 [35] ?_;refine Ap0 A ?_;refine Ap1 F (x2 e1 e2) ?_;refine Ap1 EV (x2 hUl e3) ?_;refine Ct ?_;refine Rp0 [8] ?_;refine Ap0 A ?_;exact Tv0
  have e3:decide (((unitsT u).length:Int)<2)=false:=decide_eq_false (by omega);refine Rp0 [1,2,3,4,35] ?_;refine Ap0 A ?_;refine Ap1 F (x2 e1 e2) ?_;refine Ap1 EV (x2 hUl e3) ?_;refine Fp0 ?_;obtain ⟨M0,hM0⟩:∃ M0,(if (200:Int)<m then (200:Int) else m)=M0:=⟨_,rfl⟩;have hM1:M0≤200∧M0≤m∧(m≤200→M0=m) ∧ -9223372036854775808≤M0:=by
   have:=i64_iff.1 hm;split at hM0<;>omega
  have hM:IntKind.i64.wrap (M0+q)=M0+q:=w64 (by omega) (by omega);have PE:=PP m;have PF:=PP (M0+q);rcases pagP_cases hs w m with ⟨hE,h0⟩|⟨P,hP,hw,hm2,hm200,hg,hI⟩
  ·rw [h0] at PE;generalize (pagP u w m).2=E at *;generalize (pagP u w (M0+q)).2=EF at *;generalize (pagP u w (M0+q)).1.map Pg.enc=AF at *;have g1:(E != 0)=true:=by simpa using hE
   refine Rp0 [1,2,3,4,9,10] ?_;refine Ap0 PE ?_;refine Rp1 [2,3,10,12] (x2 hM0 hM) ?_;refine Ap0 PF ?_;refine Zaa ?_;refine Rp1 [2,3,10,59] g1 ?_;refine Ct ?_;refine Rp1 [8] g1 ?_;exact Tv0
  ·rw [hP] at PE;have g1:((0:Int) != 0)=false:=rfl;have hPl:P.length≤602000:=by
    have:=flat_count hI.ne;rw [hI.flat] at this;omega
   have hPe:((pgsF u 0 P).map Pg.enc).length=P.length:=by rw [List.length_map,pgsF_len]
   have hbn:=body_ne hs hw (by omega);have hP1:=pages_ne hI hbn;generalize (pgsF u 0 P).map Pg.enc=AE at PE hPe;rcases pagP_cases hs w (M0+q) with ⟨hE,h0⟩|⟨R,hR,_,_,_,hgR,hIR⟩
   ·have hbig : 200 < M0 + q := by
     by_cases hb:200<M0+q
     ·exact hb
     ·exact absurd (pag_mono hw hm2 hg (by omega) (by omega)) hE
    have g3:decide (M0+q>200)=true:=decide_eq_true hbig;generalize (pagP u w (M0+q)).2=EF at *;generalize (pagP u w (M0+q)).1.map Pg.enc=AF at *;have g2:(EF != 0)=true:=by simpa using hE
    refine Rp0 [1,2,3,4,9,10] ?_;refine Ap0 PE ?_;refine Rp1 [2,3,10,12] (x2 hM0 hM) ?_;refine Ap0 PF ?_;refine Zaa ?_;refine Rp1 [2,3,10,59] (x2 g1 g2) ?_;refine Ct ?_;refine Rp1 [8] (x4 g1 hM0 hM g3) ?_;exact Tv0
   ·rw [hR] at PF;have hRe:((pgsF u 0 R).map Pg.enc).length=R.length:=by rw [List.length_map,pgsF_len]
    have hR1:=pages_ne hIR hbn;have hRl:R.length≤602000:=by
     have:=flat_count hIR.ne;rw [hIR.flat] at this;omega
    generalize (pgsF u 0 R).map Pg.enc=RE at PF hRe;have hone:=fun h=>pag_one hs hw (by omega) hgR h;unfold linesP at PL;rw [if_pos hw] at PL;unfold It.strs at PL;have hGl:((Zap w (unitsL u.kids)).map fun s=>[PV.str s]).length=(Zap w (unitsL u.kids)).length:=List.length_map _;generalize ((Zap w (unitsL u.kids)).map fun s=>[PV.str s])=GE at PL hGl;generalize (Zap w (unitsL u.kids)).length=gl at *;refine Rp0 [1,2,3,4,9,10] ?_;refine Ap0 PE ?_;refine Rp1 [1,2,3,4,9,10,11,12] (x2 hM0 hM) ?_;refine Ap0 PF ?_;refine Zaa ?_;refine Rp1 [1,2,3,4,9,11,59] g1 ?_;refine Fp0 ?_;refine Rp0 [2,3,9,11,13] ?_;refine Ap0 PL ?_;have k1:decide ((R.length:Int)≥1)=true:=decide_eq_true (by omega);have k2:decide ((P.length:Int)≥1)=true:=decide_eq_true (by omega);have k3:IntKind.i64.wrap ((gl:Int)+2)=(gl:Int)+2:=w64 (by omega) (by omega);by_cases c4:M0+q<(gl:Int)+2
    ·have k4:decide ((gl:Int)+2>M0+q)=true:=decide_eq_true c4;refine Zaa (Zae [8] ?_);simp only [vmL,Nat.reduceEqDiff,Nat.reduceAdd,Nat.reduceLT,Nat.reduceLeDiff,Nat.reduceSub,Nat.reduceMul,reduceIte,reduceCtorEq,Int.reduceToNat,hRe,hPe,hGl,hM0,hM,k1,k2,k3,k4];exact Tv0
    ·have k4:decide ((gl:Int)+2>M0+q)=false:=decide_eq_false (by omega);have k5:((R.length:Int)==1)=true:=by rw [hone (by omega)];rfl
     refine Zaa (Zae [8] ?_);simp only [vmL,Nat.reduceEqDiff,Nat.reduceAdd,Nat.reduceLT,Nat.reduceLeDiff,Nat.reduceSub,Nat.reduceMul,reduceIte,reduceCtorEq,Int.reduceToNat,hRe,hPe,hGl,hM0,hM,k1,k2,k3,k4,k5];exact Tv0
end Go.Proofs.YtcgdjembdjdlhaaGreatDoor.w
