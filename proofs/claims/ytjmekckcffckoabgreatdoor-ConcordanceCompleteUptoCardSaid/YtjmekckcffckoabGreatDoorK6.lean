import Derived.Test.YtjmekckcffckoabGreatDoorK3
import Derived.Test.YtjmekckcffckoabGreatDoorVmP
import Derived.Test.YtjmekckcffckoabGreatDoorVmS
set_option linter.all false
namespace Go.Proofs.YtjmekckcffckoabGreatDoor.w
open Go Go.VM
set_option maxRecDepth 20000
set_option maxHeartbeats 0
set_option pp.deepTerms false
def c_concordance_Find:VC:=(.seq (.region [ZO 4 (.mv (.c .nilsl))] false) (.seq (.seq (.region [ZM 7 1,ZO 8 (.call 12 [(.t 7)]),ZO 9 (.len false (.t 8)),ZO 10 (.mv (.c (.int .i64 0)))] false) (.block 0 (.loop (.seq (.region [ZO 11 (.bin .lss (.t 10) (.t 9))] false) (.seq (.cond (.t 11) .skip (.exit 0)) (.seq (.block 1 (.seq (.region [ZO 12 (.iaddr 2 (.t 8) (.t 10)),ZO 13 (.load true 2 (.t 12)),ZO 6 (.alloc [(.str []),.nilsl]),ZN (.store 2 (.t 6) (.t 13))] false) (.seq (.region [ZO 14 (.faddr 0 (.t 6)),ZO 15 (.load false 1 (.t 14)),ZM 16 0,ZO 17 (.bin .eql (.t 15) (.t 16))] false) (.cond (.t 17) (.seq (.region [ZO 18 (.faddr 1 (.t 6)),ZO 19 (.load false 1 (.t 18)),ZM 4 19] false) .ret) .skip)))) (.region [ZO 20 (.bin .add (.t 10) (.c (.int .i64 1))),ZM 10 20] false))))))) (.seq (.region [ZO 4 (.mv (.c .nilsl))] false) .ret)))
def c_concordance_Format:VC:=(.seq (.region [ZO 4 (.mv (.c .nilsl))] false) (.seq (.region [ZO 5 (.mv (.c .nilsl))] false) (.seq (.seq (.region [ZM 10 1,ZO 11 (.len false (.t 10)),ZO 12 (.mv (.c (.int .i64 0)))] false) (.block 0 (.loop (.seq (.region [ZO 13 (.bin .lss (.t 12) (.t 11))] false) (.seq (.cond (.t 13) .skip (.exit 0)) (.seq (.block 1 (.seq (.region [ZO 14 (.iaddr 2 (.t 10) (.t 12)),ZO 15 (.load true 2 (.t 14)),ZO 7 (.alloc [(.str []),.nilsl]),ZN (.store 2 (.t 7) (.t 15))] false) (.seq (.region [ZO 16 (.faddr 1 (.t 7)),ZO 17 (.load false 1 (.t 16)),ZO 18 (.call 8 [(.t 17)]),ZM 8 18] false) (.seq (.region [ZM 19 0,ZO 20 (.mm false [(.t 19),(.c (.int .i64 200))]),ZO 21 (.mm true [(.t 20),(.c (.int .i64 0))]),ZO 22 (.faddr 0 (.t 7)),ZO 23 (.load false 1 (.t 22)),ZO 24 (.len true (.t 23)),ZO 25 (.bin .sub (.t 21) (.t 24)),ZM 26 8,ZO 27 (.len true (.t 26)),ZO 28 (.bin .sub (.t 25) (.t 27)),ZO 29 (.bin .sub (.t 28) (.c (.int .i64 2))),ZM 9 29] false) (.draw2 [ZM 30 5,ZO 31 (.faddr 0 (.t 7)),ZO 32 (.load false 1 (.t 31)),ZO 33 (.bin .add (.t 32) (.c (.str [32]))),ZM 34 9,ZO 35 (.mm true [(.t 34),(.c (.int .i64 2))]),ZO 36 (.call 48 [(.c (.str [46])),(.t 35)]),ZO 37 (.bin .add (.t 33) (.t 36)),ZO 38 (.bin .add (.t 37) (.c (.str [32]))),ZM 39 8,ZO 40 (.bin .add (.t 38) (.t 39)),ZO 41 (.bslice 1 1 [(.str [])] [(0,(.t 40))]),ZO 42 (.app 1 16 [(.str [])] false (.t 30) (.t 41)),ZM 5 42] [true,true,true,true,true,true,true,true,true,true,true,true,false,false]))))) (.region [ZO 43 (.bin .add (.t 12) (.c (.int .i64 1))),ZM 12 43] false))))))) (.seq (.region [ZM 44 5,ZM 4 44] false) .ret))))
theorem parts_small:∀ (f:Nat) (l:List Int),(∀ x ∈ l,i64 x) → ∀ s ∈ partsT f l,s.length ≤ 44
  | 0,l,_,s,hs=>by simp [partsT] at hs
  | _ + 1,[],_,s,hs=>by simp [partsT] at hs
  | f + 1,a :: r,h,s,hs=>by
    unfold partsT at hs
    rcases List.mem_append.1 hs with h1 | h1
    · have ha:=h a List.mem_cons_self
      by_cases hk:Zcj a r = 0
      · rw [hk] at h1
        simp only [runT,if_true,List.mem_singleton] at h1
        subst h1
        have:=itoa_len a ha
        omega
      · have hl:=runLen_le r a
        have h2:=runLen_at r a 0 (by omega)
        have h3:=runLen_at r a (Zcj a r - 1) (by omega)
        have i2:=h _ (List.mem_cons_of_mem _ (List.getElem_mem (show 0 < r.length by omega)))
        have i3:=h _ (List.mem_cons_of_mem _ (List.getElem_mem (show Zcj a r - 1 < r.length by omega)))
        rw [h2] at i2
        rw [h3] at i3
        refine runT_small a _ ha (by simpa using i2) ?_ s h1
        have e:a + 1 + ((Zcj a r - 1:Nat):Int) = a + (Zcj a r:Int):=by omega
        rw [← e]; exact i3
    · exact parts_small f _ (fun x hx=>h x (List.mem_cons_of_mem _ (List.mem_of_mem_drop hx))) s h1
theorem ranges_len (l:List Int) (hl:l.length ≤ 1000) (hi:∀ x ∈ l,i64 x):(rangesS l).length ≤ 100000:=by
  have h1:=join_len sepT 44 (partsI (Zcd l)) (parts_small _ _ fun x hx=>hi x ((mem_onceI l x).1 hx))
  have h2:=partsT_len (Zcd l).length (Zcd l)
  have h3:=onceI_len l
  have h4:(partsI (Zcd l)).length * (44 + sepT.length) ≤ 1000 * (44 + 2):=Nat.mul_le_mul (by unfold partsI; omega) (by decide)
  unfold rangesS
  omega
def widthN (w:Int) (e:Str × List Int):Int:=max (min w 200) 0 - e.1.length - (rangesS e.2).length - 2
def lineS (w:Int) (e:Str × List Int):Str:=e.1 ++ [32] ++ Lib.repeatL [46] (max (widthN w e) 2).toNat ++ [32] ++ rangesS e.2
theorem closed_ints (l:List Int):Closed (.sl 1 (l.map fun x=>[pI x])):=Zb8 fun _ _ y hy=>by rw [List.mem_singleton] at hy; subst hy; exact cI _
theorem closed_ens (l : List (Str × List Int)) : Closed (.sl 2 (l.map encEn)) := Zb8 (fun e _ x hx => by
    simp only [encEn,List.mem_cons,List.not_mem_nil,or_false] at hx
    rcases hx with rfl | rfl
    · exact cS _
    · exact closed_ints _)
theorem closed_pgs (l : List Pg) : Closed (.sl 4 (l.map Pg.enc)) := Zb8 (fun p _ x hx => by
    simp only [Pg.enc,List.mem_cons,List.not_mem_nil,or_false] at hx
    rcases hx with rfl | rfl | rfl | rfl
    · exact cI _
    · exact cS _
    · exact Zcr _
    · exact Zcr _)
def findP (s:Str) (I:List (Str × List Int)):Option (List Int):=(I.find? fun e=>e.1 == s).map (·.2)
theorem sp_concordance_Find (s:Str) (l:List Pg) (hs:SmalP l):PCall Tryz.prog 15 [.str s,.sl 4 (l.map Pg.enc)] (.sl 1 (((findP s (Zcn l)).getD []).map fun x=>[pI x])):=by
  refine Zcf ?_ (closed_ints _) (by intro y hy; simp only [List.mem_cons,List.not_mem_nil,or_false] at hy; rcases hy with rfl | rfl; exact cS _; exact closed_pgs l)
  refine Zct (vc:=c_concordance_Find) (ts:=[.t 4]) Go.Proofs.Tryz.func15 (by kernel_rfl) rfl rfl (Nat.le_of_ble_eq_true rfl) (by kernel_rfl) ?_
  unfold c_concordance_Find
  try dsimp only [ZM,ZO,ZN,ZG]
  refine Za1 (Zac [0,1] ?_)
  simp only [Zaa,Zai,Zay,pok,pval,VA.ev,Env.get,Env.put,Env.keep,Za7,Zaz,Heap.nil,Nat.succ_ne_self,Nat.reduceEqDiff,ite_true,ite_false,true_and,reduceCtorEq,Nat.zero_add]
  refine Za1 ?_
  refine Za1 (Zac [0,8,9,10] ?_)
  simp only [Zaa,Zai,Zay,pok,pval,VA.ev,Env.get,Env.put,Env.keep,Zaz,lenV,Zbn,Nat.succ_ne_self,List.map,Nat.reduceEqDiff,Bool.false_eq_true,ite_true,ite_false,true_and,reduceCtorEq]
  refine Zcw (Zcx l hs) ?_
  have hIl:(Zcn l).length ≤ 100000:=by
    have h1:=keysS_len l
    have h2:=occL_len l
    have h3:=hs.words
    unfold Zcn; rw [List.length_map]; omega
  generalize Zcn l = I at hIl
  try simp only [true_and,List.length_map]
  refine Zb5 ?_
  refine Zcm (σ:={ k:Nat × Nat // k.1 ≤ I.length ∧ (I.take k.1).find? (fun e=>e.1 == s) = none }) (fun k=>([(0,.str s),(8,.sl 2 (I.map encEn)),(9,pI I.length),(10,pI k.1.1)],⟨[],k.1.2⟩)) (fun k=>I.length - k.1.1) ⟨(0,0),Nat.zero_le _,by simp⟩ ?_ ?_ ?_
  · try simp only [Env.get,Nat.succ_ne_self,Env.le,Nat.reduceEqDiff,ite_true,ite_false,true_and,and_true,reduceCtorEq,true_and]
    all_goals (repeat' (first | rfl | trivial | omega | (simp only []; omega) | refine And.intro ?_ ?_))
  · simp only [Heap.le,HL.le,Nat.le_refl,and_true]
  rintro ⟨⟨k,t⟩,hk,hf⟩
  simp only [] at hk hf ⊢
  refine Za1 (Zac [0,8,9,10,11] ?_)
  simp only [Zaa,Zai,Zay,pok,pval,VA.ev,Env.get,Env.put,Env.keep,Zaz,intV,binV,Zbk,Heap.le,HL.le,Nat.succ_ne_self,Env.le,Nat.reduceEqDiff,ite_true,ite_false,true_and,and_true,reduceCtorEq]
  refine Za1 ?_
  refine Zca rfl (fun h1=>?_) (fun h1=>?_)
  · simp only [decide_eq_true_eq] at h1
    have ka:k < I.length:=by omega
    refine Zcb ?_
    try simp only [Zaz]
    refine Za1 ?_
    refine Zb5 ?_
    refine Za1 (Zac [0,6,8,9,10] ?_)
    simp only [Zaa,Zai,Zay,pok,pval,VA.ev,Env.get,Env.put,Env.keep,Zaz,aggV,isInt,numOf,lenV,Zae,Zbl,Za6,Zao,PV.cells,PV.fits,overlay,PV.nth,PV.row,Heap.get,Heap.set,HL.get,HL.set,HL.del,Heap.push,Nat.le_refl,Nat.succ_ne_self,Zba,Zar,List.set,List.length,List.getD_cons_zero,List.take,List.drop,List.take_succ_cons,List.drop_succ_cons,List.cons_append,List.nil_append,Nat.reduceEqDiff,Nat.reduceAdd,Nat.reduceLT,Bool.true_eq_false,ite_true,ite_false,true_and,and_true,reduceCtorEq,BEq.rfl,Nat.zero_add,List.length_cons,imp_self,Int.toNat_natCast,List.length_map,rowm ka,encEn]
    refine ⟨by omega,?_⟩
    have hst:(I.take (k + 1)).find? (fun e=>e.1 == s) = [I[k]].find? (fun e=>e.1 == s):=by
      rw [List.take_add_one,List.getElem?_eq_getElem ka,List.find?_append,hf]; rfl
    have hall:∀ x,(I.take (k + 1)).find? (fun e=>e.1 == s) = some x → findP s I = some x.2:=fun x hx=>by
      unfold findP
      have:I = I.take (k + 1) ++ I.drop (k + 1):=(List.take_append_drop _ _).symm
      rw [this,List.find?_append,hx]; rfl
    generalize I[k] = e at hst ⊢
    refine Za1 (Zac [0,6,8,9,10,17] ?_)
    simp only [Zaa,Zai,Zay,pok,pval,VA.ev,Env.get,Env.put,Env.keep,Zaz,aggV,binV,Zbk,strV,Zbb,Za9,Zae,Zbl,PV.nth,PV.row,Heap.get,HL.get,Nat.succ_ne_self,List.length,List.getD_cons_zero,List.take,List.drop,List.take_succ_cons,Nat.reduceEqDiff,Nat.reduceAdd,Nat.reduceLT,Nat.reduceLeDiff,Bool.false_eq_true,ite_true,ite_false,true_and,and_true,implies_true,reduceCtorEq,Nat.zero_add,Nat.add_zero,List.length_cons]
    refine Zca rfl (fun h2=>?_) (fun h2=>?_)
    · rw [List.find?_cons,h2] at hst
      have hp:=hall e hst
      refine Za1 (Zac [4] ?_)
      simp only [Zaa,Zai,Zay,pok,pval,VA.ev,Env.get,Env.put,Env.keep,Zaz,aggV,Zbb,Za9,Zae,Zbl,PV.nth,PV.row,Heap.get,HL.get,Nat.le_refl,List.length,List.getD_cons_zero,List.take,List.drop,List.take_succ_cons,List.drop_succ_cons,Nat.reduceEqDiff,Nat.reduceLT,Bool.false_eq_true,ite_true,ite_false,true_and,and_true,implies_true,reduceCtorEq,Nat.zero_add,List.length_cons]
      refine VW_ret ?_
      try simp only [Env.get,Zaz,Za2,retQ,resV,Zbq,RS.ev,RS.ok,ite_true,true_and,and_true]
      rw [hp]
      exact View.refl _ _
    rw [List.find?_cons,h2] at hst
    refine Zcb ?_
    try simp only [Zaz,Za2]
    refine Zac [0,8,9,10] ?_
    simp only [Zaa,Zai,Zay,pok,pval,VA.ev,Env.get,Env.put,Env.keep,Zaz,intV,binV,Zbk,Nat.succ_ne_self,Nat.reduceEqDiff,ite_true,ite_false,true_and,reduceCtorEq,ad1 (a:=k) (by omega)]
    refine ⟨⟨(k + 1,t + 1),ka,hst⟩,?_⟩
    try simp only [Nat.le_refl,true_and,true_and]
    all_goals (repeat' (first | rfl | trivial | omega | (simp only []; omega) | refine And.intro ?_ ?_))
  simp only [decide_eq_false_iff_not] at h1
  obtain rfl:k = I.length:=by omega
  rw [List.take_length] at hf
  have hp:findP s I = none:=by unfold findP; rw [hf]; rfl
  refine Zck ?_
  try simp only [Zaz,Za2,retQ,ite_true]
  refine Za1 (Zac [4] ?_)
  simp only [Zaa,Zai,Zay,pok,pval,VA.ev,Env.get,Env.put,Env.keep,Zaz,Nat.reduceEqDiff,ite_true,ite_false,true_and,reduceCtorEq]
  refine VW_ret ?_
  try simp only [Env.get,retQ,resV,Zbq,RS.ev,RS.ok,ite_true,true_and,and_true]
  rw [hp]
  exact View.nil _ _
theorem sp_concordance_Format (w:Int) (l:List (Str × List Int)) (hw:i64 w) (hl:l.length ≤ 1000) (hs:∀ e ∈ l,e.1.length ≤ 1000 ∧ e.2.length ≤ 1000 ∧ ∀ x ∈ e.2,i64 x):PCall Tryz.prog 24 [pI w,.sl 2 (l.map encEn)] (.sl 1 (strR (l.map (lineS w)))):=by
  refine Zcf ?_ (Zcr _) (by intro y hy; simp only [List.mem_cons,List.not_mem_nil,or_false] at hy; rcases hy with rfl | rfl; exact cI _; exact closed_ens l)
  refine Zct (vc:=c_concordance_Format) (ts:=[.t 4]) Go.Proofs.Tryz.func24 (by kernel_rfl) rfl rfl (Nat.le_of_ble_eq_true rfl) (by kernel_rfl) ?_
  unfold c_concordance_Format
  try dsimp only [ZM,ZO,ZN,ZG]
  refine Za1 (Zac [0,1] ?_)
  simp only [Zaa,Zai,Zay,pok,pval,VA.ev,Env.get,Env.put,Env.keep,Za7,Zaz,Heap.nil,Nat.succ_ne_self,Nat.reduceEqDiff,ite_true,ite_false,true_and,reduceCtorEq,Nat.zero_add]
  refine Za1 (Zac [0,1,5] ?_)
  simp only [Zaa,Zai,Zay,pok,pval,VA.ev,Env.get,Env.put,Env.keep,Zaz,Nat.succ_ne_self,Nat.reduceEqDiff,ite_true,ite_false,true_and,reduceCtorEq]
  refine VW_own0 5 1 rfl ?_
  try simp only [Env.put,Heap.push,Nat.zero_add]
  refine Za1 ?_
  refine Za1 (Zac [0,5,10,11,12] ?_)
  simp only [Zaa,Zai,Zay,pok,pval,VA.ev,Env.get,Env.put,Env.keep,Zaz,lenV,Zbn,Nat.succ_ne_self,Nat.reduceEqDiff,ite_true,ite_false,true_and,reduceCtorEq,List.length_map]
  refine Zb5 ?_
  refine Zcm (σ:={ s:Nat × Nat × Nat // s.1 ≤ l.length ∧ s.2.1 < s.2.2 }) (fun s=>([(0,pI w),(5,.own s.1.2.1 0 s.1.1),(10,.sl 2 (l.map encEn)),(11,pI l.length),(12,pI s.1.1)],⟨[(s.1.2.1,.arr false 1 (strR ((l.take s.1.1).map (lineS w))))],s.1.2.2⟩)) (fun s=>l.length - s.1.1) ⟨(0,0,1),Nat.zero_le _,by simp⟩ ?_ ?_ ?_
  · try simp only [Env.get,Nat.succ_ne_self,Env.le,Nat.reduceEqDiff,ite_true,ite_false,true_and,and_true,reduceCtorEq,strR,true_and]
    all_goals (repeat' (first | rfl | trivial | omega | (simp only []; omega) | refine And.intro ?_ ?_))
  · simp only [Heap.get,Heap.le,HL.get,HL.le,Nat.le_refl,List.map,List.take,ite_true,true_and,and_true,Option.some.injEq]
    rfl
  rintro ⟨⟨k,id,t⟩,hk,hid⟩
  simp only [] at hk hid ⊢
  have qi0:(id = t) = False:=eq_false (by omega)
  have qi1:(id = (t + 1)) = False:=eq_false (by omega)
  have qi2:(id = (t + 1 + 1)) = False:=eq_false (by omega)
  have qi3:(t = id) = False:=eq_false (by omega)
  have qi4:(t = (t + 1)) = False:=eq_false (by omega)
  have qi5:(t = (t + 1 + 1)) = False:=eq_false (by omega)
  have qi6:((t + 1) = id) = False:=eq_false (by omega)
  have qi7:((t + 1) = t) = False:=eq_false (by omega)
  have qi8:((t + 1) = (t + 1 + 1)) = False:=eq_false (by omega)
  have qi9:((t + 1 + 1) = id) = False:=eq_false (by omega)
  have qi10:((t + 1 + 1) = t) = False:=eq_false (by omega)
  have qi11:((t + 1 + 1) = (t + 1)) = False:=eq_false (by omega)
  refine Za1 (Zac [0,5,10,11,12,13] ?_)
  simp only [Zaa,Zai,Zay,pok,pval,VA.ev,Env.get,Env.put,Env.keep,Zaz,intV,binV,Zbk,Heap.get,Heap.le,HL.le,Nat.succ_ne_self,Env.le,Nat.reduceEqDiff,ite_true,ite_false,true_and,and_true,reduceCtorEq,qi0,qi1,qi2,qi3,qi4,qi5,qi6,qi7,qi8,qi9,qi10,qi11]
  refine Za1 ?_
  refine Zca rfl (fun h1=>?_) (fun h1=>?_)
  · simp only [decide_eq_true_eq] at h1
    have ka:k < l.length:=by omega
    refine Zcb ?_
    try simp only [Zaz]
    refine Za1 ?_
    refine Zb5 ?_
    refine Za1 (Zac [0,5,7,10,11,12] ?_)
    simp only [Zaa,Zai,Zay,pok,pval,VA.ev,Env.get,Env.put,Env.keep,Zaz,aggV,isInt,numOf,lenV,Zae,Zbl,Za6,Zao,PV.cells,PV.fits,overlay,PV.nth,PV.row,Heap.get,Heap.set,HL.get,HL.set,HL.del,Heap.push,Nat.le_refl,Nat.succ_ne_self,Zba,Zar,List.set,List.length,List.getD_cons_zero,List.take,List.drop,List.take_succ_cons,List.drop_succ_cons,List.cons_append,List.nil_append,Nat.reduceEqDiff,Nat.reduceAdd,Nat.reduceLT,Bool.true_eq_false,ite_true,ite_false,true_and,and_true,reduceCtorEq,BEq.rfl,Nat.zero_add,List.length_cons,imp_self,Int.toNat_natCast,List.length_map,rowm ka,encEn,qi0,qi1,qi2,qi3,qi4,qi5,qi6,qi7,qi8,qi9,qi10,qi11]
    repeat (with_reducible refine And.intro ?_ ?_; first | omega | (with_reducible constructor <;> omega) | exact False.elim | exact True.intro)
    have hst:=mapK_step (lineS w) ka
    obtain ⟨g1,g2,g3⟩:=hs _ (List.getElem_mem ka)
    generalize l[k] = e at hst g1 g2 g3 ⊢
    refine Za1 (Zac [0,5,7,8,10,11,12] ?_)
    simp only [Zaa,Zai,Zay,pok,pval,VA.ev,Env.get,Env.put,Env.keep,Zaz,aggV,Zbb,Za9,Zae,Zbl,PV.nth,PV.row,Heap.get,HL.get,Nat.le_refl,Nat.succ_ne_self,List.map,List.length,List.getD_cons_zero,List.take,List.drop,List.take_succ_cons,List.drop_succ_cons,Nat.reduceEqDiff,Nat.reduceLT,Bool.false_eq_true,ite_true,ite_false,true_and,and_true,implies_true,reduceCtorEq,Nat.zero_add,List.length_cons,qi0,qi1,qi2,qi3,qi4,qi5,qi6,qi7,qi8,qi9,qi10,qi11]
    have hR:=Zcq e.2 (by omega) g3
    refine ACall_v [.sl 1 (e.2.map fun x=>[pI x])] ⟨View.refl _ _,trivial⟩ hR (scalar_str _) ?_
    skip
    refine Za1 (Zac [0,5,7,8,9,10,11,12] ?_)
    have hrl:=ranges_len e.2 (by omega) g3
    have hwN:widthN w e = max (min w 200) 0 - e.1.length - (rangesS e.2).length - 2:=rfl
    have hlS:lineS w e = e.1 ++ [32] ++ Lib.repeatL [46] (max (widthN w e) 2).toNat ++ [32] ++ rangesS e.2:=rfl
    generalize rangesS e.2 = R at hrl hwN hlS ⊢
    generalize widthN w e = N at hwN hlS
    generalize lineS w e = Ln at hlS hst
    have hwi:=i64_iff.1 hw
    have e1:IntKind.i64.wrap (IntKind.i64.wrap (IntKind.i64.wrap (max (min w 200) 0 - (e.1.length:Int)) - (R.length:Int)) - 2) = N:=by
      rw [w64 (n:=max (min w 200) 0 - (e.1.length:Int)) (by omega) (by omega),w64 (n:=max (min w 200) 0 - (e.1.length:Int) - (R.length:Int)) (by omega) (by omega),w64 (by omega) (by omega)]; omega
    have e0:(if 0 > (if 200 < w then 200 else w) then 0 else if 200 < w then 200 else w) = max (min w 200) 0:=by
      split <;> (try split) <;> omega
    simp only [Zaa,Zai,Zay,pok,pval,VA.ev,Env.get,Env.put,Env.keep,Zaz,aggV,intV,binV,Zbk,isInt,lenV,Zbb,Za9,Zae,Zbl,Zbn,mmV,PV.nth,PV.row,Heap.get,HL.get,Nat.succ_ne_self,List.length,List.getD_cons_zero,List.take,List.drop,List.take_succ_cons,Nat.reduceEqDiff,Nat.reduceAdd,Nat.reduceLT,Nat.reduceLeDiff,Bool.false_eq_true,ite_true,ite_false,true_and,and_true,implies_true,reduceCtorEq,Nat.zero_add,Nat.add_zero,List.length_cons,e0,e1,qi0,qi1,qi2,qi3,qi4,qi5,qi6,qi7,qi8,qi9,qi10,qi11]
    have hmx:max N 2 = (((max N 2).toNat:Nat):Int):=by omega
    have hRp:=sp_strings_Repeat [46] (max N 2).toNat (by omega) (by simp)
    have hrpl:(Lib.repeatL [46] (max N 2).toNat).length ≤ 300:=by rw [Lib.repeatL_length,List.length_singleton]; omega
    generalize (max N 2).toNat = rn at hmx hRp hlS hrpl
    generalize Lib.repeatL [46] rn = D at hRp hlS hrpl
    have htk:(l.take k).length = k:=by rw [List.length_take]; omega
    have hml:(strR ((l.take k).map (lineS w))).length = k:=by rw [Zcg,List.length_map,htk]
    have hmt:List.take k (strR ((l.take k).map (lineS w))) = strR ((l.take k).map (lineS w)):=List.take_of_length_le (by omega)
    have hen:strR ((l.take k).map (lineS w)) ++ [[.str Ln]] = strR ((l.take (k + 1)).map (lineS w)):=by rw [hst,← strR_app]; rfl
    generalize strR ((l.take k).map (lineS w)) = M at hml hmt hen ⊢
    have e2:(if 2 > N then 2 else N) = ((rn:Nat):Int):=by rw [← hmx]; split <;> omega
    refine VW_draw2Q [0,5,10,11,12] ⟨[(t,.arr false 2 [[.str e.1,.sl 1 (e.2.map fun x=>[pI x])]])],t + 20⟩ (by simp [Heap.le,Heap.get,HL.le,HL.get]) ?_
    simp only [Zay,Zad,Zas,QW,dok,dval,VOp.pure,VOp.simple,VOp.det,pok,pval,VA.ev,Env.get,Env.put,Env.keep,Zaz,Za2,gd,aggV,intV,binV,Zbk,strV,isInt,Zbb,Za9,Zae,Zbl,mmV,PV.cells,PV.fits,PV.nth,PV.row,Heap.get,Heap.del,Heap.le,HL.get,HL.del,HL.le,Heap.push,Nat.succ_ne_self,Za3,Zbt,Zam,Zbu,Zaj,Zbs,Za0,Zal,List.set,List.replicate,List.length,List.getD_cons_zero,List.take,List.drop,List.take_succ_cons,Nat.reduceEqDiff,Nat.reduceAdd,Nat.reduceLT,Nat.reduceLeDiff,Bool.false_eq_true,ite_true,ite_false,true_and,and_true,implies_true,forall_const,reduceCtorEq,BEq.rfl,Nat.zero_add,Nat.add_zero,List.length_cons,imp_self,e2,qi0,qi1,qi2,qi3,qi4,qi5,qi6,qi7,qi8,qi9,qi10,qi11]
    refine ⟨by omega,_,.inl hRp,?_⟩
    have hpl2:e.1 ++ [32] ++ D ++ [32] ++ R = Ln:=hlS.symm
    try simp only [Nat.le_refl,List.length,Nat.reduceLeDiff,true_and,Nat.zero_add,hml,hmt,hpl2,hen,qi0,qi1,qi2,qi3,qi4,qi5,qi6,qi7,qi8,qi9,qi10,qi11]
    refine ⟨by simp; omega,by simp; omega,by simp; omega,by omega,by omega,by omega,?_⟩
    refine Zac [0,5,10,11,12] ?_
    simp only [Zaa,Zai,Zay,pok,pval,VA.ev,Env.get,Env.put,Env.keep,Zaz,intV,binV,Zbk,HL.get,Nat.succ_ne_self,Nat.reduceEqDiff,ite_true,ite_false,true_and,reduceCtorEq,ad1 (a:=k) (by omega),qi0,qi1,qi2,qi3,qi4,qi5,qi6,qi7,qi8,qi9,qi10,qi11]
    refine ⟨⟨(k + 1,t + 1,t + 1 + 1),ka,by show t + 1 < t + 1 + 1; omega⟩,?_⟩
    try simp only [Nat.le_refl,ite_true,ite_false,true_and,and_true,qi0,qi1,qi2,qi3,qi4,qi5,qi6,qi7,qi8,qi9,qi10,qi11]
    all_goals (repeat' (first | rfl | trivial | omega | (simp only []; omega) | refine And.intro ?_ ?_))
  simp only [decide_eq_false_iff_not] at h1
  obtain rfl:k = l.length:=by omega
  rw [List.take_length]
  refine Zck ?_
  try simp only [Zaz,Za2,retQ,ite_true]
  refine Za1 (Zac [4] ?_)
  simp only [Zaa,Zai,Zay,pok,pval,VA.ev,Env.get,Env.put,Env.keep,Zaz,Nat.succ_ne_self,Nat.reduceEqDiff,ite_true,ite_false,true_and,reduceCtorEq]
  refine VW_ret ?_
  try simp only [Env.get,retQ,resV,Zbq,RS.ev,RS.ok,ite_true,true_and,and_true]
  exact View.own_all (fz:=false) (by simp [Heap.get,HL.get]) (by rw [Zcg,List.length_map])
end Go.Proofs.YtjmekckcffckoabGreatDoor.w
namespace Go.Proofs.YtjmekckcffckoabGreatDoor.w
open Go Go.VM
set_option maxRecDepth 20000
set_option maxHeartbeats 0
set_option pp.deepTerms false
def c_pandectref56_Bare:VC:=(.seq (.region [ZO 2 (.mv (.c (.str [])))] false) (.seq (.block 0 (.loop (.seq (.seq (.region [ZM 4 0,ZO 5 (.len true (.t 4)),ZO 6 (.bin .gtr (.t 5) (.c (.int .i64 0))),ZM 7 6,ZG 8 (.mv (.t 0)) 7 true,ZG 9 (.idx (.t 8) (.c (.int .i64 0))) 7 true,ZG 10 (.bin .eql (.t 9) (.c (.int .u8 40))) 7 true,ZO 11 (.pick (.t 7) (.t 10) (.c (.bool false)))] false) (.cond (.t 11) .skip (.exit 0))) (.block 1 (.region [ZM 12 0,ZO 13 (.slice true 0 (.t 12) (some (.c (.int .i64 1))) none),ZM 0 13] false))))) (.seq (.block 2 (.loop (.seq (.seq (.region [ZM 14 0,ZO 15 (.len true (.t 14)),ZO 16 (.bin .gtr (.t 15) (.c (.int .i64 0)))] false) (.cond (.t 16) .skip (.exit 2))) (.block 3 (.seq (.region [ZM 17 0,ZM 18 0,ZO 19 (.len true (.t 18)),ZO 20 (.bin .sub (.t 19) (.c (.int .i64 1))),ZO 21 (.idx (.t 17) (.t 20)),ZM 3 21] false) (.seq (.seq (.region [ZM 22 3,ZO 23 (.bin .neq (.t 22) (.c (.int .u8 44))),ZM 24 23,ZG 25 (.mv (.t 3)) 24 true,ZG 26 (.bin .neq (.t 25) (.c (.int .u8 59))) 24 true,ZO 27 (.pick (.t 24) (.t 26) (.c (.bool false))),ZM 28 27,ZG 29 (.mv (.t 3)) 28 true,ZG 30 (.bin .neq (.t 29) (.c (.int .u8 46))) 28 true,ZO 31 (.pick (.t 28) (.t 30) (.c (.bool false))),ZM 32 31,ZG 33 (.mv (.t 3)) 32 true,ZG 34 (.bin .neq (.t 33) (.c (.int .u8 58))) 32 true,ZO 35 (.pick (.t 32) (.t 34) (.c (.bool false))),ZM 36 35,ZG 37 (.mv (.t 3)) 36 true,ZG 38 (.bin .neq (.t 37) (.c (.int .u8 41))) 36 true,ZO 39 (.pick (.t 36) (.t 38) (.c (.bool false)))] false) (.cond (.t 39) (.seq (.region [ZM 40 0,ZM 2 40] false) .ret) .skip)) (.region [ZM 41 0,ZM 42 0,ZO 43 (.len true (.t 42)),ZO 44 (.bin .sub (.t 43) (.c (.int .i64 1))),ZO 45 (.slice true 0 (.t 41) none (some (.t 44))),ZM 0 45] false))))))) (.seq (.region [ZM 46 0,ZM 2 46] false) .ret))))
theorem trimL_cons (b:UInt8) (r:Str):Lib.trimLeftB (b :: r) 40 = if b = 40 then Lib.trimLeftB r 40 else b :: r:=by
  unfold Lib.trimLeftB
  rw [List.dropWhile_cons]
  by_cases h:b = 40 <;> simp [h]
theorem trimR_snoc (b:UInt8) (r cs:Str):Lib.trimRightS (r ++ [b]) cs = if cs.contains b = true then Lib.trimRightS r cs else r ++ [b]:=by
  unfold Lib.trimRightS
  rw [List.reverse_append,List.reverse_singleton,List.singleton_append,List.dropWhile_cons]
  by_cases h:cs.contains b = true
  · rw [if_pos h,if_pos h]
  · rw [if_neg h,if_neg h]; simp
theorem byte_eq (b:UInt8) (n:Nat) (hn:n < 256):(((b.toNat:Nat):Int) == (n:Int)) = (b == UInt8.ofNat n):=by
  rw [Bool.eq_iff_iff,beq_iff_eq,beq_iff_eq]
  constructor
  · intro h
    have:b.toNat = n:=by omega
    rw [← this]; simp
  · rintro rfl
    simp; omega
theorem byte_ne (b:UInt8) (n:Nat) (hn:n < 256):(((b.toNat:Nat):Int) != (n:Int)) = (b != UInt8.ofNat n):=by
  unfold bne; rw [byte_eq b n hn]
theorem sp_ref_Bare (s:Str) (hs:s.length ≤ 1000000):PCall Tryz.prog 18 [.str s] (.str (bareS s)):=by
  refine Zcf ?_ (cS _) (by simp only [ClosedL,List.mem_cons,List.not_mem_nil,or_false,forall_eq_or_imp,forall_eq,false_implies,implies_true]; repeat' (first  | exact cS _ | refine And.intro ?_ ?_))
  refine Zct (vc:=c_pandectref56_Bare) (ts:=[.t 2]) Go.Proofs.Tryz.func18 (by kernel_rfl) rfl rfl (Nat.le_of_ble_eq_true rfl) (by kernel_rfl) ?_
  unfold c_pandectref56_Bare
  try dsimp only [ZM,ZO,ZN,ZG]
  refine Za1 (Zac [0] ?_)
  simp only [midQ,Zaa,Zai,Zbi,Zav,Zaw,Zbj,Zay,guardOf,Zad,Zas,Zau,Zaf,Zah,Zax,Zbp,VOp.isIaddr,QW,dok,dval,VOp.pure,VOp.simple,VOp.det,pok,pval,VA.ev,Env.get,Env.put,Env.keep,Za7,Zaz,Za2,retQ,resV,Zbq,RS.ev,RS.ok,gd,Zbx,isBool,aggV,intV,binV,Zbk,strV,Zby,Zb1,Zbf,unV,unOk,Zb2,isInt,isStr,numOf,loV,hiV,lenV,Zaq,Zbg,Zat,Zbb,Za9,Zae,Zbl,Zab,Zbd,Za6,Zao,idxV,Zb3,Zbn,extV,Zbz,Zbr,Zbc,mmV,PV.cells,PV.fits,overlay,PV.nth,PV.row,Zbw,Zan,Zbv,Za8,Zbo,Zbm,Zak,Za5,Zbe,Zap,Heap.get,Heap.set,Heap.del,Heap.le,HL.get,HL.set,HL.del,HL.le,Heap.push,Heap.nil,Nat.le_refl,Nat.add_eq_left,Nat.left_eq_add,Nat.succ_ne_self,Nat.one_ne_zero,Env.le,Za3,Zbt,Zam,Zbu,Zaj,Zbs,Za0,Zal,eqOk,ekOk,Zag,Za4,Zba,Zar,AB.live,pxV,pxOk,fxV,fxOk,Zb0,Zbh,isNil,notNil,List.map,List.set,List.replicate,List.length,List.getD_cons_zero,List.getD_cons_succ,List.getD_nil,List.take,List.drop,List.take_zero,List.drop_zero,List.take_succ_cons,List.drop_succ_cons,List.append,List.cons_append,List.nil_append,Option.map,Nat.reduceEqDiff,Nat.reduceAdd,Nat.reduceLT,Nat.reduceLeDiff,Nat.reduceSub,Nat.reduceMul,reduceIte,Bool.false_eq_true,Bool.true_eq_false,ite_true,ite_false,if_true,if_false,true_and,and_true,implies_true,forall_const,ne_eq,not_false_eq_true,reduceCtorEq,BEq.rfl,beq_self_eq_true,Option.some.injEq,Nat.zero_add,Nat.add_zero,List.length_cons,List.length_nil,true_implies,imp_self,Int.reduceToNat,Int.toNat_natCast,Bool.not_false,Bool.not_true]
  refine Za1 ?_
  refine Zb5 ?_
  refine Zcm (σ:={ r:Str // Lib.trimLeftB r 40 = Lib.trimLeftB s 40 ∧ r.length ≤ s.length }) (fun r=>([(0,.str r.1)],⟨[],0⟩)) (fun r=>r.1.length) ⟨s,rfl,Nat.le_refl _⟩ ?_ ?_ ?_
  · try simp only [midQ,Zaa,Zai,Zbi,Zav,Zaw,Zbj,Zay,guardOf,Zad,Zas,Zau,Zaf,Zah,Zax,Zbp,VOp.isIaddr,QW,dok,dval,VOp.pure,VOp.simple,VOp.det,pok,pval,VA.ev,Env.get,Env.put,Env.keep,Za7,Zaz,Za2,retQ,resV,Zbq,RS.ev,RS.ok,gd,Zbx,isBool,aggV,intV,binV,Zbk,strV,Zby,Zb1,Zbf,unV,unOk,Zb2,isInt,isStr,numOf,loV,hiV,lenV,Zaq,Zbg,Zat,Zbb,Za9,Zae,Zbl,Zab,Zbd,Za6,Zao,idxV,Zb3,Zbn,extV,Zbz,Zbr,Zbc,mmV,PV.cells,PV.fits,overlay,PV.nth,PV.row,Zbw,Zan,Zbv,Za8,Zbo,Zbm,Zak,Za5,Zbe,Zap,Heap.get,Heap.set,Heap.del,Heap.le,HL.get,HL.set,HL.del,HL.le,Heap.push,Heap.nil,Nat.le_refl,Nat.add_eq_left,Nat.left_eq_add,Nat.succ_ne_self,Nat.one_ne_zero,Env.le,Za3,Zbt,Zam,Zbu,Zaj,Zbs,Za0,Zal,eqOk,ekOk,Zag,Za4,Zba,Zar,AB.live,pxV,pxOk,fxV,fxOk,Zb0,Zbh,isNil,notNil,List.map,List.set,List.replicate,List.length,List.getD_cons_zero,List.getD_cons_succ,List.getD_nil,List.take,List.drop,List.take_zero,List.drop_zero,List.take_succ_cons,List.drop_succ_cons,List.append,List.cons_append,List.nil_append,Option.map,Nat.reduceEqDiff,Nat.reduceAdd,Nat.reduceLT,Nat.reduceLeDiff,Nat.reduceSub,Nat.reduceMul,reduceIte,Bool.false_eq_true,Bool.true_eq_false,ite_true,ite_false,if_true,if_false,true_and,and_true,implies_true,forall_const,ne_eq,not_false_eq_true,reduceCtorEq,BEq.rfl,beq_self_eq_true,Option.some.injEq,Nat.zero_add,Nat.add_zero,List.length_cons,List.length_nil,true_implies,imp_self,Int.reduceToNat,Int.toNat_natCast,Bool.not_false,Bool.not_true,true_and]
    all_goals (repeat' (first | rfl | trivial | omega | (simp only []; omega) | refine And.intro ?_ ?_))
  · simp only [midQ,Zaa,Zai,Zbi,Zav,Zaw,Zbj,Zay,guardOf,Zad,Zas,Zau,Zaf,Zah,Zax,Zbp,VOp.isIaddr,QW,dok,dval,VOp.pure,VOp.simple,VOp.det,pok,pval,VA.ev,Env.get,Env.put,Env.keep,Za7,Zaz,Za2,retQ,resV,Zbq,RS.ev,RS.ok,gd,Zbx,isBool,aggV,intV,binV,Zbk,strV,Zby,Zb1,Zbf,unV,unOk,Zb2,isInt,isStr,numOf,loV,hiV,lenV,Zaq,Zbg,Zat,Zbb,Za9,Zae,Zbl,Zab,Zbd,Za6,Zao,idxV,Zb3,Zbn,extV,Zbz,Zbr,Zbc,mmV,PV.cells,PV.fits,overlay,PV.nth,PV.row,Zbw,Zan,Zbv,Za8,Zbo,Zbm,Zak,Za5,Zbe,Zap,Heap.get,Heap.set,Heap.del,Heap.le,HL.get,HL.set,HL.del,HL.le,Heap.push,Heap.nil,Nat.le_refl,Nat.add_eq_left,Nat.left_eq_add,Nat.succ_ne_self,Nat.one_ne_zero,Env.le,Za3,Zbt,Zam,Zbu,Zaj,Zbs,Za0,Zal,eqOk,ekOk,Zag,Za4,Zba,Zar,AB.live,pxV,pxOk,fxV,fxOk,Zb0,Zbh,isNil,notNil,List.map,List.set,List.replicate,List.length,List.getD_cons_zero,List.getD_cons_succ,List.getD_nil,List.take,List.drop,List.take_zero,List.drop_zero,List.take_succ_cons,List.drop_succ_cons,List.append,List.cons_append,List.nil_append,Option.map,Nat.reduceEqDiff,Nat.reduceAdd,Nat.reduceLT,Nat.reduceLeDiff,Nat.reduceSub,Nat.reduceMul,reduceIte,Bool.false_eq_true,Bool.true_eq_false,ite_true,ite_false,if_true,if_false,true_and,and_true,implies_true,forall_const,ne_eq,not_false_eq_true,reduceCtorEq,BEq.rfl,beq_self_eq_true,Option.some.injEq,Nat.zero_add,Nat.add_zero,List.length_cons,List.length_nil,true_implies,imp_self,Int.reduceToNat,Int.toNat_natCast,Bool.not_false,Bool.not_true]
  rintro ⟨r,hr,hrl⟩
  simp only [] at hr hrl ⊢
  refine Za1 ?_
  refine Za1 (VW_mid (σ:={ b:Bool // b = true ↔ ∃ q,r = 40 :: q }) (fun b=>([(0,.str r),(11,.bool b.1)],⟨[],0⟩)) (Zac [0,11] ?_) (fun b=>?_))
  · cases r with
    | nil =>
      have e1:decide (((0:Nat):Int) > 0) = false:=by decide
      simp only [midQ,Zaa,Zai,Zbi,Zav,Zaw,Zbj,Zay,guardOf,Zad,Zas,Zau,Zaf,Zah,Zax,Zbp,VOp.isIaddr,QW,dok,dval,VOp.pure,VOp.simple,VOp.det,pok,pval,VA.ev,Env.get,Env.put,Env.keep,Za7,Zaz,Za2,retQ,resV,Zbq,RS.ev,RS.ok,gd,Zbx,isBool,aggV,intV,binV,Zbk,strV,Zby,Zb1,Zbf,unV,unOk,Zb2,isInt,isStr,numOf,loV,hiV,lenV,Zaq,Zbg,Zat,Zbb,Za9,Zae,Zbl,Zab,Zbd,Za6,Zao,idxV,Zb3,Zbn,extV,Zbz,Zbr,Zbc,mmV,PV.cells,PV.fits,overlay,PV.nth,PV.row,Zbw,Zan,Zbv,Za8,Zbo,Zbm,Zak,Za5,Zbe,Zap,Heap.get,Heap.set,Heap.del,Heap.le,HL.get,HL.set,HL.del,HL.le,Heap.push,Heap.nil,Nat.le_refl,Nat.add_eq_left,Nat.left_eq_add,Nat.succ_ne_self,Nat.one_ne_zero,Env.le,Za3,Zbt,Zam,Zbu,Zaj,Zbs,Za0,Zal,eqOk,ekOk,Zag,Za4,Zba,Zar,AB.live,pxV,pxOk,fxV,fxOk,Zb0,Zbh,isNil,notNil,List.map,List.set,List.replicate,List.length,List.getD_cons_zero,List.getD_cons_succ,List.getD_nil,List.take,List.drop,List.take_zero,List.drop_zero,List.take_succ_cons,List.drop_succ_cons,List.append,List.cons_append,List.nil_append,Option.map,Nat.reduceEqDiff,Nat.reduceAdd,Nat.reduceLT,Nat.reduceLeDiff,Nat.reduceSub,Nat.reduceMul,reduceIte,Bool.false_eq_true,Bool.true_eq_false,ite_true,ite_false,if_true,if_false,true_and,and_true,implies_true,forall_const,ne_eq,not_false_eq_true,reduceCtorEq,BEq.rfl,beq_self_eq_true,Option.some.injEq,Nat.zero_add,Nat.add_zero,List.length_cons,List.length_nil,true_implies,imp_self,Int.reduceToNat,Int.toNat_natCast,Bool.not_false,Bool.not_true,List.length_nil,e1]
      exact ⟨⟨false,by simp⟩,rfl⟩
    | cons b r =>
      have e1:decide (((r.length + 1:Nat):Int) > 0) = true:=by simp
      have e2:(((b.toNat:Nat):Int) == 40) = (b == 40):=byte_eq b 40 (by decide)
      simp only [midQ,Zaa,Zai,Zbi,Zav,Zaw,Zbj,Zay,guardOf,Zad,Zas,Zau,Zaf,Zah,Zax,Zbp,VOp.isIaddr,QW,dok,dval,VOp.pure,VOp.simple,VOp.det,pok,pval,VA.ev,Env.get,Env.put,Env.keep,Za7,Zaz,Za2,retQ,resV,Zbq,RS.ev,RS.ok,gd,Zbx,isBool,aggV,intV,binV,Zbk,strV,Zby,Zb1,Zbf,unV,unOk,Zb2,isInt,isStr,numOf,loV,hiV,lenV,Zaq,Zbg,Zat,Zbb,Za9,Zae,Zbl,Zab,Zbd,Za6,Zao,idxV,Zb3,Zbn,extV,Zbz,Zbr,Zbc,mmV,PV.cells,PV.fits,overlay,PV.nth,PV.row,Zbw,Zan,Zbv,Za8,Zbo,Zbm,Zak,Za5,Zbe,Zap,Heap.get,Heap.set,Heap.del,Heap.le,HL.get,HL.set,HL.del,HL.le,Heap.push,Heap.nil,Nat.le_refl,Nat.add_eq_left,Nat.left_eq_add,Nat.succ_ne_self,Nat.one_ne_zero,Env.le,Za3,Zbt,Zam,Zbu,Zaj,Zbs,Za0,Zal,eqOk,ekOk,Zag,Za4,Zba,Zar,AB.live,pxV,pxOk,fxV,fxOk,Zb0,Zbh,isNil,notNil,List.map,List.set,List.replicate,List.length,List.getD_cons_zero,List.getD_cons_succ,List.getD_nil,List.take,List.drop,List.take_zero,List.drop_zero,List.take_succ_cons,List.drop_succ_cons,List.append,List.cons_append,List.nil_append,Option.map,Nat.reduceEqDiff,Nat.reduceAdd,Nat.reduceLT,Nat.reduceLeDiff,Nat.reduceSub,Nat.reduceMul,reduceIte,Bool.false_eq_true,Bool.true_eq_false,ite_true,ite_false,if_true,if_false,true_and,and_true,implies_true,forall_const,ne_eq,not_false_eq_true,reduceCtorEq,BEq.rfl,beq_self_eq_true,Option.some.injEq,Nat.zero_add,Nat.add_zero,List.length_cons,List.length_nil,true_implies,imp_self,Int.reduceToNat,Int.toNat_natCast,Bool.not_false,Bool.not_true,List.length_cons,e1,e2]
      refine ⟨⟨by omega,by omega⟩,⟨b == 40,?_⟩,rfl⟩
      rw [beq_iff_eq]
      constructor
      · rintro rfl; exact ⟨r,rfl⟩
      · rintro ⟨q,e⟩; cases e; rfl
  obtain ⟨b,hb⟩:=b
  simp only []
  refine Zca rfl (fun h1=>?_) (fun h1=>?_)
  · obtain ⟨q,rfl⟩:=hb.1 h1
    rw [trimL_cons,if_pos rfl] at hr
    simp only [List.length_cons] at hrl
    refine Zcb ?_
    try simp only [midQ,Zaa,Zai,Zbi,Zav,Zaw,Zbj,Zay,guardOf,Zad,Zas,Zau,Zaf,Zah,Zax,Zbp,VOp.isIaddr,QW,dok,dval,VOp.pure,VOp.simple,VOp.det,pok,pval,VA.ev,Env.get,Env.put,Env.keep,Za7,Zaz,Za2,retQ,resV,Zbq,RS.ev,RS.ok,gd,Zbx,isBool,aggV,intV,binV,Zbk,strV,Zby,Zb1,Zbf,unV,unOk,Zb2,isInt,isStr,numOf,loV,hiV,lenV,Zaq,Zbg,Zat,Zbb,Za9,Zae,Zbl,Zab,Zbd,Za6,Zao,idxV,Zb3,Zbn,extV,Zbz,Zbr,Zbc,mmV,PV.cells,PV.fits,overlay,PV.nth,PV.row,Zbw,Zan,Zbv,Za8,Zbo,Zbm,Zak,Za5,Zbe,Zap,Heap.get,Heap.set,Heap.del,Heap.le,HL.get,HL.set,HL.del,HL.le,Heap.push,Heap.nil,Nat.le_refl,Nat.add_eq_left,Nat.left_eq_add,Nat.succ_ne_self,Nat.one_ne_zero,Env.le,Za3,Zbt,Zam,Zbu,Zaj,Zbs,Za0,Zal,eqOk,ekOk,Zag,Za4,Zba,Zar,AB.live,pxV,pxOk,fxV,fxOk,Zb0,Zbh,isNil,notNil,List.map,List.set,List.replicate,List.length,List.getD_cons_zero,List.getD_cons_succ,List.getD_nil,List.take,List.drop,List.take_zero,List.drop_zero,List.take_succ_cons,List.drop_succ_cons,List.append,List.cons_append,List.nil_append,Option.map,Nat.reduceEqDiff,Nat.reduceAdd,Nat.reduceLT,Nat.reduceLeDiff,Nat.reduceSub,Nat.reduceMul,reduceIte,Bool.false_eq_true,Bool.true_eq_false,ite_true,ite_false,if_true,if_false,true_and,and_true,implies_true,forall_const,ne_eq,not_false_eq_true,reduceCtorEq,BEq.rfl,beq_self_eq_true,Option.some.injEq,Nat.zero_add,Nat.add_zero,List.length_cons,List.length_nil,true_implies,imp_self,Int.reduceToNat,Int.toNat_natCast,Bool.not_false,Bool.not_true]
    refine Zb5 ?_
    refine Zac [0] ?_
    simp only [midQ,Zaa,Zai,Zbi,Zav,Zaw,Zbj,Zay,guardOf,Zad,Zas,Zau,Zaf,Zah,Zax,Zbp,VOp.isIaddr,QW,dok,dval,VOp.pure,VOp.simple,VOp.det,pok,pval,VA.ev,Env.get,Env.put,Env.keep,Za7,Zaz,Za2,retQ,resV,Zbq,RS.ev,RS.ok,gd,Zbx,isBool,aggV,intV,binV,Zbk,strV,Zby,Zb1,Zbf,unV,unOk,Zb2,isInt,isStr,numOf,loV,hiV,lenV,Zaq,Zbg,Zat,Zbb,Za9,Zae,Zbl,Zab,Zbd,Za6,Zao,idxV,Zb3,Zbn,extV,Zbz,Zbr,Zbc,mmV,PV.cells,PV.fits,overlay,PV.nth,PV.row,Zbw,Zan,Zbv,Za8,Zbo,Zbm,Zak,Za5,Zbe,Zap,Heap.get,Heap.set,Heap.del,Heap.le,HL.get,HL.set,HL.del,HL.le,Heap.push,Heap.nil,Nat.le_refl,Nat.add_eq_left,Nat.left_eq_add,Nat.succ_ne_self,Nat.one_ne_zero,Env.le,Za3,Zbt,Zam,Zbu,Zaj,Zbs,Za0,Zal,eqOk,ekOk,Zag,Za4,Zba,Zar,AB.live,pxV,pxOk,fxV,fxOk,Zb0,Zbh,isNil,notNil,List.map,List.set,List.replicate,List.length,List.getD_cons_zero,List.getD_cons_succ,List.getD_nil,List.take,List.drop,List.take_zero,List.drop_zero,List.take_succ_cons,List.drop_succ_cons,List.append,List.cons_append,List.nil_append,Option.map,Nat.reduceEqDiff,Nat.reduceAdd,Nat.reduceLT,Nat.reduceLeDiff,Nat.reduceSub,Nat.reduceMul,reduceIte,Bool.false_eq_true,Bool.true_eq_false,ite_true,ite_false,if_true,if_false,true_and,and_true,implies_true,forall_const,ne_eq,not_false_eq_true,reduceCtorEq,BEq.rfl,beq_self_eq_true,Option.some.injEq,Nat.zero_add,Nat.add_zero,List.length_cons,List.length_nil,true_implies,imp_self,Int.reduceToNat,Int.toNat_natCast,Bool.not_false,Bool.not_true,List.length_cons]
    repeat (with_reducible refine And.intro ?_ ?_; first | omega | (with_reducible constructor <;> omega) | exact False.elim | exact True.intro)
    refine ⟨⟨q,hr,by omega⟩,?_⟩
    have e3:List.take (q.length + 1 - 1) q = q:=List.take_of_length_le (by omega)
    try simp only [midQ,Zaa,Zai,Zbi,Zav,Zaw,Zbj,Zay,guardOf,Zad,Zas,Zau,Zaf,Zah,Zax,Zbp,VOp.isIaddr,QW,dok,dval,VOp.pure,VOp.simple,VOp.det,pok,pval,VA.ev,Env.get,Env.put,Env.keep,Za7,Zaz,Za2,retQ,resV,Zbq,RS.ev,RS.ok,gd,Zbx,isBool,aggV,intV,binV,Zbk,strV,Zby,Zb1,Zbf,unV,unOk,Zb2,isInt,isStr,numOf,loV,hiV,lenV,Zaq,Zbg,Zat,Zbb,Za9,Zae,Zbl,Zab,Zbd,Za6,Zao,idxV,Zb3,Zbn,extV,Zbz,Zbr,Zbc,mmV,PV.cells,PV.fits,overlay,PV.nth,PV.row,Zbw,Zan,Zbv,Za8,Zbo,Zbm,Zak,Za5,Zbe,Zap,Heap.get,Heap.set,Heap.del,Heap.le,HL.get,HL.set,HL.del,HL.le,Heap.push,Heap.nil,Nat.le_refl,Nat.add_eq_left,Nat.left_eq_add,Nat.succ_ne_self,Nat.one_ne_zero,Env.le,Za3,Zbt,Zam,Zbu,Zaj,Zbs,Za0,Zal,eqOk,ekOk,Zag,Za4,Zba,Zar,AB.live,pxV,pxOk,fxV,fxOk,Zb0,Zbh,isNil,notNil,List.map,List.set,List.replicate,List.length,List.getD_cons_zero,List.getD_cons_succ,List.getD_nil,List.take,List.drop,List.take_zero,List.drop_zero,List.take_succ_cons,List.drop_succ_cons,List.append,List.cons_append,List.nil_append,Option.map,Nat.reduceEqDiff,Nat.reduceAdd,Nat.reduceLT,Nat.reduceLeDiff,Nat.reduceSub,Nat.reduceMul,reduceIte,Bool.false_eq_true,Bool.true_eq_false,ite_true,ite_false,if_true,if_false,true_and,and_true,implies_true,forall_const,ne_eq,not_false_eq_true,reduceCtorEq,BEq.rfl,beq_self_eq_true,Option.some.injEq,Nat.zero_add,Nat.add_zero,List.length_cons,List.length_nil,true_implies,imp_self,Int.reduceToNat,Int.toNat_natCast,Bool.not_false,Bool.not_true,e3,true_and]
    all_goals (repeat' (first | rfl | trivial | omega | (simp only []; omega) | refine And.intro ?_ ?_))
  have hrs:Lib.trimLeftB s 40 = r:=by
    rw [← hr]
    cases r with
    | nil=>rfl
    | cons b q =>
      rw [trimL_cons,if_neg]
      rintro rfl
      rw [hb.2 ⟨q,rfl⟩] at h1; cases h1
  have hbs:bareS s = Lib.trimRightS r behindT:=by unfold bareS; rw [hrs]
  rw [hbs]
  refine Zck ?_
  try simp only [midQ,Zaa,Zai,Zbi,Zav,Zaw,Zbj,Zay,guardOf,Zad,Zas,Zau,Zaf,Zah,Zax,Zbp,VOp.isIaddr,QW,dok,dval,VOp.pure,VOp.simple,VOp.det,pok,pval,VA.ev,Env.get,Env.put,Env.keep,Za7,Zaz,Za2,retQ,resV,Zbq,RS.ev,RS.ok,gd,Zbx,isBool,aggV,intV,binV,Zbk,strV,Zby,Zb1,Zbf,unV,unOk,Zb2,isInt,isStr,numOf,loV,hiV,lenV,Zaq,Zbg,Zat,Zbb,Za9,Zae,Zbl,Zab,Zbd,Za6,Zao,idxV,Zb3,Zbn,extV,Zbz,Zbr,Zbc,mmV,PV.cells,PV.fits,overlay,PV.nth,PV.row,Zbw,Zan,Zbv,Za8,Zbo,Zbm,Zak,Za5,Zbe,Zap,Heap.get,Heap.set,Heap.del,Heap.le,HL.get,HL.set,HL.del,HL.le,Heap.push,Heap.nil,Nat.le_refl,Nat.add_eq_left,Nat.left_eq_add,Nat.succ_ne_self,Nat.one_ne_zero,Env.le,Za3,Zbt,Zam,Zbu,Zaj,Zbs,Za0,Zal,eqOk,ekOk,Zag,Za4,Zba,Zar,AB.live,pxV,pxOk,fxV,fxOk,Zb0,Zbh,isNil,notNil,List.map,List.set,List.replicate,List.length,List.getD_cons_zero,List.getD_cons_succ,List.getD_nil,List.take,List.drop,List.take_zero,List.drop_zero,List.take_succ_cons,List.drop_succ_cons,List.append,List.cons_append,List.nil_append,Option.map,Nat.reduceEqDiff,Nat.reduceAdd,Nat.reduceLT,Nat.reduceLeDiff,Nat.reduceSub,Nat.reduceMul,reduceIte,Bool.false_eq_true,Bool.true_eq_false,ite_true,ite_false,if_true,if_false,true_and,and_true,implies_true,forall_const,ne_eq,not_false_eq_true,reduceCtorEq,BEq.rfl,beq_self_eq_true,Option.some.injEq,Nat.zero_add,Nat.add_zero,List.length_cons,List.length_nil,true_implies,imp_self,Int.reduceToNat,Int.toNat_natCast,Bool.not_false,Bool.not_true]
  refine Za1 ?_
  refine Zb5 ?_
  refine Zcm (σ:={ q:Str // Lib.trimRightS q behindT = Lib.trimRightS r behindT ∧ q.length ≤ s.length }) (fun q=>([(0,.str q.1)],⟨[],0⟩)) (fun q=>q.1.length) ⟨r,rfl,hrl⟩ ?_ ?_ ?_
  · try simp only [midQ,Zaa,Zai,Zbi,Zav,Zaw,Zbj,Zay,guardOf,Zad,Zas,Zau,Zaf,Zah,Zax,Zbp,VOp.isIaddr,QW,dok,dval,VOp.pure,VOp.simple,VOp.det,pok,pval,VA.ev,Env.get,Env.put,Env.keep,Za7,Zaz,Za2,retQ,resV,Zbq,RS.ev,RS.ok,gd,Zbx,isBool,aggV,intV,binV,Zbk,strV,Zby,Zb1,Zbf,unV,unOk,Zb2,isInt,isStr,numOf,loV,hiV,lenV,Zaq,Zbg,Zat,Zbb,Za9,Zae,Zbl,Zab,Zbd,Za6,Zao,idxV,Zb3,Zbn,extV,Zbz,Zbr,Zbc,mmV,PV.cells,PV.fits,overlay,PV.nth,PV.row,Zbw,Zan,Zbv,Za8,Zbo,Zbm,Zak,Za5,Zbe,Zap,Heap.get,Heap.set,Heap.del,Heap.le,HL.get,HL.set,HL.del,HL.le,Heap.push,Heap.nil,Nat.le_refl,Nat.add_eq_left,Nat.left_eq_add,Nat.succ_ne_self,Nat.one_ne_zero,Env.le,Za3,Zbt,Zam,Zbu,Zaj,Zbs,Za0,Zal,eqOk,ekOk,Zag,Za4,Zba,Zar,AB.live,pxV,pxOk,fxV,fxOk,Zb0,Zbh,isNil,notNil,List.map,List.set,List.replicate,List.length,List.getD_cons_zero,List.getD_cons_succ,List.getD_nil,List.take,List.drop,List.take_zero,List.drop_zero,List.take_succ_cons,List.drop_succ_cons,List.append,List.cons_append,List.nil_append,Option.map,Nat.reduceEqDiff,Nat.reduceAdd,Nat.reduceLT,Nat.reduceLeDiff,Nat.reduceSub,Nat.reduceMul,reduceIte,Bool.false_eq_true,Bool.true_eq_false,ite_true,ite_false,if_true,if_false,true_and,and_true,implies_true,forall_const,ne_eq,not_false_eq_true,reduceCtorEq,BEq.rfl,beq_self_eq_true,Option.some.injEq,Nat.zero_add,Nat.add_zero,List.length_cons,List.length_nil,true_implies,imp_self,Int.reduceToNat,Int.toNat_natCast,Bool.not_false,Bool.not_true,true_and]
    all_goals (repeat' (first | rfl | trivial | omega | (simp only []; omega) | refine And.intro ?_ ?_))
  · simp only [midQ,Zaa,Zai,Zbi,Zav,Zaw,Zbj,Zay,guardOf,Zad,Zas,Zau,Zaf,Zah,Zax,Zbp,VOp.isIaddr,QW,dok,dval,VOp.pure,VOp.simple,VOp.det,pok,pval,VA.ev,Env.get,Env.put,Env.keep,Za7,Zaz,Za2,retQ,resV,Zbq,RS.ev,RS.ok,gd,Zbx,isBool,aggV,intV,binV,Zbk,strV,Zby,Zb1,Zbf,unV,unOk,Zb2,isInt,isStr,numOf,loV,hiV,lenV,Zaq,Zbg,Zat,Zbb,Za9,Zae,Zbl,Zab,Zbd,Za6,Zao,idxV,Zb3,Zbn,extV,Zbz,Zbr,Zbc,mmV,PV.cells,PV.fits,overlay,PV.nth,PV.row,Zbw,Zan,Zbv,Za8,Zbo,Zbm,Zak,Za5,Zbe,Zap,Heap.get,Heap.set,Heap.del,Heap.le,HL.get,HL.set,HL.del,HL.le,Heap.push,Heap.nil,Nat.le_refl,Nat.add_eq_left,Nat.left_eq_add,Nat.succ_ne_self,Nat.one_ne_zero,Env.le,Za3,Zbt,Zam,Zbu,Zaj,Zbs,Za0,Zal,eqOk,ekOk,Zag,Za4,Zba,Zar,AB.live,pxV,pxOk,fxV,fxOk,Zb0,Zbh,isNil,notNil,List.map,List.set,List.replicate,List.length,List.getD_cons_zero,List.getD_cons_succ,List.getD_nil,List.take,List.drop,List.take_zero,List.drop_zero,List.take_succ_cons,List.drop_succ_cons,List.append,List.cons_append,List.nil_append,Option.map,Nat.reduceEqDiff,Nat.reduceAdd,Nat.reduceLT,Nat.reduceLeDiff,Nat.reduceSub,Nat.reduceMul,reduceIte,Bool.false_eq_true,Bool.true_eq_false,ite_true,ite_false,if_true,if_false,true_and,and_true,implies_true,forall_const,ne_eq,not_false_eq_true,reduceCtorEq,BEq.rfl,beq_self_eq_true,Option.some.injEq,Nat.zero_add,Nat.add_zero,List.length_cons,List.length_nil,true_implies,imp_self,Int.reduceToNat,Int.toNat_natCast,Bool.not_false,Bool.not_true]
  rintro ⟨q,hq,hql⟩
  simp only [] at hq hql ⊢
  refine Za1 ?_
  refine Za1 (Zac [0,16] ?_)
  simp only [midQ,Zaa,Zai,Zbi,Zav,Zaw,Zbj,Zay,guardOf,Zad,Zas,Zau,Zaf,Zah,Zax,Zbp,VOp.isIaddr,QW,dok,dval,VOp.pure,VOp.simple,VOp.det,pok,pval,VA.ev,Env.get,Env.put,Env.keep,Za7,Zaz,Za2,retQ,resV,Zbq,RS.ev,RS.ok,gd,Zbx,isBool,aggV,intV,binV,Zbk,strV,Zby,Zb1,Zbf,unV,unOk,Zb2,isInt,isStr,numOf,loV,hiV,lenV,Zaq,Zbg,Zat,Zbb,Za9,Zae,Zbl,Zab,Zbd,Za6,Zao,idxV,Zb3,Zbn,extV,Zbz,Zbr,Zbc,mmV,PV.cells,PV.fits,overlay,PV.nth,PV.row,Zbw,Zan,Zbv,Za8,Zbo,Zbm,Zak,Za5,Zbe,Zap,Heap.get,Heap.set,Heap.del,Heap.le,HL.get,HL.set,HL.del,HL.le,Heap.push,Heap.nil,Nat.le_refl,Nat.add_eq_left,Nat.left_eq_add,Nat.succ_ne_self,Nat.one_ne_zero,Env.le,Za3,Zbt,Zam,Zbu,Zaj,Zbs,Za0,Zal,eqOk,ekOk,Zag,Za4,Zba,Zar,AB.live,pxV,pxOk,fxV,fxOk,Zb0,Zbh,isNil,notNil,List.map,List.set,List.replicate,List.length,List.getD_cons_zero,List.getD_cons_succ,List.getD_nil,List.take,List.drop,List.take_zero,List.drop_zero,List.take_succ_cons,List.drop_succ_cons,List.append,List.cons_append,List.nil_append,Option.map,Nat.reduceEqDiff,Nat.reduceAdd,Nat.reduceLT,Nat.reduceLeDiff,Nat.reduceSub,Nat.reduceMul,reduceIte,Bool.false_eq_true,Bool.true_eq_false,ite_true,ite_false,if_true,if_false,true_and,and_true,implies_true,forall_const,ne_eq,not_false_eq_true,reduceCtorEq,BEq.rfl,beq_self_eq_true,Option.some.injEq,Nat.zero_add,Nat.add_zero,List.length_cons,List.length_nil,true_implies,imp_self,Int.reduceToNat,Int.toNat_natCast,Bool.not_false,Bool.not_true]
  refine Zca rfl (fun h2=>?_) (fun h2=>?_)
  · simp only [decide_eq_true_eq] at h2
    obtain ⟨p,b,rfl⟩:∃ p b,q = p ++ [b]:=⟨q.dropLast,q.getLast (by rintro rfl; simp at h2),(List.dropLast_concat_getLast _).symm⟩
    have hlen:(p ++ [b]).length = p.length + 1:=by simp
    rw [trimR_snoc] at hq
    rw [hlen] at hql
    refine Zcb ?_
    try simp only [midQ,Zaa,Zai,Zbi,Zav,Zaw,Zbj,Zay,guardOf,Zad,Zas,Zau,Zaf,Zah,Zax,Zbp,VOp.isIaddr,QW,dok,dval,VOp.pure,VOp.simple,VOp.det,pok,pval,VA.ev,Env.get,Env.put,Env.keep,Za7,Zaz,Za2,retQ,resV,Zbq,RS.ev,RS.ok,gd,Zbx,isBool,aggV,intV,binV,Zbk,strV,Zby,Zb1,Zbf,unV,unOk,Zb2,isInt,isStr,numOf,loV,hiV,lenV,Zaq,Zbg,Zat,Zbb,Za9,Zae,Zbl,Zab,Zbd,Za6,Zao,idxV,Zb3,Zbn,extV,Zbz,Zbr,Zbc,mmV,PV.cells,PV.fits,overlay,PV.nth,PV.row,Zbw,Zan,Zbv,Za8,Zbo,Zbm,Zak,Za5,Zbe,Zap,Heap.get,Heap.set,Heap.del,Heap.le,HL.get,HL.set,HL.del,HL.le,Heap.push,Heap.nil,Nat.le_refl,Nat.add_eq_left,Nat.left_eq_add,Nat.succ_ne_self,Nat.one_ne_zero,Env.le,Za3,Zbt,Zam,Zbu,Zaj,Zbs,Za0,Zal,eqOk,ekOk,Zag,Za4,Zba,Zar,AB.live,pxV,pxOk,fxV,fxOk,Zb0,Zbh,isNil,notNil,List.map,List.set,List.replicate,List.length,List.getD_cons_zero,List.getD_cons_succ,List.getD_nil,List.take,List.drop,List.take_zero,List.drop_zero,List.take_succ_cons,List.drop_succ_cons,List.append,List.cons_append,List.nil_append,Option.map,Nat.reduceEqDiff,Nat.reduceAdd,Nat.reduceLT,Nat.reduceLeDiff,Nat.reduceSub,Nat.reduceMul,reduceIte,Bool.false_eq_true,Bool.true_eq_false,ite_true,ite_false,if_true,if_false,true_and,and_true,implies_true,forall_const,ne_eq,not_false_eq_true,reduceCtorEq,BEq.rfl,beq_self_eq_true,Option.some.injEq,Nat.zero_add,Nat.add_zero,List.length_cons,List.length_nil,true_implies,imp_self,Int.reduceToNat,Int.toNat_natCast,Bool.not_false,Bool.not_true]
    refine Zb5 ?_
    refine Za1 (Zac [0,3] ?_)
    have et:(((p.length + 1:Nat):Int) - 1).toNat = p.length:=by omega
    have ix:List.getD (p ++ [b]) p.length 0 = b:=by simp
    have tk:List.take (p.length - 0) (p ++ [b]) = p:=by simp
    simp only [midQ,Zaa,Zai,Zbi,Zav,Zaw,Zbj,Zay,guardOf,Zad,Zas,Zau,Zaf,Zah,Zax,Zbp,VOp.isIaddr,QW,dok,dval,VOp.pure,VOp.simple,VOp.det,pok,pval,VA.ev,Env.get,Env.put,Env.keep,Za7,Zaz,Za2,retQ,resV,Zbq,RS.ev,RS.ok,gd,Zbx,isBool,aggV,intV,binV,Zbk,strV,Zby,Zb1,Zbf,unV,unOk,Zb2,isInt,isStr,numOf,loV,hiV,lenV,Zaq,Zbg,Zat,Zbb,Za9,Zae,Zbl,Zab,Zbd,Za6,Zao,idxV,Zb3,Zbn,extV,Zbz,Zbr,Zbc,mmV,PV.cells,PV.fits,overlay,PV.nth,PV.row,Zbw,Zan,Zbv,Za8,Zbo,Zbm,Zak,Za5,Zbe,Zap,Heap.get,Heap.set,Heap.del,Heap.le,HL.get,HL.set,HL.del,HL.le,Heap.push,Heap.nil,Nat.le_refl,Nat.add_eq_left,Nat.left_eq_add,Nat.succ_ne_self,Nat.one_ne_zero,Env.le,Za3,Zbt,Zam,Zbu,Zaj,Zbs,Za0,Zal,eqOk,ekOk,Zag,Za4,Zba,Zar,AB.live,pxV,pxOk,fxV,fxOk,Zb0,Zbh,isNil,notNil,List.map,List.set,List.replicate,List.length,List.getD_cons_zero,List.getD_cons_succ,List.getD_nil,List.take,List.drop,List.take_zero,List.drop_zero,List.take_succ_cons,List.drop_succ_cons,List.append,List.cons_append,List.nil_append,Option.map,Nat.reduceEqDiff,Nat.reduceAdd,Nat.reduceLT,Nat.reduceLeDiff,Nat.reduceSub,Nat.reduceMul,reduceIte,Bool.false_eq_true,Bool.true_eq_false,ite_true,ite_false,if_true,if_false,true_and,and_true,implies_true,forall_const,ne_eq,not_false_eq_true,reduceCtorEq,BEq.rfl,beq_self_eq_true,Option.some.injEq,Nat.zero_add,Nat.add_zero,List.length_cons,List.length_nil,true_implies,imp_self,Int.reduceToNat,Int.toNat_natCast,Bool.not_false,Bool.not_true,hlen,et,ix,w64 (n:=((p.length + 1:Nat):Int) - 1) (by omega) (by omega)]
    refine ⟨by omega,?_⟩
    refine Za1 ?_
    refine Za1 (VW_mid (σ:={ c:Bool // c = !behindT.contains b }) (fun c=>([(0,.str (p ++ [b])),(39,.bool c.1)],⟨[],0⟩)) (Zac [0,39] ?_) (fun c=>?_))
    · skip
      by_cases a1:b = 44
      · have n1:(((b.toNat:Nat):Int) != 44) = false:=by rw [show (((b.toNat:Nat):Int) != 44) = (b != 44) from byte_ne b 44 (by decide),a1]; decide
        simp only [midQ,Zaa,Zai,Zbi,Zav,Zaw,Zbj,Zay,guardOf,Zad,Zas,Zau,Zaf,Zah,Zax,Zbp,VOp.isIaddr,QW,dok,dval,VOp.pure,VOp.simple,VOp.det,pok,pval,VA.ev,Env.get,Env.put,Env.keep,Za7,Zaz,Za2,retQ,resV,Zbq,RS.ev,RS.ok,gd,Zbx,isBool,aggV,intV,binV,Zbk,strV,Zby,Zb1,Zbf,unV,unOk,Zb2,isInt,isStr,numOf,loV,hiV,lenV,Zaq,Zbg,Zat,Zbb,Za9,Zae,Zbl,Zab,Zbd,Za6,Zao,idxV,Zb3,Zbn,extV,Zbz,Zbr,Zbc,mmV,PV.cells,PV.fits,overlay,PV.nth,PV.row,Zbw,Zan,Zbv,Za8,Zbo,Zbm,Zak,Za5,Zbe,Zap,Heap.get,Heap.set,Heap.del,Heap.le,HL.get,HL.set,HL.del,HL.le,Heap.push,Heap.nil,Nat.le_refl,Nat.add_eq_left,Nat.left_eq_add,Nat.succ_ne_self,Nat.one_ne_zero,Env.le,Za3,Zbt,Zam,Zbu,Zaj,Zbs,Za0,Zal,eqOk,ekOk,Zag,Za4,Zba,Zar,AB.live,pxV,pxOk,fxV,fxOk,Zb0,Zbh,isNil,notNil,List.map,List.set,List.replicate,List.length,List.getD_cons_zero,List.getD_cons_succ,List.getD_nil,List.take,List.drop,List.take_zero,List.drop_zero,List.take_succ_cons,List.drop_succ_cons,List.append,List.cons_append,List.nil_append,Option.map,Nat.reduceEqDiff,Nat.reduceAdd,Nat.reduceLT,Nat.reduceLeDiff,Nat.reduceSub,Nat.reduceMul,reduceIte,Bool.false_eq_true,Bool.true_eq_false,ite_true,ite_false,if_true,if_false,true_and,and_true,implies_true,forall_const,ne_eq,not_false_eq_true,reduceCtorEq,BEq.rfl,beq_self_eq_true,Option.some.injEq,Nat.zero_add,Nat.add_zero,List.length_cons,List.length_nil,true_implies,imp_self,Int.reduceToNat,Int.toNat_natCast,Bool.not_false,Bool.not_true,n1]
        exact ⟨⟨false,by rw [a1]; decide⟩,rfl⟩
      have n1:(((b.toNat:Nat):Int) != 44) = true:=by rw [show (((b.toNat:Nat):Int) != 44) = (b != 44) from byte_ne b 44 (by decide)]; simpa using a1
      by_cases a2:b = 59
      · have n2:(((b.toNat:Nat):Int) != 59) = false:=by rw [show (((b.toNat:Nat):Int) != 59) = (b != 59) from byte_ne b 59 (by decide),a2]; decide
        simp only [midQ,Zaa,Zai,Zbi,Zav,Zaw,Zbj,Zay,guardOf,Zad,Zas,Zau,Zaf,Zah,Zax,Zbp,VOp.isIaddr,QW,dok,dval,VOp.pure,VOp.simple,VOp.det,pok,pval,VA.ev,Env.get,Env.put,Env.keep,Za7,Zaz,Za2,retQ,resV,Zbq,RS.ev,RS.ok,gd,Zbx,isBool,aggV,intV,binV,Zbk,strV,Zby,Zb1,Zbf,unV,unOk,Zb2,isInt,isStr,numOf,loV,hiV,lenV,Zaq,Zbg,Zat,Zbb,Za9,Zae,Zbl,Zab,Zbd,Za6,Zao,idxV,Zb3,Zbn,extV,Zbz,Zbr,Zbc,mmV,PV.cells,PV.fits,overlay,PV.nth,PV.row,Zbw,Zan,Zbv,Za8,Zbo,Zbm,Zak,Za5,Zbe,Zap,Heap.get,Heap.set,Heap.del,Heap.le,HL.get,HL.set,HL.del,HL.le,Heap.push,Heap.nil,Nat.le_refl,Nat.add_eq_left,Nat.left_eq_add,Nat.succ_ne_self,Nat.one_ne_zero,Env.le,Za3,Zbt,Zam,Zbu,Zaj,Zbs,Za0,Zal,eqOk,ekOk,Zag,Za4,Zba,Zar,AB.live,pxV,pxOk,fxV,fxOk,Zb0,Zbh,isNil,notNil,List.map,List.set,List.replicate,List.length,List.getD_cons_zero,List.getD_cons_succ,List.getD_nil,List.take,List.drop,List.take_zero,List.drop_zero,List.take_succ_cons,List.drop_succ_cons,List.append,List.cons_append,List.nil_append,Option.map,Nat.reduceEqDiff,Nat.reduceAdd,Nat.reduceLT,Nat.reduceLeDiff,Nat.reduceSub,Nat.reduceMul,reduceIte,Bool.false_eq_true,Bool.true_eq_false,ite_true,ite_false,if_true,if_false,true_and,and_true,implies_true,forall_const,ne_eq,not_false_eq_true,reduceCtorEq,BEq.rfl,beq_self_eq_true,Option.some.injEq,Nat.zero_add,Nat.add_zero,List.length_cons,List.length_nil,true_implies,imp_self,Int.reduceToNat,Int.toNat_natCast,Bool.not_false,Bool.not_true,n1,n2]
        exact ⟨⟨false,by rw [a2]; decide⟩,rfl⟩
      have n2:(((b.toNat:Nat):Int) != 59) = true:=by rw [show (((b.toNat:Nat):Int) != 59) = (b != 59) from byte_ne b 59 (by decide)]; simpa using a2
      by_cases a3:b = 46
      · have n3:(((b.toNat:Nat):Int) != 46) = false:=by rw [show (((b.toNat:Nat):Int) != 46) = (b != 46) from byte_ne b 46 (by decide),a3]; decide
        simp only [midQ,Zaa,Zai,Zbi,Zav,Zaw,Zbj,Zay,guardOf,Zad,Zas,Zau,Zaf,Zah,Zax,Zbp,VOp.isIaddr,QW,dok,dval,VOp.pure,VOp.simple,VOp.det,pok,pval,VA.ev,Env.get,Env.put,Env.keep,Za7,Zaz,Za2,retQ,resV,Zbq,RS.ev,RS.ok,gd,Zbx,isBool,aggV,intV,binV,Zbk,strV,Zby,Zb1,Zbf,unV,unOk,Zb2,isInt,isStr,numOf,loV,hiV,lenV,Zaq,Zbg,Zat,Zbb,Za9,Zae,Zbl,Zab,Zbd,Za6,Zao,idxV,Zb3,Zbn,extV,Zbz,Zbr,Zbc,mmV,PV.cells,PV.fits,overlay,PV.nth,PV.row,Zbw,Zan,Zbv,Za8,Zbo,Zbm,Zak,Za5,Zbe,Zap,Heap.get,Heap.set,Heap.del,Heap.le,HL.get,HL.set,HL.del,HL.le,Heap.push,Heap.nil,Nat.le_refl,Nat.add_eq_left,Nat.left_eq_add,Nat.succ_ne_self,Nat.one_ne_zero,Env.le,Za3,Zbt,Zam,Zbu,Zaj,Zbs,Za0,Zal,eqOk,ekOk,Zag,Za4,Zba,Zar,AB.live,pxV,pxOk,fxV,fxOk,Zb0,Zbh,isNil,notNil,List.map,List.set,List.replicate,List.length,List.getD_cons_zero,List.getD_cons_succ,List.getD_nil,List.take,List.drop,List.take_zero,List.drop_zero,List.take_succ_cons,List.drop_succ_cons,List.append,List.cons_append,List.nil_append,Option.map,Nat.reduceEqDiff,Nat.reduceAdd,Nat.reduceLT,Nat.reduceLeDiff,Nat.reduceSub,Nat.reduceMul,reduceIte,Bool.false_eq_true,Bool.true_eq_false,ite_true,ite_false,if_true,if_false,true_and,and_true,implies_true,forall_const,ne_eq,not_false_eq_true,reduceCtorEq,BEq.rfl,beq_self_eq_true,Option.some.injEq,Nat.zero_add,Nat.add_zero,List.length_cons,List.length_nil,true_implies,imp_self,Int.reduceToNat,Int.toNat_natCast,Bool.not_false,Bool.not_true,n1,n2,n3]
        exact ⟨⟨false,by rw [a3]; decide⟩,rfl⟩
      have n3:(((b.toNat:Nat):Int) != 46) = true:=by rw [show (((b.toNat:Nat):Int) != 46) = (b != 46) from byte_ne b 46 (by decide)]; simpa using a3
      by_cases a4:b = 58
      · have n4:(((b.toNat:Nat):Int) != 58) = false:=by rw [show (((b.toNat:Nat):Int) != 58) = (b != 58) from byte_ne b 58 (by decide),a4]; decide
        simp only [midQ,Zaa,Zai,Zbi,Zav,Zaw,Zbj,Zay,guardOf,Zad,Zas,Zau,Zaf,Zah,Zax,Zbp,VOp.isIaddr,QW,dok,dval,VOp.pure,VOp.simple,VOp.det,pok,pval,VA.ev,Env.get,Env.put,Env.keep,Za7,Zaz,Za2,retQ,resV,Zbq,RS.ev,RS.ok,gd,Zbx,isBool,aggV,intV,binV,Zbk,strV,Zby,Zb1,Zbf,unV,unOk,Zb2,isInt,isStr,numOf,loV,hiV,lenV,Zaq,Zbg,Zat,Zbb,Za9,Zae,Zbl,Zab,Zbd,Za6,Zao,idxV,Zb3,Zbn,extV,Zbz,Zbr,Zbc,mmV,PV.cells,PV.fits,overlay,PV.nth,PV.row,Zbw,Zan,Zbv,Za8,Zbo,Zbm,Zak,Za5,Zbe,Zap,Heap.get,Heap.set,Heap.del,Heap.le,HL.get,HL.set,HL.del,HL.le,Heap.push,Heap.nil,Nat.le_refl,Nat.add_eq_left,Nat.left_eq_add,Nat.succ_ne_self,Nat.one_ne_zero,Env.le,Za3,Zbt,Zam,Zbu,Zaj,Zbs,Za0,Zal,eqOk,ekOk,Zag,Za4,Zba,Zar,AB.live,pxV,pxOk,fxV,fxOk,Zb0,Zbh,isNil,notNil,List.map,List.set,List.replicate,List.length,List.getD_cons_zero,List.getD_cons_succ,List.getD_nil,List.take,List.drop,List.take_zero,List.drop_zero,List.take_succ_cons,List.drop_succ_cons,List.append,List.cons_append,List.nil_append,Option.map,Nat.reduceEqDiff,Nat.reduceAdd,Nat.reduceLT,Nat.reduceLeDiff,Nat.reduceSub,Nat.reduceMul,reduceIte,Bool.false_eq_true,Bool.true_eq_false,ite_true,ite_false,if_true,if_false,true_and,and_true,implies_true,forall_const,ne_eq,not_false_eq_true,reduceCtorEq,BEq.rfl,beq_self_eq_true,Option.some.injEq,Nat.zero_add,Nat.add_zero,List.length_cons,List.length_nil,true_implies,imp_self,Int.reduceToNat,Int.toNat_natCast,Bool.not_false,Bool.not_true,n1,n2,n3,n4]
        exact ⟨⟨false,by rw [a4]; decide⟩,rfl⟩
      have n4:(((b.toNat:Nat):Int) != 58) = true:=by rw [show (((b.toNat:Nat):Int) != 58) = (b != 58) from byte_ne b 58 (by decide)]; simpa using a4
      by_cases a5:b = 41
      · have n5:(((b.toNat:Nat):Int) != 41) = false:=by rw [show (((b.toNat:Nat):Int) != 41) = (b != 41) from byte_ne b 41 (by decide),a5]; decide
        simp only [midQ,Zaa,Zai,Zbi,Zav,Zaw,Zbj,Zay,guardOf,Zad,Zas,Zau,Zaf,Zah,Zax,Zbp,VOp.isIaddr,QW,dok,dval,VOp.pure,VOp.simple,VOp.det,pok,pval,VA.ev,Env.get,Env.put,Env.keep,Za7,Zaz,Za2,retQ,resV,Zbq,RS.ev,RS.ok,gd,Zbx,isBool,aggV,intV,binV,Zbk,strV,Zby,Zb1,Zbf,unV,unOk,Zb2,isInt,isStr,numOf,loV,hiV,lenV,Zaq,Zbg,Zat,Zbb,Za9,Zae,Zbl,Zab,Zbd,Za6,Zao,idxV,Zb3,Zbn,extV,Zbz,Zbr,Zbc,mmV,PV.cells,PV.fits,overlay,PV.nth,PV.row,Zbw,Zan,Zbv,Za8,Zbo,Zbm,Zak,Za5,Zbe,Zap,Heap.get,Heap.set,Heap.del,Heap.le,HL.get,HL.set,HL.del,HL.le,Heap.push,Heap.nil,Nat.le_refl,Nat.add_eq_left,Nat.left_eq_add,Nat.succ_ne_self,Nat.one_ne_zero,Env.le,Za3,Zbt,Zam,Zbu,Zaj,Zbs,Za0,Zal,eqOk,ekOk,Zag,Za4,Zba,Zar,AB.live,pxV,pxOk,fxV,fxOk,Zb0,Zbh,isNil,notNil,List.map,List.set,List.replicate,List.length,List.getD_cons_zero,List.getD_cons_succ,List.getD_nil,List.take,List.drop,List.take_zero,List.drop_zero,List.take_succ_cons,List.drop_succ_cons,List.append,List.cons_append,List.nil_append,Option.map,Nat.reduceEqDiff,Nat.reduceAdd,Nat.reduceLT,Nat.reduceLeDiff,Nat.reduceSub,Nat.reduceMul,reduceIte,Bool.false_eq_true,Bool.true_eq_false,ite_true,ite_false,if_true,if_false,true_and,and_true,implies_true,forall_const,ne_eq,not_false_eq_true,reduceCtorEq,BEq.rfl,beq_self_eq_true,Option.some.injEq,Nat.zero_add,Nat.add_zero,List.length_cons,List.length_nil,true_implies,imp_self,Int.reduceToNat,Int.toNat_natCast,Bool.not_false,Bool.not_true,n1,n2,n3,n4,n5]
        exact ⟨⟨false,by rw [a5]; decide⟩,rfl⟩
      have n5:(((b.toNat:Nat):Int) != 41) = true:=by rw [show (((b.toNat:Nat):Int) != 41) = (b != 41) from byte_ne b 41 (by decide)]; simpa using a5
      simp only [midQ,Zaa,Zai,Zbi,Zav,Zaw,Zbj,Zay,guardOf,Zad,Zas,Zau,Zaf,Zah,Zax,Zbp,VOp.isIaddr,QW,dok,dval,VOp.pure,VOp.simple,VOp.det,pok,pval,VA.ev,Env.get,Env.put,Env.keep,Za7,Zaz,Za2,retQ,resV,Zbq,RS.ev,RS.ok,gd,Zbx,isBool,aggV,intV,binV,Zbk,strV,Zby,Zb1,Zbf,unV,unOk,Zb2,isInt,isStr,numOf,loV,hiV,lenV,Zaq,Zbg,Zat,Zbb,Za9,Zae,Zbl,Zab,Zbd,Za6,Zao,idxV,Zb3,Zbn,extV,Zbz,Zbr,Zbc,mmV,PV.cells,PV.fits,overlay,PV.nth,PV.row,Zbw,Zan,Zbv,Za8,Zbo,Zbm,Zak,Za5,Zbe,Zap,Heap.get,Heap.set,Heap.del,Heap.le,HL.get,HL.set,HL.del,HL.le,Heap.push,Heap.nil,Nat.le_refl,Nat.add_eq_left,Nat.left_eq_add,Nat.succ_ne_self,Nat.one_ne_zero,Env.le,Za3,Zbt,Zam,Zbu,Zaj,Zbs,Za0,Zal,eqOk,ekOk,Zag,Za4,Zba,Zar,AB.live,pxV,pxOk,fxV,fxOk,Zb0,Zbh,isNil,notNil,List.map,List.set,List.replicate,List.length,List.getD_cons_zero,List.getD_cons_succ,List.getD_nil,List.take,List.drop,List.take_zero,List.drop_zero,List.take_succ_cons,List.drop_succ_cons,List.append,List.cons_append,List.nil_append,Option.map,Nat.reduceEqDiff,Nat.reduceAdd,Nat.reduceLT,Nat.reduceLeDiff,Nat.reduceSub,Nat.reduceMul,reduceIte,Bool.false_eq_true,Bool.true_eq_false,ite_true,ite_false,if_true,if_false,true_and,and_true,implies_true,forall_const,ne_eq,not_false_eq_true,reduceCtorEq,BEq.rfl,beq_self_eq_true,Option.some.injEq,Nat.zero_add,Nat.add_zero,List.length_cons,List.length_nil,true_implies,imp_self,Int.reduceToNat,Int.toNat_natCast,Bool.not_false,Bool.not_true,n1,n2,n3,n4,n5]
      exact ⟨⟨true,by simp [behindT,a1,a2,a3,a4,a5]⟩,rfl⟩
    obtain ⟨c,hc⟩:=c
    simp only []
    refine Zca rfl (fun h3=>?_) (fun h3=>?_)
    · rw [if_neg (by rw [h3] at hc; intro h4; rw [h4] at hc; cases hc)] at hq
      refine Za1 (Zac [2] ?_)
      simp only [midQ,Zaa,Zai,Zbi,Zav,Zaw,Zbj,Zay,guardOf,Zad,Zas,Zau,Zaf,Zah,Zax,Zbp,VOp.isIaddr,QW,dok,dval,VOp.pure,VOp.simple,VOp.det,pok,pval,VA.ev,Env.get,Env.put,Env.keep,Za7,Zaz,Za2,retQ,resV,Zbq,RS.ev,RS.ok,gd,Zbx,isBool,aggV,intV,binV,Zbk,strV,Zby,Zb1,Zbf,unV,unOk,Zb2,isInt,isStr,numOf,loV,hiV,lenV,Zaq,Zbg,Zat,Zbb,Za9,Zae,Zbl,Zab,Zbd,Za6,Zao,idxV,Zb3,Zbn,extV,Zbz,Zbr,Zbc,mmV,PV.cells,PV.fits,overlay,PV.nth,PV.row,Zbw,Zan,Zbv,Za8,Zbo,Zbm,Zak,Za5,Zbe,Zap,Heap.get,Heap.set,Heap.del,Heap.le,HL.get,HL.set,HL.del,HL.le,Heap.push,Heap.nil,Nat.le_refl,Nat.add_eq_left,Nat.left_eq_add,Nat.succ_ne_self,Nat.one_ne_zero,Env.le,Za3,Zbt,Zam,Zbu,Zaj,Zbs,Za0,Zal,eqOk,ekOk,Zag,Za4,Zba,Zar,AB.live,pxV,pxOk,fxV,fxOk,Zb0,Zbh,isNil,notNil,List.map,List.set,List.replicate,List.length,List.getD_cons_zero,List.getD_cons_succ,List.getD_nil,List.take,List.drop,List.take_zero,List.drop_zero,List.take_succ_cons,List.drop_succ_cons,List.append,List.cons_append,List.nil_append,Option.map,Nat.reduceEqDiff,Nat.reduceAdd,Nat.reduceLT,Nat.reduceLeDiff,Nat.reduceSub,Nat.reduceMul,reduceIte,Bool.false_eq_true,Bool.true_eq_false,ite_true,ite_false,if_true,if_false,true_and,and_true,implies_true,forall_const,ne_eq,not_false_eq_true,reduceCtorEq,BEq.rfl,beq_self_eq_true,Option.some.injEq,Nat.zero_add,Nat.add_zero,List.length_cons,List.length_nil,true_implies,imp_self,Int.reduceToNat,Int.toNat_natCast,Bool.not_false,Bool.not_true]
      refine VW_ret ?_
      try simp only [midQ,Zaa,Zai,Zbi,Zav,Zaw,Zbj,Zay,guardOf,Zad,Zas,Zau,Zaf,Zah,Zax,Zbp,VOp.isIaddr,QW,dok,dval,VOp.pure,VOp.simple,VOp.det,pok,pval,VA.ev,Env.get,Env.put,Env.keep,Za7,Zaz,Za2,retQ,resV,Zbq,RS.ev,RS.ok,gd,Zbx,isBool,aggV,intV,binV,Zbk,strV,Zby,Zb1,Zbf,unV,unOk,Zb2,isInt,isStr,numOf,loV,hiV,lenV,Zaq,Zbg,Zat,Zbb,Za9,Zae,Zbl,Zab,Zbd,Za6,Zao,idxV,Zb3,Zbn,extV,Zbz,Zbr,Zbc,mmV,PV.cells,PV.fits,overlay,PV.nth,PV.row,Zbw,Zan,Zbv,Za8,Zbo,Zbm,Zak,Za5,Zbe,Zap,Heap.get,Heap.set,Heap.del,Heap.le,HL.get,HL.set,HL.del,HL.le,Heap.push,Heap.nil,Nat.le_refl,Nat.add_eq_left,Nat.left_eq_add,Nat.succ_ne_self,Nat.one_ne_zero,Env.le,Za3,Zbt,Zam,Zbu,Zaj,Zbs,Za0,Zal,eqOk,ekOk,Zag,Za4,Zba,Zar,AB.live,pxV,pxOk,fxV,fxOk,Zb0,Zbh,isNil,notNil,List.map,List.set,List.replicate,List.length,List.getD_cons_zero,List.getD_cons_succ,List.getD_nil,List.take,List.drop,List.take_zero,List.drop_zero,List.take_succ_cons,List.drop_succ_cons,List.append,List.cons_append,List.nil_append,Option.map,Nat.reduceEqDiff,Nat.reduceAdd,Nat.reduceLT,Nat.reduceLeDiff,Nat.reduceSub,Nat.reduceMul,reduceIte,Bool.false_eq_true,Bool.true_eq_false,ite_true,ite_false,if_true,if_false,true_and,and_true,implies_true,forall_const,ne_eq,not_false_eq_true,reduceCtorEq,BEq.rfl,beq_self_eq_true,Option.some.injEq,Nat.zero_add,Nat.add_zero,List.length_cons,List.length_nil,true_implies,imp_self,Int.reduceToNat,Int.toNat_natCast,Bool.not_false,Bool.not_true]
      rw [← hq]
      exact View.refl _ _
    rw [if_pos (by rw [h3] at hc; cases h4:behindT.contains b with | true=>rfl | false=>rw [h4] at hc; cases hc)] at hq
    refine Zcb ?_
    try simp only [midQ,Zaa,Zai,Zbi,Zav,Zaw,Zbj,Zay,guardOf,Zad,Zas,Zau,Zaf,Zah,Zax,Zbp,VOp.isIaddr,QW,dok,dval,VOp.pure,VOp.simple,VOp.det,pok,pval,VA.ev,Env.get,Env.put,Env.keep,Za7,Zaz,Za2,retQ,resV,Zbq,RS.ev,RS.ok,gd,Zbx,isBool,aggV,intV,binV,Zbk,strV,Zby,Zb1,Zbf,unV,unOk,Zb2,isInt,isStr,numOf,loV,hiV,lenV,Zaq,Zbg,Zat,Zbb,Za9,Zae,Zbl,Zab,Zbd,Za6,Zao,idxV,Zb3,Zbn,extV,Zbz,Zbr,Zbc,mmV,PV.cells,PV.fits,overlay,PV.nth,PV.row,Zbw,Zan,Zbv,Za8,Zbo,Zbm,Zak,Za5,Zbe,Zap,Heap.get,Heap.set,Heap.del,Heap.le,HL.get,HL.set,HL.del,HL.le,Heap.push,Heap.nil,Nat.le_refl,Nat.add_eq_left,Nat.left_eq_add,Nat.succ_ne_self,Nat.one_ne_zero,Env.le,Za3,Zbt,Zam,Zbu,Zaj,Zbs,Za0,Zal,eqOk,ekOk,Zag,Za4,Zba,Zar,AB.live,pxV,pxOk,fxV,fxOk,Zb0,Zbh,isNil,notNil,List.map,List.set,List.replicate,List.length,List.getD_cons_zero,List.getD_cons_succ,List.getD_nil,List.take,List.drop,List.take_zero,List.drop_zero,List.take_succ_cons,List.drop_succ_cons,List.append,List.cons_append,List.nil_append,Option.map,Nat.reduceEqDiff,Nat.reduceAdd,Nat.reduceLT,Nat.reduceLeDiff,Nat.reduceSub,Nat.reduceMul,reduceIte,Bool.false_eq_true,Bool.true_eq_false,ite_true,ite_false,if_true,if_false,true_and,and_true,implies_true,forall_const,ne_eq,not_false_eq_true,reduceCtorEq,BEq.rfl,beq_self_eq_true,Option.some.injEq,Nat.zero_add,Nat.add_zero,List.length_cons,List.length_nil,true_implies,imp_self,Int.reduceToNat,Int.toNat_natCast,Bool.not_false,Bool.not_true]
    refine Zac [0] ?_
    simp only [midQ,Zaa,Zai,Zbi,Zav,Zaw,Zbj,Zay,guardOf,Zad,Zas,Zau,Zaf,Zah,Zax,Zbp,VOp.isIaddr,QW,dok,dval,VOp.pure,VOp.simple,VOp.det,pok,pval,VA.ev,Env.get,Env.put,Env.keep,Za7,Zaz,Za2,retQ,resV,Zbq,RS.ev,RS.ok,gd,Zbx,isBool,aggV,intV,binV,Zbk,strV,Zby,Zb1,Zbf,unV,unOk,Zb2,isInt,isStr,numOf,loV,hiV,lenV,Zaq,Zbg,Zat,Zbb,Za9,Zae,Zbl,Zab,Zbd,Za6,Zao,idxV,Zb3,Zbn,extV,Zbz,Zbr,Zbc,mmV,PV.cells,PV.fits,overlay,PV.nth,PV.row,Zbw,Zan,Zbv,Za8,Zbo,Zbm,Zak,Za5,Zbe,Zap,Heap.get,Heap.set,Heap.del,Heap.le,HL.get,HL.set,HL.del,HL.le,Heap.push,Heap.nil,Nat.le_refl,Nat.add_eq_left,Nat.left_eq_add,Nat.succ_ne_self,Nat.one_ne_zero,Env.le,Za3,Zbt,Zam,Zbu,Zaj,Zbs,Za0,Zal,eqOk,ekOk,Zag,Za4,Zba,Zar,AB.live,pxV,pxOk,fxV,fxOk,Zb0,Zbh,isNil,notNil,List.map,List.set,List.replicate,List.length,List.getD_cons_zero,List.getD_cons_succ,List.getD_nil,List.take,List.drop,List.take_zero,List.drop_zero,List.take_succ_cons,List.drop_succ_cons,List.append,List.cons_append,List.nil_append,Option.map,Nat.reduceEqDiff,Nat.reduceAdd,Nat.reduceLT,Nat.reduceLeDiff,Nat.reduceSub,Nat.reduceMul,reduceIte,Bool.false_eq_true,Bool.true_eq_false,ite_true,ite_false,if_true,if_false,true_and,and_true,implies_true,forall_const,ne_eq,not_false_eq_true,reduceCtorEq,BEq.rfl,beq_self_eq_true,Option.some.injEq,Nat.zero_add,Nat.add_zero,List.length_cons,List.length_nil,true_implies,imp_self,Int.reduceToNat,Int.toNat_natCast,Bool.not_false,Bool.not_true,hlen,et,w64 (n:=((p.length + 1:Nat):Int) - 1) (by omega) (by omega)]
    refine ⟨by omega,⟨p,hq,by omega⟩,?_⟩
    try simp only [midQ,Zaa,Zai,Zbi,Zav,Zaw,Zbj,Zay,guardOf,Zad,Zas,Zau,Zaf,Zah,Zax,Zbp,VOp.isIaddr,QW,dok,dval,VOp.pure,VOp.simple,VOp.det,pok,pval,VA.ev,Env.get,Env.put,Env.keep,Za7,Zaz,Za2,retQ,resV,Zbq,RS.ev,RS.ok,gd,Zbx,isBool,aggV,intV,binV,Zbk,strV,Zby,Zb1,Zbf,unV,unOk,Zb2,isInt,isStr,numOf,loV,hiV,lenV,Zaq,Zbg,Zat,Zbb,Za9,Zae,Zbl,Zab,Zbd,Za6,Zao,idxV,Zb3,Zbn,extV,Zbz,Zbr,Zbc,mmV,PV.cells,PV.fits,overlay,PV.nth,PV.row,Zbw,Zan,Zbv,Za8,Zbo,Zbm,Zak,Za5,Zbe,Zap,Heap.get,Heap.set,Heap.del,Heap.le,HL.get,HL.set,HL.del,HL.le,Heap.push,Heap.nil,Nat.le_refl,Nat.add_eq_left,Nat.left_eq_add,Nat.succ_ne_self,Nat.one_ne_zero,Env.le,Za3,Zbt,Zam,Zbu,Zaj,Zbs,Za0,Zal,eqOk,ekOk,Zag,Za4,Zba,Zar,AB.live,pxV,pxOk,fxV,fxOk,Zb0,Zbh,isNil,notNil,List.map,List.set,List.replicate,List.length,List.getD_cons_zero,List.getD_cons_succ,List.getD_nil,List.take,List.drop,List.take_zero,List.drop_zero,List.take_succ_cons,List.drop_succ_cons,List.append,List.cons_append,List.nil_append,Option.map,Nat.reduceEqDiff,Nat.reduceAdd,Nat.reduceLT,Nat.reduceLeDiff,Nat.reduceSub,Nat.reduceMul,reduceIte,Bool.false_eq_true,Bool.true_eq_false,ite_true,ite_false,if_true,if_false,true_and,and_true,implies_true,forall_const,ne_eq,not_false_eq_true,reduceCtorEq,BEq.rfl,beq_self_eq_true,Option.some.injEq,Nat.zero_add,Nat.add_zero,List.length_cons,List.length_nil,true_implies,imp_self,Int.reduceToNat,Int.toNat_natCast,Bool.not_false,Bool.not_true,et,tk,true_and]
    all_goals (repeat' (first | rfl | trivial | omega | (simp only []; omega) | refine And.intro ?_ ?_))
  have hq0:q = []:=List.eq_nil_of_length_eq_zero (by simp only [decide_eq_false_iff_not] at h2; omega)
  subst hq0
  refine Zck ?_
  try simp only [midQ,Zaa,Zai,Zbi,Zav,Zaw,Zbj,Zay,guardOf,Zad,Zas,Zau,Zaf,Zah,Zax,Zbp,VOp.isIaddr,QW,dok,dval,VOp.pure,VOp.simple,VOp.det,pok,pval,VA.ev,Env.get,Env.put,Env.keep,Za7,Zaz,Za2,retQ,resV,Zbq,RS.ev,RS.ok,gd,Zbx,isBool,aggV,intV,binV,Zbk,strV,Zby,Zb1,Zbf,unV,unOk,Zb2,isInt,isStr,numOf,loV,hiV,lenV,Zaq,Zbg,Zat,Zbb,Za9,Zae,Zbl,Zab,Zbd,Za6,Zao,idxV,Zb3,Zbn,extV,Zbz,Zbr,Zbc,mmV,PV.cells,PV.fits,overlay,PV.nth,PV.row,Zbw,Zan,Zbv,Za8,Zbo,Zbm,Zak,Za5,Zbe,Zap,Heap.get,Heap.set,Heap.del,Heap.le,HL.get,HL.set,HL.del,HL.le,Heap.push,Heap.nil,Nat.le_refl,Nat.add_eq_left,Nat.left_eq_add,Nat.succ_ne_self,Nat.one_ne_zero,Env.le,Za3,Zbt,Zam,Zbu,Zaj,Zbs,Za0,Zal,eqOk,ekOk,Zag,Za4,Zba,Zar,AB.live,pxV,pxOk,fxV,fxOk,Zb0,Zbh,isNil,notNil,List.map,List.set,List.replicate,List.length,List.getD_cons_zero,List.getD_cons_succ,List.getD_nil,List.take,List.drop,List.take_zero,List.drop_zero,List.take_succ_cons,List.drop_succ_cons,List.append,List.cons_append,List.nil_append,Option.map,Nat.reduceEqDiff,Nat.reduceAdd,Nat.reduceLT,Nat.reduceLeDiff,Nat.reduceSub,Nat.reduceMul,reduceIte,Bool.false_eq_true,Bool.true_eq_false,ite_true,ite_false,if_true,if_false,true_and,and_true,implies_true,forall_const,ne_eq,not_false_eq_true,reduceCtorEq,BEq.rfl,beq_self_eq_true,Option.some.injEq,Nat.zero_add,Nat.add_zero,List.length_cons,List.length_nil,true_implies,imp_self,Int.reduceToNat,Int.toNat_natCast,Bool.not_false,Bool.not_true]
  refine Za1 (Zac [2] ?_)
  simp only [midQ,Zaa,Zai,Zbi,Zav,Zaw,Zbj,Zay,guardOf,Zad,Zas,Zau,Zaf,Zah,Zax,Zbp,VOp.isIaddr,QW,dok,dval,VOp.pure,VOp.simple,VOp.det,pok,pval,VA.ev,Env.get,Env.put,Env.keep,Za7,Zaz,Za2,retQ,resV,Zbq,RS.ev,RS.ok,gd,Zbx,isBool,aggV,intV,binV,Zbk,strV,Zby,Zb1,Zbf,unV,unOk,Zb2,isInt,isStr,numOf,loV,hiV,lenV,Zaq,Zbg,Zat,Zbb,Za9,Zae,Zbl,Zab,Zbd,Za6,Zao,idxV,Zb3,Zbn,extV,Zbz,Zbr,Zbc,mmV,PV.cells,PV.fits,overlay,PV.nth,PV.row,Zbw,Zan,Zbv,Za8,Zbo,Zbm,Zak,Za5,Zbe,Zap,Heap.get,Heap.set,Heap.del,Heap.le,HL.get,HL.set,HL.del,HL.le,Heap.push,Heap.nil,Nat.le_refl,Nat.add_eq_left,Nat.left_eq_add,Nat.succ_ne_self,Nat.one_ne_zero,Env.le,Za3,Zbt,Zam,Zbu,Zaj,Zbs,Za0,Zal,eqOk,ekOk,Zag,Za4,Zba,Zar,AB.live,pxV,pxOk,fxV,fxOk,Zb0,Zbh,isNil,notNil,List.map,List.set,List.replicate,List.length,List.getD_cons_zero,List.getD_cons_succ,List.getD_nil,List.take,List.drop,List.take_zero,List.drop_zero,List.take_succ_cons,List.drop_succ_cons,List.append,List.cons_append,List.nil_append,Option.map,Nat.reduceEqDiff,Nat.reduceAdd,Nat.reduceLT,Nat.reduceLeDiff,Nat.reduceSub,Nat.reduceMul,reduceIte,Bool.false_eq_true,Bool.true_eq_false,ite_true,ite_false,if_true,if_false,true_and,and_true,implies_true,forall_const,ne_eq,not_false_eq_true,reduceCtorEq,BEq.rfl,beq_self_eq_true,Option.some.injEq,Nat.zero_add,Nat.add_zero,List.length_cons,List.length_nil,true_implies,imp_self,Int.reduceToNat,Int.toNat_natCast,Bool.not_false,Bool.not_true]
  refine VW_ret ?_
  try simp only [midQ,Zaa,Zai,Zbi,Zav,Zaw,Zbj,Zay,guardOf,Zad,Zas,Zau,Zaf,Zah,Zax,Zbp,VOp.isIaddr,QW,dok,dval,VOp.pure,VOp.simple,VOp.det,pok,pval,VA.ev,Env.get,Env.put,Env.keep,Za7,Zaz,Za2,retQ,resV,Zbq,RS.ev,RS.ok,gd,Zbx,isBool,aggV,intV,binV,Zbk,strV,Zby,Zb1,Zbf,unV,unOk,Zb2,isInt,isStr,numOf,loV,hiV,lenV,Zaq,Zbg,Zat,Zbb,Za9,Zae,Zbl,Zab,Zbd,Za6,Zao,idxV,Zb3,Zbn,extV,Zbz,Zbr,Zbc,mmV,PV.cells,PV.fits,overlay,PV.nth,PV.row,Zbw,Zan,Zbv,Za8,Zbo,Zbm,Zak,Za5,Zbe,Zap,Heap.get,Heap.set,Heap.del,Heap.le,HL.get,HL.set,HL.del,HL.le,Heap.push,Heap.nil,Nat.le_refl,Nat.add_eq_left,Nat.left_eq_add,Nat.succ_ne_self,Nat.one_ne_zero,Env.le,Za3,Zbt,Zam,Zbu,Zaj,Zbs,Za0,Zal,eqOk,ekOk,Zag,Za4,Zba,Zar,AB.live,pxV,pxOk,fxV,fxOk,Zb0,Zbh,isNil,notNil,List.map,List.set,List.replicate,List.length,List.getD_cons_zero,List.getD_cons_succ,List.getD_nil,List.take,List.drop,List.take_zero,List.drop_zero,List.take_succ_cons,List.drop_succ_cons,List.append,List.cons_append,List.nil_append,Option.map,Nat.reduceEqDiff,Nat.reduceAdd,Nat.reduceLT,Nat.reduceLeDiff,Nat.reduceSub,Nat.reduceMul,reduceIte,Bool.false_eq_true,Bool.true_eq_false,ite_true,ite_false,if_true,if_false,true_and,and_true,implies_true,forall_const,ne_eq,not_false_eq_true,reduceCtorEq,BEq.rfl,beq_self_eq_true,Option.some.injEq,Nat.zero_add,Nat.add_zero,List.length_cons,List.length_nil,true_implies,imp_self,Int.reduceToNat,Int.toNat_natCast,Bool.not_false,Bool.not_true]
  rw [← hq]
  exact View.refl _ _
end Go.Proofs.YtjmekckcffckoabGreatDoor.w
namespace Go.Proofs.YtjmekckcffckoabGreatDoor.w
open Go Go.VM
set_option maxRecDepth 20000
set_option maxHeartbeats 0
set_option pp.deepTerms false
end Go.Proofs.YtjmekckcffckoabGreatDoor.w
