import Derived.Test.YtjmekckcffckoabGreatDoorK3
import Derived.Test.YtjmekckcffckoabGreatDoorVmP
import Derived.Test.YtjmekckcffckoabGreatDoorVmS
import Derived.Test.YtjmekckcffckoabGreatDoorVmA
import Derived.Test.YtjmekckcffckoabGreatDoorRows
import Derived.Test.YtjmekckcffckoabGreatDoorVmAc
import Derived.Lib.LaidTab
import Derived.LaidSub
import Derived.Lib.ItoaNum
set_option linter.all false
namespace Go.Proofs.YtjmekckcffckoabGreatDoor.w
open Go Go.VM
set_option maxRecDepth 20000
set_option maxHeartbeats 0
set_option pp.deepTerms false
def c_concordance_Format:VC:=(.seq (.region [ZO 4 (.mv (.c .nilsl))] false) (.seq (.region [ZO 5 (.mv (.c .nilsl))] false) (.seq (.seq (.region [ZM 10 1,ZO 11 (.len false (.t 10)),ZO 12 (.mv (.c (.int .i64 0)))] false) (.block 0 (.loop (.seq (.region [ZO 13 (.bin .lss (.t 12) (.t 11))] false) (.seq (.cond (.t 13) .skip (.exit 0)) (.seq (.block 1 (.seq (.region [ZO 14 (.iaddr 2 (.t 10) (.t 12)),ZO 15 (.load true 2 (.t 14)),ZO 7 (.alloc [(.str []),.nilsl]),ZN (.store 2 (.t 7) (.t 15))] false) (.seq (.region [ZO 16 (.faddr 1 (.t 7)),ZO 17 (.load false 1 (.t 16)),ZO 18 (.call 8 [(.t 17)]),ZM 8 18] false) (.seq (.region [ZM 19 0,ZO 20 (.mm false [(.t 19),(.c (.int .i64 200))]),ZO 21 (.mm true [(.t 20),(.c (.int .i64 0))]),ZO 22 (.faddr 0 (.t 7)),ZO 23 (.load false 1 (.t 22)),ZO 24 (.len true (.t 23)),ZO 25 (.bin .sub (.t 21) (.t 24)),ZM 26 8,ZO 27 (.len true (.t 26)),ZO 28 (.bin .sub (.t 25) (.t 27)),ZO 29 (.bin .sub (.t 28) (.c (.int .i64 2))),ZM 9 29] false) (.draw2 [ZM 30 5,ZO 31 (.faddr 0 (.t 7)),ZO 32 (.load false 1 (.t 31)),ZO 33 (.bin .add (.t 32) (.c (.str [32]))),ZM 34 9,ZO 35 (.mm true [(.t 34),(.c (.int .i64 2))]),ZO 36 (.call 48 [(.c (.str [46])),(.t 35)]),ZO 37 (.bin .add (.t 33) (.t 36)),ZO 38 (.bin .add (.t 37) (.c (.str [32]))),ZM 39 8,ZO 40 (.bin .add (.t 38) (.t 39)),ZO 41 (.bslice 1 1 [(.str [])] [(0,(.t 40))]),ZO 42 (.app 1 16 [(.str [])] false (.t 30) (.t 41)),ZM 5 42] [true,true,true,true,true,true,true,true,true,true,true,true,false,false]))))) (.region [ZO 43 (.bin .add (.t 12) (.c (.int .i64 1))),ZM 12 43] false))))))) (.seq (.region [ZM 44 5,ZM 4 44] false) .ret))))
theorem parts_small:∀ (f:Nat) (l:List Int),(∀ x ∈ l,i64 x) → ∀ s ∈ partsT f l,s.length ≤ 44
  | 0,l,_,s,hs=>by simp [partsT] at hs
  | _ + 1,[],_,s,hs=>by simp [partsT] at hs
  | f + 1,a :: r,h,s,hs=>by
    unfold partsT at hs
    rcases List.mem_append.1 hs with h1 | h1
    · have ha:=h a List.mem_cons_self
      by_cases hk:Zaw a r = 0
      · rw [hk] at h1
        simp only [runT,if_true,List.mem_singleton] at h1
        subst h1
        have:=itoa_len a ha
        omega
      · have hl:=runLen_le r a
        have h2:=runLen_at r a 0 (by omega)
        have h3:=runLen_at r a (Zaw a r - 1) (by omega)
        have i2:=h _ (List.mem_cons_of_mem _ (List.getElem_mem (show 0 < r.length by omega)))
        have i3:=h _ (List.mem_cons_of_mem _ (List.getElem_mem (show Zaw a r - 1 < r.length by omega)))
        rw [h2] at i2
        rw [h3] at i3
        refine runT_small a _ ha (by simpa using i2) ?_ s h1
        have e:a + 1 + ((Zaw a r - 1:Nat):Int) = a + (Zaw a r:Int):=by omega
        rw [← e]; exact i3
    · exact parts_small f _ (fun x hx=>h x (List.mem_cons_of_mem _ (List.mem_of_mem_drop hx))) s h1
theorem ranges_len (l:List Int) (hl:l.length ≤ 1000) (hi:∀ x ∈ l,i64 x):(Zax l).length ≤ 100000:=by
  have h1:=join_len sepT 44 (Zbg (Za2 l)) (parts_small _ _ fun x hx=>hi x ((mem_onceI l x).1 hx))
  have h2:=partsT_len (Za2 l).length (Za2 l)
  have h3:=onceI_len l
  have h4:(Zbg (Za2 l)).length * (44 + sepT.length) ≤ 1000 * (44 + 2):=Nat.mul_le_mul (by unfold Zbg; omega) (by decide)
  unfold Zax
  omega
def widthN (w:Int) (e:Str × List Int):Int:=max (min w 200) 0 - e.1.length - (Zax e.2).length - 2
def lineS (w:Int) (e:Str × List Int):Str:=e.1 ++ [32] ++ Lib.repeatL [46] (max (widthN w e) 2).toNat ++ [32] ++ Zax e.2
theorem closed_ints (l:List Int):Closed (.sl 1 (l.map fun x=>[pI x])):=Zal fun _ _ y hy=>by rw [List.mem_singleton] at hy; subst hy; exact cI _
theorem closed_ens (l : List (Str × List Int)) : Closed (.sl 2 (l.map encEn)) := Zal (fun e _ x hx => by
    simp only [encEn,List.mem_cons,List.not_mem_nil,or_false] at hx
    rcases hx with rfl | rfl
    · exact cS _
    · exact closed_ints _)
theorem sp_concordance_Format (w:Int) (l:List (Str × List Int)) (hw:i64 w) (hl:l.length ≤ 1000) (hs:∀ e ∈ l,e.1.length ≤ 1000 ∧ e.2.length ≤ 1000 ∧ ∀ x ∈ e.2,i64 x):PCall Tryz.prog 24 [pI w,.sl 2 (l.map encEn)] (.sl 1 (strR (l.map (lineS w)))):=by
  refine Za5 ?_ (closed_strR _) (by intro y hy; simp only [List.mem_cons,List.not_mem_nil,or_false] at hy; rcases hy with rfl | rfl; exact cI _; exact closed_ens l)
  refine ACall_fn (vc:=c_concordance_Format) (ts:=[.t 4]) Go.Proofs.Tryz.func24 (by kernel_rfl) rfl rfl (Nat.le_of_ble_eq_true rfl) (by kernel_rfl) ?_
  unfold c_concordance_Format
  try dsimp only [ZM,ZO,ZN,ZG]
  refine Zac (Zaa [0,1] ?_)
  simp only [Zab,Zae,Zaf,pok,pval,VA.ev,Env.get,Env.put,Env.keep,argEnv,Zag,Heap.nil,Nat.succ_ne_self,Nat.reduceEqDiff,ite_true,ite_false,true_and,reduceCtorEq,Nat.zero_add]
  refine Zac (Zaa [0,1,5] ?_)
  simp only [Zab,Zae,Zaf,pok,pval,VA.ev,Env.get,Env.put,Env.keep,Zag,Nat.succ_ne_self,Nat.reduceEqDiff,ite_true,ite_false,true_and,reduceCtorEq]
  refine VW_own0 5 1 rfl ?_
  try simp only [Env.put,Heap.push,Nat.zero_add]
  refine Zac ?_
  refine Zac (Zaa [0,5,10,11,12] ?_)
  simp only [Zab,Zae,Zaf,pok,pval,VA.ev,Env.get,Env.put,Env.keep,Zag,lenV,lenOk,Nat.succ_ne_self,Nat.reduceEqDiff,ite_true,ite_false,true_and,reduceCtorEq,List.length_map]
  refine Zat ?_
  refine VW_loop (σ:={ s:Nat × Nat × Nat // s.1 ≤ l.length ∧ s.2.1 < s.2.2 }) (fun s=>([(0,pI w),(5,.own s.1.2.1 0 s.1.1),(10,.sl 2 (l.map encEn)),(11,pI l.length),(12,pI s.1.1)],⟨[(s.1.2.1,.arr false 1 (strR ((l.take s.1.1).map (lineS w))))],s.1.2.2⟩)) (fun s=>l.length - s.1.1) ⟨(0,0,1),Nat.zero_le _,by simp⟩ ?_ ?_ ?_
  · try simp only [Env.get,Nat.succ_ne_self,Env.le,Nat.reduceEqDiff,ite_true,ite_false,true_and,and_true,reduceCtorEq,strR,true_and]
    all_goals (repeat' (first | rfl | trivial | omega | (simp only []; omega) | refine And.intro ?_ ?_))
  · simp only [Heap.get,Heap.le,HL.get,HL.le,Nat.le_refl,List.map,List.take,ite_true,true_and,and_true,Option.some.injEq]
    rfl
  rintro ⟨⟨k,id,t⟩,hk,hid⟩
  simp only [] at hk hid ⊢
  have qi0:(id = t) = False:=eq_false (by omega)
  have qi1:(id = (t + 1)) = False:=eq_false (by omega)
  have qi2:(id = (t + 1 + 1)) = False:=eq_false (by omega)
  have qi3:(t = id) = False:=eq_false (by omega)
  have qi4:(t = (t + 1)) = False:=eq_false (by omega)
  have qi5:(t = (t + 1 + 1)) = False:=eq_false (by omega)
  have qi6:((t + 1) = id) = False:=eq_false (by omega)
  have qi7:((t + 1) = t) = False:=eq_false (by omega)
  have qi8:((t + 1) = (t + 1 + 1)) = False:=eq_false (by omega)
  have qi9:((t + 1 + 1) = id) = False:=eq_false (by omega)
  have qi10:((t + 1 + 1) = t) = False:=eq_false (by omega)
  have qi11:((t + 1 + 1) = (t + 1)) = False:=eq_false (by omega)
  refine Zac (Zaa [0,5,10,11,12,13] ?_)
  simp only [Zab,Zae,Zaf,pok,pval,VA.ev,Env.get,Env.put,Env.keep,Zag,intV,binV,Zap,Heap.get,Heap.le,HL.le,Nat.succ_ne_self,Env.le,Nat.reduceEqDiff,ite_true,ite_false,true_and,and_true,reduceCtorEq,qi0,qi1,qi2,qi3,qi4,qi5,qi6,qi7,qi8,qi9,qi10,qi11]
  refine Zac ?_
  refine Za4 rfl (fun h1=>?_) (fun h1=>?_)
  · simp only [decide_eq_true_eq] at h1
    have ka:k < l.length:=by omega
    refine Za9 ?_
    try simp only [Zag]
    refine Zac ?_
    refine Zat ?_
    refine Zac (Zaa [0,5,7,10,11,12] ?_)
    simp only [Zab,Zae,Zaf,pok,pval,VA.ev,Env.get,Env.put,Env.keep,Zag,aggV,isInt,numOf,lenV,Zam,locOk,iaddrV,Zbi,PV.cells,PV.fits,overlay,PV.nth,PV.row,Heap.get,Heap.set,HL.get,HL.set,HL.del,Heap.push,Nat.le_refl,Nat.succ_ne_self,storeV,storeOk,List.set,List.length,List.getD_cons_zero,List.take,List.drop,List.take_succ_cons,List.drop_succ_cons,List.cons_append,List.nil_append,Nat.reduceEqDiff,Nat.reduceAdd,Nat.reduceLT,Bool.true_eq_false,ite_true,ite_false,true_and,and_true,reduceCtorEq,BEq.rfl,Nat.zero_add,List.length_cons,imp_self,Int.toNat_natCast,List.length_map,rowm ka,encEn,qi0,qi1,qi2,qi3,qi4,qi5,qi6,qi7,qi8,qi9,qi10,qi11]
    repeat (with_reducible refine And.intro ?_ ?_; first | omega | (with_reducible constructor <;> omega) | exact False.elim | exact True.intro)
    have hst:=mapK_step (lineS w) ka
    obtain ⟨g1,g2,g3⟩:=hs _ (List.getElem_mem ka)
    generalize l[k] = e at hst g1 g2 g3 ⊢
    refine Zac (Zaa [0,5,7,8,10,11,12] ?_)
    simp only [Zab,Zae,Zaf,pok,pval,VA.ev,Env.get,Env.put,Env.keep,Zag,aggV,faddrV,isAddr,Zam,locOk,PV.nth,PV.row,Heap.get,HL.get,Nat.le_refl,Nat.succ_ne_self,List.map,List.length,List.getD_cons_zero,List.take,List.drop,List.take_succ_cons,List.drop_succ_cons,Nat.reduceEqDiff,Nat.reduceLT,Bool.false_eq_true,ite_true,ite_false,true_and,and_true,implies_true,reduceCtorEq,Nat.zero_add,List.length_cons,qi0,qi1,qi2,qi3,qi4,qi5,qi6,qi7,qi8,qi9,qi10,qi11]
    have hR:=Zai e.2 (by omega) g3
    refine ACall_v [.sl 1 (e.2.map fun x=>[pI x])] ⟨View.refl _ _,trivial⟩ hR (scalar_str _) ?_
    skip
    refine Zac (Zaa [0,5,7,8,9,10,11,12] ?_)
    have hrl:=ranges_len e.2 (by omega) g3
    have hwN:widthN w e = max (min w 200) 0 - e.1.length - (Zax e.2).length - 2:=rfl
    have hlS:lineS w e = e.1 ++ [32] ++ Lib.repeatL [46] (max (widthN w e) 2).toNat ++ [32] ++ Zax e.2:=rfl
    generalize Zax e.2 = R at hrl hwN hlS ⊢
    generalize widthN w e = N at hwN hlS
    generalize lineS w e = Ln at hlS hst
    have hwi:=Zbe.1 hw
    have e1:IntKind.i64.wrap (IntKind.i64.wrap (IntKind.i64.wrap (max (min w 200) 0 - (e.1.length:Int)) - (R.length:Int)) - 2) = N:=by
      rw [w64 (n:=max (min w 200) 0 - (e.1.length:Int)) (by omega) (by omega),w64 (n:=max (min w 200) 0 - (e.1.length:Int) - (R.length:Int)) (by omega) (by omega),w64 (by omega) (by omega)]; omega
    have e0:(if 0 > (if 200 < w then 200 else w) then 0 else if 200 < w then 200 else w) = max (min w 200) 0:=by
      split <;> (try split) <;> omega
    simp only [Zab,Zae,Zaf,pok,pval,VA.ev,Env.get,Env.put,Env.keep,Zag,aggV,intV,binV,Zap,isInt,lenV,faddrV,isAddr,Zam,locOk,lenOk,mmV,PV.nth,PV.row,Heap.get,HL.get,Nat.succ_ne_self,List.length,List.getD_cons_zero,List.take,List.drop,List.take_succ_cons,Nat.reduceEqDiff,Nat.reduceAdd,Nat.reduceLT,Nat.reduceLeDiff,Bool.false_eq_true,ite_true,ite_false,true_and,and_true,implies_true,reduceCtorEq,Nat.zero_add,Nat.add_zero,List.length_cons,e0,e1,qi0,qi1,qi2,qi3,qi4,qi5,qi6,qi7,qi8,qi9,qi10,qi11]
    have hmx:max N 2 = (((max N 2).toNat:Nat):Int):=by omega
    have hRp:=sp_strings_Repeat [46] (max N 2).toNat (by omega) (by simp)
    have hrpl:(Lib.repeatL [46] (max N 2).toNat).length ≤ 300:=by rw [Lib.repeatL_length,List.length_singleton]; omega
    generalize (max N 2).toNat = rn at hmx hRp hlS hrpl
    generalize Lib.repeatL [46] rn = D at hRp hlS hrpl
    have htk:(l.take k).length = k:=by rw [List.length_take]; omega
    have hml:(strR ((l.take k).map (lineS w))).length = k:=by rw [Zba,List.length_map,htk]
    have hmt:List.take k (strR ((l.take k).map (lineS w))) = strR ((l.take k).map (lineS w)):=List.take_of_length_le (by omega)
    have hen:strR ((l.take k).map (lineS w)) ++ [[.str Ln]] = strR ((l.take (k + 1)).map (lineS w)):=by rw [hst,← strR_app]; rfl
    generalize strR ((l.take k).map (lineS w)) = M at hml hmt hen ⊢
    have e2:(if 2 > N then 2 else N) = ((rn:Nat):Int):=by rw [← hmx]; split <;> omega
    refine VW_draw2Q [0,5,10,11,12] ⟨[(t,.arr false 2 [[.str e.1,.sl 1 (e.2.map fun x=>[pI x])]])],t + 20⟩ (by simp [Heap.le,Heap.get,HL.le,HL.get]) ?_
    simp only [Zaf,DrawW_nil,DrawW_n,QW,dok,dval,VOp.pure,VOp.simple,VOp.det,pok,pval,VA.ev,Env.get,Env.put,Env.keep,Zag,Zaz,gd,aggV,intV,binV,Zap,strV,isInt,faddrV,isAddr,Zam,locOk,mmV,PV.cells,PV.fits,PV.nth,PV.row,Heap.get,Heap.del,Heap.le,HL.get,HL.del,HL.le,Heap.push,Nat.succ_ne_self,Zav,oldId,Zay,oldOk,Zan,srcOk,Zas,Zaq,List.set,List.replicate,List.length,List.getD_cons_zero,List.take,List.drop,List.take_succ_cons,Nat.reduceEqDiff,Nat.reduceAdd,Nat.reduceLT,Nat.reduceLeDiff,Bool.false_eq_true,ite_true,ite_false,true_and,and_true,implies_true,forall_const,reduceCtorEq,BEq.rfl,Nat.zero_add,Nat.add_zero,List.length_cons,imp_self,e2,qi0,qi1,qi2,qi3,qi4,qi5,qi6,qi7,qi8,qi9,qi10,qi11]
    refine ⟨by omega,_,.inl hRp,?_⟩
    have hpl2:e.1 ++ [32] ++ D ++ [32] ++ R = Ln:=hlS.symm
    try simp only [Nat.le_refl,List.length,Nat.reduceLeDiff,true_and,Nat.zero_add,hml,hmt,hpl2,hen,qi0,qi1,qi2,qi3,qi4,qi5,qi6,qi7,qi8,qi9,qi10,qi11]
    refine ⟨by simp; omega,by simp; omega,by simp; omega,by omega,by omega,by omega,?_⟩
    refine Zaa [0,5,10,11,12] ?_
    simp only [Zab,Zae,Zaf,pok,pval,VA.ev,Env.get,Env.put,Env.keep,Zag,intV,binV,Zap,HL.get,Nat.succ_ne_self,Nat.reduceEqDiff,ite_true,ite_false,true_and,reduceCtorEq,ad1 (a:=k) (by omega),qi0,qi1,qi2,qi3,qi4,qi5,qi6,qi7,qi8,qi9,qi10,qi11]
    refine ⟨⟨(k + 1,t + 1,t + 1 + 1),ka,by show t + 1 < t + 1 + 1; omega⟩,?_⟩
    try simp only [Nat.le_refl,ite_true,ite_false,true_and,and_true,qi0,qi1,qi2,qi3,qi4,qi5,qi6,qi7,qi8,qi9,qi10,qi11]
    all_goals (repeat' (first | rfl | trivial | omega | (simp only []; omega) | refine And.intro ?_ ?_))
  simp only [decide_eq_false_iff_not] at h1
  obtain rfl:k = l.length:=by omega
  rw [List.take_length]
  refine VW_exit ?_
  try simp only [Zag,Zaz,retQ,ite_true]
  refine Zac (Zaa [4] ?_)
  simp only [Zab,Zae,Zaf,pok,pval,VA.ev,Env.get,Env.put,Env.keep,Zag,Nat.succ_ne_self,Nat.reduceEqDiff,ite_true,ite_false,true_and,reduceCtorEq]
  refine VW_ret ?_
  try simp only [Env.get,retQ,resV,resOk,RS.ev,RS.ok,ite_true,true_and,and_true]
  exact View.own_all (fz:=false) (by simp [Heap.get,HL.get]) (by rw [Zba,List.length_map])
end Go.Proofs.YtjmekckcffckoabGreatDoor.w
namespace Go.Proofs.YtjmekckcffckoabGreatDoor.w
open Go Go.VM
set_option maxRecDepth 20000
set_option maxHeartbeats 0
set_option pp.deepTerms false
def c_pandectlaw56_awake:VC:=(.seq (.region [ZO 0 (.mv (.c (.bool false)))] false) (.seq (.region [ZO 3 (.bslice 1 2 [(.int .i64 0)] [(0,(.c (.int .i64 1))),(1,(.c (.int .i64 3)))]),ZO 4 (.build [(.str []),.nilsl] [(0,(1,(.c (.str [116,97,120])))),(1,(1,(.t 3)))]),ZO 5 (.bslice 2 1 [(.str []),.nilsl] [(0,(.t 4))]),ZO 6 (.call 24 [(.c (.int .i64 14)),(.t 5)]),ZM 1 6] false) (.seq (.region [ZO 7 (.bslice 1 1 [(.str [])] [(0,(.c (.str [40,116,97,120,44,32,111,102,32,116,97,120])))]),ZO 8 (.build [(.int .i64 0),(.str []),.nilsl,.nilsl] [(0,(1,(.c (.int .i64 3)))),(2,(1,(.t 7)))]),ZO 9 (.bslice 4 1 [(.int .i64 0),(.str []),.nilsl,.nilsl] [(0,(.t 8))]),ZO 10 (.call 12 [(.t 9)]),ZM 2 10] false) (.seq (.seq (.region [ZM 11 1,ZO 12 (.len false (.t 11)),ZO 13 (.bin .neq (.t 12) (.c (.int .i64 1))),ZM 14 13,ZG 15 (.mv (.t 2)) 14 false,ZG 16 (.len false (.t 15)) 14 false,ZG 17 (.bin .neq (.t 16) (.c (.int .i64 2))) 14 false,ZO 18 (.pick (.t 14) (.c (.bool true)) (.t 17))] false) (.cond (.t 18) (.seq (.region [ZO 0 (.mv (.c (.bool false)))] false) .ret) .skip)) (.seq (.region [ZO 19 (.bslice 1 7 [(.int .i64 0)] [(0,(.c (.int .i64 5))),(1,(.c (.int .i64 1))),(2,(.c (.int .i64 2))),(3,(.c (.int .i64 3))),(4,(.c (.int .i64 5))),(5,(.c (.int .i64 7))),(6,(.c (.int .i64 8)))]),ZO 20 (.call 8 [(.t 19)]),ZO 21 (.bin .eql (.t 20) (.c (.str [49,32,116,111,32,51,44,32,53,44,32,55,44,32,56]))),ZM 22 21,ZG 23 (.mv (.t 1)) 22 true,ZG 24 (.iaddr 1 (.t 23) (.c (.int .i64 0))) 22 true,ZG 25 (.load false 1 (.t 24)) 22 true,ZG 26 (.bin .eql (.t 25) (.c (.str [116,97,120,32,46,46,46,46,46,32,49,44,32,51]))) 22 true,ZO 27 (.pick (.t 22) (.t 26) (.c (.bool false))),ZM 28 27,ZG 29 (.mv (.t 2)) 28 true,ZG 30 (.iaddr 2 (.t 29) (.c (.int .i64 1))) 28 true,ZG 31 (.faddr 0 (.t 30)) 28 true,ZG 32 (.load false 1 (.t 31)) 28 true,ZG 33 (.bin .eql (.t 32) (.c (.str [116,97,120]))) 28 true,ZO 34 (.pick (.t 28) (.t 33) (.c (.bool false))),ZM 35 34,ZG 36 (.mv (.t 2)) 35 true,ZG 37 (.iaddr 2 (.t 36) (.c (.int .i64 1))) 35 true,ZG 38 (.faddr 1 (.t 37)) 35 true,ZG 39 (.load false 1 (.t 38)) 35 true,ZG 40 (.len false (.t 39)) 35 true,ZG 41 (.bin .eql (.t 40) (.c (.int .i64 1))) 35 true,ZO 42 (.pick (.t 35) (.t 41) (.c (.bool false))),ZM 43 42,ZG 44 (.mv (.t 2)) 43 true,ZG 45 (.iaddr 2 (.t 44) (.c (.int .i64 1))) 43 true,ZG 46 (.faddr 1 (.t 45)) 43 true,ZG 47 (.load false 1 (.t 46)) 43 true,ZG 48 (.iaddr 1 (.t 47) (.c (.int .i64 0))) 43 true,ZG 49 (.load false 1 (.t 48)) 43 true,ZG 50 (.bin .eql (.t 49) (.c (.int .i64 3))) 43 true,ZO 51 (.pick (.t 43) (.t 50) (.c (.bool false))),ZM 0 51] false) .ret)))))
def taxT:Str:=[116,97,120]
def exE:List (Str × List Int):=[(taxT,[1,3])]
def exP:List Pg:=[⟨3,[],[[40,116,97,120,44,32,111,102,32,116,97,120]],[]⟩]
theorem ex_r2:Zax [1,3] = [49,44,32,51]:=by
  have h:Za2 [1,3] = [1,3]:=onceI_self (by decide)
  have h5:Lib.join (Zbg [1,3]) sepT = [49,44,32,51]:=by kernel_rfl
  unfold Zax; rw [h,h5]
theorem ex_line:exE.map (lineS 14) = [[116,97,120,32,46,46,46,46,46,32,49,44,32,51]]:=by
  have h5:taxT ++ [32] ++ Lib.repeatL [46] (max (max (min 14 200) 0 - (taxT.length:Int) - (([49,44,32,51]:Str).length:Int) - 2) 2).toNat ++ [32] ++ [49,44,32,51] = [116,97,120,32,46,46,46,46,46,32,49,44,32,51]:=by kernel_rfl
  simp only [exE,List.map_cons,List.map_nil,lineS,widthN,ex_r2]
  rw [h5]
theorem ex_ranges:Zax [5,1,2,3,5,7,8] = [49,32,116,111,32,51,44,32,53,44,32,55,44,32,56]:=by
  have h1:Za2 [5,1,2,3,5,7,8] = Za2 [1,2,3,5,7,8]:=onceI_ext fun x=>by simp; omega
  have h2:Za2 [1,2,3,5,7,8] = [1,2,3,5,7,8]:=onceI_self (by decide)
  have h5:Lib.join (Zbg [1,2,3,5,7,8]) sepT = [49,32,116,111,32,51,44,32,53,44,32,55,44,32,56]:=by kernel_rfl
  unfold Zax; rw [h1,h2,h5]
theorem ex_keys:keysS exP = [[111,102],taxT]:=by
  have h:(onS (occL exP) []).map (·.1) = [taxT,[111,102]]:=by kernel_rfl
  unfold keysS; rw [h]
  have h2:¬ leB taxT [111,102] = true:=by decide
  simp [List.mergeSort,List.MergeSort.Internal.splitInTwo,List.merge,h2]
theorem ex_index:indexS exP = [([111,102],[3]),(taxT,[3])]:=by
  have h1:pagesS exP [111,102] = [3]:=by kernel_rfl
  have h2:pagesS exP taxT = [3,3]:=by kernel_rfl
  have h3:Za2 [3,3] = Za2 [3]:=onceI_ext fun x=>by simp
  have h4:Za2 [3] = [3]:=onceI_self (by decide)
  unfold indexS
  rw [ex_keys]
  simp only [List.map_cons,List.map_nil,h1,h2,h3,h4]
theorem ex_smal:SmalP exP:=by
  refine ⟨by decide,by decide,by decide,by decide⟩
theorem sp_awake:PCall Tryz.prog 7 [] (.bool true):=by
  have i1:∀ x:Int,0 ≤ x → x ≤ 100 → i64 x:=fun x h1 h2=>Zbe.2 (by omega)
  have A:=sp_concordance_Format 14 exE (i1 _ (by decide) (by decide)) (by decide) (fun e he=>by
    simp only [exE,List.mem_singleton] at he
    subst he
    refine ⟨by decide,by decide,fun x hx=>?_⟩
    simp only [List.mem_cons,List.not_mem_nil,or_false] at hx
    rcases hx with rfl | rfl <;> exact i1 _ (by decide) (by decide))
  have B:=sp_concordance_Index exP ex_smal
  have C:=Zai [5,1,2,3,5,7,8] (by decide) (fun x hx=>by
    simp only [List.mem_cons,List.not_mem_nil,or_false] at hx
    rcases hx with rfl | rfl | rfl | rfl | rfl | rfl | rfl <;> exact i1 _ (by decide) (by decide))
  rw [ex_line] at A
  rw [ex_index] at B
  rw [ex_ranges] at C
  have A':PCall Tryz.prog 24 [pI 14,.sl 2 (exE.map encEn)] (.sl 1 [[.str [116,97,120,32,46,46,46,46,46,32,49,44,32,51]]]):=A
  have B':PCall Tryz.prog 12 [.sl 4 (exP.map Pg.enc)] (.sl 2 [[.str [111,102],.sl 1 [[pI 3]]],[.str [116,97,120],.sl 1 [[pI 3]]]]):=B
  refine Za5 ?_ (cB _) (by simp only [ClosedL,List.mem_cons,List.not_mem_nil,or_false,forall_eq_or_imp,forall_eq,false_implies,implies_true]; repeat' (first  | exact cB _ | refine And.intro ?_ ?_))
  refine ACall_fn (vc:=c_pandectlaw56_awake) (ts:=[.t 0]) Go.Proofs.Tryz.func7 (by kernel_rfl) rfl rfl (Nat.le_of_ble_eq_true rfl) (by kernel_rfl) ?_
  unfold c_pandectlaw56_awake
  try dsimp only [ZM,ZO,ZN,ZG]
  refine Zac (Zaa [] ?_)
  simp only [Zab,Zae,Zaf,pok,pval,VA.ev,Env.put,Env.keep,argEnv,Zag,Heap.nil,true_and]
  refine Zac (Zaa [1] ?_)
  simp only [Zab,Zae,Zaf,pok,pval,VA.ev,Env.get,Env.put,Env.keep,Zag,fillV,fillOk,PV.cells,PV.fits,overlay,Heap.push,Nat.le_refl,Zas,Zaq,List.map,List.set,List.replicate,List.length,List.take,List.drop,List.take_succ_cons,List.drop_succ_cons,List.cons_append,List.nil_append,Nat.reduceEqDiff,Nat.reduceAdd,Nat.reduceLT,Nat.reduceLeDiff,ite_true,ite_false,true_and,and_true,BEq.rfl,Nat.zero_add,List.length_cons]
  refine ACall_f [pI 14,.sl 2 (exE.map encEn)] ⟨View.refl _ _,?_,trivial⟩ (ACall_p A' ?_)
  · refine View.ownV (fz:=false) (es:=[[.str [116,97,120],.own 0 0 2]]) rfl (by decide) rfl (fun i hi=>?_) (fun i j hi hj=>?_)
    · obtain rfl:i = 0:=by omega
      rfl
    · obtain rfl:i = 0:=by omega
      obtain rfl | rfl:j = 0 ∨ j = 1:=by omega
      · exact View.refl _ _
      · exact View.own_all (fz:=false) (es:=[[pI 1],[pI 3]]) rfl rfl
  try simp only []
  refine Zac (Zaa [1,2] ?_)
  simp only [Zab,Zae,Zaf,pok,pval,VA.ev,Env.get,Env.put,Env.keep,Zag,fillV,fillOk,PV.cells,PV.fits,overlay,Heap.push,Nat.succ_ne_self,Zas,Zaq,List.map,List.set,List.replicate,List.length,List.take,List.drop,List.take_succ_cons,List.drop_succ_cons,List.cons_append,List.nil_append,Nat.reduceEqDiff,Nat.reduceAdd,Nat.reduceLT,Nat.reduceLeDiff,ite_true,ite_false,true_and,and_true,BEq.rfl,Nat.zero_add,List.length_cons]
  refine ACall_f [.sl 4 (exP.map Pg.enc)] ⟨?_,trivial⟩ (ACall_p B' ?_)
  · refine View.ownV (fz:=false) (es:=[[pI 3,.str [],.own 2 0 1,.nilsl]]) rfl (by decide) rfl (fun i hi=>?_) (fun i j hi hj=>?_)
    · obtain rfl:i = 0:=by omega
      rfl
    · obtain rfl:i = 0:=by omega
      obtain rfl | rfl | rfl | rfl:j = 0 ∨ j = 1 ∨ j = 2 ∨ j = 3:=by omega
      · exact View.refl _ _
      · exact View.refl _ _
      · exact View.own_all (fz:=false) (es:=[[.str [40,116,97,120,44,32,111,102,32,116,97,120]]]) rfl rfl
      · exact View.nil _ _
  try simp only []
  refine Zac ?_
  have n1:(((1:Nat):Int) != 1) = false:=by decide
  have n2:(((2:Nat):Int) != 2) = false:=by decide
  have n3:(((1:Nat):Int) == 1) = true:=by decide
  refine Zac (Zaa [1,2,18] ?_)
  simp only [Zab,Zae,OpsW_y,Zaf,pok,pval,VA.ev,Env.get,Env.put,Env.keep,Zag,pickV,isBool,intV,binV,Zap,lenV,lenOk,Nat.succ_ne_self,List.length,Nat.reduceEqDiff,Nat.reduceAdd,Bool.false_eq_true,ite_true,ite_false,true_and,Nat.zero_add,n1,n2,n3]
  refine Za4 rfl (fun h1=>?_) (fun h1=>?_)
  · cases h1
  refine Za9 ?_
  try simp only [Zag]
  refine Zac (Zaa [0] ?_)
  simp only [Zae,Zaf,pok,pval,VA.ev,Env.get,Env.put,Env.keep,Zag,intV,binV,Zap,strV,PV.cells,PV.fits,Heap.push,Zas,Zaq,List.map,List.set,List.replicate,Nat.reduceEqDiff,Nat.reduceAdd,Nat.reduceLT,ite_true,ite_false,true_and,and_true,BEq.rfl]
  refine ACall_f [.sl 1 ([5,1,2,3,5,7,8].map fun x=>[pI x])] ⟨?_,trivial⟩ (ACall_p C ?_)
  · exact View.own_all (fz:=false) rfl rfl
  try simp only [Zab,Zae,OpsW_y,Zaf,pok,pval,VA.ev,Env.get,Env.put,pickV,isBool,aggV,intV,binV,Zap,strV,isInt,numOf,lenV,faddrV,isAddr,Zam,locOk,iaddrV,Zbi,lenOk,PV.nth,PV.row,Nat.le_refl,Nat.succ_ne_self,List.length,List.getD_cons_zero,List.getD_cons_succ,List.take,List.drop,List.take_succ_cons,Nat.reduceEqDiff,Nat.reduceAdd,Nat.reduceLeDiff,Bool.false_eq_true,ite_true,ite_false,true_and,and_true,implies_true,reduceCtorEq,BEq.rfl,Nat.zero_add,List.length_cons,Int.reduceToNat,n1,n2,n3]
  refine ⟨by decide,by decide,by decide,by decide,by decide,?_⟩
  refine VW_ret ?_
  try simp only [Env.get,retQ,resV,resOk,RS.ev,RS.ok,ite_true,true_and,and_true]
  exact View.refl _ _
end Go.Proofs.YtjmekckcffckoabGreatDoor.w
namespace Go.Proofs.YtjmekckcffckoabGreatDoor.w
open Go Go.VM
set_option maxRecDepth 20000
set_option maxHeartbeats 0
set_option pp.deepTerms false
def Za0:VC:=(.seq (.region [ZO 4 (.mv (.c (.bool false)))] false) (.seq (.seq (.region [ZM 7 0,ZO 8 (.len false (.t 7)),ZO 9 (.bin .eql (.t 8) (.c (.int .i64 0))),ZM 10 9,ZG 11 (.mv (.t 0)) 10 false,ZG 12 (.len false (.t 11)) 10 false,ZG 13 (.bin .gtr (.t 12) (.c (.int .i64 60))) 10 false,ZO 14 (.pick (.t 10) (.c (.bool true)) (.t 13))] false) (.cond (.t 14) (.seq (.region [ZO 15 (.call 7 []),ZM 4 15] false) .ret) .skip)) (.seq (.region [ZM 16 1,ZO 17 (.conv .i64 (.t 16)),ZM 18 0,ZO 19 (.len false (.t 18)),ZO 20 (.bin .rem (.t 17) (.t 19)),ZM 5 20] false) (.seq (.draw2 [ZO 21 (.fx (.mk0 1) []),ZM 22 0,ZM 23 5,ZO 24 (.slice false 1 (.t 22) (some (.t 23)) none),ZO 25 (.app 1 8 [(.int .i64 0)] false (.t 21) (.t 24)),ZM 26 0,ZM 27 5,ZO 28 (.slice false 1 (.t 26) none (some (.t 27))),ZO 29 (.app 1 8 [(.int .i64 0)] false (.t 25) (.t 28)),ZM 30 0,ZM 31 5,ZO 32 (.iaddr 1 (.t 30) (.t 31)),ZO 33 (.load false 1 (.t 32)),ZO 34 (.bslice 1 1 [(.int .i64 0)] [(0,(.t 33))]),ZO 35 (.app 1 8 [(.int .i64 0)] false (.t 29) (.t 34)),ZM 6 35] [false,false,false,false,false,false,false,false,false,false,false,false,false,false,false,false]) (.seq (.region [ZM 36 6,ZO 37 (.call 8 [(.t 36)]),ZM 38 0,ZO 39 (.call 8 [(.t 38)]),ZO 40 (.bin .eql (.t 37) (.t 39)),ZM 41 40,ZG 42 (.mv (.t 0)) 41 true,ZG 43 (.mv (.t 5)) 41 true,ZG 44 (.iaddr 1 (.t 42) (.t 43)) 41 true,ZG 45 (.load false 1 (.t 44)) 41 true,ZG 46 (.bslice 1 1 [(.int .i64 0)] [(0,(.t 45))]) 41 true,ZG 47 (.call 8 [(.t 46)]) 41 true,ZG 48 (.mv (.t 0)) 41 true,ZG 49 (.mv (.t 5)) 41 true,ZG 50 (.iaddr 1 (.t 48) (.t 49)) 41 true,ZG 51 (.load false 1 (.t 50)) 41 true,ZG 52 (.call 9 [(.t 51)]) 41 true,ZG 53 (.bin .eql (.t 47) (.t 52)) 41 true,ZO 54 (.pick (.t 41) (.t 53) (.c (.bool false))),ZM 55 54,ZG 56 (.call 8 [(.c .nilsl)]) 55 true,ZG 57 (.bin .eql (.t 56) (.c (.str []))) 55 true,ZO 58 (.pick (.t 55) (.t 57) (.c (.bool false))),ZM 59 58,ZG 60 (.call 7 []) 59 true,ZO 61 (.pick (.t 59) (.t 60) (.c (.bool false))),ZM 4 61] true) .ret)))))
theorem sp_ConcordanceRanges (l:List Int) (u:Int) (hu:0 ≤ u ∧ u ≤ 255) (hi:∀ x ∈ l,i64 x) (hlen:(l.length:Int) ≤ 9223372036854775807):PCall Tryz.prog 3 [.sl 1 (l.map fun x=>[pI x]),.int .u8 u] (.bool true):=by
  have A:=sp_awake
  refine Za5 ?_ (cB _) (by simp only [ClosedL,List.mem_cons,List.not_mem_nil,or_false,forall_eq_or_imp,forall_eq,false_implies,implies_true]; repeat' (first  | exact cI _ | exact cB _ | exact Closed.of_scalar (scalar_int _ _) | exact closed_sc _ | exact closed_ro (by simp only [List.mem_cons,List.not_mem_nil,or_false,forall_eq]; first | exact cI _ | exact cS _ | exact closed_eis _) | refine And.intro ?_ ?_))
  refine ACall_fn (vc:=Za0) (ts:=[.t 4]) Go.Proofs.Tryz.func3 (by kernel_rfl) rfl rfl (Nat.le_of_ble_eq_true rfl) (by kernel_rfl) ?_
  unfold Za0
  try dsimp only [ZM,ZO,ZN,ZG]
  refine Zac (Zaa [0,1] ?_)
  simp only [Zab,Zae,Zaf,pok,pval,VA.ev,Env.get,Env.put,Env.keep,argEnv,Zag,Heap.nil,Nat.succ_ne_self,Nat.reduceEqDiff,ite_true,ite_false,true_and,reduceCtorEq,Nat.zero_add]
  refine Zac ?_
  by_cases h0:l.length = 0 ∨ 60 < l.length
  · refine Zac (VW_mid (σ:=Unit) (fun _=>([(0,.sl 1 (l.map fun x=>[pI x])),(1,.int .u8 u),(14,.bool true)],⟨[],0⟩)) (Zaa [0,1,14] ?_) (fun _=>?_))
    · rcases h0 with h0 | h0
      · have e1:((l.length:Int) == 0) = true:=by rw [beq_iff_eq]; omega
        simp only [midQ,Zab,Zae,OpsW_xf,Zaf,pok,pval,VA.ev,Env.get,Env.put,Env.keep,pickV,isBool,intV,binV,Zap,lenV,lenOk,Heap.le,HL.le,Nat.le_refl,Nat.succ_ne_self,Env.le,Nat.reduceEqDiff,ite_true,ite_false,true_and,and_true,reduceCtorEq,List.length_map,e1]
        exact ⟨(),trivial⟩
      · have e1:((l.length:Int) == 0) = false:=by rw [beq_eq_false_iff_ne]; omega
        have e2:decide ((l.length:Int) > 60) = true:=by rw [decide_eq_true_eq]; omega
        simp only [midQ,Zab,Zae,OpsW_y,Zaf,pok,pval,VA.ev,Env.get,Env.put,Env.keep,pickV,isBool,intV,binV,Zap,lenV,lenOk,Heap.le,HL.le,Nat.le_refl,Nat.succ_ne_self,Env.le,Nat.reduceEqDiff,Bool.false_eq_true,ite_true,ite_false,true_and,and_true,reduceCtorEq,List.length_map,e1,e2]
        exact ⟨(),trivial⟩
    refine Za4 rfl (fun h1=>?_) (fun h1=>?_)
    · refine Zac (Zaa [4] ?_)
      simp only [Zab,Zae,Zaf,pok,pval,VA.ev,Env.get,Env.put,Env.keep,Zag,List.map,Nat.reduceEqDiff,ite_true,ite_false,true_and,reduceCtorEq]
      refine ACall_p A ?_
      skip
      refine VW_ret ?_
      try simp only [Env.get,Zag,retQ,resV,resOk,RS.ev,RS.ok,ite_true,true_and,and_true]
      exact View.refl _ _
    · cases h1
  have hl0:l.length ≠ 0:=fun h=>h0 (.inl h)
  have hl1:l.length ≤ 60:=by omega
  have e1:((l.length:Int) == 0) = false:=by rw [beq_eq_false_iff_ne]; omega
  have e2:decide ((l.length:Int) > 60) = false:=by rw [decide_eq_false_iff_not]; omega
  refine Zac (Zaa [0,1,14] ?_)
  simp only [Zab,Zae,OpsW_y,Zaf,pok,pval,VA.ev,Env.get,Env.put,Env.keep,Zag,pickV,isBool,intV,binV,Zap,lenV,lenOk,Nat.succ_ne_self,Nat.reduceEqDiff,Bool.false_eq_true,ite_true,ite_false,true_and,reduceCtorEq,List.length_map,e1,e2]
  refine Za4 rfl (fun h1=>?_) (fun h1=>?_)
  · cases h1
  refine Za9 ?_
  try simp only [Zag]
  obtain ⟨k,hk,hkl⟩:∃ k:Nat,u.tmod l.length = (k:Int) ∧ k < l.length:=by
    have hb:=Int.tmod_nonneg (b:=(l.length:Int)) (a:=u) (by omega)
    have hc:=Int.tmod_lt_of_pos u (b:=(l.length:Int)) (by omega)
    exact ⟨(u.tmod l.length).toNat,by omega,by omega⟩
  refine Zac (Zaa [0,5] ?_)
  simp only [Zab,Zae,Zaf,pok,pval,VA.ev,Env.get,Env.put,Env.keep,Zag,intV,binV,Zap,convV,isInt,lenV,lenOk,Nat.succ_ne_self,Nat.reduceEqDiff,ite_true,ite_false,true_and,ne_eq,reduceCtorEq,List.length_map,hk,w64 (n:=u) (by omega) (by omega)]
  refine ⟨by omega,?_⟩
  have hpr:Zax (l.drop k ++ l.take k ++ [l[k]]) = Zax l:=ranges_ext (turn_mem l k hkl)
  have hone:=ranges_one l[k]
  have B1:=Zai (l.drop k ++ l.take k ++ [l[k]]) (by simp; omega) (fun x hx=>hi x ((turn_mem l k hkl x).1 hx))
  have B2:=Zai l (by omega) hi
  have B3:=Zai [l[k]] (by simp) (fun x hx=>by rw [List.mem_singleton] at hx; subst hx; exact hi _ (List.getElem_mem hkl))
  have B4:=Za6 (l[k].natAbs + 1) l[k] (by omega) (hi _ (List.getElem_mem hkl))
  have B5:=Zai [] (by simp) (by simp)
  rw [hpr] at B1
  rw [hone] at B3
  rw [ranges_nil] at B5
  have hrw:(l.map fun x=>[pI x]).getD k [] = [pI l[k]]:=rowm hkl
  have hM:(l.drop k ++ l.take k ++ [l[k]]).map (fun x=>[pI x]) = (l.drop k).map (fun x=>[pI x]) ++ (l.take k).map (fun x=>[pI x]) ++ [[pI l[k]]]:=by rw [List.map_append,List.map_append]; rfl
  have h1:List.take (l.length - k) (List.drop k (l.map fun x=>[pI x])) = (l.drop k).map (fun x=>[pI x]):=by
    rw [← List.map_drop]; exact List.take_of_length_le (by simp)
  have h2:List.take (k - 0) (l.map fun x=>[pI x]) = (l.take k).map (fun x=>[pI x]):=by rw [Nat.sub_zero,List.map_take]
  have hDl:((l.drop k).map fun x=>[pI x]).length = l.length - k:=by simp
  have hTl:((l.take k).map fun x=>[pI x]).length = k:=by simp; omega
  rw [hM] at B1
  generalize (l.drop k).map (fun x=>[pI x]) = DM at h1 hDl B1
  generalize (l.take k).map (fun x=>[pI x]) = TM at h2 hTl B1
  have hDt:List.take (l.length - k) DM = DM:=List.take_of_length_le (by omega)
  have hAl:(DM ++ TM).length = l.length:=by rw [List.length_append]; omega
  have hs2:l.length - k + k = l.length:=by omega
  have hAt:List.take l.length (DM ++ TM) = DM ++ TM:=List.take_of_length_le (by omega)
  have hEl:(DM ++ TM ++ [[pI l[k]]]).length = l.length + 1:=by rw [List.length_append]; simp only [List.length_cons,List.length_nil]; omega
  refine Zac (VW_draw2E 100 [0,5,6] (by simp) ?_)
  simp only [Zaf,DrawW_nil,DrawW_n,QW,dok,dval,VOp.pure,VOp.simple,VOp.det,pok,pval,VA.ev,Env.get,Env.put,Env.keep,Zag,gd,aggV,isInt,numOf,loV,hiV,lenV,boundOk,sliceV,sliceOk,Zam,locOk,iaddrV,Zbi,PV.cells,PV.fits,PV.nth,PV.row,Heap.get,Heap.del,Heap.le,HL.get,HL.del,HL.le,Heap.push,Nat.le_refl,Nat.succ_ne_self,Zav,oldId,Zay,oldOk,Zan,srcOk,Zas,Zaq,fxV,fxOk,List.map,List.set,List.replicate,List.length,List.getD_cons_zero,List.take,List.drop,List.drop_zero,List.take_succ_cons,List.nil_append,Option.map,Nat.reduceEqDiff,Nat.reduceAdd,Nat.reduceLT,Nat.reduceLeDiff,Bool.false_eq_true,ite_true,ite_false,true_and,and_true,implies_true,forall_const,reduceCtorEq,BEq.rfl,Nat.zero_add,Nat.add_zero,List.length_cons,List.length_nil,Int.toNat_natCast,List.length_map,hrw,h1,h2,hDl,hTl,hDt,hAl,hs2,hAt]
  refine ⟨by omega,by omega,by omega,by omega,by omega,by omega,by omega,by omega,by omega,?_⟩
  refine VW_freeze [(0,.sl 1 (l.map fun x=>[pI x])),(5,pI k),(6,.sl 1 (DM ++ TM ++ [[pI l[k]]]))] ⟨View.refl _ _,View.refl _ _,?_,trivial⟩ ?_
  · exact View.own_all (fz:=false) (by simp [Heap.get,HL.get]) (by rw [hEl])
  refine Zac (VW_drawS [4] (by simp [Heap.le,Heap.get,HL.le,HL.get]) ?_)
  simp only [DrawW_n,QW,dok,dval,VOp.pure,VOp.simple,VOp.det,pok,pval,VA.ev,Env.get,Env.put,Env.keep,Zag,gd,intV,binV,Zap,strV,Nat.succ_ne_self,Nat.reduceEqDiff,ite_true,ite_false,true_and,implies_true,forall_const,reduceCtorEq]
  refine ⟨_,.inl B1,?_⟩
  skip
  refine ⟨_,.inl B2,?_⟩
  try simp only [DrawW_n,DrawW_y,QW,dok,dval,VOp.pure,VOp.simple,VOp.det,pok,pval,VA.ev,Env.get,Env.put,gd,pickV,isBool,aggV,intV,binV,Zap,strV,isInt,numOf,lenV,Zam,locOk,iaddrV,Zbi,PV.cells,PV.fits,PV.nth,PV.row,Nat.le_refl,Nat.succ_ne_self,Zas,Zaq,List.set,List.replicate,List.length,List.getD_cons_zero,List.take,List.take_succ_cons,Nat.reduceEqDiff,Nat.reduceLT,Bool.false_eq_true,ite_true,ite_false,true_and,and_true,implies_true,forall_const,reduceCtorEq,BEq.rfl,Nat.zero_add,List.length_cons,Int.toNat_natCast,List.length_map,hrw]
  refine ⟨by omega,_,.inl B3,?_⟩
  skip
  refine ⟨by omega,_,.inl B4,?_⟩
  try simp only [DrawW_n,DrawW_y,QW,dok,dval,VOp.pure,VOp.simple,VOp.det,pok,pval,VA.ev,Env.get,Env.put,gd,pickV,isBool,intV,binV,Zap,strV,Nat.succ_ne_self,Nat.reduceEqDiff,ite_true,ite_false,true_and,implies_true,forall_const,reduceCtorEq,BEq.rfl,List.length_map,hrw]
  refine ⟨_,.inr ⟨[.sl 1 []],⟨View.nil _ _,trivial⟩,B5,scalar_str _⟩,?_⟩
  try simp only [DrawW_nil,DrawW_n,DrawW_y,QW,dok,dval,VOp.pure,VOp.simple,VOp.det,pok,pval,VA.ev,Env.get,Env.put,gd,pickV,isBool,Nat.succ_ne_self,Nat.reduceEqDiff,ite_true,ite_false,true_and,implies_true,forall_const,reduceCtorEq,BEq.rfl]
  refine ⟨_,.inl A,?_⟩
  skip
  refine VW_ret ?_
  try simp only [Env.get,retQ,resV,resOk,RS.ev,RS.ok,ite_true,true_and,and_true]
  exact View.refl _ _
theorem law_ConcordanceRanges (l:List Int) (u:Int) (hok:okL i64 l) (hu:(Lit.int .u8 u).wf = true) (_:l.length * 8 ≤ 140737488351232):PCall Tryz.prog 3 [.sl 1 (l.map fun x=>[pI x]),.int .u8 u] (.bool true) :=
  sp_ConcordanceRanges l u (by have a:IntKind.u8.min = 0:=rfl; have b:IntKind.u8.max = 255:=rfl; simp [Lit.wf] at hu; omega) hok.2 (by omega)
end Go.Proofs.YtjmekckcffckoabGreatDoor.w
namespace Go.Proofs.YtjmekckcffckoabGreatDoor.rd
open Go Go.VM
variable {W : World}
theorem k3:Tryz.prog.cellsOf 3 = 1:=by kernel_rfl
theorem rI (n:Nat):Reads Tryz.prog W n 3 i64 (fun a=>[pI a]):=reads_int Tryz.underlying3
theorem rIs (n:Nat):Reads Tryz.prog W n 22 (okL i64) (fun l=>[.sl 1 (l.map fun x=>[pI x])]):=reads_sl Tryz.underlying22 k3 (by decide) (fun _=>rfl) n (fun m _=>rI m)
end Go.Proofs.YtjmekckcffckoabGreatDoor.rd
namespace Go.Proofs.YtjmekckcffckoabGreatDoor.w
open Go Go.VM
theorem known_tab (b:Nat) (l:List Value) (h:known.lookup b = some l):b = 1 ∧ l = Lib.pow10Tab.map fun z=>Value.int .u64 z:=by
  have e:known = [(1,Lib.pow10Tab.map fun z=>Value.int .u64 z)]:=by kernel_rfl
  rw [e] at h
  simp only [List.lookup] at h
  split at h
  · rename_i hb
    simp only [Option.some.injEq] at h
    exact ⟨by simpa using hb,h.symm⟩
  · cases h
theorem knownW_of {W : World} {rest : List (String × DataW Unit)} (h : laidMetH Tryz.prog rest W) (hf : rest.filter (fun x => x.1 == "internal/strconv.uint64pow10") = [("internal/strconv.uint64pow10", Lib.tabData .u64 Lib.pow10Tab)]) (hn : (rest.filter fun x => x.2.handleName?.isNone) = rest) : KnownW W := by
  have h1:=(laidMetH_iff.1 h).1
  rw [hn] at h1
  have h2 := h1.filter (fun x => x.1 == "internal/strconv.uint64pow10")
  rw [hf] at h2
  have hg : Tryz.prog.globalNamed "internal/strconv.uint64pow10" = some 1 := by kernel_rfl
  have tab:=Lib.tabIs_of_head (P:=Tryz.prog) (t:=226) (e:=175) (n:=20) hg (by kernel_rfl) Tryz.underlying226 Tryz.underlying175 (by kernel_rfl) (by kernel_rfl) h2
  intro b l hl
  obtain ⟨rfl,rfl⟩:=known_tab b l hl
  refine ⟨?_,fun v hv=>?_⟩
  · unfold Lib.TabIs World.var? at tab
    rw [hg] at tab
    simp only [Option.bind_some] at tab
    split at tab
    · rename_i c t fr hh
      simp only [Option.some.injEq] at tab
      exact ⟨t,fr,by rw [hh,tab]⟩
    · cases tab
  · obtain ⟨z,_,rfl⟩:=List.mem_map.1 hv
    rfl
end Go.Proofs.YtjmekckcffckoabGreatDoor.w
