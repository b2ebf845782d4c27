import Derived.Test.YtehokmhebnkfdaaGreatI0
import Derived.Test.YtehokmhebnkfdaaGreatH8b
import Derived.Test.YtehokmhebnkfdaaGreatVmI
set_option linter.all false
namespace Go.Proofs.YtehokmhebnkfdaaGreat.w
open Go Go.VM
set_option maxRecDepth 20000
set_option maxHeartbeats 0
set_option pp.deepTerms false
def c_inforce_changes:VC:=(.seq (.region [ZO 10 .mkmap,ZM 4 10] false) (.seq (.seq (.region [ZM 11 0,ZO 12 (.call 57 [(.t 11)]),ZO 13 (.len false (.t 12)),ZO 14 (.mv (.c (.int .i64 0)))] false) (.block 0 (.loop (.seq (.region [ZO 15 (.bin .lss (.t 14) (.t 13))] false) (.seq (.cond (.t 15) .skip (.exit 0)) (.seq (.block 1 (.seq (.region [ZO 16 (.iaddr 7 (.t 12) (.t 14)),ZO 17 (.load true 7 (.t 16)),ZO 6 (.alloc [(.int .i64 0),(.str []),(.int .i64 0),(.int .i64 0),(.int .i64 0),(.str []),.nilsl]),ZN (.store 7 (.t 6) (.t 17))] false) (.region [ZM 18 4,ZO 19 (.faddr 0 (.t 6)),ZO 20 (.load false 1 (.t 19)),ZO 21 (.faddr 3 (.t 6)),ZO 22 (.load true 3 (.t 21)),ZN (.mapset (.one .i) (.t 18) (.t 20) (.t 22))] false))) (.region [ZO 23 (.bin .add (.t 14) (.c (.int .i64 1))),ZM 14 23] false))))))) (.seq (.region [ZM 24 0,ZO 25 (.call 58 [(.t 24)]),ZM 7 25] false) (.seq (.region [ZM 26 7,ZO 27 (.len false (.t 26)),ZO 28 (.mv (.c (.int .i64 0)))] false) (.block 2 (.loop (.seq (.region [ZO 29 (.bin .lss (.t 28) (.t 27))] false) (.seq (.cond (.t 29) .skip (.exit 2)) (.seq (.block 3 (.seq (.region [ZO 30 (.iaddr 28 (.t 26) (.t 28)),ZO 31 (.load true 28 (.t 30)),ZO 9 (.alloc [(.int .i64 0),(.int .i64 0),(.int .i64 0),(.int .i64 0),.nilsl,.nilsl,(.int .i64 0),(.int .i64 0),(.int .i64 0),(.int .i64 0),(.int .i64 0),(.int .i64 0),(.str []),.nilsl,.nilsl,.nilsl,.nilsl,.nilsl,(.str []),(.str []),(.int .i64 0),(.int .i64 0),(.str []),(.int .i64 0),(.int .i64 0),(.int .i64 0),(.str []),.nilsl]),ZN (.store 28 (.t 9) (.t 31))] false) (.seq (.region [ZO 32 (.faddr 3 (.t 9)),ZO 33 (.faddr 0 (.t 32)),ZO 34 (.load false 1 (.t 33)),ZO 35 (.call 59 [(.t 34)])] false) (.cond (.t 35) (.region [ZM 36 1,ZO 37 (.load true 28 (.t 9)),ZM 38 4,ZO 39 (.faddr 0 (.t 9)),ZO 40 (.load false 1 (.t 39)),ZO 41 (.lookup (.one .i) (.agg [(.int .i64 0),(.int .i64 0),(.str [])]) false (.t 38) (.t 40)),ZO 42 (.load true 28 (.t 9)),ZM 43 7,ZO 44 (.call 60 [(.t 41),(.t 42),(.t 43)]),ZO 45 (.callv (.t 36) [(.t 37),(.t 44)])] true) .skip)))) (.region [ZO 46 (.bin .add (.t 28) (.c (.int .i64 1))),ZM 28 46] false))))))))))
def Back (f:FuncId) (cap:List PV) (n:Nat) (dk:Nat → EI) (days:Nat → List Sp) (S:Nat → List (Nat × AB) → Prop):Prop :=
  ∀ (k:Nat),k < n → ∀ (L:List (Nat × AB)) (t:Nat),S k L → (∀ q ∈ L,q.1 < t) → Nod L →
    Zbg Tryz.prog f (.agg (dk k).enc :: .sl 2 ((days k).map Sp.enc) :: cap) ⟨L,t⟩ (fun _ h'=>∃ L' t',t ≤ t' ∧ t' ≤ t + 10 ∧ h' = ⟨L',t'⟩ ∧ S (k + 1) L' ∧ Nod L' ∧ (∀ q ∈ L',q.1 < t') ∧ (∀ q ∈ L',(∃ r ∈ L,r.1 = q.1) ∨ t ≤ q.1) ∧ ∀ q ∈ L',q.2.live = true)
def cntC (l:List EI):Nat:=(l.filter isChg).length
theorem cntC_step {l:List EI} {k:Nat} (h:k < l.length):cntC (l.take (k + 1)) = cntC (l.take k) + (if isChg l[k] = true then 1 else 0):=by
  unfold cntC
  rw [List.take_add_one,List.getElem?_eq_getElem h,List.filter_append,List.length_append]
  simp only [Option.toList_some,List.filter_cons,List.filter_nil]
  split <;> simp_all
theorem cntC_get {l:List EI} {k:Nat} (h:k < l.length) (hc:isChg l[k] = true):cntC (l.take k) < (l.filter isChg).length ∧ (l.filter isChg).getD (cntC (l.take k)) EI0 = l[k]:=by
  have e:l.filter isChg = (l.take k).filter isChg ++ l[k] :: (l.drop (k + 1)).filter isChg:=by
    have:l = l.take k ++ l[k] :: l.drop (k + 1):=by rw [List.getElem_cons_drop,List.take_append_drop]
    conv=>lhs; rw [this]
    rw [List.filter_append,List.filter_cons,if_pos hc]
  unfold cntC
  rw [e]
  refine ⟨by simp,?_⟩
  rw [List.getD_eq_getElem?_getD,List.getElem?_append_right (Nat.le_refl _),Nat.sub_self]; rfl
theorem amend_chg (d:EI):amend d.it.kind = isChg d:=rfl
theorem ac_start3 (x:Ac):(x.enc.drop 3).take 3 = x.start.enc:=rfl
theorem ac_l3 (x:Ac):(x.enc.drop 3).length = 4:=rfl
theorem sp_changes (l : List Gz) (hs : Smal l) (hd5 : (dds l).length ≤ 5000) (f : FuncId) (cap : List PV) (S : Nat → List (Nat × AB) → Prop)
    (hB:Back f cap (chgS l).length (fun k=>(chgS l).getD k EI0) (fun k=>Zcj l ((chgS l).getD k EI0)) S)
    (L0:List (Nat × AB)) (t0:Nat) (hS:S 0 L0) (hlt:∀ q ∈ L0,q.1 < t0) (hnod:Nod L0) (hlive:∀ q ∈ L0,q.2.live = true) :
    Zbg Tryz.prog 34 [.sl 4 (l.map Gz.enc),.fn (.func f) [] cap] ⟨L0,t0⟩
      (fun _ h'=>∃ L' t',t0 ≤ t' ∧ h' = ⟨L',t'⟩ ∧ S (chgS l).length L' ∧ Nod L' ∧ (∀ q ∈ L',q.1 < t') ∧ ∀ q ∈ L',q.2.live = true):=by
  refine Zbg.drop ?_
  refine Zaq (vc:=c_inforce_changes) (ts:=[]) Go.Proofs.Tryz.func34 (by kernel_rfl) rfl rfl (Nat.le_of_ble_eq_true rfl) (by kernel_rfl) ?_
  unfold c_inforce_changes
  try dsimp only [ZM,ZO,ZN,ZG]
  have o0:Off L0 t0:=Off.lt hlt (Nat.le_refl _)
  have g0':=o0.get
  have d0':=o0.del
  refine Zac (Zaa [0,1,4] ?_)
  simp only [Zab,Zad,Zaf,pok,pval,VA.ev,Env.get,Env.put,Env.keep,Za2,Zae,Heap.le,Heap.push,Nat.succ_ne_self,AB.live,Nat.reduceEqDiff,ite_true,ite_false,true_and,reduceCtorEq,Nat.zero_add]
  refine Zac ?_
  refine Zac (Zaa [0,1,4,12,13,14] ?_)
  simp only [Zab,Zad,Zaf,pok,pval,VA.ev,Env.get,Env.put,Env.keep,Zae,lenV,Za8,Nat.succ_ne_self,List.map,Nat.reduceEqDiff,Bool.false_eq_true,ite_true,ite_false,true_and,reduceCtorEq]
  refine Zat (sp_corpus_Acts l hs.len hs.row) ?_
  try simp only [true_and,List.length_map]
  refine Zaj ?_
  refine Za4 (σ:={ s:Nat × Nat // s.1 ≤ (Zbr (rowG l)).length ∧ t0 < s.2 })
    (fun s=>([(0,.sl 4 (l.map Gz.enc)),(1,.fn (.func f) [] cap),(4,.mp t0),(12,.sl 7 ((Zbr (rowG l)).map Ac.enc)),(13,pI (Zbr (rowG l)).length),(14,pI s.1.1)],⟨(t0,.map (startM ((Zbr (rowG l)).take s.1.1))) :: L0,s.1.2⟩)) (fun s=>(Zbr (rowG l)).length - s.1.1) ⟨(0,t0 + 1),Nat.zero_le _,by simp⟩ ?_ ?_ ?_
  · simp only [Env.get,Nat.succ_ne_self,Env.le,Nat.reduceEqDiff,ite_true,ite_false,true_and,and_true,reduceCtorEq]
    rfl
  · simp only [Heap.get,Heap.le,HL.get,HL.le,Nat.le_refl,List.take,ite_true,true_and,Option.some.injEq,List.take_zero]
    exact ⟨rfl,HL.le_tail1 hnod o0 _⟩
  rintro ⟨⟨k,t⟩,hk,htt⟩
  simp only [] at hk htt ⊢
  refine Zac (Zaa [0,1,4,12,13,14,15] ?_)
  simp only [Zab,Zad,Zaf,pok,pval,VA.ev,Env.get,Env.put,Env.keep,Zae,intV,binV,Zah,Heap.get,Heap.le,HL.le,Nat.succ_ne_self,Env.le,Nat.reduceEqDiff,ite_true,ite_false,true_and,and_true,reduceCtorEq]
  refine Zac ?_
  refine Zai rfl (fun h1=>?_) (fun h1=>?_)
  · refine Zak ?_
    try simp only [Zae]
    have ka:k < (Zbr (rowG l)).length:=by simp only [decide_eq_true_eq] at h1; omega
    have hsm:(Zbr (rowG l)).length ≤ 1000000:=by
      have h1:=(actsS_perm (rowG l)).length_eq
      have h2:=fst_le (rowG l) []
      have h3:=hs.row
      omega
    have o1:Off L0 t:=Off.lt hlt (by omega)
    have g1:=o1.get
    have d1:=o1.del
    have hput:=startM_put (Zbr (rowG l))[k] ((Zbr (rowG l)).take k) (acts_apart ka)
    have htk:(Zbr (rowG l)).take k ++ [(Zbr (rowG l))[k]] = (Zbr (rowG l)).take (k + 1):=by rw [List.take_add_one,List.getElem?_eq_getElem ka]; rfl
    rw [htk] at hput
    have hkeys:=startM_keys (Zbr (rowG l))[k].number ((Zbr (rowG l)).take k)
    have qi0:(t0 = t) = False:=eq_false (by omega)
    have qi1:(t0 = (t + 1)) = False:=eq_false (by omega)
    have qi2:(t = t0) = False:=eq_false (by omega)
    have qi3:(t = (t + 1)) = False:=eq_false (by omega)
    have qi4:((t + 1) = t0) = False:=eq_false (by omega)
    have qi5:((t + 1) = t) = False:=eq_false (by omega)
    refine Zac ?_
    refine Zaj ?_
    refine Zac (Zaa [0,1,4,6,12,13,14] ?_)
    simp only [Zab,Zad,Zaf,pok,pval,VA.ev,Env.get,Env.put,Env.keep,Zae,aggV,isInt,numOf,lenV,Zag,Zap,Zax,Zas,PV.cells,PV.fits,overlay,PV.nth,PV.row,Heap.get,Heap.set,HL.get,HL.set,HL.del,Heap.push,Nat.le_refl,Nat.succ_ne_self,Zbh,Za9,List.set,List.length,List.getD_cons_zero,List.take,List.drop,List.drop_succ_cons,List.nil_append,Nat.reduceEqDiff,Nat.reduceAdd,Nat.reduceLT,Bool.true_eq_false,ite_true,ite_false,true_and,and_true,reduceCtorEq,BEq.rfl,Nat.zero_add,imp_self,Int.toNat_natCast,List.length_map,rowm ka,Zcs,Zb2,ac_drop,List.append_nil,qi0,qi1,qi2,qi3,qi4,qi5,g1,d1,g0',d0']
    repeat (with_reducible refine And.intro ?_ ?_; first | omega | (with_reducible constructor <;> omega) | exact False.elim | exact True.intro)
    refine Zaa [0,1,4,12,13,14] ?_
    simp only [Zab,Zad,Zaf,pok,pval,VA.ev,Env.get,Env.put,Env.keep,Zae,Zal,aggV,Zao,Zan,Zag,Zap,PV.nth,PV.row,Zca,mapHas,mapsetV,Heap.get,Heap.set,HL.get,HL.set,HL.del,Nat.succ_ne_self,List.length,List.getD_cons_zero,List.drop,Nat.reduceEqDiff,Nat.reduceLT,Nat.reduceLeDiff,Bool.false_eq_true,Bool.true_eq_false,ite_true,ite_false,true_and,and_true,implies_true,reduceCtorEq,Nat.zero_add,Nat.add_zero,imp_self,Zcs,Zb2,ac_num,ac_start3,ac_l3,hput,hkeys,qi0,qi1,qi2,qi3,qi4,qi5,g1,d1,g0',d0']
    refine Zaa [0,1,4,12,13,14] ?_
    simp only [Zab,Zad,Zaf,pok,pval,VA.ev,Env.get,Env.put,Env.keep,Zae,intV,binV,Zah,HL.get,Nat.succ_ne_self,Nat.reduceEqDiff,ite_true,ite_false,true_and,reduceCtorEq,ad1 (a:=k) (by omega)]
    refine ⟨⟨(k + 1,t + 1),ka,by simp only []; omega⟩,?_⟩
    simp only [Nat.le_refl,ite_false,true_and,qi0,qi1,qi2,qi3,qi4,qi5,g1,d1,g0',d0']
    exact ⟨HL.le_tail2 hnod o1 o0 _,by omega⟩
  · simp only [decide_eq_false_iff_not] at h1
    obtain rfl:k = (Zbr (rowG l)).length:=by omega
    rw [List.take_length]
    have hn5:(dds l).length ≤ 5000:=hd5
    refine Zaz ?_
    try simp only [Zae,Zal,retQ,ite_true]
    refine Zac (Zaa [1,4,7] ?_)
    simp only [Zab,Zad,Zaf,pok,pval,VA.ev,Env.get,Env.put,Env.keep,Zae,Nat.succ_ne_self,List.map,Nat.reduceEqDiff,ite_true,ite_false,true_and,reduceCtorEq]
    refine Zat (sp_corpus_EnactedItems l hs.len hs.row hs.items) ?_
    skip
    refine Zac (Zaa [1,4,7,26,27,28] ?_)
    simp only [Zab,Zad,Zaf,pok,pval,VA.ev,Env.get,Env.put,Env.keep,Zae,lenV,Za8,Nat.succ_ne_self,Nat.reduceEqDiff,ite_true,ite_false,true_and,List.length_map]
    refine Zaj ?_
    refine Za4 (σ:={ s:Nat × List (Nat × AB) × Nat // s.1 ≤ (dds l).length ∧ S (cntC ((dds l).take s.1)) s.2.1 ∧ Nod s.2.1 ∧ (∀ q ∈ s.2.1,q.1 < s.2.2) ∧ Off s.2.1 t0 ∧ t0 < s.2.2 ∧ ∀ q ∈ s.2.1,q.2.live = true })
      (fun s=>([(1,.fn (.func f) [] cap),(4,.mp t0),(7,.sl 28 ((dds l).map EI.enc)),(26,.sl 28 ((dds l).map EI.enc)),(27,pI (dds l).length),(28,pI s.1.1)],⟨(t0,.map (startM (Zbr (rowG l)))) :: s.1.2.1,s.1.2.2⟩)) (fun s=>(dds l).length - s.1.1) ⟨(0,L0,t),Nat.zero_le _,hS,hnod,(fun q hq=>by have:=hlt q hq; simp only []; omega),o0,htt,hlive⟩ ?_ ?_ ?_
    · simp only [Env.get,Nat.succ_ne_self,Env.le,Nat.reduceEqDiff,ite_true,ite_false,true_and,and_true]
      rfl
    · simp only [Heap.get,Heap.le,HL.get,HL.le,Nat.le_refl,ite_true,true_and]
      exact HL.le_tail1 hnod o0 _
    clear hS hnod hlt o0 g0' d0' hlive htt
    rintro ⟨⟨i,L,t⟩,hi,hS,hnod,hlt,o0,htt,hlive⟩
    simp only [] at hi hS hnod hlt o0 htt hlive ⊢
    have g0':=o0.get
    have d0':=o0.del
    refine Zac (Zaa [1,4,7,26,27,28,29] ?_)
    simp only [Zab,Zad,Zaf,pok,pval,VA.ev,Env.get,Env.put,Env.keep,Zae,intV,binV,Zah,Heap.get,Heap.le,HL.le,Nat.succ_ne_self,Env.le,AB.live,Nat.reduceEqDiff,ite_true,ite_false,true_and,and_true]
    refine Zac ?_
    refine Zai rfl (fun h2=>?_) (fun h2=>?_)
    · refine Zak ?_
      try simp only [Zae]
      have ia:i < (dds l).length:=by simp only [decide_eq_true_eq] at h2; omega
      have hstep:=cntC_step ia
      have hcg:=fun hc=>cntC_get ia hc
      have o1:Off L t:=Off.lt hlt (Nat.le_refl _)
      have g1:=o1.get
      have d1:=o1.del
      have hrow:((dds l).map EI.enc).getD i [] = (dds l)[i].enc:=rowm ia
      generalize hdi:(dds l)[i] = d at hstep hcg hrow
      have hlook:=startM_look d.act (Zbr (rowG l))
      have hkeys:=startM_keys d.act (Zbr (rowG l))
      have qi0:(t0 = t) = False:=eq_false (by omega)
      have qi1:(t0 = (t + 1)) = False:=eq_false (by omega)
      have qi2:(t = t0) = False:=eq_false (by omega)
      have qi3:(t = (t + 1)) = False:=eq_false (by omega)
      have qi4:((t + 1) = t0) = False:=eq_false (by omega)
      have qi5:((t + 1) = t) = False:=eq_false (by omega)
      refine Zac ?_
      refine Zaj ?_
      refine Zac (Zaa [1,4,7,9,26,27,28] ?_)
      simp only [Zab,Zad,Zaf,pok,pval,VA.ev,Env.get,Env.put,Env.keep,Zae,aggV,isInt,numOf,lenV,Zag,Zap,Zax,Zas,PV.cells,PV.fits,overlay,PV.nth,PV.row,Heap.get,Heap.set,HL.get,HL.set,HL.del,Heap.push,Nat.le_refl,Nat.succ_ne_self,Zbh,Za9,List.set,List.length,List.getD_cons_zero,List.take,List.drop,List.drop_succ_cons,List.nil_append,Nat.reduceEqDiff,Nat.reduceAdd,Nat.reduceLT,Bool.true_eq_false,ite_true,ite_false,true_and,and_true,BEq.rfl,Nat.zero_add,imp_self,Int.toNat_natCast,List.length_map,hrow,ei_t28,Zb6,ei_d28,List.append_nil,qi0,qi1,qi2,qi3,qi4,qi5,g1,d1,g0',d0']
      repeat (with_reducible refine And.intro ?_ ?_; first | omega | (with_reducible constructor <;> omega) | exact False.elim | exact True.intro)
      refine Zac (Zaa [1,4,7,9,26,27,28,35] ?_)
      simp only [Zab,Zad,Zaf,pok,pval,VA.ev,Env.get,Env.put,Env.keep,Zae,aggV,Zao,Zan,Zag,Zap,PV.nth,PV.row,Heap.get,HL.get,Nat.succ_ne_self,List.map,List.length,List.getD_cons_zero,Nat.reduceEqDiff,Nat.reduceLT,Nat.reduceLeDiff,Bool.false_eq_true,ite_true,ite_false,true_and,and_true,implies_true,Nat.zero_add,Nat.add_zero,ei_it,Zb6,Zbt,it_kind,qi0,qi1,qi2,qi3,qi4,qi5,g1,d1,g0',d0']
      refine Zat (Zdd d.it.kind) ?_
      try simp only [amend_chg]
      refine Zai rfl (fun h3=>?_) (fun h3=>?_)
      · refine VW_drawC 9 ⟨[(t,.arr false 28 [d.enc]),(t0,.map (startM (Zbr (rowG l))))],t + 11⟩ [1,4,7,26,27,28] rfl (by simp [Heap.le,HL.le,Heap.get,HL.get]; omega) ?_
        simp only [Zaf,QW,dok,dval,VOp.pure,VOp.simple,VOp.det,pok,pval,VA.ev,Env.get,Env.put,Env.keep,Zae,Zal,gd,aggV,Zao,Zan,Zag,Zap,PV.nth,PV.row,Zca,mapOk,Heap.get,Heap.le,HL.get,HL.le,Nat.le_refl,Nat.succ_ne_self,List.map,List.length,List.getD_cons_zero,List.drop,List.cons_append,List.nil_append,Nat.reduceEqDiff,Nat.reduceAdd,Nat.reduceLT,Nat.reduceLeDiff,Bool.false_eq_true,Bool.true_eq_false,ite_true,ite_false,true_and,and_true,implies_true,forall_const,Nat.zero_add,Nat.add_zero,imp_self,DrawC_nil,DrawC_at,DrawC_n,Nat.reduceBEq,ei_t28,Zb6,ei_act,hlook,hkeys,qi0,qi1,qi2,qi3,qi4,qi5,g1,d1,g0',d0']
        refine ⟨_,.inl (c.sp_commencement_InForce (startA (Zbr (rowG l)) d.act) d (dds l) hd5),?_⟩
        obtain ⟨hc1,hc2⟩:=hcg h3
        have hb:=hB (cntC ((dds l).take i)) hc1 L (t + 1) hS (fun q hq=>by have:=hlt q hq; omega) hnod
        have hc2':(chgS l).getD (cntC ((dds l).take i)) EI0 = d:=hc2
        simp only [hc2'] at hb
        rw [h3,if_pos rfl] at hstep
        have hnp:Nod [(t,AB.arr false 28 [d.enc]),(t0,AB.map (startM (Zbr (rowG l))))]:=by simp [Nod]; omega
        refine Zbg.weakenL (h0:=⟨L ++ [(t,.arr false 28 [d.enc]),(t0,.map (startM (Zbr (rowG l))))],t + 1⟩) (HL.le_swap (P:=[(t,.arr false 28 [d.enc]),(t0,.map (startM (Zbr (rowG l))))]) hnod hnp (by simpa using ⟨o1,o0⟩) _) ?_
        refine Zbg.frameL ?_ (by simp) (Zbg.mono hb ?_)
        · simp only [List.mem_cons,List.not_mem_nil,or_false,forall_eq_or_imp,forall_eq]
          exact ⟨fun q hq e=>o1 q hq e.symm,fun q hq e=>o0 q hq e.symm⟩
        rintro p h' ⟨L',t',ht1,ht2,rfl,hS',hnod',hlt',hold,hlive'⟩
        have o1':Off L' t:=fun q hq e=>by
          rcases hold q hq with ⟨r,hr,er⟩ | h
          · exact o1 r hr (er.trans e)
          · omega
        have o0':Off L' t0:=fun q hq e=>by
          rcases hold q hq with ⟨r,hr,er⟩ | h
          · exact o0 r hr (er.trans e)
          · omega
        refine ⟨ht1,?_,hlive',?_⟩
        · simp only [List.mem_cons,List.not_mem_nil,or_false,forall_eq_or_imp,forall_eq]
          exact ⟨fun q hq e=>o1' q hq e.symm,fun q hq e=>o0' q hq e.symm⟩
        have G1:=HL.get_off (P:=[(t,AB.arr false 28 [d.enc]),(t0,AB.map (startM (Zbr (rowG l))))]) o1'
        have G0:=HL.get_off (P:=[(t,AB.arr false 28 [d.enc]),(t0,AB.map (startM (Zbr (rowG l))))]) o0'
        simp only [HL.get,ite_true,ite_false,and_true,G1,G0,qi0,qi1,qi2,qi3,qi4,qi5]
        refine ⟨by omega,?_⟩
        refine Zaa [1,4,7,26,27,28] ?_
        simp only [Zab,Zad,Zaf,pok,pval,VA.ev,Env.get,Env.put,Env.keep,Zae,intV,binV,Zah,Nat.succ_ne_self,Nat.reduceEqDiff,ite_true,ite_false,true_and,ad1 (a:=i) (by omega)]
        refine ⟨⟨(i + 1,L',t'),ia,by rw [hstep]; exact hS',hnod',hlt',o0',by simp only []; omega,hlive'⟩,?_⟩
        simp only [HL.get,Nat.le_refl,ite_true,ite_false,true_and,G0,qi0,qi1,qi2,qi3,qi4,qi5]
        exact ⟨HL.le_app hnod' _,by omega⟩
      · refine Zak ?_
        try simp only [Zae,Zal]
        rw [h3] at hstep
        refine Zaa [1,4,7,26,27,28] ?_
        simp only [Zab,Zad,Zaf,pok,pval,VA.ev,Env.get,Env.put,Env.keep,Zae,intV,binV,Zah,HL.get,Nat.succ_ne_self,Nat.reduceEqDiff,ite_true,ite_false,true_and,ad1 (a:=i) (by omega)]
        refine ⟨⟨(i + 1,L,t + 1),ia,by rw [hstep]; simpa using hS,hnod,(fun q hq=>by have:=hlt q hq; simp only []; omega),o0,by simp only []; omega,hlive⟩,?_⟩
        simp only [Nat.le_refl,ite_false,true_and,g1,d1,g0',d0',qi0,qi1,qi2,qi3,qi4,qi5]
        exact ⟨HL.le_tail2 hnod o1 o0 _,by omega⟩
    · simp only [decide_eq_false_iff_not] at h2
      obtain rfl:i = (dds l).length:=by omega
      rw [List.take_length] at hS
      refine Zaz ?_
      try simp only [Zae,Zal,retQ,Zau,ite_true,true_and]
      refine ⟨⟨L,t⟩,⟨Nat.le_refl _,HL.le_tail1 hnod o0 _⟩,L,t,by omega,rfl,hS,hnod,hlt,hlive⟩
end Go.Proofs.YtehokmhebnkfdaaGreat.w
