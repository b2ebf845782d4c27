import Derived.Test.YtihfbefagcdpmaaDoorVmU
import Derived.Test.YtihfbefagcdpmaaDoorVmG
import Derived.Test.YtihfbefagcdpmaaDoorP0
import Derived.Test.YtihfbefagcdpmaaDoorK2
import Derived.Test.YtihfbefagcdpmaaDoorSh
import Derived.Test.YtihfbefagcdpmaaDoorShS
import Derived.Test.YtihfbefagcdpmaaDoorP1
set_option linter.all false
namespace Go.Proofs.YtihfbefagcdpmaaDoor.w
open Go Go.VM Go.Shelf Go.RowKit Go.Lib Go.Sort
set_option maxRecDepth 20000
set_option maxHeartbeats 0
abbrev encSm (x:SmS):Value:=Value.string ⟨x.1.toArray⟩
abbrev encSmP (x:SmS):List PV:=[.str x.1]
theorem repSm (g:Gh) (x:SmS):Rep g (encSm x) (.str x.1):=.str _ _ (by simp)
theorem plain_Sm:Plain SmS 1 (fun x=>[encSm x]) encSmP:=⟨fun _=>rfl,fun _=>rfl,fun x v hv=>by simp at hv; subst hv; rfl,
  fun g x j hj=>by
    match j,hj with
    | 0,_=>exact repSm g x,
  fun g v x j hj h=>by
    match j,hj,h with
    | 0,_,h =>
      cases h
      rename_i s hs
      show Value.string s = Value.string ⟨x.1.toArray⟩
      congr 1
      obtain ⟨d⟩:=s
      congr 1
      show d = x.1.toArray
      rw [← hs]⟩
theorem argsS {g:Gh} {vals:Array Value} {p:PV} {f:Nat} (h:Args g vals [p,.fn (.func f) [] []]):∃ v,vals = #[v,.func (.func f) #[] #[]] ∧ Rep g v p:=by
  obtain ⟨h1,h2⟩:=h
  have a0:=h2 0 (by simp)
  have a1:=h2 1 (by simp)
  obtain ⟨l⟩:=vals
  match l,h1,a0,a1 with
  | [v,u],_,a0,a1 =>
    refine ⟨v,?_,a0⟩
    generalize hu:(⟨[v,u]⟩:Array Value).getD 1 Go.undef = y at a1
    have hy:u = y:=hu
    subst hy
    cases a1 with
    | fn f fs cs pf pc h1 h2 hf hc =>
      have e1:fs = #[]:=Array.eq_empty_of_size_eq_zero h1
      have e2:cs = #[]:=Array.eq_empty_of_size_eq_zero h2
      rw [e1,e2]
theorem sorts_Sm (id n : Nat) (zs : List SmS) (hlen : zs.length ≤ 1000000) : ACall Tryd.prog 43 [.own id 0 zs.length, .fn (.func 15) [] []] ⟨[(id, .arr false 1 (zs.map encSmP))], n⟩
    (fun p h'=>p = .tup [] ∧ h' = ⟨[(id,.arr false 1 ((sortL (zs.map (·.1))).map fun s=>[.str s]))],n⟩):=by
  have heq:=sortS_eq zs
  refine ⟨by kernel_rfl,fun g w vals r ha=>?_⟩
  obtain ⟨v,rfl,hv⟩:=argsS ha
  have hg:(⟨[(id,.arr false 1 (zs.map encSmP))],n⟩:Heap).get id = some (.arr false 1 (zs.map encSmP)):=by simp [Heap.get,HL.get]
  rcases holds_own plain_Sm (by decide) r hv hg (by simp) zs.toArray (by simp [List.take_of_length_le]) with ⟨h0,ao,cap,rfl⟩ | ⟨cap,b,o,nn,c,tt,rfl,hsz,hβ,hlt,hc,hfit,hH⟩
  · have hcon:=AnyF.slices_SortFunc_none Tryd.sortStr ao cap (.func (.func 15) #[] #[]) w
    change Calls Tryd.prog 43 _ _ _ at hcon
    have hz:zs = []:=List.eq_nil_of_length_eq_zero h0
    subst hz
    refine hcon.mono ?_
    rintro e w' ⟨rfl,rfl⟩
    exact ⟨.tuple #[],.tup [],g,_,rfl,⟨rfl,by simp [sortL]⟩,.tup _ _ rfl (fun j hj=>by cases hj),r,Evo.refl _ _ _⟩
  · have eg:∀ args w,(callFunc 15 args).run Tryd.prog w = .ok (.enter 15 args) w:=enters_of Tryd.func15 (by kernel_rfl) rfl
    have hfree:g.free b:=by
      rcases r.blk id _ hg with ⟨hn,_⟩ | ⟨b',o',n',z',hb',_,hfree,_⟩
      · rw [hn] at hβ; cases hβ
      · rw [hb'] at hβ
        cases hβ
        exact hfree rfl
    have hcmp:=cmpLays1_of (f:=15) (enc:=encSm) (encP:=fun x=>.str x.1) repSm (cf:=cfS) (fun x y=>sp_label_Compare x.1 y.1 x.2 y.2) r b (o + 0 * 1) zs.toArray.size (W:=w) (fun _ _ _=>rfl) (Nat.le_refl _) (.inr hfree)
    have hcon:=Any.slices_SortFunc_total Tryd.sortStr1 encSm (fun _=>rfl) cfS swoS 15 #[] b (o + 0 * 1) cap zs.toArray w eg hcmp (holds_cell1 hH) hlt (by simp; omega) sepS
    change Calls Tryd.prog 43 _ _ _ at hcon
    rw [hsz] at hcon
    refine hcon.mono ?_
    rintro e w' ⟨rfl,m,os,rfl⟩
    rw [sortWorld_one]
    have sb:=sorted_back plain_Sm r hg (by simp) hβ hc hfit (zs.toArray.toList.mergeSort fun x y=>!(Go.Proofs.ltOf cfS) y x).toArray (by simp) m os
    have he:(⟨[(id,.arr false 1 (zs.map encSmP))],n⟩:Heap).set id (.arr false 1 ((zs.map encSmP).take 0 ++ (zs.toArray.toList.mergeSort fun x y=>!(Go.Proofs.ltOf cfS) y x).toArray.toList.map encSmP ++ (zs.map encSmP).drop (0 + zs.length))) = ⟨[(id,.arr false 1 ((sortL (zs.map (·.1))).map fun s=>[.str s]))],n⟩:=by
      have hm:∀ L:List SmS,L.map encSmP = (L.map (·.1)).map fun s=>[PV.str s]:=fun L=>by rw [List.map_map]; rfl
      rw [← heq,← hm]
      have hd:(zs.map encSmP).drop (0 + zs.length) = []:=List.drop_eq_nil_of_le (by simp)
      rw [hd,List.take_zero,List.append_nil,List.nil_append]
      simp [Heap.set,HL.set,HL.del]
    rw [he] at sb
    exact ⟨.tuple #[],.tup [],g,_,rfl,⟨rfl,rfl⟩,.tup _ _ rfl (fun j hj=>by cases hj),sb.1,sb.2⟩
end Go.Proofs.YtihfbefagcdpmaaDoor.w
namespace Go.Proofs.YtihfbefagcdpmaaDoor.w
open Go Go.VM
set_option maxRecDepth 20000
set_option maxHeartbeats 0
set_option pp.deepTerms false
def c_label_Next:VC:=(.seq (.region [ZO 2 (.mv (.c (.str []))),ZO 3 (.mv (.c (.bool false)))] false) (.seq (.seq (.region [ZM 8 0,ZO 9 (.call 13 [(.t 8)]),ZO 10 (.un .not (.t 9))] false) (.cond (.t 10) (.seq (.region [ZO 2 (.mv (.c (.str []))),ZO 3 (.mv (.c (.bool false)))] false) .ret) .skip)) (.seq (.region [ZM 12 0,ZO 13 (.call 11 [(.t 12)]),ZM 11 13,ZO 14 (.ext (.t 11) 0),ZO 15 (.ext (.t 11) 1),ZM 4 14,ZM 5 15] false) (.seq (.seq (.region [ZM 17 5,ZO 18 (.call 36 [(.t 17)]),ZM 16 18,ZO 19 (.ext (.t 16) 0),ZO 20 (.ext (.t 16) 1),ZM 6 19,ZM 7 20] false) (.seq (.region [ZM 21 7] false) (.cond (.t 21) (.seq (.region [ZM 22 4,ZM 23 6,ZO 24 (.call 37 [(.t 22),(.t 23)]),ZO 25 (.ext (.t 24) 0),ZO 26 (.ext (.t 24) 1),ZM 2 25,ZM 3 26] false) .ret) .skip))) (.seq (.region [ZM 27 4,ZO 28 (.bin .add (.t 27) (.c (.int .i64 1))),ZO 29 (.call 37 [(.t 28),(.c (.str []))]),ZO 30 (.ext (.t 29) 0),ZO 31 (.ext (.t 29) 1),ZM 2 30,ZM 3 31] false) .ret)))))
def c_label_behind:VC:=(.seq (.region [ZO 4 (.mv (.c (.str []))),ZO 5 (.mv (.c (.bool false)))] false) (.seq (.region [ZM 11 0,ZO 12 (.call 11 [(.t 11)]),ZM 10 12,ZO 13 (.ext (.t 10) 0),ZO 14 (.ext (.t 10) 1),ZM 6 13,ZM 7 14] false) (.seq (.seq (.region [ZM 15 7,ZO 16 (.len true (.t 15)),ZM 17 1,ZO 18 (.bin .lss (.t 16) (.t 17))] false) (.cond (.t 18) (.seq (.region [ZM 19 6,ZM 20 7,ZM 21 1,ZM 22 7,ZO 23 (.len true (.t 22)),ZO 24 (.bin .sub (.t 21) (.t 23)),ZO 25 (.call 51 [(.c (.str [65])),(.t 24)]),ZO 26 (.bin .add (.t 20) (.t 25)),ZO 27 (.call 37 [(.t 19),(.t 26)]),ZO 28 (.ext (.t 27) 0),ZO 29 (.ext (.t 27) 1),ZM 4 28,ZM 5 29] false) .ret) .skip)) (.seq (.seq (.region [ZM 31 7,ZM 32 1,ZO 33 (.slice true 0 (.t 31) none (some (.t 32))),ZO 34 (.call 36 [(.t 33)]),ZM 30 34,ZO 35 (.ext (.t 30) 0),ZO 36 (.ext (.t 30) 1),ZM 8 35,ZM 9 36] false) (.seq (.region [ZM 37 9] false) (.cond (.t 37) (.seq (.region [ZM 38 6,ZM 39 8,ZM 40 1,ZM 41 8,ZO 42 (.len true (.t 41)),ZO 43 (.bin .sub (.t 40) (.t 42)),ZO 44 (.call 51 [(.c (.str [65])),(.t 43)]),ZO 45 (.bin .add (.t 39) (.t 44)),ZO 46 (.call 37 [(.t 38),(.t 45)]),ZO 47 (.ext (.t 46) 0),ZO 48 (.ext (.t 46) 1),ZM 4 47,ZM 5 48] false) .ret) .skip))) (.seq (.region [ZM 49 6,ZO 50 (.bin .add (.t 49) (.c (.int .i64 1))),ZM 51 1,ZO 52 (.call 51 [(.c (.str [65])),(.t 51)]),ZO 53 (.call 37 [(.t 50),(.t 52)]),ZO 54 (.ext (.t 53) 0),ZO 55 (.ext (.t 53) 1),ZM 4 54,ZM 5 55] false) .ret)))))
def c_label_Between:VC:=(.seq (.region [ZO 4 (.mv (.c (.str []))),ZO 5 (.mv (.c (.bool false)))] false) (.seq (.seq (.region [ZM 9 0,ZO 10 (.call 13 [(.t 9)]),ZO 11 (.un .not (.t 10)),ZM 12 11,ZG 13 (.mv (.t 1)) 12 false,ZG 14 (.call 13 [(.t 13)]) 12 false,ZG 15 (.un .not (.t 14)) 12 false,ZO 16 (.pick (.t 12) (.c (.bool true)) (.t 15))] false) (.cond (.t 16) (.seq (.region [ZO 4 (.mv (.c (.str []))),ZO 5 (.mv (.c (.bool false)))] false) .ret) .skip)) (.seq (.seq (.region [ZO 17 (.mv (.c (.int .i64 0)))] false) (.block 0 (.loop (.seq (.region [ZO 18 (.bin .lss (.t 17) (.c (.int .i64 4)))] false) (.seq (.cond (.t 18) .skip (.exit 0)) (.seq (.block 1 (.seq (.region [ZM 19 17,ZM 6 19] false) (.seq (.region [ZM 21 0,ZM 22 6,ZO 23 (.call 39 [(.t 21),(.t 22)]),ZM 20 23,ZO 24 (.ext (.t 20) 0),ZO 25 (.ext (.t 20) 1),ZM 7 24,ZM 8 25] false) (.seq (.region [ZM 26 8,ZM 27 26,ZG 28 (.mv (.t 7)) 27 true,ZG 29 (.mv (.t 1)) 27 true,ZG 30 (.call 15 [(.t 28),(.t 29)]) 27 true,ZG 31 (.bin .lss (.t 30) (.c (.int .i64 0))) 27 true,ZO 32 (.pick (.t 27) (.t 31) (.c (.bool false)))] false) (.cond (.t 32) (.seq (.region [ZM 33 7,ZM 4 33,ZO 5 (.mv (.c (.bool true)))] false) .ret) .skip))))) (.region [ZO 34 (.bin .add (.t 17) (.c (.int .i64 1))),ZM 17 34] false))))))) (.seq (.region [ZO 4 (.mv (.c (.str []))),ZO 5 (.mv (.c (.bool false)))] false) .ret))))
theorem up_len {c t:Str} (h:up c = some t):t.length ≤ c.length:=by
  obtain ⟨k,hk,_,_,e⟩:=up_some h
  rw [e]; simp; omega
theorem sp_label_Next (s:Str) (hl:s.length ≤ 1000000):Za8 Tryd.prog 17 [.str s] (optT (nextS s)):=by
  have A:=Zbd s hl
  have B:=sp_label_Split s hl
  refine Zaj ?_ (closed_opt _) (by simp only [Zat,List.mem_cons,List.not_mem_nil,or_false,forall_eq_or_imp,forall_eq,false_implies,implies_true]; repeat' (first  | exact cS _ | refine And.intro ?_ ?_))
  refine Zar (vc:=c_label_Next) (ts:=[.t 2,.t 3]) Go.Proofs.Tryd.func17 (by kernel_rfl) rfl rfl (Nat.le_of_ble_eq_true rfl) (by kernel_rfl) ?_
  unfold c_label_Next
  try dsimp only [ZM,ZO,ZN,ZG]
  refine Zac (Zaa [0] ?_)
  simp only [Zab,Zad,Zaf,pok,pval,VA.ev,Env.get,Env.put,Env.keep,Za1,Zae,Heap.nil,ite_true,ite_false,true_and,reduceCtorEq]
  refine Zac ?_
  refine Zac (Zaa [0,10] ?_)
  simp only [Zab,Zad,Zaf,pok,pval,VA.ev,Env.get,Env.put,Env.keep,Zae,unV,unOk,List.map,Nat.reduceEqDiff,ite_true,ite_false,true_and,reduceCtorEq]
  refine Zah A ?_
  try simp only [true_and]
  refine Zai rfl (fun h1=>?_) (fun h1=>?_)
  · refine Zac (Zaa [2,3] ?_)
    simp only [Zab,Zad,Zaf,pok,pval,VA.ev,Env.get,Env.put,Env.keep,Zae,Nat.succ_ne_self,Nat.reduceEqDiff,ite_true,ite_false,true_and,reduceCtorEq]
    refine Zal ?_
    try simp only [Env.get,Zae,retQ,resV,Zas,RS.ev,RS.ok,Nat.succ_ne_self,List.map,Nat.reduceEqDiff,ite_true,ite_false,true_and,and_true]
    have e:may s = false:=by cases h:may s; rfl; rw [h] at h1; cases h1
    have:nextS s = none:=by unfold nextS; simp [e]
    rw [this]; exact View.refl _ _
  have hm:may s = true:=by cases h:may s; rw [h] at h1; cases h1; rfl
  have hn:=num_le hm
  have hcl:=caps_len hm
  have ena:splitN s = (num s:Int):=by simp [splitN,hm]
  have eca:splitC s = caps s:=by simp [splitC,hm]
  rw [ena,eca] at B
  refine Zak ?_
  try simp only [Zae]
  refine Zac (Zaa [4,5] ?_)
  simp only [Zab,Zad,Zaf,pok,pval,VA.ev,Env.get,Env.put,Env.keep,Zae,extV,extOk,PV.nth,Nat.succ_ne_self,List.map,Nat.reduceEqDiff,ite_true,ite_false,true_and,reduceCtorEq]
  refine Zah B ?_
  try simp only [List.length,List.getD_cons_zero,List.getD_cons_succ,Nat.reduceAdd,Nat.reduceLT,true_and,Nat.zero_add]
  refine Zac ?_
  have U:=sp_label_up (caps s) (by omega)
  refine Zac (Zaa [4,6,7] ?_)
  simp only [Zab,Zad,Zaf,pok,pval,VA.ev,Env.get,Env.put,Env.keep,Zae,extV,extOk,PV.nth,Nat.succ_ne_self,List.map,Nat.reduceEqDiff,ite_true,ite_false,true_and]
  refine Zah U ?_
  try simp only [List.length,List.getD_cons_zero,List.getD_cons_succ,Nat.reduceAdd,Nat.reduceLT,true_and,Nat.zero_add,optT]
  cases hu:up (caps s) with
  | some t =>
    have htl:=up_len hu
    have e:nextS s = made (num s) t:=by unfold nextS; rw [if_pos hm,hu]
    refine Zac (Zaa [4,6,21] ?_)
    simp only [Zab,Zad,Zaf,pok,pval,VA.ev,Env.get,Env.put,Env.keep,Zae,Nat.succ_ne_self,Nat.reduceEqDiff,ite_true,ite_false,true_and,Option.getD_some,Option.isSome_some]
    refine Zai rfl (fun _=>?_) (fun h=>by cases h)
    refine Zac (Zaa [2,3] ?_)
    simp only [Zab,Zad,Zaf,pok,pval,VA.ev,Env.get,Env.put,Env.keep,Zae,extV,extOk,PV.nth,Nat.succ_ne_self,List.map,Nat.reduceEqDiff,ite_true,ite_false,true_and]
    refine Zah (sp_label_made (num s) t (by omega) (by omega)) ?_
    try simp only [List.length,List.getD_cons_zero,List.getD_cons_succ,Nat.reduceAdd,Nat.reduceLT,true_and,Nat.zero_add,optT]
    refine Zal ?_
    try simp only [Env.get,Zae,retQ,resV,Zas,RS.ev,RS.ok,Nat.succ_ne_self,List.map,Nat.reduceEqDiff,ite_true,ite_false,true_and,and_true]
    rw [e]; exact View.refl _ _
  | none =>
    have e:nextS s = made (num s + 1) []:=by unfold nextS; rw [if_pos hm,hu]
    refine Zac (Zaa [4,6,21] ?_)
    simp only [Zab,Zad,Zaf,pok,pval,VA.ev,Env.get,Env.put,Env.keep,Zae,Nat.succ_ne_self,Nat.reduceEqDiff,ite_true,ite_false,true_and,Option.getD_none,Option.isSome_none]
    refine Zai rfl (fun h=>by cases h) (fun _=>?_)
    refine Zak ?_
    try simp only [Zae]
    have e5:IntKind.i64.wrap ((num s:Int) + 1) = ((num s + 1:Nat):Int):=by rw [w64 (by omega) (by omega)]; omega
    refine Zac (Zaa [2,3] ?_)
    simp only [Zab,Zad,Zaf,pok,pval,VA.ev,Env.get,Env.put,Env.keep,Zae,intV,binV,Zan,extV,extOk,PV.nth,Nat.succ_ne_self,List.map,Nat.reduceEqDiff,ite_true,ite_false,true_and,e5]
    refine Zah (sp_label_made (num s + 1) [] (by omega) (by simp)) ?_
    try simp only [List.length,List.getD_cons_zero,List.getD_cons_succ,Nat.reduceAdd,Nat.reduceLT,true_and,Nat.zero_add,optT]
    refine Zal ?_
    try simp only [Env.get,retQ,resV,Zas,RS.ev,RS.ok,Nat.succ_ne_self,List.map,Nat.reduceEqDiff,ite_true,ite_false,true_and,and_true]
    rw [e]; exact View.refl _ _
theorem sp_label_behind (s:Str) (k:Nat) (hl:s.length ≤ 1000000) (hm:may s = true) (hk:k ≤ 3):Za8 Tryd.prog 39 [.str s,pI k] (optT (Zaz s k)):=by
  have B:=sp_label_Split s hl
  have hn:=num_le hm
  have hcl:=caps_len hm
  have ena:splitN s = (num s:Int):=by simp [splitN,hm]
  have eca:splitC s = caps s:=by simp [splitC,hm]
  rw [ena,eca] at B
  refine Zaj ?_ (closed_opt _) (by simp only [Zat,List.mem_cons,List.not_mem_nil,or_false,forall_eq_or_imp,forall_eq,false_implies,implies_true]; repeat' (first  | exact cI _ | exact cS _ | exact Zbb (by simp only [List.mem_cons,List.not_mem_nil,or_false,forall_eq]; first | exact cI _ | exact cS _ | exact Za5 _) | refine And.intro ?_ ?_))
  refine Zar (vc:=c_label_behind) (ts:=[.t 4,.t 5]) Go.Proofs.Tryd.func39 (by kernel_rfl) rfl rfl (Nat.le_of_ble_eq_true rfl) (by kernel_rfl) ?_
  unfold c_label_behind
  try dsimp only [ZM,ZO,ZN,ZG]
  refine Zac (Zaa [0,1] ?_)
  simp only [Zab,Zad,Zaf,pok,pval,VA.ev,Env.get,Env.put,Env.keep,Za1,Zae,Heap.nil,Nat.succ_ne_self,Nat.reduceEqDiff,ite_true,ite_false,true_and,reduceCtorEq,Nat.zero_add]
  refine Zac (Zaa [1,6,7] ?_)
  simp only [Zab,Zad,Zaf,pok,pval,VA.ev,Env.get,Env.put,Env.keep,Zae,extV,extOk,PV.nth,Nat.succ_ne_self,List.map,Nat.reduceEqDiff,ite_true,ite_false,true_and,reduceCtorEq]
  refine Zah B ?_
  try simp only [List.length,List.getD_cons_zero,List.getD_cons_succ,Nat.reduceAdd,Nat.reduceLT,true_and,Nat.zero_add]
  refine Zac ?_
  refine Zac (Zaa [1,6,7,18] ?_)
  simp only [Zab,Zad,Zaf,pok,pval,VA.ev,Env.get,Env.put,Env.keep,Zae,intV,binV,Zan,lenV,lenOk,Nat.succ_ne_self,Nat.reduceEqDiff,ite_true,ite_false,true_and]
  refine Zai rfl (fun h1=>?_) (fun h1=>?_)
  · have hlt:(caps s).length < k:=by simp only [decide_eq_true_eq] at h1; omega
    have e5:IntKind.i64.wrap ((k:Int) - ((caps s).length:Int)) = ((k - (caps s).length:Nat):Int):=by rw [w64 (by omega) (by omega)]; omega
    refine Zac (Zaa [4,5] ?_)
    simp only [Zab,Zad,Zaf,pok,pval,VA.ev,Env.get,Env.put,Env.keep,Zae,intV,binV,Zan,strV,lenV,lenOk,extV,extOk,PV.nth,Nat.succ_ne_self,List.map,Nat.reduceEqDiff,ite_true,ite_false,true_and,e5]
    refine Zah (sp_Repeat 65 (k - (caps s).length) (by omega)) ?_
    try simp only [List.length_replicate]
    refine ⟨by omega,?_⟩
    refine Zah (sp_label_made (num s) _ (by omega) (by simp; omega)) ?_
    try simp only [List.length,List.getD_cons_zero,List.getD_cons_succ,Nat.reduceAdd,Nat.reduceLT,true_and,Nat.zero_add,optT]
    refine Zal ?_
    try simp only [Env.get,Zae,retQ,resV,Zas,RS.ev,RS.ok,Nat.succ_ne_self,List.map,Nat.reduceEqDiff,ite_true,ite_false,true_and,and_true]
    have e:Zaz s k = made (num s) (caps s ++ List.replicate (k - (caps s).length) 65):=by unfold Zaz; rw [if_pos hlt]
    rw [e]; exact View.refl _ _
  have hge:¬ (caps s).length < k:=by simp only [decide_eq_false_iff_not] at h1; omega
  refine Zak ?_
  try simp only [Zae]
  refine Zac ?_
  have U:=sp_label_up ((caps s).take k) (by simp; omega)
  refine Zac (Zaa [1,6,8,9] ?_)
  simp only [Zab,Zad,Zaf,pok,pval,VA.ev,Env.get,Env.put,Env.keep,Zae,numOf,loV,hiV,lenV,boundOk,sliceV,sliceOk,extV,extOk,PV.nth,Nat.succ_ne_self,List.map,List.drop_zero,Option.map,Nat.reduceEqDiff,ite_true,ite_false,true_and,and_true,Int.toNat_natCast,Nat.sub_zero]
  repeat (with_reducible refine And.intro ?_ ?_; first | omega | (with_reducible constructor <;> omega) | exact False.elim | exact True.intro)
  refine Zah U ?_
  try simp only [List.length,List.getD_cons_zero,List.getD_cons_succ,Nat.reduceAdd,Nat.reduceLT,true_and,Nat.zero_add,optT]
  cases hu:up ((caps s).take k) with
  | some t =>
    have htl:=up_len hu
    rw [List.length_take] at htl
    have e5:IntKind.i64.wrap ((k:Int) - (t.length:Int)) = ((k - t.length:Nat):Int):=by rw [w64 (by omega) (by omega)]; omega
    have e:Zaz s k = made (num s) (t ++ List.replicate (k - t.length) 65):=by unfold Zaz; rw [if_neg hge,hu]
    refine Zac (Zaa [1,6,8,37] ?_)
    simp only [Zab,Zad,Zaf,pok,pval,VA.ev,Env.get,Env.put,Env.keep,Zae,Nat.succ_ne_self,Nat.reduceEqDiff,ite_true,ite_false,true_and,Option.getD_some,Option.isSome_some]
    refine Zai rfl (fun _=>?_) (fun h=>by cases h)
    refine Zac (Zaa [4,5] ?_)
    simp only [Zab,Zad,Zaf,pok,pval,VA.ev,Env.get,Env.put,Env.keep,Zae,intV,binV,Zan,strV,lenV,lenOk,extV,extOk,PV.nth,Nat.succ_ne_self,List.map,Nat.reduceEqDiff,ite_true,ite_false,true_and,e5]
    refine Zah (sp_Repeat 65 (k - t.length) (by omega)) ?_
    try simp only [List.length_replicate]
    refine ⟨by omega,?_⟩
    refine Zah (sp_label_made (num s) _ (by omega) (by simp; omega)) ?_
    try simp only [List.length,List.getD_cons_zero,List.getD_cons_succ,Nat.reduceAdd,Nat.reduceLT,true_and,Nat.zero_add,optT]
    refine Zal ?_
    try simp only [Env.get,Zae,retQ,resV,Zas,RS.ev,RS.ok,Nat.succ_ne_self,List.map,Nat.reduceEqDiff,ite_true,ite_false,true_and,and_true]
    rw [e]; exact View.refl _ _
  | none =>
    have e:Zaz s k = made (num s + 1) (List.replicate k 65):=by unfold Zaz; rw [if_neg hge,hu]
    have e5:IntKind.i64.wrap ((num s:Int) + 1) = ((num s + 1:Nat):Int):=by rw [w64 (by omega) (by omega)]; omega
    refine Zac (Zaa [1,6,8,37] ?_)
    simp only [Zab,Zad,Zaf,pok,pval,VA.ev,Env.get,Env.put,Env.keep,Zae,Nat.succ_ne_self,Nat.reduceEqDiff,ite_true,ite_false,true_and,Option.getD_none,Option.isSome_none]
    refine Zai rfl (fun h=>by cases h) (fun _=>?_)
    refine Zak ?_
    try simp only [Zae]
    refine Zac (Zaa [4,5] ?_)
    simp only [Zab,Zad,Zaf,pok,pval,VA.ev,Env.get,Env.put,Env.keep,Zae,intV,binV,Zan,extV,extOk,PV.nth,Nat.succ_ne_self,List.map,Nat.reduceEqDiff,ite_true,ite_false,true_and,e5]
    refine Zah (sp_Repeat 65 k (by omega)) ?_
    skip
    refine Zah (sp_label_made (num s + 1) _ (by omega) (by simp; omega)) ?_
    try simp only [List.length,List.getD_cons_zero,List.getD_cons_succ,Nat.reduceAdd,Nat.reduceLT,true_and,Nat.zero_add,optT]
    refine Zal ?_
    try simp only [Env.get,retQ,resV,Zas,RS.ev,RS.ok,Nat.succ_ne_self,List.map,Nat.reduceEqDiff,ite_true,ite_false,true_and,and_true]
    rw [e]; exact View.refl _ _
theorem text_len {n:Nat} {c:Str} (hn:n ≤ 9999):(text n c).length ≤ 4 + c.length:=by
  unfold text; rw [List.length_append]; have:=decDigits_four hn; omega
theorem label_len {s:Str} (h:may s = true):s.length ≤ 7:=by
  rw [text_of h]
  have:=text_len (c:=caps s) (num_le h)
  have:=caps_len h
  omega
theorem sp_label_Between (a b:Str) (ha:a.length ≤ 1000000) (hb:b.length ≤ 1000000):Za8 Tryd.prog 19 [.str a,.str b] (optT (between a b)):=by
  have A:=Zbd a ha
  have B:=Zbd b hb
  refine Zaj ?_ (closed_opt _) (by simp only [Zat,List.mem_cons,List.not_mem_nil,or_false,forall_eq_or_imp,forall_eq,false_implies,implies_true]; repeat' (first  | exact cS _ | refine And.intro ?_ ?_))
  refine Zar (vc:=c_label_Between) (ts:=[.t 4,.t 5]) Go.Proofs.Tryd.func19 (by kernel_rfl) rfl rfl (Nat.le_of_ble_eq_true rfl) (by kernel_rfl) ?_
  unfold c_label_Between
  try dsimp only [ZM,ZO,ZN,ZG]
  refine Zac (Zaa [0,1] ?_)
  simp only [Zab,Zad,Zaf,pok,pval,VA.ev,Env.get,Env.put,Env.keep,Za1,Zae,Heap.nil,Nat.succ_ne_self,Nat.reduceEqDiff,ite_true,ite_false,true_and,reduceCtorEq,Nat.zero_add]
  refine Zac ?_
  refine VW_seqE (σ:={ x:Bool // x = !(may a && may b) }) [0,1,16] (fun x=>[(0,.str a),(1,.str b),(16,.bool x.1)]) ?_ ?_
  · cases hma:may a <;> rw [hma] at A
    · simp only [Zad,Zaf,pok,pval,VA.ev,Env.get,Env.put,Env.keep,unV,unOk,Nat.succ_ne_self,Env.le,List.map,Nat.reduceEqDiff,ite_true,ite_false,true_and,and_true,reduceCtorEq]
      refine Zah A ?_
      try simp only [Zab,Zad,OpsW_xf,Zaf,pok,pval,VA.ev,Env.get,Env.put,Za4,isBool,Nat.succ_ne_self,Nat.reduceEqDiff,ite_true,ite_false,true_and,and_true,reduceCtorEq,Bool.not_false]
      exact ⟨⟨true,rfl⟩,rfl⟩
    · simp only [Zad,Zaf,pok,pval,VA.ev,Env.get,Env.put,Env.keep,unV,unOk,Nat.succ_ne_self,Env.le,List.map,Nat.reduceEqDiff,ite_true,ite_false,true_and,and_true,reduceCtorEq]
      refine Zah A ?_
      try simp only [Zab,Zad,Zbc,Zaf,pok,pval,VA.ev,Env.get,Env.put,Za4,isBool,unV,unOk,Nat.succ_ne_self,List.map,Nat.reduceEqDiff,Bool.false_eq_true,ite_true,ite_false,true_and,reduceCtorEq,Bool.not_true]
      refine Zah B ?_
      try simp only [true_and,and_true]
      exact ⟨⟨!(may b),by simp⟩,rfl⟩
  rintro ⟨x,hx⟩
  simp only []
  refine Zai rfl (fun h1=>?_) (fun h1=>?_)
  · refine Zac (Zaa [4,5] ?_)
    simp only [Zab,Zad,Zaf,pok,pval,VA.ev,Env.get,Env.put,Env.keep,Zae,Nat.succ_ne_self,Nat.reduceEqDiff,ite_true,ite_false,true_and,reduceCtorEq]
    refine Zal ?_
    try simp only [Env.get,Zae,retQ,resV,Zas,RS.ev,RS.ok,Nat.succ_ne_self,List.map,Nat.reduceEqDiff,ite_true,ite_false,true_and,and_true]
    have e:between a b = none:=by
      unfold between; rw [if_neg]
      rintro ⟨h2,h3⟩; rw [h1,h2,h3] at hx; cases hx
    rw [e]; exact View.refl _ _
  have hma:may a = true:=by cases h:may a; rw [h,h1] at hx; cases hx; rfl
  have hmb:may b = true:=by cases h:may b; rw [h,h1] at hx; simp at hx; rfl
  refine Zak ?_
  try simp only [Zae]
  refine Zac ?_
  refine Zac (Zaa [0,1,17] ?_)
  simp only [Zab,Zad,Zaf,pok,pval,VA.ev,Env.get,Env.put,Env.keep,Zae,Nat.succ_ne_self,Nat.reduceEqDiff,ite_true,ite_false,true_and,reduceCtorEq]
  refine Za0 ?_
  refine VW_loop (σ:={ k:Nat // k ≤ 4 ∧ betS a b 4 0 = betS a b (4 - k) k }) (fun x=>([(0,.str a),(1,.str b),(17,pI x.1)],⟨[],0⟩)) (fun x=>4 - x.1) ⟨0,by omega,rfl⟩ ?_ ?_ ?_
  · simp only [Env.get,Nat.succ_ne_self,Env.le,Nat.reduceEqDiff,ite_true,ite_false,true_and,and_true,reduceCtorEq]
    rfl
  · simp only [Heap.le,HL.le,Nat.le_refl,and_true]
  rintro ⟨k,hk,hbet⟩
  simp only []
  refine Zac (Zaa [0,1,17,18] ?_)
  simp only [Zab,Zad,Zaf,pok,pval,VA.ev,Env.get,Env.put,Env.keep,Zae,intV,binV,Zan,Heap.le,HL.le,Nat.succ_ne_self,Env.le,Nat.reduceEqDiff,ite_true,ite_false,true_and,and_true,reduceCtorEq]
  refine Zac ?_
  refine Zai rfl (fun h2=>?_) (fun h2=>?_)
  · have hk4:k < 4:=by simp only [decide_eq_true_eq] at h2; omega
    have hstep:betS a b (4 - k) k = (match Zaz a k with | some t=>(if cmpL t b < 0 then some t else betS a b (4 - (k + 1)) (k + 1)) | none=>betS a b (4 - (k + 1)) (k + 1)):=by
      obtain ⟨f,hf⟩:∃ f,4 - k = f + 1:=⟨4 - k - 1,by omega⟩
      rw [hf,show 4 - (k + 1) = f by omega]; rfl
    refine Zak ?_
    try simp only [Zae]
    refine Zac ?_
    refine Za0 ?_
    refine Zac (Zaa [0,1,6,17] ?_)
    simp only [Zab,Zad,Zaf,pok,pval,VA.ev,Env.get,Env.put,Env.keep,Zae,Nat.succ_ne_self,Nat.reduceEqDiff,ite_true,ite_false,true_and,reduceCtorEq]
    refine Zac (Zaa [0,1,7,8,17] ?_)
    simp only [Zab,Zad,Zaf,pok,pval,VA.ev,Env.get,Env.put,Env.keep,Zae,extV,extOk,PV.nth,Nat.succ_ne_self,List.map,Nat.reduceEqDiff,ite_true,ite_false,true_and,reduceCtorEq]
    refine Zah (sp_label_behind a k ha hma (by omega)) ?_
    try simp only [List.length,List.getD_cons_zero,List.getD_cons_succ,Nat.reduceAdd,Nat.reduceLT,true_and,Nat.zero_add,optT]
    have next:∀ (_:betS a b 4 0 = betS a b (4 - (k + 1)) (k + 1)),∃ s':{ k:Nat // k ≤ 4 ∧ betS a b 4 0 = betS a b (4 - k) k },(PV.int .i64 (IntKind.i64.wrap ((k:Int) + 1)) = pI s'.1) ∧ 4 - s'.1 < 4 - k:=fun h =>
      ⟨⟨k + 1,by omega,h⟩,by rw [w64 (by omega) (by omega)]; rfl,by simp only []; omega⟩
    cases hbh:Zaz a k with
    | some t =>
      rw [hbh] at hstep
      simp only [] at hstep
      obtain ⟨t1,_⟩:=behind_some hma (by omega) hbh
      have htl:=label_len t1
      refine Zac (Zaa [0,1,7,17,32] ?_)
      simp only [Zab,Zad,Zbc,Zaf,pok,pval,VA.ev,Env.get,Env.put,Env.keep,Zae,Za4,isBool,intV,binV,Zan,strV,Nat.succ_ne_self,List.map,Nat.reduceEqDiff,ite_true,ite_false,true_and,reduceCtorEq,Option.getD_some,Option.isSome_some]
      refine Zah (sp_label_Compare t b (by omega) hb) ?_
      try simp only [true_and]
      refine Zai rfl (fun h3=>?_) (fun h3=>?_)
      · refine Zac (Zaa [4,5] ?_)
        simp only [Zab,Zad,Zaf,pok,pval,VA.ev,Env.get,Env.put,Env.keep,Zae,Nat.succ_ne_self,Nat.reduceEqDiff,ite_true,ite_false,true_and,reduceCtorEq]
        refine Zal ?_
        try simp only [Env.get,Zae,Za2,retQ,resV,Zas,RS.ev,RS.ok,Nat.succ_ne_self,List.map,Nat.reduceEqDiff,ite_true,ite_false,true_and,and_true]
        have e:between a b = some t:=by
          unfold between; rw [if_pos ⟨hma,hmb⟩,hbet,hstep,if_pos (by simpa using h3)]
        rw [e]; exact View.refl _ _
      refine Zak ?_
      try simp only [Zae,Za2]
      rw [if_neg (by simpa using h3)] at hstep
      refine Zaa [0,1,17] ?_
      simp only [Zab,Zad,Zaf,pok,pval,VA.ev,Env.get,Env.put,Env.keep,Zae,intV,binV,Zan,Nat.le_refl,Nat.succ_ne_self,Nat.reduceEqDiff,ite_true,ite_false,true_and,reduceCtorEq]
      exact next (hbet.trans hstep)
    | none =>
      rw [hbh] at hstep
      simp only [] at hstep
      refine Zac (Zaa [0,1,7,17,32] ?_)
      simp only [Zab,Zad,OpsW_xt,Zaf,pok,pval,VA.ev,Env.get,Env.put,Env.keep,Zae,Za4,isBool,Nat.succ_ne_self,Nat.reduceEqDiff,Bool.false_eq_true,ite_true,ite_false,true_and,reduceCtorEq,Option.getD_none,Option.isSome_none]
      refine Zai rfl (fun h=>by cases h) (fun _=>?_)
      refine Zak ?_
      try simp only [Zae,Za2]
      refine Zaa [0,1,17] ?_
      simp only [Zab,Zad,Zaf,pok,pval,VA.ev,Env.get,Env.put,Env.keep,Zae,intV,binV,Zan,Nat.le_refl,Nat.succ_ne_self,Nat.reduceEqDiff,ite_true,ite_false,true_and,reduceCtorEq]
      exact next (hbet.trans hstep)
  · have hk4:k = 4:=by simp only [decide_eq_false_iff_not] at h2; omega
    subst hk4
    refine VW_exit ?_
    try simp only [Zae,Za2,retQ,ite_true]
    refine Zac (Zaa [4,5] ?_)
    simp only [Zab,Zad,Zaf,pok,pval,VA.ev,Env.get,Env.put,Env.keep,Zae,Nat.succ_ne_self,Nat.reduceEqDiff,ite_true,ite_false,true_and,reduceCtorEq]
    refine Zal ?_
    try simp only [Env.get,retQ,resV,Zas,RS.ev,RS.ok,Nat.succ_ne_self,List.map,Nat.reduceEqDiff,ite_true,ite_false,true_and,and_true]
    have e:between a b = none:=by unfold between; rw [if_pos ⟨hma,hmb⟩,hbet]; rfl
    rw [e]; exact View.refl _ _
end Go.Proofs.YtihfbefagcdpmaaDoor.w
namespace Go.Proofs.YtihfbefagcdpmaaDoor.w
open Go Go.VM
set_option maxRecDepth 20000
set_option maxHeartbeats 0
set_option pp.deepTerms false
end Go.Proofs.YtihfbefagcdpmaaDoor.w
