import Derived.Test.YtehokmhebnkfdaaGreatG1
import Derived.Test.YtehokmhebnkfdaaGreatVmN
set_option linter.all false
namespace Go.Proofs.YtehokmhebnkfdaaGreat.w
open Go Go.VM
set_option maxRecDepth 20000
set_option maxHeartbeats 0
set_option pp.deepTerms false
def c_corpus_every:VC:=(.seq (.region [ZO 9 .mkmap,ZM 4 9] false) (.seq (.region [ZM 10 0,ZO 11 (.len false (.t 10)),ZO 12 (.mv (.c (.int .i64 0)))] false) (.block 0 (.loop (.seq (.region [ZO 13 (.bin .lss (.t 12) (.t 11))] false) (.seq (.cond (.t 13) .skip (.exit 0)) (.seq (.block 1 (.seq (.region [ZO 14 (.iaddr 4 (.t 10) (.t 12)),ZO 15 (.load true 4 (.t 14)),ZO 6 (.alloc [(.int .i64 0),(.int .i64 0),(.str []),.nilsl]),ZN (.store 4 (.t 6) (.t 15))] false) (.seq (.region [ZO 16 (.faddr 3 (.t 6)),ZO 17 (.load false 1 (.t 16)),ZO 18 (.len false (.t 17)),ZO 19 (.mv (.c (.int .i64 0)))] false) (.block 2 (.loop (.seq (.region [ZO 20 (.bin .lss (.t 19) (.t 18))] false) (.seq (.cond (.t 20) .skip (.exit 2)) (.seq (.block 3 (.seq (.region [ZO 21 (.iaddr 7 (.t 17) (.t 19)),ZO 22 (.load true 7 (.t 21)),ZO 8 (.alloc [(.int .i64 0),(.str []),(.int .i64 0),(.int .i64 0),(.int .i64 0),(.str []),.nilsl]),ZN (.store 7 (.t 8) (.t 22))] false) (.seq (.region [ZM 23 1,ZO 24 (.load true 7 (.t 8)),ZM 25 4,ZO 26 (.faddr 0 (.t 8)),ZO 27 (.load false 1 (.t 26)),ZO 28 (.lookup (.one .i) (.bool false) false (.t 25) (.t 27)),ZO 29 (.callv (.t 23) [(.t 24),(.t 28)])] false) (.region [ZM 30 4,ZO 31 (.faddr 0 (.t 8)),ZO 32 (.load false 1 (.t 31)),ZN (.mapset (.one .i) (.t 30) (.t 32) (.c (.bool true)))] false)))) (.region [ZO 33 (.bin .add (.t 19) (.c (.int .i64 1))),ZM 19 33] false))))))))) (.region [ZO 34 (.bin .add (.t 12) (.c (.int .i64 1))),ZM 12 34] false))))))))
def c_corpus_Acts_1:VC:=(.seq (.region [ZO 3 (.box 7 (.t 0))] false) (.seq (.region [ZM 5 1,ZO 6 (.un .not (.t 5))] false) (.cond (.t 6) (.region [ZO 7 (.load false 1 (.t 2)),ZO 8 (.load true 7 (.t 3)),ZO 9 (.bslice 7 1 [(.int .i64 0),(.str []),(.int .i64 0),(.int .i64 0),(.int .i64 0),(.str []),.nilsl] [(0,(.t 8))]),ZO 10 (.app 7 88 [(.int .i64 0),(.str []),(.int .i64 0),(.int .i64 0),(.int .i64 0),(.str []),.nilsl] false (.t 7) (.t 9)),ZN (.store 1 (.t 2) (.t 10))] false) .skip)))
def c_corpus_Acts:VC:=(.seq (.region [ZO 2 (.mv (.c .nilsl))] false) (.seq (.region [ZO 3 (.alloc [.nilsl])] false) (.seq (.region [ZM 4 0,ZO 5 (.mkfn (.func 72) [] [(.t 3)]),ZO 6 (.call 71 [(.t 4),(.t 5)])] false) (.seq (.region [ZO 7 (.load false 1 (.t 3)),ZO 8 (.call 73 [(.t 7),(.c (.fn (.func 74) [] []))])] false) (.seq (.region [ZO 9 (.load false 1 (.t 3)),ZM 2 9] false) .ret)))))
def seenM (l:List Int):List (PV × PV):=l.map fun n=>(pI n,.bool true)
theorem seen_find (n:Int):∀ l:List Int,Zb9 (pI n) (seenM l) = if n ∈ l then some (.bool true) else none
  | []=>rfl
  | x :: r=>by
    have ih:=seen_find n r
    simp only [seenM,List.map_cons,Zb9,Zdj,PV.cells,Zbe,Zb8,Bool.and_true] at ih ⊢
    by_cases h:n = x
    · subst h; simp
    · have h':(n == x) = false:=by simpa using h
      rw [h',ih]
      simp [h]
theorem seen_put (n:Int):∀ l:List Int,mapPut (pI n) (.bool true) (seenM l) = seenM (if n ∈ l then l else l ++ [n])
  | []=>rfl
  | x :: r=>by
    have ih:=seen_put n r
    simp only [seenM,List.map_cons,mapPut,Zdj,PV.cells,Zbe,Zb8,Bool.and_true] at ih ⊢
    by_cases h:n = x
    · subst h; simp
    · have h':(n == x) = false:=by simpa using h
      rw [h',ih]
      simp only [Bool.false_eq_true,if_false,List.mem_cons,h,false_or]
      by_cases h2:n ∈ r <;> simp [h2]
theorem seen_keys (n:Int) (l:List Int):keysOk (.one .i) (pI n) (seenM l):=by
  refine ⟨rfl,fun p hp=>?_⟩
  simp only [seenM,List.mem_map] at hp
  obtain ⟨x,_,rfl⟩:=hp
  rfl
def tellA (acc:List Ac) (a:Ac) (again:Bool):List Ac:=if again then acc else acc ++ [a]
theorem tellA_len (acc:List Ac) (a:Ac) (again:Bool):acc.length ≤ (tellA acc a again).length ∧ (tellA acc a again).length ≤ acc.length + 1:=by
  unfold tellA; split <;> simp
theorem sp_corpus_Acts_1 (k b t : Nat) (acc : List Ac) (a : Ac) (again : Bool) (hk : k < t) (hb : b < t) (hkb : k ≠ b) (hl : acc.length ≤ 1000000) :
    Zbg Tryz.prog 72 [.agg a.enc,.bool again,.loc b 0 0] ⟨[(k,.arr false 7 (acc.map Ac.enc)),(b,.arr false 1 [[.own k 0 acc.length]])],t⟩
      (fun _ h'=>∃ k' t',(k' = k ∨ t ≤ k') ∧ k' < t' ∧ t ≤ t' ∧ h' = ⟨[(k',.arr false 7 ((tellA acc a again).map Ac.enc)),(b,.arr false 1 [[.own k' 0 (tellA acc a again).length]])],t'⟩):=by
  refine Zbg.drop ?_
  refine Zaq (vc:=c_corpus_Acts_1) (ts:=[]) Go.Proofs.Tryz.func72 (by kernel_rfl) rfl rfl (Nat.le_of_ble_eq_true rfl) (by kernel_rfl) ?_
  unfold c_corpus_Acts_1
  try dsimp only [ZM,ZO,ZN,ZG]
  refine Zac (Zaa [1,2,3] ?_)
  simp only [Zab,Zad,Zaf,VA.ev,Env.get,Env.put,Env.keep,Za2,Zae,PV.cells,PV.fits,Heap.le,Heap.push,Nat.succ_ne_self,Nat.reduceEqDiff,Nat.reduceAdd,ite_true,ite_false,true_and,reduceCtorEq,BEq.rfl,Nat.zero_add,Zb2]
  have qi0:(k = b) = False:=eq_false (by omega)
  have qi1:(k = t) = False:=eq_false (by omega)
  have qi2:(k = (t + 1)) = False:=eq_false (by omega)
  have qi3:(k = (t + 1 + 1)) = False:=eq_false (by omega)
  have qi4:(b = k) = False:=eq_false (by omega)
  have qi5:(b = t) = False:=eq_false (by omega)
  have qi6:(b = (t + 1)) = False:=eq_false (by omega)
  have qi7:(b = (t + 1 + 1)) = False:=eq_false (by omega)
  have qi8:(t = k) = False:=eq_false (by omega)
  have qi9:(t = b) = False:=eq_false (by omega)
  have qi10:(t = (t + 1)) = False:=eq_false (by omega)
  have qi11:(t = (t + 1 + 1)) = False:=eq_false (by omega)
  have qi12:((t + 1) = k) = False:=eq_false (by omega)
  have qi13:((t + 1) = b) = False:=eq_false (by omega)
  have qi14:((t + 1) = t) = False:=eq_false (by omega)
  have qi15:((t + 1) = (t + 1 + 1)) = False:=eq_false (by omega)
  have qi16:((t + 1 + 1) = k) = False:=eq_false (by omega)
  have qi17:((t + 1 + 1) = b) = False:=eq_false (by omega)
  have qi18:((t + 1 + 1) = t) = False:=eq_false (by omega)
  have qi19:((t + 1 + 1) = (t + 1)) = False:=eq_false (by omega)
  refine Zac (Zaa [2,3,6] ?_)
  simp only [Zab,Zad,Zaf,pok,pval,VA.ev,Env.get,Env.put,Env.keep,Zae,unV,unOk,Nat.succ_ne_self,Nat.reduceEqDiff,ite_true,ite_false,true_and]
  refine Zai rfl (fun h1=>?_) (fun h1=>?_)
  · refine Zaa [] ?_
    have hlen:(acc.map Ac.enc).length = acc.length:=by simp
    have htk:(acc.map Ac.enc).take acc.length = acc.map Ac.enc:=List.take_of_length_le (by simp)
    simp only [Zab,Zad,Zaf,pok,pval,VA.ev,Env.get,Env.put,retQ,Zau,aggV,Zag,Zap,PV.cells,PV.fits,overlay,PV.nth,PV.row,Heap.get,Heap.set,Heap.del,HL.get,HL.set,HL.del,Heap.push,Nat.le_refl,Nat.succ_ne_self,Zbq,Zc8,Zbk,Zda,Zbc,Zcw,Zbj,Zbf,Zbh,Za9,List.set,List.replicate,List.length,List.getD_cons_zero,List.take,List.drop,List.take_succ_cons,List.drop_succ_cons,List.nil_append,Nat.reduceEqDiff,Nat.reduceLT,Nat.reduceLeDiff,Bool.false_eq_true,Bool.true_eq_false,ite_true,ite_false,true_and,and_true,implies_true,BEq.rfl,Nat.zero_add,List.length_cons,imp_self,qi0,qi1,qi2,qi3,qi4,qi5,qi6,qi7,qi8,qi9,qi10,qi11,qi12,qi13,qi14,qi15,qi16,qi17,qi18,qi19,Zcs,Zb2,hlen,htk,ac_drop,List.append_nil]
    repeat (with_reducible refine And.intro ?_ ?_; first | omega | (with_reducible constructor <;> omega) | exact False.elim | exact True.intro)
    have ha:again = false:=by simpa using h1
    subst ha
    refine ⟨⟨[(t + 1 + 1,.arr false 7 ((acc ++ [a]).map Ac.enc)),(b,.arr false 1 [[.own (t + 1 + 1) 0 (acc ++ [a]).length]])],t + 1 + 1 + 1⟩,?_,t + 1 + 1,t + 1 + 1 + 1,by omega,by omega,by omega,?_⟩
    · simp only [List.map_append,List.map_cons,List.map_nil,List.length_append]
      try simp only [Heap.get,HL.get,HL.le,Nat.le_refl,List.length,ite_true,ite_false,and_true,Nat.zero_add,qi0,qi1,qi2,qi3,qi4,qi5,qi6,qi7,qi8,qi9,qi10,qi11,qi12,qi13,qi14,qi15,qi16,qi17,qi18,qi19]
      all_goals (repeat' (first | rfl | trivial | omega | (simp only []; omega) | refine And.intro ?_ ?_))
    · simp [tellA]
  · refine Zak ?_
    try simp only [retQ,Zau,true_and]
    have ha:again = true:=by simpa using h1
    subst ha
    refine ⟨⟨[(k,.arr false 7 (acc.map Ac.enc)),(b,.arr false 1 [[.own k 0 acc.length]])],t + 1⟩,?_,k,t + 1,.inl rfl,by omega,by omega,?_⟩
    · try simp only [Heap.get,HL.get,HL.le,Nat.le_refl,ite_true,ite_false,and_true,qi0,qi1,qi2,qi3,qi4,qi5,qi6,qi7,qi8,qi9,qi10,qi11,qi12,qi13,qi14,qi15,qi16,qi17,qi18,qi19]
      all_goals (repeat' (first | rfl | trivial | omega | (simp only []; omega) | refine And.intro ?_ ?_))
    · simp [tellA]
def tellS (s:List Int × List Ac) (a:Ac):List Int × List Ac:=(if a.number ∈ s.1 then s.1 else s.1 ++ [a.number],tellA s.2 a (decide (a.number ∈ s.1)))
theorem tellS_len:∀ (r:List Ac) (s:List Int × List Ac),(r.foldl tellS s).2.length ≤ s.2.length + r.length
  | [],s=>by simp
  | x :: r,s=>by
    have h:=tellS_len r (tellS s x)
    have h2:=(tellA_len s.2 x (decide (x.number ∈ s.1))).2
    simp only [List.foldl_cons,List.length_cons]
    simp only [tellS] at h h2 ⊢
    omega
theorem fstA_congr:∀ (r:List Ac) (s s':List Int),(∀ n,n ∈ s ↔ n ∈ s') → fstA s r = fstA s' r
  | [],_,_,_=>rfl
  | x :: r,s,s',h=>by
    simp only [fstA,h x.number]
    split
    · exact fstA_congr r s s' h
    · rw [fstA_congr r (x.number :: s) (x.number :: s') (fun n=>by simp [h n])]
theorem tellS_fst:∀ (r:List Ac) (s:List Int × List Ac),(r.foldl tellS s).2 = s.2 ++ fstA s.1 r
  | [],s=>by simp [fstA]
  | x :: r,s=>by
    rw [List.foldl_cons,tellS_fst r]
    simp only [tellS,tellA,fstA]
    by_cases h:x.number ∈ s.1
    · simp [h]
    · simp only [h,if_false,decide_false,Bool.false_eq_true]
      rw [fstA_congr r (s.1 ++ [x.number]) (x.number :: s.1) (fun n=>by simp [or_comm])]
      simp
def rowG (l:List Gz):List Ac:=l.flatMap Gz.acts
theorem gz_len (x:Gz):x.enc.length = 4:=rfl
theorem gz_take (x:Gz):x.enc.take 4 = x.enc:=rfl
theorem gz_drop (x:Gz):x.enc.drop 4 = []:=rfl
theorem gz_acts (x:Gz):x.enc.drop 3 = [.sl 7 (x.acts.map Ac.enc)]:=rfl
theorem ac_num (x:Ac):(x.enc.take 1).getD 0 .any = pI x.number:=rfl
theorem rowG_take {l:List Gz} {i:Nat} (h:i < l.length):rowG (l.take (i + 1)) = rowG (l.take i) ++ l[i].acts:=by
  rw [rowG,rowG,List.take_add_one,List.getElem?_eq_getElem h,List.flatMap_append]; simp
theorem rowG_le (l:List Gz) (i:Nat):(rowG (l.take i)).length ≤ (rowG l).length:=by
  have:rowG l = rowG (l.take i) ++ rowG (l.drop i):=by simp only [rowG]; rw [← List.flatMap_append,List.take_append_drop]
  rw [this]; simp
theorem sp_corpus_every (l : List Gz) (k b t : Nat) (hk : k < t) (hb : b < t) (hkb : k ≠ b) (hl : l.length ≤ 1000000) (hr : (rowG l).length ≤ 1000000) :
    Zbg Tryz.prog 71 [.sl 4 (l.map Gz.enc),.fn (.func 72) [] [.loc b 0 0]] ⟨[(k,.arr false 7 []),(b,.arr false 1 [[.own k 0 0]])],t⟩
      (fun _ h'=>∃ k' t',(k' = k ∨ t ≤ k') ∧ k' < t' ∧ t ≤ t' ∧ h' = ⟨[(k',.arr false 7 ((fstA [] (rowG l)).map Ac.enc)),(b,.arr false 1 [[.own k' 0 (fstA [] (rowG l)).length]])],t'⟩):=by
  refine Zbg.drop ?_
  refine Zaq (vc:=c_corpus_every) (ts:=[]) Go.Proofs.Tryz.func71 (by kernel_rfl) rfl rfl (Nat.le_of_ble_eq_true rfl) (by kernel_rfl) ?_
  unfold c_corpus_every
  try dsimp only [ZM,ZO,ZN,ZG]
  refine Zac (Zaa [0,1,4] ?_)
  simp only [Zab,Zad,Zaf,pok,pval,VA.ev,Env.get,Env.put,Env.keep,Za2,Zae,Heap.le,Heap.push,Nat.succ_ne_self,Nat.reduceEqDiff,ite_true,ite_false,true_and,reduceCtorEq,Nat.zero_add]
  refine Zac (Zaa [1,4,10,11,12] ?_)
  simp only [Zab,Zad,Zaf,pok,pval,VA.ev,Env.get,Env.put,Env.keep,Zae,lenV,Za8,Nat.succ_ne_self,Nat.reduceEqDiff,ite_true,ite_false,true_and,reduceCtorEq,List.length_map]
  refine Zaj ?_
  refine Za4 (σ:={ s:Nat × (List Int × List Ac) × Nat × Nat // s.1 ≤ l.length ∧ s.2.1 = (rowG (l.take s.1)).foldl tellS ([],[]) ∧ (s.2.2.1 = k ∨ t < s.2.2.1) ∧ s.2.2.1 < s.2.2.2 ∧ t < s.2.2.2 })
    (fun s=>([(1,.fn (.func 72) [] [.loc b 0 0]),(4,.mp t),(10,.sl 4 (l.map Gz.enc)),(11,pI l.length),(12,pI s.1.1)],⟨[(t,.map (seenM s.1.2.1.1)),(s.1.2.2.1,.arr false 7 (s.1.2.1.2.map Ac.enc)),(b,.arr false 1 [[.own s.1.2.2.1 0 s.1.2.1.2.length]])],s.1.2.2.2⟩)) (fun s=>l.length - s.1.1) ⟨(0,([],[]),k,t + 1),⟨Nat.zero_le _,rfl,.inl rfl,by show k < t + 1; omega,by show t < t + 1; omega⟩⟩ ?_ ?_ ?_
  · try simp only [Env.get,Nat.succ_ne_self,Env.le,Nat.reduceEqDiff,ite_true,ite_false,true_and,and_true]
    all_goals (repeat' (first | rfl | trivial | omega | (simp only []; omega) | refine And.intro ?_ ?_))
  · have qi0:(k = b) = False:=eq_false (by omega)
    have qi1:(k = t) = False:=eq_false (by omega)
    have qi2:(b = k) = False:=eq_false (by omega)
    have qi3:(b = t) = False:=eq_false (by omega)
    have qi4:(t = k) = False:=eq_false (by omega)
    have qi5:(t = b) = False:=eq_false (by omega)
    try simp only [Heap.get,Heap.le,HL.get,HL.le,Nat.le_refl,List.map,List.length,ite_true,ite_false,and_true,qi0,qi1,qi2,qi3,qi4,qi5,List.map_nil,seenM]
    all_goals (repeat' (first | rfl | trivial | omega | (simp only []; omega) | refine And.intro ?_ ?_))
  rintro ⟨⟨i,S,k1,t1⟩,hi,hS,hk1,hkt,htt⟩
  simp only [] at hi hS hk1 hkt htt ⊢
  refine Zac (Zaa [1,4,10,11,12,13] ?_)
  simp only [Zab,Zad,Zaf,pok,pval,VA.ev,Env.get,Env.put,Env.keep,Zae,intV,binV,Zah,Heap.get,Heap.le,HL.le,Nat.succ_ne_self,Env.le,Nat.reduceEqDiff,ite_true,ite_false,true_and,and_true]
  refine Zac ?_
  refine Zai rfl (fun h1=>?_) (fun h1=>?_)
  · refine Zak ?_
    try simp only [Zae]
    simp only [decide_eq_true_eq] at h1
    have ia:i < l.length:=by omega
    have hrow:=rowG_take ia
    have hrl:=rowG_le l (i + 1)
    rw [hrow,List.length_append] at hrl
    have qi0:(k1 = b) = False:=eq_false (by omega)
    have qi1:(k1 = t) = False:=eq_false (by omega)
    have qi2:(k1 = t1) = False:=eq_false (by omega)
    have qi3:(k1 = (t1 + 1)) = False:=eq_false (by omega)
    have qi4:(b = k1) = False:=eq_false (by omega)
    have qi5:(b = t) = False:=eq_false (by omega)
    have qi6:(b = t1) = False:=eq_false (by omega)
    have qi7:(b = (t1 + 1)) = False:=eq_false (by omega)
    have qi8:(t = k1) = False:=eq_false (by omega)
    have qi9:(t = b) = False:=eq_false (by omega)
    have qi10:(t = t1) = False:=eq_false (by omega)
    have qi11:(t = (t1 + 1)) = False:=eq_false (by omega)
    have qi12:(t1 = k1) = False:=eq_false (by omega)
    have qi13:(t1 = b) = False:=eq_false (by omega)
    have qi14:(t1 = t) = False:=eq_false (by omega)
    have qi15:(t1 = (t1 + 1)) = False:=eq_false (by omega)
    have qi16:((t1 + 1) = k1) = False:=eq_false (by omega)
    have qi17:((t1 + 1) = b) = False:=eq_false (by omega)
    have qi18:((t1 + 1) = t) = False:=eq_false (by omega)
    have qi19:((t1 + 1) = t1) = False:=eq_false (by omega)
    refine Zac ?_
    refine Zaj ?_
    refine Zac (Zaa [1,4,6,10,11,12] ?_)
    simp only [Zab,Zad,Zaf,pok,pval,VA.ev,Env.get,Env.put,Env.keep,Zae,aggV,isInt,numOf,lenV,Zag,Zap,Zax,Zas,PV.cells,PV.fits,overlay,PV.nth,PV.row,Heap.get,Heap.set,HL.get,HL.set,HL.del,Heap.push,Nat.le_refl,Nat.succ_ne_self,Zbh,Za9,List.set,List.length,List.getD_cons_zero,List.take,List.drop,List.drop_succ_cons,List.nil_append,Nat.reduceEqDiff,Nat.reduceAdd,Nat.reduceLT,Bool.true_eq_false,ite_true,ite_false,true_and,and_true,BEq.rfl,Nat.zero_add,imp_self,Int.toNat_natCast,List.length_map,rowm ia,gz_take,gz_len,gz_drop,List.append_nil,qi0,qi1,qi2,qi3,qi4,qi5,qi6,qi7,qi8,qi9,qi10,qi11,qi12,qi13,qi14,qi15,qi16,qi17,qi18,qi19]
    repeat (with_reducible refine And.intro ?_ ?_; first | omega | (with_reducible constructor <;> omega) | exact False.elim | exact True.intro)
    refine Zac (Zaa [1,4,10,11,12,17,18,19] ?_)
    simp only [Zab,Zad,Zaf,pok,pval,VA.ev,Env.get,Env.put,Env.keep,Zae,aggV,lenV,Zao,Zan,Zag,Zap,Za8,PV.nth,PV.row,Heap.get,HL.get,Nat.le_refl,Nat.succ_ne_self,List.length,List.getD_cons_zero,List.take,List.take_succ_cons,Nat.reduceEqDiff,Nat.reduceLT,Bool.false_eq_true,ite_true,ite_false,true_and,and_true,implies_true,Nat.zero_add,List.length_cons,gz_acts,List.length_map,gz_len,qi0,qi1,qi2,qi3,qi4,qi5,qi6,qi7,qi8,qi9,qi10,qi11,qi12,qi13,qi14,qi15,qi16,qi17,qi18,qi19]
    refine Zaj ?_
    refine Za4 (σ:={ s:Nat × (List Int × List Ac) × Nat × Nat // s.1 ≤ l[i].acts.length ∧ s.2.1 = (rowG (l.take i) ++ l[i].acts.take s.1).foldl tellS ([],[]) ∧ (s.2.2.1 = k ∨ t < s.2.2.1) ∧ s.2.2.1 < s.2.2.2 ∧ t < s.2.2.2 })
      (fun s=>([(1,.fn (.func 72) [] [.loc b 0 0]),(4,.mp t),(10,.sl 4 (l.map Gz.enc)),(11,pI l.length),(12,pI i),(17,.sl 7 (l[i].acts.map Ac.enc)),(18,pI l[i].acts.length),(19,pI s.1.1)],⟨[(t,.map (seenM s.1.2.1.1)),(s.1.2.2.1,.arr false 7 (s.1.2.1.2.map Ac.enc)),(b,.arr false 1 [[.own s.1.2.2.1 0 s.1.2.1.2.length]])],s.1.2.2.2⟩)) (fun s=>l[i].acts.length - s.1.1) ⟨(0,S,k1,t1 + 1),⟨Nat.zero_le _,by simpa using hS,hk1,by show k1 < t1 + 1; omega,by show t < t1 + 1; omega⟩⟩ ?_ ?_ ?_
    · try simp only [Env.get,Nat.succ_ne_self,Env.le,Nat.reduceEqDiff,ite_true,ite_false,true_and,and_true]
      all_goals (repeat' (first | rfl | trivial | omega | (simp only []; omega) | refine And.intro ?_ ?_))
    · try simp only [Heap.get,Heap.le,HL.get,HL.le,Nat.le_refl,ite_true,ite_false,and_true,qi0,qi1,qi2,qi3,qi4,qi5,qi6,qi7,qi8,qi9,qi10,qi11,qi12,qi13,qi14,qi15,qi16,qi17,qi18,qi19]
      all_goals (repeat' (first | rfl | trivial | omega | (simp only []; omega) | refine And.intro ?_ ?_))
    clear hS hkt htt hk1
    rintro ⟨⟨j,S,k1,t1⟩,hj,hS,hk1,hkt,htt⟩
    simp only [] at hj hS hk1 hkt htt ⊢
    refine Zac (Zaa [1,4,10,11,12,17,18,19,20] ?_)
    simp only [Zab,Zad,Zaf,pok,pval,VA.ev,Env.get,Env.put,Env.keep,Zae,intV,binV,Zah,Heap.get,Heap.le,HL.le,Nat.succ_ne_self,Env.le,Nat.reduceEqDiff,ite_true,ite_false,true_and,and_true]
    refine Zac ?_
    refine Zai rfl (fun h2=>?_) (fun h2=>?_)
    · refine Zak ?_
      try simp only [Zae]
      simp only [decide_eq_true_eq] at h2
      have ja:j < l[i].acts.length:=by omega
      have hSl:=tellS_len (rowG (l.take i) ++ l[i].acts.take j) ([],[])
      rw [← hS] at hSl
      have hSl2:S.2.length ≤ 1000000:=by simp only [List.length_append,List.length_take,List.length_nil] at hSl; omega
      have hnext:tellS S l[i].acts[j] = (rowG (l.take i) ++ l[i].acts.take (j + 1)).foldl tellS ([],[]):=by
        rw [List.take_add_one,List.getElem?_eq_getElem ja,Option.toList_some,← List.append_assoc,List.foldl_append,← hS]; rfl
      have qi0:(k1 = b) = False:=eq_false (by omega)
      have qi1:(k1 = t) = False:=eq_false (by omega)
      have qi2:(k1 = t1) = False:=eq_false (by omega)
      have qi3:(k1 = (t1 + 1)) = False:=eq_false (by omega)
      have qi4:(b = k1) = False:=eq_false (by omega)
      have qi5:(b = t) = False:=eq_false (by omega)
      have qi6:(b = t1) = False:=eq_false (by omega)
      have qi7:(b = (t1 + 1)) = False:=eq_false (by omega)
      have qi8:(t = k1) = False:=eq_false (by omega)
      have qi9:(t = b) = False:=eq_false (by omega)
      have qi10:(t = t1) = False:=eq_false (by omega)
      have qi11:(t = (t1 + 1)) = False:=eq_false (by omega)
      have qi12:(t1 = k1) = False:=eq_false (by omega)
      have qi13:(t1 = b) = False:=eq_false (by omega)
      have qi14:(t1 = t) = False:=eq_false (by omega)
      have qi15:(t1 = (t1 + 1)) = False:=eq_false (by omega)
      have qi16:((t1 + 1) = k1) = False:=eq_false (by omega)
      have qi17:((t1 + 1) = b) = False:=eq_false (by omega)
      have qi18:((t1 + 1) = t) = False:=eq_false (by omega)
      have qi19:((t1 + 1) = t1) = False:=eq_false (by omega)
      refine Zac ?_
      refine Zaj ?_
      refine Zac (Zaa [1,4,8,10,11,12,17,18,19] ?_)
      simp only [Zab,Zad,Zaf,pok,pval,VA.ev,Env.get,Env.put,Env.keep,Zae,aggV,isInt,numOf,lenV,Zag,Zap,Zax,Zas,PV.cells,PV.fits,overlay,PV.nth,PV.row,Heap.get,Heap.set,HL.get,HL.set,HL.del,Heap.push,Nat.le_refl,Nat.succ_ne_self,Zbh,Za9,List.set,List.length,List.getD_cons_zero,List.take,List.drop,List.drop_succ_cons,List.nil_append,Nat.reduceEqDiff,Nat.reduceAdd,Nat.reduceLT,Bool.true_eq_false,ite_true,ite_false,true_and,and_true,BEq.rfl,Nat.zero_add,imp_self,Int.toNat_natCast,List.length_map,rowm ja,Zcs,Zb2,ac_drop,List.append_nil,qi0,qi1,qi2,qi3,qi4,qi5,qi6,qi7,qi8,qi9,qi10,qi11,qi12,qi13,qi14,qi15,qi16,qi17,qi18,qi19]
      repeat (with_reducible refine And.intro ?_ ?_; first | omega | (with_reducible constructor <;> omega) | exact False.elim | exact True.intro)
      refine Zac (Zaa [1,4,8,10,11,12,17,18,19] ?_)
      have hfind:=seen_find l[i].acts[j].number S.1
      have hput:=seen_put l[i].acts[j].number S.1
      have hkeys:=seen_keys l[i].acts[j].number S.1
      have hlook:lookV (.bool false) false (if l[i].acts[j].number ∈ S.1 then some (PV.bool true) else none) = .bool (decide (l[i].acts[j].number ∈ S.1)):=by
        by_cases h:l[i].acts[j].number ∈ S.1 <;> simp [h,lookV]
      simp only [Zab,Zad,Zaf,pok,pval,VA.ev,Env.get,Env.put,Env.keep,Zae,aggV,Zao,Zan,Zag,Zap,PV.nth,PV.row,Zca,mapOk,Heap.get,HL.get,Nat.le_refl,Nat.succ_ne_self,List.map,List.length,List.getD_cons_zero,List.drop,List.cons_append,List.nil_append,Nat.reduceEqDiff,Nat.reduceLT,Nat.reduceLeDiff,Bool.false_eq_true,Bool.true_eq_false,ite_true,ite_false,true_and,and_true,implies_true,Nat.zero_add,Nat.add_zero,imp_self,List.length_map,Zcs,Zb2,ac_num,hfind,hkeys,hlook,qi0,qi1,qi2,qi3,qi4,qi5,qi6,qi7,qi8,qi9,qi10,qi11,qi12,qi13,qi14,qi15,qi16,qi17,qi18,qi19]
      refine Zbg.weakenL (h0:=⟨[(k1,.arr false 7 (S.2.map Ac.enc)),(b,.arr false 1 [[.own k1 0 S.2.length]])] ++ [(t1,.arr false 7 [l[i].acts[j].enc]),(t,.map (seenM S.1))],t1 + 1⟩) ?_ ?_
      · try simp only [Heap.get,Heap.le,HL.get,HL.le,Nat.le_refl,List.cons_append,List.nil_append,ite_true,ite_false,and_true,qi0,qi1,qi2,qi3,qi4,qi5,qi6,qi7,qi8,qi9,qi10,qi11,qi12,qi13,qi14,qi15,qi16,qi17,qi18,qi19]
        all_goals (repeat' (first | rfl | trivial | omega | (simp only []; omega) | refine And.intro ?_ ?_))
      refine Zbg.frameL ?_ ?_ (Zbg.mono (sp_corpus_Acts_1 k1 b (t1 + 1) S.2 l[i].acts[j] (decide (l[i].acts[j].number ∈ S.1)) (by omega) (by omega) (by omega) hSl2) ?_)
      · simp only [List.mem_cons,List.not_mem_nil,or_false,forall_eq_or_imp,forall_eq]; omega
      · simp
      rintro p h' ⟨k2,t2,hk2,hkt2,ht2,rfl⟩
      refine ⟨ht2,?_,by simp [AB.live],?_⟩
      · simp only [List.mem_cons,List.not_mem_nil,or_false,forall_eq_or_imp,forall_eq]; omega
      have qi0:(k2 = b) = False:=eq_false (by omega)
      have qi1:(k2 = t) = False:=eq_false (by omega)
      have qi2:(k2 = t1) = False:=eq_false (by omega)
      have qi3:(b = k2) = False:=eq_false (by omega)
      have qi4:(b = t) = False:=eq_false (by omega)
      have qi5:(b = t1) = False:=eq_false (by omega)
      have qi6:(t = k2) = False:=eq_false (by omega)
      have qi7:(t = b) = False:=eq_false (by omega)
      have qi8:(t = t1) = False:=eq_false (by omega)
      have qi9:(t1 = k2) = False:=eq_false (by omega)
      have qi10:(t1 = b) = False:=eq_false (by omega)
      have qi11:(t1 = t) = False:=eq_false (by omega)
      try simp only [List.cons_append,List.nil_append,qi0,qi1,qi2,qi3,qi4,qi5,qi6,qi7,qi8,qi9,qi10,qi11]
      refine Zaa [1,4,10,11,12,17,18,19] ?_
      simp only [Zab,Zad,Zaf,pok,pval,VA.ev,Env.get,Env.put,Env.keep,Zae,Zal,aggV,Zao,Zan,Zag,Zap,PV.nth,PV.row,Zca,mapHas,mapsetV,Heap.get,Heap.set,HL.get,HL.set,HL.del,Nat.succ_ne_self,List.length,List.getD_cons_zero,List.drop,Nat.reduceEqDiff,Nat.reduceLT,Nat.reduceLeDiff,Bool.false_eq_true,ite_true,ite_false,true_and,and_true,implies_true,Nat.zero_add,Nat.add_zero,List.length_map,Zcs,Zb2,ac_num,hput,hkeys,qi0,qi1,qi2,qi3,qi4,qi5,qi6,qi7,qi8,qi9,qi10,qi11]
      refine Zaa [1,4,10,11,12,17,18,19] ?_
      simp only [Zab,Zad,Zaf,pok,pval,VA.ev,Env.get,Env.put,Env.keep,Zae,intV,binV,Zah,HL.get,Nat.succ_ne_self,Nat.reduceEqDiff,ite_true,ite_false,true_and,ad1 (a:=j) (by omega)]
      refine ⟨⟨(j + 1,tellS S l[i].acts[j],k2,t2),⟨ja,hnext,by show k2 = k ∨ t < k2; omega,hkt2,by show t < t2; omega⟩⟩,?_⟩
      simp only [tellS]
      try simp only [Nat.le_refl,ite_true,ite_false,true_and,and_true,qi0,qi1,qi2,qi3,qi4,qi5,qi6,qi7,qi8,qi9,qi10,qi11]
      all_goals (repeat' (first | rfl | trivial | omega | (simp only []; omega) | refine And.intro ?_ ?_))
    · simp only [decide_eq_false_iff_not] at h2
      obtain rfl:j = l[i].acts.length:=by omega
      refine Zaz ?_
      try simp only [Zae,Zal,retQ,Zau,Nat.succ_ne_self,ite_true,ite_false,true_and,reduceCtorEq]
      refine Zaa [1,4,10,11,12] ?_
      simp only [Zab,Zad,Zaf,pok,pval,VA.ev,Env.get,Env.put,Env.keep,Zae,intV,binV,Zah,HL.get,Nat.succ_ne_self,Nat.reduceEqDiff,ite_true,ite_false,true_and,Option.some.injEq,ad1 (a:=i) (by omega)]
      have qi0:(k1 = b) = False:=eq_false (by omega)
      have qi1:(k1 = t) = False:=eq_false (by omega)
      have qi2:(b = k1) = False:=eq_false (by omega)
      have qi3:(b = t) = False:=eq_false (by omega)
      have qi4:(t = k1) = False:=eq_false (by omega)
      have qi5:(t = b) = False:=eq_false (by omega)
      refine ⟨⟨(i + 1,S,k1,t1),⟨ia,by rw [hS,hrow,List.take_length],hk1,hkt,htt⟩⟩,?_⟩
      try simp only [Nat.le_refl,ite_true,ite_false,true_and,and_true,qi0,qi1,qi2,qi3,qi4,qi5]
      all_goals (repeat' (first | rfl | trivial | omega | (simp only []; omega) | refine And.intro ?_ ?_))
  · simp only [decide_eq_false_iff_not] at h1
    obtain rfl:i = l.length:=by omega
    refine Zaz ?_
    try simp only [Zae,Zal,retQ,Zau,ite_true,true_and]
    rw [List.take_length] at hS
    have hf:=tellS_fst (rowG l) ([],[])
    rw [← hS] at hf
    simp only [List.nil_append] at hf
    have qi0:(k1 = b) = False:=eq_false (by omega)
    have qi1:(k1 = t) = False:=eq_false (by omega)
    have qi2:(b = k1) = False:=eq_false (by omega)
    have qi3:(b = t) = False:=eq_false (by omega)
    have qi4:(t = k1) = False:=eq_false (by omega)
    have qi5:(t = b) = False:=eq_false (by omega)
    refine ⟨⟨[(k1,.arr false 7 (S.2.map Ac.enc)),(b,.arr false 1 [[.own k1 0 S.2.length]])],t1⟩,?_,k1,t1,by omega,hkt,by omega,by rw [← hf]⟩
    try simp only [Heap.get,HL.get,HL.le,Nat.le_refl,ite_true,ite_false,and_true,qi0,qi1,qi2,qi3,qi4,qi5]
    all_goals (repeat' (first | rfl | trivial | omega | (simp only []; omega) | refine And.intro ?_ ?_))
theorem fst_le:∀ (r:List Ac) (s:List Int),(fstA s r).length ≤ r.length
  | [],_=>Nat.le_refl _
  | x :: r,s=>by
    unfold fstA
    split
    · have:=fst_le r s; simp only [List.length_cons]; omega
    · have:=fst_le r (x.number :: s); simp only [List.length_cons]; omega
theorem sp_corpus_Acts (l:List Gz) (hl:l.length ≤ 1000000) (hr:(rowG l).length ≤ 1000000):Zbo Tryz.prog 57 [.sl 4 (l.map Gz.enc)] (.sl 7 ((Zbr (rowG l)).map Ac.enc)):=by
  refine Zam ?_ (Zcq _) (by simp only [Za0,List.mem_cons,List.not_mem_nil,or_false,forall_eq_or_imp,forall_eq,false_implies,implies_true]; repeat' (first  | exact Zcq _ | exact Zbp _ | refine And.intro ?_ ?_))
  refine Zaq (vc:=c_corpus_Acts) (ts:=[.t 2]) Go.Proofs.Tryz.func57 (by kernel_rfl) rfl rfl (Nat.le_of_ble_eq_true rfl) (by kernel_rfl) ?_
  unfold c_corpus_Acts
  try dsimp only [ZM,ZO,ZN,ZG]
  refine Zac (Zaa [0] ?_)
  simp only [Zab,Zad,Zaf,pok,pval,VA.ev,Env.get,Env.put,Env.keep,Za2,Zae,Heap.nil,ite_true,ite_false,true_and,reduceCtorEq]
  refine Zac (Zaa [0,3] ?_)
  simp only [Zab,Zad,Zaf,Env.get,Env.put,Env.keep,Zae,Heap.push,List.length,ite_true,ite_false,reduceCtorEq,Nat.zero_add]
  refine VW_own0c 0 7 rfl ?_
  try simp only [Heap.set,HL.set,HL.del,Heap.push,Nat.reduceAdd,ite_true]
  refine Zac (Zaa [3] ?_)
  simp only [Zab,Zad,Zaf,pok,pval,VA.ev,Env.get,Env.put,Env.keep,Zae,Nat.succ_ne_self,List.map,Nat.reduceEqDiff,ite_true,ite_false,true_and,reduceCtorEq]
  have hfl:=fst_le (rowG l) []
  refine Zbg.mono (sp_corpus_every l 1 0 2 (by omega) (by omega) (by omega) hl hr) ?_
  rintro p h' ⟨k,t,hk,hkt,ht,rfl⟩
  have hk0:k ≠ 0:=by omega
  have qi0:(k = 0) = False:=eq_false (by omega)
  have qi1:(k = t) = False:=eq_false (by omega)
  have qi2:(0 = k) = False:=eq_false (by omega)
  have qi3:(0 = t) = False:=eq_false (by omega)
  have qi4:(t = k) = False:=eq_false (by omega)
  have qi5:(t = 0) = False:=eq_false (by omega)
  skip
  refine Zac (Zaa [3] ?_)
  simp only [Zab,Zad,Zaf,pok,pval,VA.ev,Env.get,Env.put,Env.keep,Zae,aggV,Zag,Zap,PV.nth,PV.row,Heap.get,HL.get,Nat.le_refl,List.map,List.length,List.getD_cons_zero,List.take,List.drop,List.take_succ_cons,Nat.reduceEqDiff,Nat.reduceLT,Bool.false_eq_true,ite_true,ite_false,true_and,and_true,implies_true,Nat.zero_add,List.length_cons,qi0,qi1,qi2,qi3,qi4,qi5]
  refine Zbg.weakenL (h0:=⟨[(k,.arr false 7 ((fstA [] (rowG l)).map Ac.enc))] ++ [(0,.arr false 1 [[.own k 0 (fstA [] (rowG l)).length]])],t⟩) ?_ ?_
  · try simp only [Heap.get,Heap.le,HL.get,HL.le,Nat.le_refl,List.cons_append,List.nil_append,ite_true,ite_false,and_true,qi0,qi1,qi2,qi3,qi4,qi5]
    all_goals (repeat' (first | rfl | trivial | omega | (simp only []; omega) | refine And.intro ?_ ?_))
  refine Zbg.frameL ?_ ?_ (Zbg.mono (sp_sortStable k t (fstA [] (rowG l)) hkt (by omega)) ?_)
  · simp only [List.mem_cons,List.not_mem_nil,or_false,forall_eq_or_imp,forall_eq]; omega
  · simp
  rintro p h' ⟨l',⟨hp,hs⟩,t2,ht2,rfl⟩
  refine ⟨ht2,?_,by simp [AB.live],?_⟩
  · simp only [List.mem_cons,List.not_mem_nil,or_false,forall_eq_or_imp,forall_eq]; omega
  have hlen:=hp.length_eq
  obtain rfl:=actsS_unique hp hs
  try simp only [List.cons_append,List.nil_append,qi0,qi1,qi2,qi3,qi4,qi5]
  refine Zac (Zaa [2] ?_)
  simp only [Zab,Zad,Zaf,pok,pval,VA.ev,Env.get,Env.put,Env.keep,Zae,aggV,Zag,Zap,PV.nth,PV.row,Heap.get,HL.get,Nat.le_refl,Nat.succ_ne_self,List.length,List.getD_cons_zero,List.take,List.drop,List.take_succ_cons,Nat.reduceEqDiff,Nat.reduceLT,Bool.false_eq_true,ite_true,ite_false,true_and,and_true,implies_true,Nat.zero_add,List.length_cons,qi0,qi1,qi2,qi3,qi4,qi5]
  refine Zar ?_
  try simp only [Env.get,retQ,resV,Zau,RS.ev,RS.ok,ite_true,true_and,and_true]
  rw [← hlen]
  exact View.own_all (fz:=false) (by simp [Heap.get,HL.get]) (by simp)
end Go.Proofs.YtehokmhebnkfdaaGreat.w
