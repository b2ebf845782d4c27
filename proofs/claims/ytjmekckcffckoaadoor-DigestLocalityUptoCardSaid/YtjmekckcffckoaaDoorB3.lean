import Derived.Test.YtjmekckcffckoaaDoorE1
import Derived.Test.YtjmekckcffckoaaDoorVmAm
import Derived.Test.YtjmekckcffckoaaDoorVmJ
set_option linter.all false
namespace Go.Proofs.YtjmekckcffckoaaDoor.w
open Go Go.VM
set_option maxRecDepth 20000
set_option maxHeartbeats 0
set_option pp.deepTerms false
def c_digest_Diff : VC := (.seq (.region [ZO 2 (.box 8 (.t 0)),ZO 3 (.box 8 (.t 1)),ZO 4 (.mv (.c .nilsl))] false) (.seq (.region [ZO 9 .mkmap,ZO 10 .mkmap,ZM 5 9,ZM 6 10] false) (.seq (.region [ZO 11 (.load true 8 (.t 2)),ZM 12 5,ZO 13 (.call 36 [(.t 11),(.t 12)])] false) (.seq (.region [ZO 14 (.load true 8 (.t 3)),ZM 15 6,ZO 16 (.call 36 [(.t 14),(.t 15)])] false) (.seq (.seq (.region [ZM 17 6,ZO 18 (.other ({ dst := some 18,op := Op.range 59 (Operand.tmp 17),type := 0,pos := "digest.go:103",after := #[{ on := 0,ground := Ground.data }],guard := none } : Oper))] false) (.block 0 (.loop (.seq (.region [ZO 19 (.other ({ dst := some 19,op := Op.next (Operand.tmp 18) false,type := 0,pos := "digest.go:103",after := #[],guard := none } : Oper)),ZO 20 (.ext (.t 19) 0)] false) (.seq (.cond (.t 20) .skip (.exit 0)) (.block 1 (.seq (.region [ZO 21 (.other ({ dst := some 21,op := Op.entry (Operand.tmp 18),type := 0,pos := "digest.go:103",after := #[],guard := none } : Oper)),ZO 22 (.ext (.t 21) 0),ZO 23 (.ext (.t 21) 1),ZO 7 (.alloc [(.int .i64 0),(.int .i64 0),(.int .i64 0)]),ZN (.store 3 (.t 7) (.t 22)),ZM 8 23] false) (.seq (.region [ZM 24 5,ZO 25 (.load true 3 (.t 7)),ZO 26 (.lookup (.st [.i,.i,.i]) (.str []) false (.t 24) (.t 25)),ZM 27 8,ZO 28 (.bin .eql (.t 26) (.t 27))] false) (.cond (.t 28) (.region [ZM 29 5,ZO 30 (.load true 3 (.t 7)),ZN (.other ({ dst := none,op := Op.call { callee := Callee.builtin Builtin.delete,args := #[Operand.tmp 29,Operand.tmp 30],argTypes := #[59,26] },type := 0,pos := "digest.go:105",after := #[{ on := 0,ground := Ground.data },{ on := 1,ground := Ground.data }],guard := none } : Oper))] false) (.region [ZM 31 5,ZO 32 (.load true 3 (.t 7)),ZN (.mapset (.st [.i,.i,.i]) (.t 31) (.t 32) (.c (.str [])))] false)))))))))) (.seq (.region [ZM 33 5,ZO 34 (.call 38 [(.t 33)]),ZO 35 (.call 37 [(.t 34),(.c (.fn (.func 39) [] []))]),ZM 4 35] false) .ret))))))
def sortD (l:List Idt):List Idt:=l.mergeSort fun a b=>!ltId b a
theorem keysFlat_encG (M:List (Idt × Str)):keysFlat (encG M):=fun p hp=>by
  simp only [encG,List.mem_map] at hp
  obtain ⟨e,_,rfl⟩:=hp
  simp [flatP,Idt.enc,flatC]
theorem encG_len (M:List (Idt × Str)):(encG M).length = M.length:=List.length_map _
theorem encG_at (M:List (Idt × Str)) {i:Nat} (h:i < (encG M).length):(encG M)[i] = (.agg (M[i]'(by rw [encG_len] at h; exact h)).1.enc,.str (M[i]'(by rw [encG_len] at h; exact h)).2):=by simp [encG]
theorem encG_erase:∀ (M:List (Idt × Str)) (j:Nat),(encG M).eraseIdx j = encG (M.eraseIdx j)
  | [],_=>rfl
  | e :: r,0=>rfl
  | e :: r,j + 1=>by
    have ih:=encG_erase r j
    unfold encG at *
    rw [List.map_cons,List.eraseIdx_cons_succ,List.eraseIdx_cons_succ,ih]; rfl
theorem nod_bound {seen:List Nat} {n:Nat} (h:seen.Nodup) (hb:∀ i ∈ seen,i < n):seen.length ≤ n:=by
  have:=List.Nodup.length_le_of_subset h (l₂:=List.range n) (fun i hi=>List.mem_range.2 (hb i hi))
  simpa using this
theorem walk_Diff (HF : ∀ v : Un, SmalT v → Za8 Tryd.prog 14 [.agg v.enc] (.str (saysT true v)))
    (HK:∀ (m:Nat) (h:Heap),Zbb Tryd.prog 38 [.mp m] h (fun p h'=>p = .fnb (.func 57) (.mp m) ∧ h' = h))
    (HS:∀ (m:Nat) (h:Heap) (M:List (Idt × Str)),h.get m = some (.map (encG M)) → (M.map (·.1)).Nodup → M.length ≤ 1000000 → Zbb Tryd.prog 37 [.fnb (.func 57) (.mp m),.fn (.func 39) [] []] h (fun p h'=>p = .sl 3 ((sortD (M.map (·.1))).map Idt.enc)))
    {a b:Un} (ha:SmalT a) (hb:SmalT b) (hn:(Zci a).length + (Zci b).length ≤ 1000000) (D:List Idt) (hD:∀ M:List (Idt × Str),(M.map (·.1)).Nodup → (∀ x,x ∈ M.map (·.1) ↔ valG (Zci a) x ≠ valG (Zci b) x) → sortD (M.map (·.1)) = D) :
    Za8 Tryd.prog 20 [.agg a.enc,.agg b.enc] (.sl 3 (D.map Idt.enc)):=by
  have Ga:=fun m t h=>sp_gather HF ha m t [] h
  have Gb:=fun m t h=>sp_gather HF hb m t [] h
  have hXn:=gathT_nod a
  have hYn:=gathT_nod b
  have hYv:=gathT_vals b
  have eX:(unitsT a).foldl gthU [] = Zci a:=rfl
  have eY:(unitsT b).foldl gthU [] = Zci b:=rfl
  rw [eX] at Ga
  rw [eY] at Gb
  generalize Zci a = X at *
  generalize Zci b = Y at *
  have Ga':∀ m t,m < t → Zbb Tryd.prog 36 [.agg [pI a.act,pI a.item,pI a.n,pI a.kind,.str a.label,.sl 4 (a.head.map Wd.enc),.sl 4 (a.words.map Wd.enc),.sl 8 (a.kids.map Un.enc)],.mp m] ⟨[(m,.map [])],t⟩ (fun p h'=>p = .tup [] ∧ ∃ t',t ≤ t' ∧ h' = ⟨[(m,.map (encG X))],t'⟩):=fun m t h=>by rw [← Un.Za1]; exact Ga m t h
  have Gb':∀ m t,m < t → Zbb Tryd.prog 36 [.agg [pI b.act,pI b.item,pI b.n,pI b.kind,.str b.label,.sl 4 (b.head.map Wd.enc),.sl 4 (b.words.map Wd.enc),.sl 8 (b.kids.map Un.enc)],.mp m] ⟨[(m,.map [])],t⟩ (fun p h'=>p = .tup [] ∧ ∃ t',t ≤ t' ∧ h' = ⟨[(m,.map (encG Y))],t'⟩):=fun m t h=>by rw [← Un.Za1]; exact Gb m t h
  refine Zai ?_ (closed_ids _) (by intro y hy; simp only [List.mem_cons,List.not_mem_nil,or_false] at hy; rcases hy with rfl | rfl <;> exact Zao fun x hx=>Un.closed _ x hx)
  rw [Un.Za1,Un.Za1]
  generalize a.head.map Wd.enc = AH at *
  generalize a.words.map Wd.enc = AW at *
  generalize a.kids.map Un.enc = AK at *
  generalize b.head.map Wd.enc = BH at *
  generalize b.words.map Wd.enc = BW at *
  generalize b.kids.map Un.enc = BK at *
  refine Zan (vc:=c_digest_Diff) (ts:=[.t 4]) Go.Proofs.Tryd.func20 (by kernel_rfl) rfl rfl (Nat.le_of_ble_eq_true rfl) (by kernel_rfl) ?_
  unfold c_digest_Diff
  try dsimp only [ZM,ZO,ZN,ZG]
  refine Zac (Zaa [2,3] ?_)
  simp only [Zab,Zad,Zaf,pok,pval,VA.ev,Env.get,Env.put,Env.keep,Za3,Zae,PV.cells,PV.fits,Heap.push,Heap.nil,Nat.succ_ne_self,List.length,Nat.reduceEqDiff,Nat.reduceAdd,ite_true,ite_false,true_and,reduceCtorEq,BEq.rfl,Nat.zero_add]
  refine Zac (Zaa [2,3,5,6] ?_)
  simp only [Zab,Zad,Zaf,pok,pval,VA.ev,Env.get,Env.put,Env.keep,Zae,Heap.push,Nat.succ_ne_self,Nat.reduceEqDiff,Nat.reduceAdd,ite_true,ite_false,true_and]
  refine Zac (Zaa [3,5,6] ?_)
  simp only [Zab,Zad,Zaf,pok,pval,VA.ev,Env.get,Env.put,Env.keep,Zae,aggV,Zag,Zas,PV.nth,PV.row,Heap.get,HL.get,Nat.le_refl,Nat.succ_ne_self,List.map,List.length,List.getD_cons_zero,List.take,List.drop,List.take_succ_cons,Nat.reduceEqDiff,Nat.reduceAdd,Nat.reduceLT,Bool.true_eq_false,ite_true,ite_false,true_and,and_true,reduceCtorEq,Nat.zero_add,List.length_cons,imp_self]
  refine Zbb.weakenL (h0:=⟨[(2,.map [])] ++ [(3,.map []),(1,.arr false 8 [[pI b.act,pI b.item,pI b.n,pI b.kind,.str b.label,.sl 4 BH,.sl 4 BW,.sl 8 BK]])],4⟩) (by simp [Heap.le,Heap.get,HL.le,HL.get]) (Zbb.frameL (by simp) (by simp) ((Ga' 2 4 (by omega)).mono ?_))
  rintro p h' ⟨rfl,t1,ht1,rfl⟩
  refine ⟨ht1,by simp,by simp [AB.live],?_⟩
  try simp only [List.cons_append,List.nil_append]
  refine Zac (Zaa [5,6] ?_)
  simp only [Zab,Zad,Zaf,pok,pval,VA.ev,Env.get,Env.put,Env.keep,Zae,aggV,Zag,Zas,PV.nth,PV.row,Heap.get,HL.get,Nat.le_refl,Nat.succ_ne_self,List.map,List.length,List.getD_cons_zero,List.take,List.drop,List.take_succ_cons,Nat.reduceEqDiff,Nat.reduceAdd,Nat.reduceLT,Bool.true_eq_false,ite_true,ite_false,true_and,and_true,Nat.zero_add,List.length_cons,imp_self]
  refine Zbb.weakenL (h0:=⟨[(3,.map [])] ++ [(2,.map (encG X))],t1⟩) (by simp [Heap.le,Heap.get,HL.le,HL.get]) (Zbb.frameL (by simp) (by simp) ((Gb' 3 t1 (by omega)).mono ?_))
  rintro p h' ⟨rfl,t2,ht2,rfl⟩
  refine ⟨ht2,by simp,by simp [AB.live],?_⟩
  try simp only [List.cons_append,List.nil_append]
  refine Zac ?_
  refine Zac (Zaa [5,18] ?_)
  simp only [Zab,Zad,Zaf,pok,pval,VA.ev,Env.get,Env.put,Env.keep,Zae,Nat.succ_ne_self,Nat.reduceEqDiff,ite_true,ite_false,true_and]
  refine OpS_range rfl Tryd.underlying59 rfl rfl (by simp [Heap.get,HL.get]) (keysFlat_encG Y) ?_
  try simp only [Heap.del,HL.del,Heap.push,Nat.reduceEqDiff,ite_true,ite_false]
  have qi0:(2 = 3) = False:=eq_false (by omega)
  have qi1:(2 = t2) = False:=eq_false (by omega)
  have qi2:(3 = 2) = False:=eq_false (by omega)
  have qi3:(3 = t2) = False:=eq_false (by omega)
  have qi4:(t2 = 2) = False:=eq_false (by omega)
  have qi5:(t2 = 3) = False:=eq_false (by omega)
  refine Zam ?_
  refine Zb6 (σ:={ x:(List Nat × List (Idt × Str)) × Nat // Left X Y x.1.1 x.1.2 ∧ x.1.1.Nodup ∧ (∀ i ∈ x.1.1,i < Y.length) ∧ t2 < x.2 ∧ x.1.2.length ≤ X.length + x.1.1.length }) (fun x=>([(5,.mp 2),(18,.loc t2 0 0)],⟨[(t2,.miter (encG Y) x.1.1.1),(2,.map (encG x.1.1.2))],x.1.2⟩)) (fun x=>Y.length - x.1.1.1.length) ⟨(([],X),t2 + 1),Left.nil hXn,.nil,by simp,Nat.lt_succ_self _,by simp⟩ ?_ ?_ ?_
  · try simp only [Env.get,Env.le,Nat.reduceEqDiff,ite_true,ite_false,and_true,qi0,qi1,qi2,qi3,qi4,qi5]
    all_goals (repeat' (first | rfl | trivial | omega | (simp only []; omega) | refine And.intro ?_ ?_))
  · simp only [Heap.get,Heap.le,HL.get,HL.le,Nat.le_refl,ite_true,ite_false,and_true,qi0,qi1,qi2,qi3,qi4,qi5]
    try trace_state
  rintro ⟨⟨⟨seen,M⟩,t⟩,hL,hsn,hsb,ht,hMl⟩
  simp only [] at hL hsn hsb ht hMl ⊢
  have hsl:=nod_bound hsn hsb
  have qi0:(2 = t2) = False:=eq_false (by omega)
  have qi1:(2 = t) = False:=eq_false (by omega)
  have qi2:(t2 = 2) = False:=eq_false (by omega)
  have qi3:(t2 = t) = False:=eq_false (by omega)
  have qi4:(t = 2) = False:=eq_false (by omega)
  have qi5:(t = t2) = False:=eq_false (by omega)
  refine Zac (Zaa [5,18,20] ?_)
  simp only [Zab,Zad,Zaf,pok,pval,VA.ev,Env.get,Env.put,Env.keep,Zae,extV,extOk,PV.nth,Heap.get,Heap.le,HL.le,Nat.succ_ne_self,Env.le,Nat.reduceEqDiff,ite_true,ite_false,and_true,qi0,qi1,qi2,qi3,qi4,qi5]
  refine OpS_next (es:=encG Y) (seen:=seen) rfl rfl rfl (by simp [Heap.get,HL.get]) (fun hall=>?_) (fun i hi hns=>?_)
  · try simp only [List.length,List.getD_cons_zero,Nat.reduceLT,true_and,Nat.zero_add,qi0,qi1,qi2,qi3,qi4,qi5]
    refine Zac ?_
    refine Zaj (b:=false) rfl (fun h=>by cases h) (fun _=>?_)
    refine Zbs ?_
    try simp only [Zae,Zaw,retQ,ite_true]
    refine Zac (Zaa [4] ?_)
    simp only [Zab,Zad,Zaf,pok,pval,VA.ev,Env.get,Env.put,Env.keep,Zae,Nat.succ_ne_self,List.map,Nat.reduceEqDiff,ite_true,ite_false,true_and,qi0,qi1,qi2,qi3,qi4,qi5]
    refine (HK 2 _).mono ?_
    rintro p h' ⟨rfl,rfl⟩
    skip
    have hMx:M.length ≤ 1000000:=by omega
    refine (HS 2 _ M (by simp [Heap.get,HL.get,show ¬ t2 = 2 by omega]) hL.nod hMx).mono ?_
    rintro p h' rfl
    skip
    refine Zaz ?_
    try simp only [Env.get,retQ,resV,Zbc,RS.ev,RS.ok,ite_true,true_and,and_true]
    rw [hD M hL.nod (hL.keys fun j hj=>hall j (by rw [encG_len]; exact hj))]
    exact View.refl _ _
  · have hi':i < Y.length:=by rw [encG_len] at hi; exact hi
    have hea:=encG_at Y hi
    rw [hea]
    have hfr:=hL.fresh hYn hi' hns
    have hyv:=valG_at hYn hi'
    have hs16:=hYv _ (List.getElem_mem hi')
    have hstep:=fun M' h1 h2=>Left.step (M':=M') hL hYn hi' h1 h2
    have hsn2:(seen ++ [i]).Nodup:=by
      rw [List.nodup_append]
      exact ⟨hsn,by simp,fun a ha b hb=>by rw [List.mem_singleton] at hb; rw [hb]; exact fun e=>hns (e ▸ ha)⟩
    have hsb2:∀ j ∈ seen ++ [i],j < Y.length:=fun j hj=>by
      rcases List.mem_append.1 hj with h | h
      · exact hsb j h
      · rw [List.mem_singleton] at h; omega
    have hsl2:=nod_bound hsn2 hsb2
    rw [List.length_append,List.length_singleton] at hsl2
    generalize Y[i].1 = x at *
    generalize Y[i].2 = s at *
    have hxe:x.enc = [pI x.act,pI x.item,pI x.n]:=rfl
    have hmf:=mapFind_encG x M
    have hko:=keysOk_encG x M
    have hpe:=putG_enc x [] M
    rw [hxe] at hmf hko hpe hea ⊢
    try simp only [Heap.set,HL.set,HL.del,List.length,List.getD_cons_zero,Nat.reduceAdd,Nat.reduceLT,ite_true,ite_false,true_and,Nat.zero_add,qi0,qi1,qi2,qi3,qi4,qi5]
    refine Zac ?_
    refine Zaj (b:=true) rfl (fun _=>?_) (fun h=>by cases h)
    refine Zap ?_
    try simp only [Zae]
    refine Zam ?_
    refine Zac (Zaa [5,7,8,18] ?_)
    simp only [Zab,Zad,Zaf,pok,pval,VA.ev,Env.get,Env.put,Env.keep,Zae,extV,extOk,PV.cells,PV.fits,overlay,PV.nth,PV.row,Heap.get,Heap.set,HL.get,HL.set,Heap.push,Nat.le_refl,Nat.succ_ne_self,Zbj,Zbh,List.set,List.length,List.getD_cons_zero,List.take,List.nil_append,Nat.reduceEqDiff,Nat.reduceAdd,Nat.reduceLT,ite_true,ite_false,true_and,and_true,Nat.zero_add,qi0,qi1,qi2,qi3,qi4,qi5]
    refine OpS_entry (es:=encG Y) (seen:=seen) (i:=i) rfl rfl rfl (by simp [Heap.get,HL.get]) hi ?_
    rw [hea]
    try simp only [HL.del,List.length,List.getD_cons_zero,List.getD_cons_succ,List.drop,List.drop_succ_cons,List.cons_append,List.nil_append,Nat.reduceAdd,Nat.reduceLT,ite_false,true_and,BEq.rfl,Nat.zero_add,List.length_cons,qi0,qi1,qi2,qi3,qi4,qi5]
    have hvM:valG M x = (findG M x).map (·.2):=rfl
    cases hf:findG M x with
    | none =>
      rw [hf] at hmf hvM
      simp only [Option.map_none] at hmf hvM
      have e1:(([]:Str) == s) = false:=by rw [beq_eq_false_iff_ne]; rintro rfl; simp at hs16
      refine Zac (Zaa [5,7,18,28] ?_)
      simp only [Zab,Zad,Zaf,pok,pval,VA.ev,Env.get,Env.put,Env.keep,Zae,aggV,binV,Zal,strV,Zag,Zas,PV.cells,PV.nth,PV.row,lookV,Zba,mapOk,Zcc,Zbw,Heap.get,HL.get,Nat.le_refl,Nat.succ_ne_self,eqOk,ekOk,List.length,List.getD_cons_zero,List.take,List.drop,List.take_succ_cons,Nat.reduceEqDiff,Nat.reduceAdd,Nat.reduceLT,Bool.false_eq_true,Bool.true_eq_false,ite_true,ite_false,true_and,and_true,Nat.zero_add,List.length_cons,imp_self,hmf,e1,qi0,qi1,qi2,qi3,qi4,qi5]
      refine ⟨by simpa [Zcc,Zbw,Zbw.isAggP',PV.cells,eqOk,ekOk] using hko,?_⟩
      refine Zaj (b:=false) rfl (fun h=>by cases h) (fun _=>?_)
      refine Zaa [5,18] ?_
      simp only [Zab,Zad,Zaf,pok,pval,VA.ev,Env.get,Env.put,Env.keep,Zae,Zaw,aggV,Zag,Zas,PV.cells,PV.nth,PV.row,Zba,Zcc,Zbw,mapHas,mapsetV,Heap.get,Heap.set,HL.get,HL.set,HL.del,Nat.le_refl,Nat.succ_ne_self,eqOk,ekOk,List.length,List.getD_cons_zero,List.take,List.drop,List.take_succ_cons,Nat.reduceEqDiff,Nat.reduceAdd,Nat.reduceLT,Bool.true_eq_false,ite_true,ite_false,true_and,and_true,Option.some.injEq,Nat.zero_add,List.length_cons,imp_self,hpe,qi0,qi1,qi2,qi3,qi4,qi5]
      refine ⟨by simpa [Zcc,Zbw,Zbw.isAggP',PV.cells,eqOk,ekOk] using hko,?_⟩
      refine ⟨⟨((seen ++ [i],putG x [] M),t + 1),?_,hsn2,hsb2,by show t2 < t + 1; omega,?_⟩,?_⟩
      · refine hstep _ (putG_nod hL.nod) (fun z=>?_)
        rw [putG_val]
        by_cases h:x = z
        · subst h
          rw [if_pos rfl,if_pos rfl,if_neg]
          rw [← hfr,hvM,hyv]; simp
        · rw [if_neg h,if_neg h]
      · have h1:=congrArg List.length (putG_keys x [] M)
        rw [List.length_map] at h1
        show (putG x [] M).length ≤ X.length + (seen ++ [i]).length
        rw [List.length_append,List.length_singleton,h1]
        split <;> simp <;> omega
      · simp only [Nat.le_refl,List.length,true_and,and_true,Nat.zero_add,List.length_append,List.length_singleton,qi0,qi1,qi2,qi3,qi4,qi5]
        omega
    | some e =>
      rw [hf] at hmf hvM
      simp only [Option.map_some] at hmf hvM
      refine Zac (Zaa [5,7,18,28] ?_)
      by_cases hes:e.2 = s
      · have e1:(e.2 == s) = true:=by rw [beq_iff_eq]; exact hes
        simp only [Zab,Zad,Zaf,pok,pval,VA.ev,Env.get,Env.put,Env.keep,Zae,aggV,binV,Zal,strV,Zag,Zas,PV.cells,PV.nth,PV.row,lookV,Zba,mapOk,Zcc,Zbw,Heap.get,HL.get,Nat.le_refl,Nat.succ_ne_self,eqOk,ekOk,List.length,List.getD_cons_zero,List.take,List.drop,List.take_succ_cons,Nat.reduceEqDiff,Nat.reduceAdd,Nat.reduceLT,Bool.false_eq_true,Bool.true_eq_false,ite_true,ite_false,true_and,and_true,Nat.zero_add,List.length_cons,imp_self,hmf,e1,qi0,qi1,qi2,qi3,qi4,qi5]
        refine ⟨by simpa [Zcc,Zbw,Zbw.isAggP',PV.cells,eqOk,ekOk] using hko,?_⟩
        refine Zaj (b:=true) rfl (fun _=>?_) (fun h=>by cases h)
        refine Zaa [5,18] ?_
        simp only [Zab,Zad,Zaf,pok,pval,VA.ev,Env.get,Env.put,Env.keep,Zae,Zaw,aggV,Zag,Zas,PV.nth,PV.row,Heap.get,HL.get,Nat.le_refl,List.length,List.getD_cons_zero,List.take,List.drop,List.take_succ_cons,Nat.reduceEqDiff,Nat.reduceAdd,Nat.reduceLT,Bool.true_eq_false,ite_true,ite_false,true_and,and_true,Nat.zero_add,List.length_cons,imp_self,qi0,qi1,qi2,qi3,qi4,qi5]
        refine OpS_delete (es:=encG M) (kk:=.st [.i,.i,.i]) rfl rfl Tryd.underlying59 (by kernel_rfl) rfl rfl rfl (by simp [Heap.get,HL.get,show ¬ t = 2 by omega,show ¬ t2 = 2 by omega]) hko (fun h=>?_) (fun j p hj hk=>?_)
        · exfalso
          have h':Zch (.agg [pI x.act,pI x.item,pI x.n]) (encG M) = none:=h
          rw [hmf] at h'; cases h'
        · rw [encG_erase]
          have hjl:j < M.length:=by
            have:=(List.getElem?_eq_some_iff.1 hj).1
            rw [encG_len] at this; exact this
          have hpj:p = (.agg M[j].1.enc,.str M[j].2):=by
            have h2:=(List.getElem?_eq_some_iff.1 hj).2
            rw [encG_at] at h2
            exact h2.symm
          have hxj:M[j].1 = x:=by
            rw [hpj] at hk
            have h3:keyEq (.agg x.enc) (.agg M[j].1.enc) = true:=hk
            rw [keyEq_id,beq_iff_eq] at h3
            exact h3.symm
          simp only [Heap.set,HL.get,HL.set,HL.del,ite_true,ite_false,Option.some.injEq,qi0,qi1,qi2,qi3,qi4,qi5]
          refine ⟨⟨((seen ++ [i],M.eraseIdx j),t + 1),?_,hsn2,hsb2,by show t2 < t + 1; omega,?_⟩,?_⟩
          · refine hstep _ (erase_nod hL.nod j) (fun z=>?_)
            rw [erase_val hL.nod hjl,hxj]
            by_cases h:x = z
            · subst h
              rw [if_pos rfl,if_pos rfl,if_pos]
              rw [← hfr,hvM,hyv,hes]
            · rw [if_neg h,if_neg h]
          · show (M.eraseIdx j).length ≤ X.length + (seen ++ [i]).length
            have:=List.length_eraseIdx_le M j
            rw [List.length_append,List.length_singleton]
            omega
          · simp only [Nat.le_refl,List.length,true_and,and_true,Nat.zero_add,List.length_append,List.length_singleton,qi0,qi1,qi2,qi3,qi4,qi5]
            omega
      · have e1:(e.2 == s) = false:=by rw [beq_eq_false_iff_ne]; exact hes
        simp only [Zab,Zad,Zaf,pok,pval,VA.ev,Env.get,Env.put,Env.keep,Zae,aggV,binV,Zal,strV,Zag,Zas,PV.cells,PV.nth,PV.row,lookV,Zba,mapOk,Zcc,Zbw,Heap.get,HL.get,Nat.le_refl,Nat.succ_ne_self,eqOk,ekOk,List.length,List.getD_cons_zero,List.take,List.drop,List.take_succ_cons,Nat.reduceEqDiff,Nat.reduceAdd,Nat.reduceLT,Bool.false_eq_true,Bool.true_eq_false,ite_true,ite_false,true_and,and_true,Nat.zero_add,List.length_cons,imp_self,hmf,e1,qi0,qi1,qi2,qi3,qi4,qi5]
        refine ⟨by simpa [Zcc,Zbw,Zbw.isAggP',PV.cells,eqOk,ekOk] using hko,?_⟩
        refine Zaj (b:=false) rfl (fun h=>by cases h) (fun _=>?_)
        refine Zaa [5,18] ?_
        simp only [Zab,Zad,Zaf,pok,pval,VA.ev,Env.get,Env.put,Env.keep,Zae,Zaw,aggV,Zag,Zas,PV.cells,PV.nth,PV.row,Zba,Zcc,Zbw,mapHas,mapsetV,Heap.get,Heap.set,HL.get,HL.set,HL.del,Nat.le_refl,Nat.succ_ne_self,eqOk,ekOk,List.length,List.getD_cons_zero,List.take,List.drop,List.take_succ_cons,Nat.reduceEqDiff,Nat.reduceAdd,Nat.reduceLT,Bool.true_eq_false,ite_true,ite_false,true_and,and_true,Option.some.injEq,Nat.zero_add,List.length_cons,imp_self,hpe,qi0,qi1,qi2,qi3,qi4,qi5]
        refine ⟨by simpa [Zcc,Zbw,Zbw.isAggP',PV.cells,eqOk,ekOk] using hko,?_⟩
        refine ⟨⟨((seen ++ [i],putG x [] M),t + 1),?_,hsn2,hsb2,by show t2 < t + 1; omega,?_⟩,?_⟩
        · refine hstep _ (putG_nod hL.nod) (fun z=>?_)
          rw [putG_val]
          by_cases h:x = z
          · subst h
            rw [if_pos rfl,if_pos rfl,if_neg]
            rw [← hfr,hvM,hyv]
            simpa using hes
          · rw [if_neg h,if_neg h]
        · have h1:=congrArg List.length (putG_keys x [] M)
          rw [List.length_map] at h1
          show (putG x [] M).length ≤ X.length + (seen ++ [i]).length
          rw [List.length_append,List.length_singleton,h1]
          split <;> simp <;> omega
        · simp only [Nat.le_refl,List.length,true_and,and_true,Nat.zero_add,List.length_append,List.length_singleton,qi0,qi1,qi2,qi3,qi4,qi5]
          omega
end Go.Proofs.YtjmekckcffckoaaDoor.w
