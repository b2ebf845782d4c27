import Derived.Test.YthkbdabfjfffjaaGreatDoorD2
import Derived.Test.YthkbdabfjfffjaaGreatDoorShAll
import Derived.Test.YthkbdabfjfffjaaGreatDoorVmI
set_option linter.all false
namespace Go.Proofs.YthkbdabfjfffjaaGreatDoor.w
open Go Go.VM
set_option maxRecDepth 20000
set_option maxHeartbeats 0
set_option pp.deepTerms false
theorem Zc3 (i:Nat) (hi:i < 100):Zcn Tryz.prog 29 [pI i] (.str (Lib.decDigits i)):=by
  refine PCall_of (by kernel_rfl) (by intro x hx; rw [List.mem_singleton] at hx; subst hx; exact cI _) fun g w vals r ha=>?_
  obtain ⟨v,rfl,hv⟩:=args_1 ha
  obtain rfl:=hv.int_inv
  refine (Tryz.strconv_Itoa_small i hi w).mono ?_
  rintro e w' ⟨rfl,rfl⟩
  exact ⟨_,rfl,fun g=>.str _ _ (by simp),RowKit.Below.refl _ _⟩
theorem fok_Join:fnOk Tryz.prog 17 = true:=by kernel_rfl
theorem join_none (a:Option Addr) (cap:Nat) (sep:Str) (w:World):Calls Tryz.prog 17 #[.slice a 0 cap,.string ⟨sep.toArray⟩] w fun e w'=>∃ v,e = .returned v ∧ (∀ g,Rep g v (.str (Lib.join [] sep))) ∧ RowKit.Below w.heap.size w w':=by
  refine (Tryz.strings_Join_none a cap _ w).mono ?_
  rintro e w' ⟨rfl,rfl⟩
  exact ⟨_,rfl,fun g=>.str _ _ (by simp [Lib.join,List.intercalate]),RowKit.Below.refl _ _⟩
theorem join_some (l : List Str) (sep : Str) (hl : l.length ≤ 1000000) (hlen : (Lib.join l sep).length ≤ 140737488355328) (b o cap : Nat) (w : World) (hc : l.length ≤ cap) (hb : b < w.heap.size)
    (hcells:∀ (j:Nat) (x:ByteArray),(l.map fun s=>(⟨s.toArray⟩:ByteArray))[j]? = some x → w.cell? ⟨b,o + j,none⟩ = some (.string x)) :
    Calls Tryz.prog 17 #[.slice (some ⟨b,o,none⟩) (l.map fun s=>(⟨s.toArray⟩:ByteArray)).length cap,.string ⟨sep.toArray⟩] w fun e w'=>∃ v,e = .returned v ∧ (∀ g,Rep g v (.str (Lib.join l sep))) ∧ RowKit.Below w.heap.size w w':=by
  have e2:((l.map fun s=>(⟨s.toArray⟩:ByteArray)).map (·.data.toList)) = l:=by rw [List.map_map]; simp [Function.comp_def]
  generalize (l.map fun s=>(⟨s.toArray⟩:ByteArray)) = xs at hcells e2 ⊢
  have hx:xs.length = l.length:=by rw [← e2]; simp
  have hj:Lib.join (xs.map (·.data.toList)) (ByteArray.mk sep.toArray).data.toList = Lib.join l sep:=by rw [e2]
  refine (Tryz.strings_Join b o cap xs ⟨sep.toArray⟩ w hcells hb (by omega) (by omega) (by rw [hj]; exact hlen)).mono ?_
  rintro e w' ⟨rfl,hw⟩
  exact ⟨_,rfl,fun g=>.str _ _ (by rw [hj]),hw⟩
theorem sp_strings_Join (l:List Str) (sep:Str) (hl:l.length ≤ 1000000) (hlen:(Lib.join l sep).length ≤ 140737488355328):Zcn Tryz.prog 17 [It.strs l,.str sep] (.str (Lib.join l sep)):=by
  refine PCall_of fok_Join (by intro x hx; simp only [List.mem_cons,List.not_mem_nil,or_false] at hx; rcases hx with rfl | rfl; exact closed_strs _; exact cS _) ?_
  intro g w vals r ha
  obtain ⟨v,u,rfl,hv,hu⟩:=args_2 ha
  obtain ⟨s,rfl,hs⟩:=hu.str_inv
  rw [str_eq hs]
  rcases strs_cells r hv with ⟨a,cap,rfl,rfl⟩ | ⟨b,o,cap,rfl,hc,hb,hcells⟩
  · exact join_none a cap sep w
  · exact join_some l sep hl hlen b o cap w hc hb hcells
end Go.Proofs.YthkbdabfjfffjaaGreatDoor.w
namespace Go.Proofs.YthkbdabfjfffjaaGreatDoor.w
open Go Go.VM
set_option maxRecDepth 20000
set_option maxHeartbeats 0
set_option pp.deepTerms false
def Zc4:VC:=(.seq (.region [ZO 1 (.box 2 (.t 0)),ZO 2 (.mv (.c (.str [])))] false) (.seq (.region [ZO 4 (.faddr 0 (.t 1)),ZO 5 (.load false 1 (.t 4)),ZO 6 (.call 29 [(.t 5)]),ZM 3 6] false) (.seq (.block 0 (.seq (.region [ZO 8 (.faddr 1 (.t 1)),ZO 9 (.load false 1 (.t 8)),ZO 10 (.faddr 0 (.t 1)),ZO 11 (.load false 1 (.t 10)),ZO 12 (.bin .sub (.t 9) (.t 11)),ZO 13 (.bin .eql (.t 12) (.c (.int .i64 1))),ZM 7 13] false) (.cond (.t 7) (.seq (.region [ZM 14 3,ZM 2 14] false) .ret) (.seq (.region [ZO 16 (.faddr 1 (.t 1)),ZO 17 (.load false 1 (.t 16)),ZO 18 (.bin .eql (.t 17) (.c (.int .i64 1048577))),ZM 15 18] false) (.cond (.t 15) (.seq (.region [ZM 19 3,ZO 20 (.bin .add (.t 19) (.c (.str [43]))),ZM 2 20] false) .ret) .skip))))) (.seq (.region [ZM 21 3,ZO 22 (.bin .add (.t 21) (.c (.str [45]))),ZO 23 (.faddr 1 (.t 1)),ZO 24 (.load false 1 (.t 23)),ZO 25 (.bin .sub (.t 24) (.c (.int .i64 1))),ZO 26 (.call 29 [(.t 25)]),ZO 27 (.bin .add (.t 22) (.t 26)),ZM 2 27] false) .ret))))
def c_dateset_Format:VC:=(.seq (.region [ZO 2 (.mv (.c (.str [])))] false) (.seq (.region [ZO 3 (.mv (.c .nilsl))] false) (.seq (.seq (.region [ZM 6 0,ZO 7 (.call 12 [(.t 6)]),ZO 8 (.len false (.t 7)),ZO 9 (.mv (.c (.int .i64 0)))] false) (.block 0 (.loop (.seq (.region [ZO 10 (.bin .lss (.t 9) (.t 8))] false) (.seq (.cond (.t 10) .skip (.exit 0)) (.seq (.block 1 (.seq (.region [ZO 11 (.iaddr 2 (.t 7) (.t 9)),ZO 12 (.load true 2 (.t 11)),ZO 5 (.alloc [(.int .i64 0),(.int .i64 0)]),ZN (.store 2 (.t 5) (.t 12))] false) (.region [ZM 13 3,ZO 14 (.load true 2 (.t 5)),ZO 15 (.call 16 [(.t 14)]),ZO 16 (.bslice 1 1 [(.str [])] [(0,(.t 15))]),ZO 17 (.app 1 16 [(.str [])] false (.t 13) (.t 16)),ZM 3 17] false))) (.region [ZO 18 (.bin .add (.t 9) (.c (.int .i64 1))),ZM 9 18] false))))))) (.seq (.seq (.region [ZM 19 3,ZO 20 (.len false (.t 19)),ZO 21 (.bin .eql (.t 20) (.c (.int .i64 0)))] false) (.cond (.t 21) (.seq (.region [ZO 2 (.mv (.c (.str [110,101,118,101,114])))] false) .ret) .skip)) (.seq (.region [ZM 22 3,ZO 23 (.call 17 [(.t 22),(.c (.str [44]))]),ZM 2 23] false) .ret)))))
def c_pandectlaw02_awake:VC:=(.seq (.region [ZO 0 (.mv (.c (.bool false)))] false) (.seq (.region [ZO 2 (.build [(.int .i64 0),(.int .i64 0)] [(0,(1,(.c (.int .i64 5)))),(1,(1,(.c (.int .i64 9))))]),ZO 3 (.build [(.int .i64 0),(.int .i64 0)] [(0,(1,(.c (.int .i64 7)))),(1,(1,(.c (.int .i64 12))))]),ZO 4 (.build [(.int .i64 0),(.int .i64 0)] [(0,(1,(.c (.int .i64 20)))),(1,(1,(.c (.int .i64 20))))]),ZO 5 (.bslice 2 3 [(.int .i64 0),(.int .i64 0)] [(0,(.t 2)),(1,(.t 3)),(2,(.t 4))]),ZM 1 5] false) (.seq (.region [ZM 6 1,ZO 7 (.call 12 [(.t 6)]),ZO 8 (.build [(.int .i64 0),(.int .i64 0)] [(0,(1,(.c (.int .i64 5)))),(1,(1,(.c (.int .i64 12))))]),ZO 9 (.bslice 2 1 [(.int .i64 0),(.int .i64 0)] [(0,(.t 8))]),ZO 10 (.call 9 [(.t 7),(.t 9)]),ZM 11 10,ZG 12 (.mv (.t 1)) 11 true,ZG 13 (.call 6 [(.t 12)]) 11 true,ZG 14 (.bin .eql (.t 13) (.c (.str [53,45,49,49]))) 11 true,ZO 15 (.pick (.t 11) (.t 14) (.c (.bool false))),ZM 16 15,ZG 17 (.mv (.t 1)) 16 true,ZG 18 (.call 13 [(.t 17),(.c (.int .i64 8))]) 16 true,ZG 19 (.call 6 [(.t 18)]) 16 true,ZG 20 (.bin .eql (.t 19) (.c (.str [53,43]))) 16 true,ZO 21 (.pick (.t 16) (.t 20) (.c (.bool false))),ZM 22 21,ZG 23 (.mv (.t 1)) 22 true,ZG 24 (.call 14 [(.t 23),(.c (.int .i64 8))]) 22 true,ZG 25 (.call 6 [(.t 24)]) 22 true,ZG 26 (.bin .eql (.t 25) (.c (.str [53,45,55]))) 22 true,ZO 27 (.pick (.t 22) (.t 26) (.c (.bool false))),ZM 28 27,ZG 29 (.mv (.t 1)) 28 true,ZG 30 (.call 12 [(.t 29)]) 28 true,ZG 31 (.call 15 [(.t 30)]) 28 true,ZO 32 (.pick (.t 28) (.t 31) (.c (.bool false))),ZM 0 32] false) .ret)))
theorem sp_one_open (a:Nat) (A:Str) (ha:a < 100) (hA:Lib.decDigits a = A) (hl:A.length ≤ 10):Zcn Tryz.prog 16 [.agg (Sp.enc ⟨a,1048577⟩)] (.str (A ++ [43])):=by
  refine Zb6 ?_ (cS _) (by simp only [Zce,List.mem_cons,List.not_mem_nil,or_false,forall_eq_or_imp,forall_eq,false_implies,implies_true]; repeat' (first  | exact cS _ | exact closed_agg (Sp.closed _) | refine And.intro ?_ ?_))
  refine Zcc (vc:=Zc4) (ts:=[.t 2]) Go.Proofs.Tryz.func16 (by kernel_rfl) rfl rfl (Nat.le_of_ble_eq_true rfl) (by kernel_rfl) ?_
  unfold Zc4
  try dsimp only [ZM,ZO,ZN,ZG]
  refine Za9 (Zae [1] ?_)
  simp only [Zaa,Zah,Za5,pok,pval,VA.ev,Env.get,Env.put,Env.keep,Za0,Za6,PV.cells,PV.fits,Heap.push,Heap.nil,Nat.succ_ne_self,List.length,Nat.reduceAdd,ite_true,ite_false,true_and,reduceCtorEq,BEq.rfl,Nat.zero_add,Sp.enc]
  refine Za9 (Zae [1,3] ?_)
  simp only [Zaa,Zah,Za5,pok,pval,VA.ev,Env.get,Env.put,Env.keep,Za6,aggV,Za4,Za3,Zad,Zbm,PV.nth,PV.row,Heap.get,HL.get,Nat.succ_ne_self,List.map,List.length,List.getD_cons_zero,List.take,List.drop,List.take_succ_cons,Nat.reduceEqDiff,Nat.reduceAdd,Nat.reduceLT,Nat.reduceLeDiff,Bool.false_eq_true,ite_true,ite_false,true_and,and_true,implies_true,Nat.zero_add,Nat.add_zero,List.length_cons]
  refine Zb7 (Zc3 a ha) ?_
  rw [hA]
  skip
  refine Za9 ?_
  refine Zcb ?_
  refine Za9 (Zae [1,3,7] ?_)
  simp only [Zaa,Zah,Za5,pok,pval,VA.ev,Env.get,Env.put,Env.keep,Za6,aggV,intV,binV,Zbk,Za4,Za3,Zad,Zbm,PV.nth,PV.row,Heap.get,HL.get,Nat.le_refl,Nat.succ_ne_self,List.length,List.getD_cons_zero,List.take,List.drop,List.take_succ_cons,List.drop_succ_cons,Nat.reduceEqDiff,Nat.reduceAdd,Nat.reduceLT,Nat.reduceLeDiff,Bool.false_eq_true,ite_true,ite_false,true_and,and_true,implies_true,Nat.zero_add,Nat.add_zero,List.length_cons,w64 (n:=(1048577:Int) - a) (by omega) (by omega)]
  refine Zb4 rfl (fun h1=>by simp at h1; omega) (fun h1=>?_)
  refine Za9 (Zae [1,3,15] ?_)
  simp only [Zaa,Zah,Za5,pok,pval,VA.ev,Env.get,Env.put,Env.keep,Za6,aggV,intV,binV,Zbk,Za4,Za3,Zad,Zbm,PV.nth,PV.row,Heap.get,HL.get,Nat.le_refl,Nat.succ_ne_self,List.length,List.getD_cons_zero,List.take,List.drop,List.take_succ_cons,List.drop_succ_cons,Nat.reduceEqDiff,Nat.reduceLT,Bool.false_eq_true,ite_true,ite_false,true_and,and_true,implies_true,BEq.rfl,Nat.zero_add,List.length_cons]
  refine Zb4 rfl (fun h2=>?_) (fun h2=>by simp at h2)
  refine Za9 (Zae [2] ?_)
  simp only [Zaa,Zah,Za5,pok,pval,VA.ev,Env.get,Env.put,Env.keep,Za6,binV,Zbk,strV,Nat.succ_ne_self,List.length,Nat.reduceEqDiff,Nat.reduceLeDiff,ite_true,ite_false,true_and,Nat.zero_add]
  refine ⟨by omega,?_⟩
  refine Zca ?_
  try simp only [Env.get,Za6,Zay,retQ,resV,Zbl,RS.ev,RS.ok,ite_true,true_and,and_true]
  exact View.refl _ _
theorem sp_one_span (a b:Nat) (A B:Str) (ha:a < 100) (hb:b < 100) (hab:a ≠ b) (hA:Lib.decDigits a = A) (hB:Lib.decDigits b = B) (hl:A.length ≤ 10) (hm:B.length ≤ 10):Zcn Tryz.prog 16 [.agg (Sp.enc ⟨a,b + 1⟩)] (.str (A ++ [45] ++ B)):=by
  refine Zb6 ?_ (cS _) (by simp only [Zce,List.mem_cons,List.not_mem_nil,or_false,forall_eq_or_imp,forall_eq,false_implies,implies_true]; repeat' (first  | exact cS _ | exact closed_agg (Sp.closed _) | refine And.intro ?_ ?_))
  refine Zcc (vc:=Zc4) (ts:=[.t 2]) Go.Proofs.Tryz.func16 (by kernel_rfl) rfl rfl (Nat.le_of_ble_eq_true rfl) (by kernel_rfl) ?_
  unfold Zc4
  try dsimp only [ZM,ZO,ZN,ZG]
  refine Za9 (Zae [1] ?_)
  simp only [Zaa,Zah,Za5,pok,pval,VA.ev,Env.get,Env.put,Env.keep,Za0,Za6,PV.cells,PV.fits,Heap.push,Heap.nil,Nat.succ_ne_self,List.length,Nat.reduceAdd,ite_true,ite_false,true_and,reduceCtorEq,BEq.rfl,Nat.zero_add,Sp.enc]
  refine Za9 (Zae [1,3] ?_)
  simp only [Zaa,Zah,Za5,pok,pval,VA.ev,Env.get,Env.put,Env.keep,Za6,aggV,Za4,Za3,Zad,Zbm,PV.nth,PV.row,Heap.get,HL.get,Nat.succ_ne_self,List.map,List.length,List.getD_cons_zero,List.take,List.drop,List.take_succ_cons,Nat.reduceEqDiff,Nat.reduceAdd,Nat.reduceLT,Nat.reduceLeDiff,Bool.false_eq_true,ite_true,ite_false,true_and,and_true,implies_true,Nat.zero_add,Nat.add_zero,List.length_cons]
  refine Zb7 (Zc3 a ha) ?_
  rw [hA]
  skip
  refine Za9 ?_
  refine Zcb ?_
  refine Za9 (Zae [1,3,7] ?_)
  simp only [Zaa,Zah,Za5,pok,pval,VA.ev,Env.get,Env.put,Env.keep,Za6,aggV,intV,binV,Zbk,Za4,Za3,Zad,Zbm,PV.nth,PV.row,Heap.get,HL.get,Nat.le_refl,Nat.succ_ne_self,List.length,List.getD_cons_zero,List.take,List.drop,List.take_succ_cons,List.drop_succ_cons,Nat.reduceEqDiff,Nat.reduceAdd,Nat.reduceLT,Nat.reduceLeDiff,Bool.false_eq_true,ite_true,ite_false,true_and,and_true,implies_true,Nat.zero_add,Nat.add_zero,List.length_cons,w64 (n:=(b:Int) + 1 - a) (by omega) (by omega)]
  refine Zb4 rfl (fun h1=>by simp at h1; omega) (fun h1=>?_)
  refine Za9 (Zae [1,3,15] ?_)
  simp only [Zaa,Zah,Za5,pok,pval,VA.ev,Env.get,Env.put,Env.keep,Za6,aggV,intV,binV,Zbk,Za4,Za3,Zad,Zbm,PV.nth,PV.row,Heap.get,HL.get,Nat.le_refl,Nat.succ_ne_self,List.length,List.getD_cons_zero,List.take,List.drop,List.take_succ_cons,List.drop_succ_cons,Nat.reduceEqDiff,Nat.reduceLT,Bool.false_eq_true,ite_true,ite_false,true_and,and_true,implies_true,Nat.zero_add,List.length_cons]
  refine Zb4 rfl (fun h2=>by simp at h2; omega) (fun h2=>?_)
  refine Zb8 ?_
  try simp only [Za6,Zay]
  have e1:IntKind.i64.wrap ((b:Int) + 1 - 1) = (b:Int):=by rw [w64 (by omega) (by omega)]; omega
  refine Za9 (Zae [2] ?_)
  simp only [Zaa,Zah,Za5,pok,pval,VA.ev,Env.get,Env.put,Env.keep,Za6,aggV,intV,binV,Zbk,strV,Za4,Za3,Zad,Zbm,PV.nth,PV.row,Heap.get,HL.get,Nat.le_refl,Nat.succ_ne_self,List.map,List.length,List.getD_cons_zero,List.take,List.drop,List.take_succ_cons,List.drop_succ_cons,Nat.reduceEqDiff,Nat.reduceLT,Nat.reduceLeDiff,Bool.false_eq_true,ite_true,ite_false,true_and,and_true,implies_true,Nat.zero_add,List.length_cons,e1]
  refine ⟨by omega,?_⟩
  refine Zb7 (Zc3 b hb) ?_
  rw [hB]
  try simp only [List.length,Nat.zero_add,List.length_append]
  refine ⟨by omega,?_⟩
  refine Zca ?_
  try simp only [Env.get,retQ,resV,Zbl,RS.ev,RS.ok,ite_true,true_and,and_true]
  exact View.refl _ _
def never:Str:=[110,101,118,101,114]
def fmtS (f:Sp → Str) (c:List Sp):Str:=if c = [] then never else Lib.join (c.map f) [44]
theorem sp_dateset_Format_by (l : List Sp) (f : Sp → Str) (hl : l.length ≤ 10000) (hf : ∀ s ∈ Zci l, Zcn Tryz.prog 16 [.agg s.enc] (.str (f s))) (hlen : (Lib.join ((Zci l).map f) [44]).length ≤ 140737488355328) :
    Zcn Tryz.prog 6 [.sl 2 (l.map Sp.enc)] (.str (fmtS f (Zci l))):=by
  have hn:=norm_len l
  have hN:=norm_ok l (by omega)
  generalize Zci l = c at hf hlen hn hN ⊢
  refine Zb6 ?_ (cS _) (by simp only [Zce,List.mem_cons,List.not_mem_nil,or_false,forall_eq_or_imp,forall_eq,false_implies,implies_true]; repeat' (first  | exact cS _ | exact Zb9 _ | exact closed_agg (Sp.closed _) | refine And.intro ?_ ?_))
  refine Zcc (vc:=c_dateset_Format) (ts:=[.t 2]) Go.Proofs.Tryz.func6 (by kernel_rfl) rfl rfl (Nat.le_of_ble_eq_true rfl) (by kernel_rfl) ?_
  unfold c_dateset_Format
  try dsimp only [ZM,ZO,ZN,ZG]
  refine Za9 (Zae [0] ?_)
  simp only [Zaa,Zah,Za5,pok,pval,VA.ev,Env.get,Env.put,Env.keep,Za0,Za6,Heap.nil,ite_true,ite_false,true_and,reduceCtorEq]
  refine Za9 (Zae [0,3] ?_)
  simp only [Zaa,Zah,Za5,pok,pval,VA.ev,Env.get,Env.put,Env.keep,Za6,ite_true,ite_false,true_and,reduceCtorEq]
  refine VW_own0 3 1 rfl ?_
  try simp only [Env.put,Heap.push,Nat.zero_add]
  refine Za9 ?_
  refine Za9 (Zae [3,7,8,9] ?_)
  simp only [Zaa,Zah,Za5,pok,pval,VA.ev,Env.get,Env.put,Env.keep,Za6,lenV,Zbq,Nat.succ_ne_self,List.map,Nat.reduceEqDiff,Bool.false_eq_true,ite_true,ite_false,true_and,reduceCtorEq]
  refine Zb7 hN ?_
  try simp only [true_and,List.length_map]
  refine Zcb ?_
  refine Zcz (σ:={ s:Nat × Nat × Nat // s.1 ≤ c.length ∧ s.2.1 < s.2.2 }) (fun s=>([(3,.own s.1.2.1 0 s.1.1),(7,.sl 2 (c.map Sp.enc)),(8,pI c.length),(9,pI s.1.1)],⟨[(s.1.2.1,.arr false 1 ((c.take s.1.1).map fun s=>[PV.str (f s)]))],s.1.2.2⟩)) (fun s=>c.length - s.1.1) ⟨(0,0,1),by simp⟩ ?_ ?_ ?_
  · simp only [Env.get,Nat.succ_ne_self,Env.le,Nat.reduceEqDiff,ite_true,ite_false,true_and,and_true]
    rfl
  · simp only [Heap.get,Heap.le,HL.get,HL.le,Nat.le_refl,List.map,List.take,ite_true,and_true]
    try rfl
  rintro ⟨⟨k,id,n⟩,hk,hid⟩
  simp only [] at hk hid ⊢
  have qi0:(id = n) = False:=by simp; omega
  have qi1:(n = id) = False:=by simp; omega
  have qi2:∀ j,(n + j = id) = False:=fun j=>by simp; try omega
  have qi3:∀ j,(id = n + j) = False:=fun j=>by simp; try omega
  have qi4:∀ j,(n + (j + 1) = n) = False:=fun j=>by simp; try omega
  have qi5:∀ j,(n = n + (j + 1)) = False:=fun j=>by simp; try omega
  have qi6:(n + 1 + 1 = n) = False:=by simp; try omega
  have qi7:(n = n + 1 + 1) = False:=by simp; try omega
  have qi8:(n + 1 + 1 + 1 = n) = False:=by simp; try omega
  have qi9:(n = n + 1 + 1 + 1) = False:=by simp; try omega
  refine Za9 (Zae [3,7,8,9,10] ?_)
  simp only [Zaa,Zah,Za5,pok,pval,VA.ev,Env.get,Env.put,Env.keep,Za6,intV,binV,Zbk,Heap.get,Heap.le,HL.le,Nat.succ_ne_self,Env.le,Nat.reduceEqDiff,ite_true,ite_false,true_and,and_true]
  refine Za9 ?_
  refine Zb4 rfl (fun h1=>?_) (fun h1=>?_)
  · refine Zb8 ?_
    try simp only [Za6]
    simp only [decide_eq_true_eq] at h1
    have ka:k < c.length:=by omega
    have hst:(c.take (k + 1)).map (fun s=>[PV.str (f s)]) = (c.take k).map (fun s=>[PV.str (f s)]) ++ [[PV.str (f c[k])]]:=by
      rw [List.take_add_one,List.getElem?_eq_getElem ka,List.map_append]; rfl
    have hB:((c.take k).map fun s=>[PV.str (f s)]).length = k:=by simp; omega
    generalize (c.take k).map (fun s=>[PV.str (f s)]) = B at hst hB ⊢
    have tk:List.take k B = B:=List.take_of_length_le (by omega)
    have hone:=hf c[k] (List.getElem_mem ka)
    unfold Sp.enc at hone
    refine Za9 ?_
    refine Zcb ?_
    refine Za9 (Zae [3,5,7,8,9] ?_)
    simp only [Zaa,Zah,Za5,pok,pval,VA.ev,Env.get,Env.put,Env.keep,Za6,aggV,isInt,numOf,lenV,Zad,Zbm,Za1,Zak,PV.cells,PV.fits,overlay,PV.nth,PV.row,Heap.get,Heap.set,HL.get,HL.set,HL.del,Heap.push,Nat.le_refl,Nat.succ_ne_self,Zba,Zaq,List.set,List.length,List.getD_cons_zero,List.take,List.drop,List.take_succ_cons,List.drop_succ_cons,List.cons_append,List.nil_append,Nat.reduceEqDiff,Nat.reduceAdd,Nat.reduceLT,Bool.true_eq_false,ite_true,ite_false,true_and,and_true,BEq.rfl,Nat.zero_add,List.length_cons,imp_self,Int.toNat_natCast,List.length_map,rowm ka,Sp.enc,qi0,qi1,qi2,qi3,qi4,qi5,qi6,qi7,qi8,qi9]
    repeat (with_reducible refine And.intro ?_ ?_; first | omega | (with_reducible constructor <;> omega) | exact False.elim | exact True.intro)
    refine Zae [3,7,8,9] ?_
    simp only [Zaa,Zah,Za5,pok,pval,VA.ev,Env.get,Env.put,Env.keep,Za6,Zay,aggV,Zad,Zbm,PV.cells,PV.fits,PV.nth,PV.row,Heap.get,Heap.del,HL.get,HL.del,Heap.push,Nat.le_refl,Nat.succ_ne_self,Za2,Zbu,Zam,Zbv,Zaj,Zbt,Zaz,Zal,List.map,List.set,List.replicate,List.length,List.getD_cons_zero,List.take,List.drop,List.take_succ_cons,Nat.reduceEqDiff,Nat.reduceAdd,Nat.reduceLT,Nat.reduceLeDiff,Bool.true_eq_false,ite_true,ite_false,true_and,and_true,BEq.rfl,Nat.zero_add,List.length_cons,imp_self,qi0,qi1,qi2,qi3,qi4,qi5,qi6,qi7,qi8,qi9]
    refine Zb7 hone ?_
    try simp only [HL.get,HL.del,Nat.le_refl,ite_true,ite_false,true_and,and_true,tk,hB,qi0,qi1,qi2,qi3,qi4,qi5,qi6,qi7,qi8,qi9]
    refine ⟨by omega,by omega,?_⟩
    refine Zae [3,7,8,9] ?_
    simp only [Zaa,Zah,Za5,pok,pval,VA.ev,Env.get,Env.put,Env.keep,Za6,intV,binV,Zbk,HL.get,Nat.succ_ne_self,Nat.reduceEqDiff,ite_true,ite_false,true_and,qi0,qi1,qi2,qi3,qi4,qi5,qi6,qi7,qi8,qi9,w64 (n:=(k:Int) + 1) (by omega) (by omega)]
    refine ⟨⟨(k + 1,n + 2,n + 3),by simp only []; omega,by simp only []; omega⟩,?_,?_,?_⟩
    · simp
    · rw [hst]; simp
    · simp only []; omega
  · simp only [decide_eq_false_iff_not] at h1
    obtain rfl:k = c.length:=by omega
    rw [List.take_length]
    refine Zcw ?_
    try simp only [Za6,Zay,retQ,ite_true]
    refine Za9 ?_
    refine Za9 (Zae [3,21] ?_)
    simp only [Zaa,Zah,Za5,pok,pval,VA.ev,Env.get,Env.put,Env.keep,Za6,intV,binV,Zbk,lenV,Zbq,Nat.reduceEqDiff,ite_true,ite_false,true_and,qi0,qi1,qi2,qi3,qi4,qi5,qi6,qi7,qi8,qi9]
    refine Zb4 rfl (fun h2=>?_) (fun h2=>?_)
    · refine Za9 (Zae [2] ?_)
      simp only [Zaa,Zah,Za5,pok,pval,VA.ev,Env.get,Env.put,Env.keep,Za6,Nat.succ_ne_self,Nat.reduceEqDiff,ite_true,ite_false,true_and]
      refine Zca ?_
      try simp only [Env.get,Za6,retQ,resV,Zbl,RS.ev,RS.ok,ite_true,true_and,and_true]
      have e:c = []:=by simpa using h2
      have e2:fmtS f c = never:=if_pos e
      rw [e2]
      exact View.refl _ _
    refine Zb8 ?_
    try simp only [Za6]
    have e2:fmtS f c = Lib.join (c.map f) [44]:=if_neg (by rintro rfl; simp at h2)
    rw [e2]
    refine Za9 (Zae [2] ?_)
    simp only [Zaa,Zah,Za5,pok,pval,VA.ev,Env.get,Env.put,Env.keep,Za6,Nat.succ_ne_self,List.map,Nat.reduceEqDiff,ite_true,ite_false,true_and,qi0,qi1,qi2,qi3,qi4,qi5,qi6,qi7,qi8,qi9]
    refine ACall_v [It.strs (c.map f),.str [44]] ⟨?_,View.refl _ _,trivial⟩ (sp_strings_Join (c.map f) [44] (by simp; omega) hlen) (scalar_str _) ?_
    · have hv:=View.own_all (h:=⟨[(id,.arr false 1 (c.map fun s=>[PV.str (f s)]))],n⟩) (id:=id) (z:=1) (n:=c.length) (fz:=false) (es:=c.map fun s=>[PV.str (f s)]) (by simp [Heap.get,HL.get]) (by simp)
      have e3:It.strs (c.map f) = .sl 1 (c.map fun s=>[PV.str (f s)]):=by simp [It.strs]
      rw [e3]
      exact hv
    skip
    refine Zca ?_
    try simp only [Env.get,retQ,resV,Zbl,RS.ev,RS.ok,ite_true,true_and,and_true]
    exact View.refl _ _
theorem norm1:Zci [⟨5,9⟩,⟨7,12⟩,⟨20,20⟩] = [⟨5,12⟩]:=norm_eq (c:=[⟨5,12⟩]) (by simp [Canon,Zct,Zch]) fun d=>by
  simp only [Zcg,Zc0,or_false,validD,Zch]
  omega
theorem ext1:extendS [⟨5,9⟩,⟨7,12⟩,⟨20,20⟩] 8 = [⟨5,1048577⟩]:=by
  obtain ⟨h1,h2⟩:=extend_spec [⟨5,9⟩,⟨7,12⟩,⟨20,20⟩] 8
  refine Zct.unique h1 (by simp [Zct,Zch]) fun d=>?_
  rw [h2]
  simp only [Zcg,Zc0,or_false,validD,Zch]
  omega
theorem trunc1:truncS [⟨5,9⟩,⟨7,12⟩,⟨20,20⟩] 8 = [⟨5,8⟩]:=by
  obtain ⟨h1,h2⟩:=trunc_spec [⟨5,9⟩,⟨7,12⟩,⟨20,20⟩] 8
  refine Zct.unique h1 (by simp [Zct,Zch]) fun d=>?_
  rw [h2]
  simp only [Zcg,Zc0,or_false,validD,Zch]
  omega
theorem fmt_one (l:List Sp) (s:Sp) (T:Str) (hl:l.length ≤ 10000) (hn:Zci l = [s]) (h1:Zcn Tryz.prog 16 [.agg s.enc] (.str T)) (hT:T.length ≤ 100):Zcn Tryz.prog 6 [.sl 2 (l.map Sp.enc)] (.str T):=by
  have h:=sp_dateset_Format_by l (fun _=>T) hl (by rw [hn]; intro x hx; rw [List.mem_singleton] at hx; subst hx; exact h1) (by rw [hn]; simp [Lib.join,List.intercalate]; omega)
  have e:fmtS (fun _=>T) (Zci l) = T:=by
    rw [hn]
    simp [fmtS,Lib.join,List.intercalate]
  rw [e] at h
  exact h
def ex3:List Sp:=[⟨5,9⟩,⟨7,12⟩,⟨20,20⟩]
theorem awake:Zcn Tryz.prog 4 [] (.bool true):=by
  have d5:Lib.decDigits 5 = [53]:=by kernel_rfl
  have d11:Lib.decDigits 11 = [49,49]:=by kernel_rfl
  have d7:Lib.decDigits 7 = [55]:=by kernel_rfl
  have f1:=fmt_one ex3 ⟨5,12⟩ [53,45,49,49] (by decide) norm1 (sp_one_span 5 11 [53] [49,49] (by omega) (by omega) (by omega) d5 d11 (by decide) (by decide)) (by decide)
  have n2:Zci [⟨5,1048577⟩] = [⟨5,1048577⟩]:=norm_self (by simp [Canon,Zct,Zch])
  have n3:Zci [⟨5,8⟩] = [⟨5,8⟩]:=norm_self (by simp [Canon,Zct,Zch])
  have f2:=fmt_one [⟨5,1048577⟩] ⟨5,1048577⟩ [53,43] (by simp) n2 (sp_one_open 5 [53] (by omega) d5 (by decide)) (by decide)
  have f3:=fmt_one [⟨5,8⟩] ⟨5,8⟩ [53,45,55] (by simp) n3 (sp_one_span 5 7 [53] [55] (by omega) (by omega) (by omega) d5 d7 (by decide) (by decide)) (by decide)
  have hN:=norm_ok ex3 (by decide)
  have hE:=sp_dateset_ExtendFrom ex3 8 (by decide) (by have:=trunc1; unfold ex3; rw [this]; simp)
  have hT:=sp_dateset_Truncate ex3 8 (by decide)
  have hV:=sp_dateset_Valid [⟨5,12⟩] (by simp)
  have v1:Zcy [⟨5,12⟩] = true:=by decide
  unfold ex3 at f1 hN hE hT
  rw [norm1] at hN
  rw [ext1] at hE
  rw [trunc1] at hT
  rw [v1] at hV
  refine Zb6 ?_ (cB _) (by simp only [Zce,List.mem_cons,List.not_mem_nil,or_false,forall_eq_or_imp,forall_eq,false_implies,implies_true]; repeat' (first  | exact cB _ | refine And.intro ?_ ?_))
  refine Zcc (vc:=c_pandectlaw02_awake) (ts:=[.t 0]) Go.Proofs.Tryz.func4 (by kernel_rfl) rfl rfl (Nat.le_of_ble_eq_true rfl) (by kernel_rfl) ?_
  unfold c_pandectlaw02_awake
  try dsimp only [ZM,ZO,ZN,ZG]
  refine Za9 (Zae [] ?_)
  simp only [Zaa,Zah,Za5,pok,pval,VA.ev,Env.put,Env.keep,Za0,Za6,Heap.nil,true_and]
  refine Za9 (Zae [1] ?_)
  simp only [Zaa,Zah,Za5,pok,pval,VA.ev,Env.get,Env.put,Env.keep,Za6,Zbr,Zbb,PV.cells,PV.fits,overlay,Heap.push,Nat.le_refl,Nat.succ_ne_self,Zaz,Zal,List.set,List.replicate,List.length,List.take,List.drop,List.take_succ_cons,List.drop_succ_cons,List.cons_append,List.nil_append,Nat.reduceEqDiff,Nat.reduceAdd,Nat.reduceLT,Nat.reduceLeDiff,ite_true,ite_false,true_and,and_true,BEq.rfl,Nat.zero_add,List.length_cons]
  refine VW_freeze [(1,.sl 2 (List.map Sp.enc [⟨5,9⟩,⟨7,12⟩,⟨20,20⟩]))] ⟨View.own_all (fz:=false) rfl rfl,trivial⟩ ?_
  try simp only [List.map]
  refine Za9 (Zae [0] ?_)
  simp only [Zah,Za5,pok,pval,VA.ev,Env.get,Env.put,Env.keep,Za6,Zbr,Zbb,PV.cells,PV.fits,overlay,Heap.push,Nat.le_refl,Nat.succ_ne_self,Zaz,Zal,List.map,List.set,List.replicate,List.length,List.take,List.drop,List.take_succ_cons,List.drop_succ_cons,List.cons_append,List.nil_append,Nat.reduceEqDiff,Nat.reduceAdd,Nat.reduceLT,Nat.reduceLeDiff,ite_true,ite_false,true_and,and_true,BEq.rfl,Nat.zero_add,List.length_cons]
  refine Zb7 hN ?_
  simp only [List.map,Nat.reduceAdd]
  refine ACall_f [.sl 2 (List.map Sp.enc [⟨5,12⟩]),.sl 2 (List.map Sp.enc [⟨5,12⟩])] ⟨View.refl _ _,View.own_all (fz:=false) rfl rfl,trivial⟩ (Zb7 (Zc7 [⟨5,12⟩] [⟨5,12⟩] (by simp) (by simp)) ?_)
  try simp only [Zah,Za8,Za5,pok,pval,VA.ev,Env.get,Env.put,Zbn,isBool,intV,binV,Zbk,strV,Nat.succ_ne_self,List.map,Nat.reduceEqDiff,ite_true,ite_false,true_and,decide_true]
  refine Zb7 f1 ?_
  try simp only [Zah,Za8,Za5,pok,pval,VA.ev,Env.get,Env.put,Zbn,isBool,intV,binV,Zbk,strV,Nat.succ_ne_self,List.map,Nat.reduceEqDiff,ite_true,ite_false,true_and,BEq.rfl]
  refine Zb7 hE ?_
  try simp only [List.map]
  refine Zb7 f2 ?_
  try simp only [Zah,Za8,Za5,pok,pval,VA.ev,Env.get,Env.put,Zbn,isBool,intV,binV,Zbk,strV,Nat.succ_ne_self,List.map,Nat.reduceEqDiff,ite_true,ite_false,true_and,BEq.rfl]
  refine Zb7 hT ?_
  try simp only [List.map]
  refine Zb7 f3 ?_
  try simp only [Zaa,Zah,Za8,Za5,pok,pval,VA.ev,Env.get,Env.put,Zbn,isBool,Nat.succ_ne_self,List.map,Nat.reduceEqDiff,ite_true,ite_false,true_and,reduceCtorEq,BEq.rfl]
  refine Zb7 hN ?_
  try simp only [List.map]
  refine Zb7 hV ?_
  skip
  refine Zca ?_
  try simp only [Env.get,retQ,resV,Zbl,RS.ev,RS.ok,ite_true,true_and,and_true]
  exact View.refl _ _
end Go.Proofs.YthkbdabfjfffjaaGreatDoor.w
