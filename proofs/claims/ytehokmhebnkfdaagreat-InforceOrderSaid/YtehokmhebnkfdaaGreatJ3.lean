import Derived.Test.YtehokmhebnkfdaaGreatI2
import Derived.Test.YtehokmhebnkfdaaGreatH9
import Derived.Test.YtehokmhebnkfdaaGreatSs
import Derived.Test.YtehokmhebnkfdaaGreatCP1
import Derived.Test.YtehokmhebnkfdaaGreatVmS
set_option linter.all false
namespace Go.Proofs.YtehokmhebnkfdaaGreat.w
open Go Go.VM
set_option maxRecDepth 20000
set_option maxHeartbeats 0
set_option pp.deepTerms false
def c_pandectlaw29_few:VC:=(.seq (.region [ZO 2 (.mv (.c (.bool false)))] false) (.seq (.region [ZM 3 0,ZO 4 (.call 18 [(.t 3),(.c (.int .i64 30))]),ZM 2 4] false) .ret))
def c_pandectref05_Ints:VC:=(.seq (.region [ZO 4 (.mv (.c (.bool false)))] false) (.seq (.seq (.region [ZM 6 0,ZO 7 (.len false (.t 6)),ZM 8 1,ZO 9 (.len false (.t 8)),ZO 10 (.bin .neq (.t 7) (.t 9))] false) (.cond (.t 10) (.seq (.region [ZO 4 (.mv (.c (.bool false)))] false) .ret) .skip)) (.seq (.seq (.region [ZO 5 (.mv (.c (.int .i64 0)))] false) (.block 0 (.loop (.seq (.seq (.region [ZM 11 5,ZM 12 0,ZO 13 (.len false (.t 12)),ZO 14 (.bin .lss (.t 11) (.t 13))] false) (.cond (.t 14) .skip (.exit 0))) (.seq (.block 1 (.seq (.region [ZM 17 0,ZM 18 5,ZO 19 (.iaddr 1 (.t 17) (.t 18)),ZO 20 (.load false 1 (.t 19)),ZM 21 1,ZM 22 5,ZO 23 (.iaddr 1 (.t 21) (.t 22)),ZO 24 (.load false 1 (.t 23)),ZO 25 (.bin .neq (.t 20) (.t 24))] true) (.cond (.t 25) (.seq (.region [ZO 4 (.mv (.c (.bool false)))] false) .ret) .skip))) (.region [ZM 15 5,ZO 16 (.bin .add (.t 15) (.c (.int .i64 1))),ZM 5 16] false)))))) (.seq (.region [ZO 4 (.mv (.c (.bool true)))] false) .ret))))
theorem sp_pandectlaw29_few (l:List Gz) (hok:okL Gz.okZ l):PCallS Tryz.prog 10 [.sl 4 (l.map Gz.enc)] (fun p=>∃ b,p = .bool b ∧ (b = true → Nice l ∧ FewG 30 l)):=by
  refine Zdf ?_ (clo1 (Zbp _))
  refine Zaq (vc:=c_pandectlaw29_few) (ts:=[.t 2]) Go.Proofs.Tryz.func10 (by kernel_rfl) rfl rfl (Nat.le_of_ble_eq_true rfl) (by kernel_rfl) ?_
  unfold c_pandectlaw29_few
  try dsimp only [ZM,ZO,ZN,ZG]
  refine Zac (Zaa [0] ?_)
  simp only [Zab,Zad,Zaf,pok,pval,VA.ev,Env.get,Env.put,Env.keep,Za2,Zae,Heap.nil,ite_true,ite_false,true_and,reduceCtorEq]
  refine Zac (Zaa [2] ?_)
  simp only [Zab,Zad,Zaf,pok,pval,VA.ev,Env.get,Env.put,Env.keep,Zae,Nat.succ_ne_self,List.map,Nat.reduceEqDiff,ite_true,ite_false,true_and,reduceCtorEq]
  refine Zdl (sp_few28 l 30 (by omega) hok) ?_
  rintro p ⟨b,rfl,hb⟩
  skip
  refine Zar ?_
  try simp only [Env.get,retQ,resV,Zau,RS.ev,RS.ok,ite_true,true_and,and_true]
  exact ⟨_,View.refl _ _,⟨b,rfl,fun h=>⟨nice_of_few (by omega) hok (hb h),hb h⟩⟩,cB _⟩
theorem sp_pandectref05_Ints (l:List Int) (hl:l.length ≤ 1000000):Zbo Tryz.prog 25 [.sl 1 (l.map c.Zbd),.sl 1 (l.map c.Zbd)] (.bool true):=by
  refine Zam ?_ (cB _) (by simp only [Za0,List.mem_cons,List.not_mem_nil,or_false,forall_eq_or_imp,forall_eq,false_implies,implies_true]; repeat' (first  | exact cB _ | exact Zcm _ | refine And.intro ?_ ?_))
  refine Zaq (vc:=c_pandectref05_Ints) (ts:=[.t 4]) Go.Proofs.Tryz.func25 (by kernel_rfl) rfl rfl (Nat.le_of_ble_eq_true rfl) (by kernel_rfl) ?_
  unfold c_pandectref05_Ints
  try dsimp only [ZM,ZO,ZN,ZG]
  refine Zac (Zaa [0,1] ?_)
  simp only [Zab,Zad,Zaf,pok,pval,VA.ev,Env.get,Env.put,Env.keep,Za2,Zae,Heap.nil,Nat.succ_ne_self,Nat.reduceEqDiff,ite_true,ite_false,true_and,reduceCtorEq,Nat.zero_add]
  refine Zac ?_
  refine Zac (Zaa [0,1,10] ?_)
  simp only [Zab,Zad,Zaf,pok,pval,VA.ev,Env.get,Env.put,Env.keep,Zae,intV,binV,Zah,lenV,Za8,Nat.succ_ne_self,Nat.reduceEqDiff,ite_true,ite_false,true_and,reduceCtorEq,List.length_map]
  refine Zai rfl (fun h1=>by simp at h1) (fun h1=>?_)
  refine Zak ?_
  try simp only [Zae]
  refine Zac ?_
  refine Zac (Zaa [0,1,5] ?_)
  simp only [Zab,Zad,Zaf,pok,pval,VA.ev,Env.get,Env.put,Env.keep,Zae,Nat.succ_ne_self,Nat.reduceEqDiff,ite_true,ite_false,true_and,reduceCtorEq]
  refine Zaj ?_
  refine Za4 (σ:={ i:Nat // i ≤ l.length }) (fun s=>([(0,.sl 1 (l.map c.Zbd)),(1,.sl 1 (l.map c.Zbd)),(5,pI s.1)],⟨[],0⟩)) (fun s=>l.length - s.1) ⟨0,Nat.zero_le _⟩ ?_ ?_ ?_
  · simp only [Env.get,Nat.succ_ne_self,Env.le,Nat.reduceEqDiff,ite_true,ite_false,true_and,and_true,reduceCtorEq]
    rfl
  · simp only [Heap.le,HL.le,Nat.le_refl,and_true]
  rintro ⟨i,hi⟩
  simp only []
  refine Zac ?_
  refine Zac (Zaa [0,1,5,14] ?_)
  simp only [Zab,Zad,Zaf,pok,pval,VA.ev,Env.get,Env.put,Env.keep,Zae,intV,binV,Zah,lenV,Za8,Heap.le,HL.le,Nat.succ_ne_self,Env.le,Nat.reduceEqDiff,ite_true,ite_false,true_and,and_true,reduceCtorEq,List.length_map]
  refine Zai rfl (fun h2=>?_) (fun h2=>?_)
  · refine Zak ?_
    try simp only [Zae]
    simp only [decide_eq_true_eq] at h2
    have ia:i < l.length:=by omega
    refine Zac ?_
    refine Zaj ?_
    refine Zac (Zb3 [0,1,5,25] (by simp [Heap.le,Heap.get,HL.le,HL.get]) ?_)
    simp only [Zbb,Zbu,QW,dok,dval,VOp.pure,VOp.simple,VOp.det,pok,pval,VA.ev,Env.get,Env.put,Env.keep,Zae,gd,aggV,intV,binV,Zah,isInt,numOf,lenV,Zag,Zap,Zax,Zas,PV.nth,PV.row,Nat.le_refl,Nat.succ_ne_self,List.length,List.getD_cons_zero,List.take,List.take_succ_cons,Nat.reduceEqDiff,Bool.false_eq_true,ite_true,ite_false,true_and,and_true,implies_true,forall_const,reduceCtorEq,Nat.zero_add,List.length_cons,Int.toNat_natCast,List.length_map,rowm ia,c.Zbd]
    repeat (with_reducible refine And.intro ?_ ?_; first | omega | (with_reducible constructor <;> omega) | exact False.elim | exact True.intro)
    refine Zai rfl (fun h3=>by simp at h3) (fun h3=>?_)
    refine Zak ?_
    try simp only [Zae,Zal]
    refine Zaa [0,1,5] ?_
    simp only [Zab,Zad,Zaf,pok,pval,VA.ev,Env.get,Env.put,Env.keep,Zae,intV,binV,Zah,Nat.le_refl,Nat.succ_ne_self,Nat.reduceEqDiff,ite_true,ite_false,true_and,reduceCtorEq,w64 (n:=(i:Int) + 1) (by omega) (by omega)]
    refine ⟨⟨i + 1,ia⟩,?_,?_⟩
    · rfl
    · simp only []; omega
  · refine Zaz ?_
    try simp only [Zae,Zal,retQ,ite_true]
    refine Zac (Zaa [4] ?_)
    simp only [Zab,Zad,Zaf,pok,pval,VA.ev,Env.get,Env.put,Env.keep,Zae,Nat.succ_ne_self,Nat.reduceEqDiff,ite_true,ite_false,true_and,reduceCtorEq]
    refine Zar ?_
    try simp only [Env.get,retQ,resV,Zau,RS.ev,RS.ok,ite_true,true_and,and_true]
    exact View.refl _ _
end Go.Proofs.YtehokmhebnkfdaaGreat.w
namespace Go.Proofs.YtehokmhebnkfdaaGreat.w
open Go Go.VM
set_option maxRecDepth 20000
set_option maxHeartbeats 0
set_option pp.deepTerms false
def c_pandectlaw29_awake:VC:=(.seq (.region [ZO 0 (.mv (.c (.bool false)))] false) (.seq (.region [ZO 4 (.build [(.int .i64 0),(.int .i64 0),(.str [])] [(0,(1,(.c (.int .i64 1)))),(1,(1,(.c (.int .i64 10))))]),ZO 5 (.build [(.int .i64 0),.nilsl,.nilsl,(.int .i64 0),(.int .i64 0),(.int .i64 0),(.int .i64 0),(.int .i64 0),(.int .i64 0),(.str []),.nilsl,.nilsl,.nilsl,.nilsl,.nilsl,(.str []),(.str []),(.int .i64 0),(.int .i64 0),(.str []),(.int .i64 0),(.int .i64 0),(.int .i64 0),(.str []),.nilsl] [(0,(1,(.c (.int .i64 1))))]),ZO 6 (.bslice 25 1 [(.int .i64 0),.nilsl,.nilsl,(.int .i64 0),(.int .i64 0),(.int .i64 0),(.int .i64 0),(.int .i64 0),(.int .i64 0),(.str []),.nilsl,.nilsl,.nilsl,.nilsl,.nilsl,(.str []),(.str []),(.int .i64 0),(.int .i64 0),(.str []),(.int .i64 0),(.int .i64 0),(.int .i64 0),(.str []),.nilsl] [(0,(.t 5))]),ZO 7 (.build [(.int .i64 0),(.str []),(.int .i64 0),(.int .i64 0),(.int .i64 0),(.str []),.nilsl] [(0,(1,(.c (.int .i64 1)))),(3,(3,(.t 4))),(6,(1,(.t 6)))]),ZO 1 (.alloc [(.int .i64 0),(.str []),(.int .i64 0),(.int .i64 0),(.int .i64 0),(.str []),.nilsl]),ZN (.store 7 (.t 1) (.t 7))] false) (.seq (.region [ZO 8 (.build [(.int .i64 0),.nilsl,.nilsl,(.int .i64 0),(.int .i64 0),(.int .i64 0),(.int .i64 0),(.int .i64 0),(.int .i64 0),(.str []),.nilsl,.nilsl,.nilsl,.nilsl,.nilsl,(.str []),(.str []),(.int .i64 0),(.int .i64 0),(.str []),(.int .i64 0),(.int .i64 0),(.int .i64 0),(.str []),.nilsl] [(0,(1,(.c (.int .i64 8)))),(20,(1,(.c (.int .i64 1)))),(21,(1,(.c (.int .i64 (-1))))),(22,(1,(.c (.int .i64 20))))]),ZO 9 (.bslice 25 1 [(.int .i64 0),.nilsl,.nilsl,(.int .i64 0),(.int .i64 0),(.int .i64 0),(.int .i64 0),(.int .i64 0),(.int .i64 0),(.str []),.nilsl,.nilsl,.nilsl,.nilsl,.nilsl,(.str []),(.str []),(.int .i64 0),(.int .i64 0),(.str []),(.int .i64 0),(.int .i64 0),(.int .i64 0),(.str []),.nilsl] [(0,(.t 8))]),ZO 10 (.build [(.int .i64 0),(.str []),(.int .i64 0),(.int .i64 0),(.int .i64 0),(.str []),.nilsl] [(0,(1,(.c (.int .i64 2)))),(2,(1,(.c (.int .i64 1)))),(6,(1,(.t 9)))]),ZO 2 (.alloc [(.int .i64 0),(.str []),(.int .i64 0),(.int .i64 0),(.int .i64 0),(.str []),.nilsl]),ZN (.store 7 (.t 2) (.t 10))] false) (.seq (.region [ZO 11 (.load true 7 (.t 1)),ZO 12 (.load true 7 (.t 2)),ZO 13 (.bslice 7 2 [(.int .i64 0),(.str []),(.int .i64 0),(.int .i64 0),(.int .i64 0),(.str []),.nilsl] [(0,(.t 11)),(1,(.t 12))]),ZO 14 (.build [(.int .i64 0),(.int .i64 0),(.str []),.nilsl] [(3,(1,(.t 13)))]),ZO 3 (.alloc [(.int .i64 0),(.int .i64 0),(.str []),.nilsl]),ZN (.store 4 (.t 3) (.t 14))] false) (.seq (.region [ZO 15 (.load true 4 (.t 3)),ZO 16 (.bslice 4 1 [(.int .i64 0),(.int .i64 0),(.str []),.nilsl] [(0,(.t 15))]),ZO 17 (.call 26 [(.t 16)]),ZO 18 (.bslice 1 3 [(.int .i64 0)] [(0,(.c (.int .i64 0))),(1,(.c (.int .i64 10))),(2,(.c (.int .i64 20)))]),ZO 19 (.call 25 [(.t 17),(.t 18)]),ZM 20 19,ZG 21 (.load true 4 (.t 3)) 20 true,ZG 22 (.bslice 4 1 [(.int .i64 0),(.int .i64 0),(.str []),.nilsl] [(0,(.t 21))]) 20 true,ZG 23 (.call 11 [(.c (.int .i64 9)),(.c (.str [])),(.t 22)]) 20 true,ZG 24 (.len false (.t 23)) 20 true,ZG 25 (.bin .eql (.t 24) (.c (.int .i64 0))) 20 true,ZO 26 (.pick (.t 20) (.t 25) (.c (.bool false))),ZM 27 26,ZG 28 (.load true 4 (.t 3)) 27 true,ZG 29 (.bslice 4 1 [(.int .i64 0),(.int .i64 0),(.str []),.nilsl] [(0,(.t 28))]) 27 true,ZG 30 (.call 11 [(.c (.int .i64 10)),(.c (.str [])),(.t 29)]) 27 true,ZG 31 (.len false (.t 30)) 27 true,ZG 32 (.bin .eql (.t 31) (.c (.int .i64 1))) 27 true,ZO 33 (.pick (.t 27) (.t 32) (.c (.bool false))),ZM 0 33] false) .ret)))))
def itK (kind act item day:Int):It:=.mk kind [] [] 0 0 (.mk 0 0 0 0 [] [] [] []) [] [] [] [] ⟨0,0,[]⟩ act item day [] []
def rawK (kind act item day:Int):List PV:=[pI kind,.nilsl,.nilsl,pI 0,pI 0,pI 0,pI 0,pI 0,pI 0,.str [],.nilsl,.nilsl,.nilsl,.nilsl,.nilsl,.str [],.str [],pI 0,pI 0,.str [],pI act,pI item,pI day,.str [],.nilsl]
def CellsV (h:Heap):List PV → List PV → Prop
  | [],[]=>True
  | a :: r,b :: q=>View h a b ∧ CellsV h r q
  | _,_=>False
theorem CellsV.at {h:Heap}:∀ {l q:List PV},CellsV h l q → ∀ j,View h (PV.nth l j) (PV.nth q j)
  | [],[],_,j=>View.refl _ _
  | a :: r,b :: q,hv,0=>hv.1
  | a :: r,b :: q,hv,j + 1=>by
    have:=CellsV.at hv.2 j
    simpa [PV.nth] using this
theorem CellsV.len {h:Heap}:∀ {l q:List PV},CellsV h l q → l.length = q.length
  | [],[],_=>rfl
  | a :: r,b :: q,hv=>by simp [CellsV.len hv.2]
  | [],_ :: _,hv=>hv.elim
  | _ :: _,[],hv=>hv.elim
theorem rawK_view (h:Heap) (kind act item day:Int):CellsV h (rawK kind act item day) (itK kind act item day).enc:=by
  rw [It.Zcl]
  refine ⟨View.refl _ _,View.nil _ _,View.nil _ _,View.refl _ _,View.refl _ _,View.refl _ _,View.refl _ _,View.refl _ _,View.refl _ _,View.refl _ _,View.nil _ _,View.nil _ _,View.nil _ _,View.nil _ _,View.nil _ _,View.refl _ _,View.refl _ _,View.refl _ _,View.refl _ _,View.refl _ _,View.refl _ _,View.refl _ _,View.refl _ _,View.refl _ _,View.nil _ _,trivial⟩
theorem rows_view {h:Heap} {id n z:Nat} {fz:Bool} {es q:List (List PV)} (hg:h.get id = some (.arr fz z es)) (hn:n = es.length) (hq:q.length = n) (hz:∀ i,i < n → (PV.row q i).length = z) (hv:∀ i,i < n → CellsV h (PV.row es i) (PV.row q i)):View h (.own id 0 n) (.sl z q) :=
  View.ownV hg (by omega) hq hz (fun i j hi _=>by rw [Nat.zero_add]; exact CellsV.at (hv i hi) j)
def acA:Ac:=⟨1,[],0,⟨1,10,[]⟩,[itK 1 0 0 0]⟩
def acB:Ac:=⟨2,[],1,⟨0,0,[]⟩,[itK 8 1 (-1) 20]⟩
def gzA:Gz:=⟨0,0,[],[acA,acB]⟩
def dA:EI:=⟨1,0,0,itK 1 0 0 0⟩
def dB:EI:=⟨2,0,1,itK 8 1 (-1) 20⟩
theorem awActs:Zbr (rowG [gzA]) = [acA,acB]:=by rfl
theorem awDeeds:dds [gzA] = [dA,dB]:=by rfl
theorem awChg:chgS [gzA] = [dA]:=by unfold chgS; rw [awDeeds]; rfl
theorem extend10:c.Zce [] 10 = [⟨10,1048577⟩]:=by
  obtain ⟨h1,h2⟩:=c.Zd0 [] 10
  refine c.sp_ext h1 (by simp [Canon,Zcd,Zbv]) fun d=>(h2 d).trans ?_
  rw [c.mem_one]
  simp [Zcv,validD,Zbv]
  omega
theorem trunc20:c.truncS [⟨10,1048577⟩] 20 = [⟨10,20⟩]:=by
  obtain ⟨h1,h2⟩:=c.trunc_spec [⟨10,1048577⟩] 20
  refine c.sp_ext h1 (by simp [Canon,Zcd,Zbv]) fun d=>(h2 d).trans ?_
  rw [c.mem_one,c.mem_one]
  simp [validD,Zbv]
  omega
theorem awDays:Zcj [gzA] dA = [⟨10,20⟩]:=by
  unfold Zcj
  rw [awDeeds,awActs,show startA [acA,acB] dA.act = ⟨1,10,[]⟩ from rfl]
  unfold c.Zc7
  rw [if_neg (by decide)]
  have e1:c.Zds (c.ruleS ⟨1,10,[]⟩ dA.it.start) [dA,dB] = c.Zce [] 10:=by
    rw [show c.ruleS ⟨1,10,[]⟩ dA.it.start = ⟨1,10,[]⟩ from rfl]; rfl
  rw [e1,extend10]
  simp only [List.foldl_cons,List.foldl_nil]
  rw [show c.Zd1 dA.act dA.item [⟨10,1048577⟩] dA = [⟨10,1048577⟩] from rfl]
  rw [show c.Zd1 dA.act dA.item [⟨10,1048577⟩] dB = c.truncS [⟨10,1048577⟩] 20 from rfl,trunc20]
theorem awBreaks:bpS [gzA] = [0,10,20]:=by
  unfold bpS Zci
  rw [awChg]
  simp only [List.flatMap_cons,List.flatMap_nil,List.append_nil]
  rw [awDays,show c.edges [⟨10,20⟩] = [10,20] from rfl]
  have:c.Zd5 [0,10,20] = [0,10,20]:=List.mergeSort_of_pairwise (by decide)
  rw [this]; rfl
theorem awOn9:onS [gzA] 9 [] = []:=by
  unfold onS
  rw [awChg]
  simp only [List.filter_cons,List.filter_nil]
  unfold onB
  rw [awDays]; rfl
theorem awOn10:onS [gzA] 10 [] = [dA]:=by
  unfold onS
  rw [awChg]
  simp only [List.filter_cons,List.filter_nil]
  unfold onB
  rw [awDays]; rfl
theorem awSmal:Smal [gzA]:=⟨by decide,by decide,by rw [awActs]; decide⟩
theorem aw100:(dds [gzA]).length ≤ 100:=by rw [awDeeds]; decide
theorem awake:Zbo Tryz.prog 9 [] (.bool true):=by
  refine Zam ?_ (cB _) (by simp only [Za0,List.mem_cons,List.not_mem_nil,or_false,forall_eq_or_imp,forall_eq,false_implies,implies_true]; repeat' (first  | exact cB _ | refine And.intro ?_ ?_))
  refine Zaq (vc:=c_pandectlaw29_awake) (ts:=[.t 0]) Go.Proofs.Tryz.func9 (by kernel_rfl) rfl rfl (Nat.le_of_ble_eq_true rfl) (by kernel_rfl) ?_
  unfold c_pandectlaw29_awake
  try dsimp only [ZM,ZO,ZN,ZG]
  refine Zac (Zaa [] ?_)
  simp only [Zab,Zad,Zaf,pok,pval,VA.ev,Env.put,Env.keep,Za2,Zae,Heap.nil,true_and]
  refine Zac (Zaa [1] ?_)
  simp only [Zab,Zad,Zaf,pok,pval,VA.ev,Env.get,Env.put,Env.keep,Zae,Zcu,Zcb,PV.cells,PV.fits,overlay,PV.row,Heap.get,Heap.set,HL.get,HL.set,HL.del,Heap.push,Nat.le_refl,Nat.succ_ne_self,Zbj,Zbf,Zbh,Za9,List.set,List.replicate,List.length,List.getD_cons_zero,List.take,List.drop,List.take_succ_cons,List.drop_succ_cons,List.cons_append,List.nil_append,Nat.reduceEqDiff,Nat.reduceAdd,Nat.reduceLT,Nat.reduceLeDiff,ite_true,ite_false,true_and,and_true,reduceCtorEq,BEq.rfl,Nat.zero_add,List.length_cons]
  refine Zac (Zaa [1,2] ?_)
  simp only [Zab,Zad,Zaf,pok,pval,VA.ev,Env.get,Env.put,Env.keep,Zae,Zcu,Zcb,PV.cells,PV.fits,overlay,PV.row,Heap.get,Heap.set,HL.get,HL.set,HL.del,Heap.push,Nat.le_refl,Nat.succ_ne_self,Zbj,Zbf,Zbh,Za9,List.set,List.replicate,List.length,List.getD_cons_zero,List.take,List.drop,List.take_succ_cons,List.drop_succ_cons,List.cons_append,List.nil_append,Nat.reduceEqDiff,Nat.reduceAdd,Nat.reduceLT,Nat.reduceLeDiff,ite_true,ite_false,true_and,and_true,reduceCtorEq,BEq.rfl,Nat.zero_add,List.length_cons]
  refine Zac (Zaa [3] ?_)
  simp only [Zab,Zad,Zaf,pok,pval,VA.ev,Env.get,Env.put,Env.keep,Zae,aggV,Zag,Zap,Zcu,Zcb,PV.cells,PV.fits,overlay,PV.nth,PV.row,Heap.get,Heap.set,HL.get,HL.set,HL.del,Heap.push,Nat.le_refl,Nat.succ_ne_self,Zbj,Zbf,Zbh,Za9,List.set,List.replicate,List.length,List.getD_cons_zero,List.take,List.drop,List.take_succ_cons,List.drop_succ_cons,List.cons_append,List.nil_append,Nat.reduceEqDiff,Nat.reduceAdd,Nat.reduceLT,Bool.true_eq_false,ite_true,ite_false,true_and,and_true,reduceCtorEq,BEq.rfl,Nat.zero_add,List.length_cons,imp_self]
  refine VW_freeze [(3,.ro gzA.enc)] ⟨?_,trivial⟩ ?_
  · refine View.locV (es:=[[pI 0,pI 0,.str [],.own 4 0 2]]) (z:=4) (fz:=false) (by simp [Heap.get,HL.get,pI]) (by decide) (by decide) (fun j hj=>?_)
    rw [Nat.zero_add]
    refine CellsV.at (l:=[pI 0,pI 0,.str [],.own 4 0 2]) (q:=gzA.enc) ⟨View.refl _ _,View.refl _ _,View.refl _ _,?_,trivial⟩ j
    refine rows_view (es:=[[pI 1,.str [],pI 0,pI 1,pI 10,.str [],.own 0 0 1],[pI 2,.str [],pI 1,pI 0,pI 0,.str [],.own 2 0 1]]) (fz:=false) (by simp [Heap.get,HL.get,pI]) rfl rfl (fun i hi=>?_) (fun i hi=>?_)
    · match i,hi with
      | 0,_=>rfl
      | 1,_=>rfl
    · match i,hi with
      | 0,_ =>
        refine ⟨View.refl _ _,View.refl _ _,View.refl _ _,View.refl _ _,View.refl _ _,View.refl _ _,?_,trivial⟩
        refine rows_view (es:=[rawK 1 0 0 0]) (fz:=false) (by simp [Heap.get,HL.get,pI,rawK]) rfl rfl (fun i hi=>?_) (fun i hi=>?_)
        · match i,hi with
          | 0,_=>exact It.Zby _
        · match i,hi with
          | 0,_=>exact rawK_view _ _ _ _ _
      | 1,_ =>
        refine ⟨View.refl _ _,View.refl _ _,View.refl _ _,View.refl _ _,View.refl _ _,View.refl _ _,?_,trivial⟩
        refine rows_view (es:=[rawK 8 1 (-1) 20]) (fz:=false) (by simp [Heap.get,HL.get,pI,rawK]) rfl rfl (fun i hi=>?_) (fun i hi=>?_)
        · match i,hi with
          | 0,_=>exact It.Zby _
        · match i,hi with
          | 0,_=>exact rawK_view _ _ _ _ _
  have gt:gzA.enc.take 4 = gzA.enc:=rfl
  have gl:gzA.enc.length = 4:=rfl
  refine Zac (Zaa [0] ?_)
  simp only [Zad,Zaf,pok,pval,VA.ev,Env.get,Env.put,Env.keep,Zae,aggV,Zag,Zap,PV.cells,PV.fits,PV.nth,Heap.push,Nat.le_refl,Nat.succ_ne_self,Zbj,Zbf,List.map,List.set,List.replicate,Nat.reduceEqDiff,Nat.reduceAdd,Nat.reduceLT,Bool.true_eq_false,ite_true,ite_false,true_and,and_true,BEq.rfl,imp_self,gt,gl]
  refine ACall_f [.sl 4 [gzA.enc]] ⟨View.own_all (fz:=false) (by simp [Heap.get,HL.get]) rfl,trivial⟩ (Zat (sp_inforce_Breakpoints [gzA] awSmal aw100) ?_)
  rw [awBreaks]
  try simp only [List.map,Nat.reduceAdd,gt,gl]
  refine ACall_v [.sl 1 ([0,10,20].map c.Zbd),.sl 1 ([0,10,20].map c.Zbd)] ⟨View.refl _ _,View.own_all (fz:=false) (by simp [Heap.get,HL.get,c.Zbd,pI]) rfl,trivial⟩ (sp_pandectref05_Ints [0,10,20] (by decide)) (Zdx _) ?_
  try simp only [Zad,Za6,Zaf,pok,pval,VA.ev,Env.get,Env.put,Za1,isBool,aggV,intV,binV,Zah,lenV,Zag,Zap,Za8,PV.cells,PV.fits,PV.nth,Heap.push,Nat.le_refl,Nat.succ_ne_self,Zbj,Zbf,List.map,List.set,List.replicate,Nat.reduceEqDiff,Nat.reduceAdd,Nat.reduceLT,Bool.false_eq_true,Bool.true_eq_false,ite_true,ite_false,true_and,and_true,BEq.rfl,imp_self,gt,gl]
  refine ACall_f [pI 9,.str [],.sl 4 [gzA.enc]] ⟨View.refl _ _,View.refl _ _,View.own_all (fz:=false) (by simp [Heap.get,HL.get]) rfl,trivial⟩ (Zat (sp_inforce_On 9 [] [gzA] awSmal (Nat.le_trans aw100 (by omega))) ?_)
  rw [awOn9]
  have z0:(((0:Nat):Int) == 0) = true:=rfl
  have z1:(((1:Nat):Int) == 1) = true:=rfl
  have z2:(((0 + 1:Nat):Int) == 1) = true:=rfl
  try simp only [Zab,Zad,Za6,Zaf,pok,pval,VA.ev,Env.get,Env.put,Za1,isBool,aggV,intV,binV,Zah,lenV,Zag,Zap,Za8,PV.cells,PV.fits,PV.nth,Heap.push,Nat.le_refl,Nat.succ_ne_self,Zbj,Zbf,List.map,List.set,List.replicate,Nat.reduceEqDiff,Nat.reduceAdd,Nat.reduceLT,Bool.false_eq_true,Bool.true_eq_false,ite_true,ite_false,true_and,and_true,reduceCtorEq,BEq.rfl,List.length_nil,imp_self,gt,gl,z0]
  refine ACall_f [pI 10,.str [],.sl 4 [gzA.enc]] ⟨View.refl _ _,View.refl _ _,View.own_all (fz:=false) (by simp [Heap.get,HL.get]) rfl,trivial⟩ (Zat (sp_inforce_On 10 [] [gzA] awSmal (Nat.le_trans aw100 (by omega))) ?_)
  rw [awOn10]
  try simp only [List.map,List.length,true_and,Nat.zero_add,List.length_cons,gt,gl,z1,z2]
  refine Zar ?_
  try simp only [Env.get,retQ,resV,Zau,RS.ev,RS.ok,ite_true,true_and,and_true]
  exact View.refl _ _
end Go.Proofs.YtehokmhebnkfdaaGreat.w
