import Derived.Test.YtehokmhebnkfdaaGreatTr
import Derived.Test.YtehokmhebnkfdaaGreatJ3
import Derived.Test.YtehokmhebnkfdaaGreatH11
set_option linter.all false
namespace Go.Proofs.YtehokmhebnkfdaaGreat.w
open Go Go.VM
set_option maxRecDepth 20000
set_option maxHeartbeats 0
set_option pp.deepTerms false
def Zdi:VC:=(.seq (.region [ZO 10 (.mv (.c (.bool false)))] false) (.seq (.seq (.region [ZO 20 (.call 9 []),ZO 21 (.un .not (.t 20))] false) (.cond (.t 21) (.seq (.region [ZO 10 (.mv (.c (.bool false)))] false) .ret) .skip)) (.seq (.seq (.region [ZM 22 0,ZO 23 (.call 18 [(.t 22),(.c (.int .i64 24))]),ZO 24 (.un .not (.t 23)),ZM 25 24,ZG 26 (.mv (.t 2)) 25 false,ZG 27 (.bin .lss (.t 26) (.c (.int .i64 0))) 25 false,ZO 28 (.pick (.t 25) (.c (.bool true)) (.t 27)),ZM 29 28,ZG 30 (.mv (.t 2)) 29 false,ZG 31 (.bin .gtr (.t 30) (.c (.int .i64 1048576))) 29 false,ZO 32 (.pick (.t 29) (.c (.bool true)) (.t 31)),ZM 33 32,ZG 34 (.mv (.t 0)) 33 false,ZG 35 (.call 19 [(.t 34)]) 33 false,ZG 36 (.un .not (.t 35)) 33 false,ZO 37 (.pick (.t 33) (.c (.bool true)) (.t 36))] false) (.cond (.t 37) (.seq (.region [ZO 10 (.mv (.c (.bool true)))] false) .ret) .skip)) (.seq (.region [ZM 38 3,ZO 39 (.bin .rem (.t 38) (.c (.int .u8 3))),ZO 40 (.conv .i64 (.t 39)),ZO 41 (.bin .add (.c (.int .i64 7)) (.t 40)),ZM 42 1,ZM 43 2,ZO 44 (.build [(.int .i64 0),.nilsl,.nilsl,(.int .i64 0),(.int .i64 0),(.int .i64 0),(.int .i64 0),(.int .i64 0),(.int .i64 0),(.str []),.nilsl,.nilsl,.nilsl,.nilsl,.nilsl,(.str []),(.str []),(.int .i64 0),(.int .i64 0),(.str []),(.int .i64 0),(.int .i64 0),(.int .i64 0),(.str []),.nilsl] [(0,(1,(.t 41))),(20,(1,(.t 42))),(21,(1,(.c (.int .i64 (-1))))),(22,(1,(.t 43)))]),ZO 45 (.bslice 25 1 [(.int .i64 0),.nilsl,.nilsl,(.int .i64 0),(.int .i64 0),(.int .i64 0),(.int .i64 0),(.int .i64 0),(.int .i64 0),(.str []),.nilsl,.nilsl,.nilsl,.nilsl,.nilsl,(.str []),(.str []),(.int .i64 0),(.int .i64 0),(.str []),(.int .i64 0),(.int .i64 0),(.int .i64 0),(.str []),.nilsl] [(0,(.t 44))]),ZO 46 (.build [(.int .i64 0),(.str []),(.int .i64 0),(.int .i64 0),(.int .i64 0),(.str []),.nilsl] [(0,(1,(.c (.int .i64 1099511627776)))),(2,(1,(.c (.int .i64 1099511627776)))),(6,(1,(.t 45)))]),ZO 11 (.alloc [(.int .i64 0),(.str []),(.int .i64 0),(.int .i64 0),(.int .i64 0),(.str []),.nilsl]),ZN (.store 7 (.t 11) (.t 46))] false) (.seq (.region [ZM 47 0,ZO 48 (.call 20 [(.t 47)]),ZM 12 48] false) (.seq (.seq (.region [ZO 13 (.mv (.c (.int .i64 0)))] false) (.block 0 (.loop (.seq (.seq (.region [ZM 49 13,ZM 50 12,ZO 51 (.len false (.t 50)),ZO 52 (.bin .lss (.t 49) (.t 51))] false) (.cond (.t 52) .skip (.exit 0))) (.seq (.block 1 (.seq (.region [ZM 55 12,ZM 56 13,ZO 57 (.iaddr 7 (.t 55) (.t 56)),ZO 58 (.faddr 2 (.t 57)),ZO 59 (.load false 1 (.t 58)),ZO 60 (.bin .geq (.t 59) (.c (.int .i64 1099511627776))),ZM 61 60,ZG 62 (.mv (.t 12)) 61 false,ZG 63 (.mv (.t 13)) 61 false,ZG 64 (.iaddr 7 (.t 62) (.t 63)) 61 false,ZG 65 (.faddr 0 (.t 64)) 61 false,ZG 66 (.load false 1 (.t 65)) 61 false,ZG 67 (.bin .geq (.t 66) (.c (.int .i64 1099511627776))) 61 false,ZO 68 (.pick (.t 61) (.c (.bool true)) (.t 67))] false) (.cond (.t 68) (.seq (.region [ZO 10 (.mv (.c (.bool true)))] false) .ret) .skip))) (.region [ZM 53 13,ZO 54 (.bin .add (.t 53) (.c (.int .i64 1))),ZM 13 54] false)))))) (.seq (.draw2 [ZO 69 (.fx (.mk0 4) []),ZM 70 0,ZO 71 (.app 4 56 [(.int .i64 0),(.int .i64 0),(.str []),.nilsl] false (.t 69) (.t 70)),ZO 72 (.load true 7 (.t 11)),ZO 73 (.bslice 7 1 [(.int .i64 0),(.str []),(.int .i64 0),(.int .i64 0),(.int .i64 0),(.str []),.nilsl] [(0,(.t 72))]),ZO 74 (.build [(.int .i64 0),(.int .i64 0),(.str []),.nilsl] [(3,(1,(.t 73)))]),ZO 75 (.bslice 4 1 [(.int .i64 0),(.int .i64 0),(.str []),.nilsl] [(0,(.t 74))]),ZO 76 (.app 4 56 [(.int .i64 0),(.int .i64 0),(.str []),.nilsl] false (.t 71) (.t 75)),ZM 14 76] [false,false,false,false,false,false,false,false,false]) (.seq (.region [ZM 77 0,ZO 78 (.call 21 [(.t 77)]),ZM 15 78] false) (.seq (.seq (.region [ZO 16 (.mv (.c (.int .i64 0)))] false) (.block 2 (.loop (.seq (.seq (.region [ZM 79 16,ZM 80 15,ZO 81 (.len false (.t 80)),ZO 82 (.bin .lss (.t 79) (.t 81))] false) (.cond (.t 82) .skip (.exit 2))) (.seq (.block 3 (.seq (.region [ZM 85 15,ZM 86 16,ZO 87 (.iaddr 28 (.t 85) (.t 86)),ZO 88 (.faddr 0 (.t 87)),ZO 89 (.load false 1 (.t 88)),ZM 90 15,ZM 91 16,ZO 92 (.iaddr 28 (.t 90) (.t 91)),ZO 93 (.faddr 1 (.t 92)),ZO 94 (.load false 1 (.t 93)),ZM 95 0,ZO 96 (.call 16 [(.t 89),(.t 94),(.t 95)]),ZM 97 15,ZM 98 16,ZO 99 (.iaddr 28 (.t 97) (.t 98)),ZO 100 (.faddr 0 (.t 99)),ZO 101 (.load false 1 (.t 100)),ZM 102 15,ZM 103 16,ZO 104 (.iaddr 28 (.t 102) (.t 103)),ZO 105 (.faddr 1 (.t 104)),ZO 106 (.load false 1 (.t 105)),ZM 107 14,ZO 108 (.call 16 [(.t 101),(.t 106),(.t 107)]),ZM 17 96,ZM 18 108] true) (.seq (.seq (.region [ZM 109 15,ZM 110 16,ZO 111 (.iaddr 28 (.t 109) (.t 110)),ZO 112 (.faddr 0 (.t 111)),ZO 113 (.load false 1 (.t 112)),ZM 114 1,ZO 115 (.bin .neq (.t 113) (.t 114))] false) (.cond (.t 115) (.seq (.seq (.region [ZM 116 17,ZM 117 18,ZO 118 (.call 15 [(.t 116),(.t 117)]),ZO 119 (.un .not (.t 118))] false) (.cond (.t 119) (.seq (.region [ZO 10 (.mv (.c (.bool false)))] false) .ret) .skip)) (.exit 3)) .skip)) (.seq (.region [ZM 120 18,ZM 121 4,ZO 122 (.call 22 [(.t 120),(.t 121)]),ZM 19 122] false) (.seq (.region [ZM 123 4,ZO 124 (.bin .geq (.t 123) (.c (.int .i64 0))),ZM 125 124,ZG 126 (.mv (.t 4)) 125 true,ZG 127 (.mv (.t 2)) 125 true,ZG 128 (.bin .lss (.t 126) (.t 127)) 125 true,ZO 129 (.pick (.t 125) (.t 128) (.c (.bool false))),ZM 130 129,ZG 131 (.mv (.t 19)) 130 true,ZG 132 (.mv (.t 17)) 130 true,ZG 133 (.mv (.t 4)) 130 true,ZG 134 (.call 22 [(.t 132),(.t 133)]) 130 true,ZG 135 (.binb .neq (.t 131) (.t 134)) 130 true,ZO 136 (.pick (.t 130) (.t 135) (.c (.bool false))),ZM 137 136,ZG 138 (.mv (.t 4)) 137 false,ZG 139 (.mv (.t 2)) 137 false,ZG 140 (.bin .geq (.t 138) (.t 139)) 137 false,ZG 141 (.mv (.t 140)) 137 false,ZG 142 (.mv (.t 4)) 141 true,ZG 143 (.bin .leq (.t 142) (.c (.int .i64 1048576))) 141 true,ZG 144 (.pick (.t 141) (.t 143) (.c (.bool false))) 137 false,ZG 145 (.mv (.t 144)) 137 false,ZG 146 (.mv (.t 19)) 145 true,ZG 147 (.mv (.t 3)) 145 true,ZG 148 (.bin .rem (.t 147) (.c (.int .u8 3))) 145 true,ZG 149 (.bin .neq (.t 148) (.c (.int .u8 1))) 145 true,ZG 150 (.binb .neq (.t 146) (.t 149)) 145 true,ZG 151 (.pick (.t 145) (.t 150) (.c (.bool false))) 137 false,ZO 152 (.pick (.t 137) (.c (.bool true)) (.t 151))] false) (.cond (.t 152) (.seq (.region [ZO 10 (.mv (.c (.bool false)))] false) .ret) .skip)))))) (.region [ZM 83 16,ZO 84 (.bin .add (.t 83) (.c (.int .i64 1))),ZM 16 84] false)))))) (.seq (.region [ZO 10 (.mv (.c (.bool true)))] false) .ret))))))))))
def ordA (k act day:Int):Ac:=⟨1099511627776,[],1099511627776,⟨0,0,[]⟩,[itK k act (-1) day]⟩
def ordG (k act day:Int):Gz:=⟨0,0,[],[ordA k act day]⟩
theorem hDays {l:List Gz} (hs:Smal l) (hd5:(dds l).length ≤ 5000) {d:EI} (hd:d ∈ dds l):Zbo Tryz.prog 16 [pI d.act,pI d.item,.sl 4 (l.map Gz.enc)] (.sl 2 ((Zcj l d).map Sp.enc)):=by
  have:=sp_inforce_Days d.act d.item l hs hd5
  rw [lastD_fnd,fnd_mem hd] at this
  exact this
theorem last_rem (kind:Int) (h:0 ≤ kind):kind.tmod 3 = 0 ∨ kind.tmod 3 = 1 ∨ kind.tmod 3 = 2:=by rw [Int.tmod_eq_emod_of_nonneg h]; omega
theorem law_InforceOrder (l : List Gz) (act day kind other : Int) (hok : okL Gz.okZ l) (_ : i64 act) (_ : i64 day) (hk1 : (Lit.int .u8 kind).wf = true) (_ : i64 other) (_ : l.length * 56 ≤ 140737488351232) :
    Zbo Tryz.prog 5 [.sl 4 (l.map Gz.enc),pI act,pI day,.int .u8 kind,pI other] (.bool true):=by
  have hk0:0 ≤ kind ∧ kind < 256:=by
    simp [Lit.wf,IntKind.min,IntKind.max,IntKind.signed,IntKind.bits] at hk1
    omega
  have cU:Closed (PV.int .u8 kind):=Closed.of_scalar (Zd2 _ _)
  refine Zam ?_ (cB _) (by simp only [Za0,List.mem_cons,List.not_mem_nil,or_false,forall_eq_or_imp,forall_eq,false_implies,implies_true]; exact ⟨Zbp _,cI _,cI _,cU,cI _⟩)
  refine Zaq (vc:=Zdi) (ts:=[.t 10]) Go.Proofs.Tryz.func5 (by kernel_rfl) rfl rfl (Nat.le_of_ble_eq_true rfl) (by kernel_rfl) ?_
  unfold Zdi
  try dsimp only [ZM,ZO,ZN,ZG]
  refine Zac (Zaa [0,1,2,3,4] ?_)
  simp only [Zab,Zad,Zaf,pok,pval,VA.ev,Env.get,Env.put,Env.keep,Za2,Zae,Heap.nil,Nat.succ_ne_self,Nat.reduceEqDiff,Nat.reduceAdd,ite_true,ite_false,true_and,reduceCtorEq,Nat.zero_add]
  refine Zac ?_
  refine Zac (Zaa [0,1,2,3,4,21] ?_)
  simp only [Zab,Zad,Zaf,pok,pval,VA.ev,Env.get,Env.put,Env.keep,Zae,unV,unOk,Nat.succ_ne_self,List.map,Nat.reduceEqDiff,ite_true,ite_false,reduceCtorEq]
  refine Zat awake ?_
  try simp only [true_and,Bool.not_true]
  refine Zai rfl (fun h=>by cases h) (fun _=>?_)
  refine Zak ?_
  try simp only [Zae]
  refine Zac ?_
  refine Zac (VW_mid (σ:={ b:Bool // b = false → (Nice l ∧ FewG 24 l) ∧ 0 ≤ day ∧ day ≤ 1048576 }) (fun z=>([(0,.sl 4 (l.map Gz.enc)),(1,pI act),(2,pI day),(3,.int .u8 kind),(4,pI other),(37,.bool z.1)],⟨[],0⟩)) (Zaa [0,1,2,3,4,37] ?_) (fun z=>?_))
  · simp only [midQ,Zad,Zaf,pok,pval,VA.ev,Env.get,Env.put,Env.keep,unV,unOk,Heap.le,HL.le,Nat.succ_ne_self,Env.le,List.map,Nat.reduceEqDiff,ite_true,ite_false,true_and,and_true,reduceCtorEq]
    refine Zdl (sp_few28 l 24 (by omega) hok) ?_
    rintro p ⟨b,rfl,hb⟩
    cases b
    · simp only [Zab,Zad,Zbz,Zaf,pok,pval,VA.ev,Env.get,Env.put,Za1,isBool,Nat.le_refl,Nat.succ_ne_self,Nat.reduceEqDiff,ite_true,ite_false,true_and,and_true,reduceCtorEq,Bool.not_false]
      refine ⟨⟨true,fun h=>by cases h⟩,?_⟩
      try simp only []
      all_goals (repeat' (first | rfl | trivial | omega | (simp only []; omega) | refine And.intro ?_ ?_))
    have hn:Nice l:=nice_of_few (by omega) hok (hb rfl)
    have hN:=And.intro hn (hb rfl)
    cases e1:decide (day < 0)
    · cases e2:decide (1048576 < day)
      · simp only [Zab,Zad,Za6,Zaf,pok,pval,VA.ev,Env.get,Env.put,Za1,isBool,intV,binV,Zah,unV,unOk,Nat.succ_ne_self,List.map,Nat.reduceEqDiff,Bool.false_eq_true,ite_true,ite_false,true_and,reduceCtorEq,Bool.not_true,e1,e2]
        refine Zat (sp_pandectref28_Once l (by have:=hn.len; omega) hn.row) ?_
        simp only [decide_eq_false_iff_not] at e1 e2
        generalize (((twiceS (rowG l)).length:Int) == 0) = b3
        cases b3
        · simp only [Nat.le_refl,true_and,and_true,Bool.not_false]
          refine ⟨⟨true,fun h=>by cases h⟩,?_⟩
          try simp only []
          all_goals (repeat' (first | rfl | trivial | omega | (simp only []; omega) | refine And.intro ?_ ?_))
        · simp only [Nat.le_refl,true_and,and_true,Bool.not_true]
          refine ⟨⟨false,fun _=>⟨hN,by omega,by omega⟩⟩,?_⟩
          try simp only []
          all_goals (repeat' (first | rfl | trivial | omega | (simp only []; omega) | refine And.intro ?_ ?_))
      · simp only [Zab,Zad,Za6,Zbz,Zaf,pok,pval,VA.ev,Env.get,Env.put,Za1,isBool,intV,binV,Zah,Nat.le_refl,Nat.succ_ne_self,Nat.reduceEqDiff,Bool.false_eq_true,ite_true,ite_false,true_and,and_true,reduceCtorEq,Bool.not_true,e1,e2]
        refine ⟨⟨true,fun h=>by cases h⟩,?_⟩
        try simp only []
        all_goals (repeat' (first | rfl | trivial | omega | (simp only []; omega) | refine And.intro ?_ ?_))
    · simp only [Zab,Zad,Za6,Zbz,Zaf,pok,pval,VA.ev,Env.get,Env.put,Za1,isBool,intV,binV,Zah,Nat.le_refl,Nat.succ_ne_self,Nat.reduceEqDiff,Bool.false_eq_true,ite_true,ite_false,true_and,and_true,reduceCtorEq,Bool.not_true,e1]
      refine ⟨⟨true,fun h=>by cases h⟩,?_⟩
      try simp only []
      all_goals (repeat' (first | rfl | trivial | omega | (simp only []; omega) | refine And.intro ?_ ?_))
  obtain ⟨z,hb⟩:=z
  simp only []
  refine Zai rfl (fun h1=>?_) (fun h1=>?_)
  · refine Zac (Zaa [10] ?_)
    simp only [Zab,Zad,Zaf,pok,pval,VA.ev,Env.get,Env.put,Env.keep,Zae,Nat.reduceEqDiff,ite_true,ite_false,true_and,reduceCtorEq]
    refine Zar ?_
    try simp only [Env.get,Zae,retQ,resV,Zau,RS.ev,RS.ok,ite_true,true_and,and_true]
    exact View.refl _ _
  obtain ⟨⟨hn,hf⟩,hd0,hd1⟩:=hb h1
  have hd:(dds l).length ≤ 30:=hn.dds ⟨hf.1,hf.2.1,by have:=hf.2.2; omega⟩
  have hcl:=chg_len l
  have hs:=hn.smal
  refine Zak ?_
  try simp only [Zae]
  have hm3:=last_rem kind hk0.1
  refine Zac (VW_mid (σ:={ k:Int // (k = 7 ∨ k = 8 ∨ k = 9) ∧ k = 7 + kind.tmod 3 }) (fun s=>([(0,.sl 4 (l.map Gz.enc)),(1,pI act),(2,pI day),(3,.int .u8 kind),(4,pI other),(11,.loc 1 0 0)],⟨[(1,.arr false 7 [[pI 1099511627776,.str [],pI 1099511627776,pI 0,pI 0,.str [],.own 0 0 1]]),(0,.arr false 25 [rawK s.1 act (-1) day])],2⟩)) (Zaa [0,1,2,3,4,11] ?_) (fun s=>?_))
  · rcases hm3 with hm3 | hm3 | hm3
    · simp only [midQ,Zab,Zad,Zaf,pok,pval,VA.ev,Env.get,Env.put,Env.keep,intV,binV,Zah,convV,isInt,Zcu,Zcb,PV.cells,PV.fits,overlay,PV.row,Heap.get,Heap.set,Heap.le,HL.get,HL.set,HL.del,HL.le,Heap.push,Nat.le_refl,Nat.succ_ne_self,Env.le,Zbj,Zbf,Zbh,Za9,List.set,List.replicate,List.length,List.getD_cons_zero,List.take,List.drop,List.take_succ_cons,List.drop_succ_cons,List.cons_append,List.nil_append,Nat.reduceEqDiff,Nat.reduceAdd,Nat.reduceLT,Nat.reduceLeDiff,ite_true,ite_false,true_and,and_true,ne_eq,reduceCtorEq,BEq.rfl,Option.some.injEq,Nat.zero_add,List.length_cons,hm3]
      refine ⟨by omega,⟨⟨7,by omega⟩,rfl⟩⟩
    · simp only [midQ,Zab,Zad,Zaf,pok,pval,VA.ev,Env.get,Env.put,Env.keep,intV,binV,Zah,convV,isInt,Zcu,Zcb,PV.cells,PV.fits,overlay,PV.row,Heap.get,Heap.set,Heap.le,HL.get,HL.set,HL.del,HL.le,Heap.push,Nat.le_refl,Nat.succ_ne_self,Env.le,Zbj,Zbf,Zbh,Za9,List.set,List.replicate,List.length,List.getD_cons_zero,List.take,List.drop,List.take_succ_cons,List.drop_succ_cons,List.cons_append,List.nil_append,Nat.reduceEqDiff,Nat.reduceAdd,Nat.reduceLT,Nat.reduceLeDiff,ite_true,ite_false,true_and,and_true,ne_eq,reduceCtorEq,BEq.rfl,Option.some.injEq,Nat.zero_add,List.length_cons,hm3]
      refine ⟨by omega,⟨⟨8,by omega⟩,rfl⟩⟩
    · simp only [midQ,Zab,Zad,Zaf,pok,pval,VA.ev,Env.get,Env.put,Env.keep,intV,binV,Zah,convV,isInt,Zcu,Zcb,PV.cells,PV.fits,overlay,PV.row,Heap.get,Heap.set,Heap.le,HL.get,HL.set,HL.del,HL.le,Heap.push,Nat.le_refl,Nat.succ_ne_self,Env.le,Zbj,Zbf,Zbh,Za9,List.set,List.replicate,List.length,List.getD_cons_zero,List.take,List.drop,List.take_succ_cons,List.drop_succ_cons,List.cons_append,List.nil_append,Nat.reduceEqDiff,Nat.reduceAdd,Nat.reduceLT,Nat.reduceLeDiff,ite_true,ite_false,true_and,and_true,ne_eq,reduceCtorEq,BEq.rfl,Option.some.injEq,Nat.zero_add,List.length_cons,hm3]
      refine ⟨by omega,⟨⟨9,by omega⟩,rfl⟩⟩
  obtain ⟨k,hk,hkm⟩:=s
  simp only []
  refine VW_freeze [(0,.sl 4 (l.map Gz.enc)),(1,pI act),(2,pI day),(3,.int .u8 kind),(4,pI other),(11,.ro (ordA k act day).enc)] ⟨View.refl _ _,View.refl _ _,View.refl _ _,View.refl _ _,View.refl _ _,?_,trivial⟩ ?_
  · refine View.locV (z:=7) (fz:=false) (es:=[[pI 1099511627776,.str [],pI 1099511627776,pI 0,pI 0,.str [],.own 0 0 1]]) (by simp [Heap.get,HL.get]) (by simp) (by simp [ordA,Ac.enc]) (fun j _=>?_)
    rw [Nat.zero_add]
    refine CellsV.at (l:=[pI 1099511627776,.str [],pI 1099511627776,pI 0,pI 0,.str [],.own 0 0 1]) (q:=(ordA k act day).enc) ⟨View.refl _ _,View.refl _ _,View.refl _ _,View.refl _ _,View.refl _ _,View.refl _ _,?_,trivial⟩ j
    refine rows_view (es:=[rawK k act (-1) day]) (fz:=false) (by simp [Heap.get,HL.get]) rfl rfl (fun i hi=>?_) (fun i hi=>?_)
    · match i,hi with
      | 0,_=>exact It.Zby _
    · match i,hi with
      | 0,_=>exact rawK_view _ _ _ _ _
  try simp only []
  refine Zac (Zaa [0,1,2,3,4,11,12] ?_)
  simp only [Zab,Zad,Zaf,pok,pval,VA.ev,Env.get,Env.put,Env.keep,Zae,Nat.succ_ne_self,List.map,Nat.reduceEqDiff,ite_true,ite_false,true_and,reduceCtorEq]
  refine Zat (Zdr l hs.len hs.row) ?_
  skip
  have hal:=acts_small l hs
  have hmemA:∀ a ∈ Zbr (rowG l),a ∈ Zbr (rowG l):=fun _ h=>h
  obtain ⟨A,hA⟩:∃ A,Zbr (rowG l) = A:=⟨_,rfl⟩
  rw [hA] at hal ⊢
  refine Zac ?_
  refine Zac (Zaa [0,1,2,3,4,11,12,13] ?_)
  simp only [Zab,Zad,Zaf,pok,pval,VA.ev,Env.get,Env.put,Env.keep,Zae,Nat.succ_ne_self,Nat.reduceEqDiff,ite_true,ite_false,true_and,reduceCtorEq]
  refine Zaj ?_
  refine Za4 (σ:={ i:Nat // i ≤ A.length ∧ ∀ (j:Nat) (h:j < A.length),j < i → A[j].day < 1099511627776 ∧ A[j].number < 1099511627776 }) (fun s=>([(0,.sl 4 (l.map Gz.enc)),(1,pI act),(2,pI day),(3,.int .u8 kind),(4,pI other),(11,.ro (ordA k act day).enc),(12,.sl 7 (A.map Ac.enc)),(13,pI s.1)],⟨[],2⟩)) (fun s=>A.length - s.1) ⟨0,Nat.zero_le _,fun j _ h=>by cases h⟩ ?_ ?_ ?_
  · simp only [Env.get,Nat.succ_ne_self,Env.le,Nat.reduceEqDiff,ite_true,ite_false,true_and,and_true,reduceCtorEq]
    rfl
  · simp only [Heap.le,HL.le,Nat.le_refl,and_true]
  rintro ⟨i,hi,hpre⟩
  simp only []
  refine Zac ?_
  refine Zac (Zaa [0,1,2,3,4,11,12,13,52] ?_)
  simp only [Zab,Zad,Zaf,pok,pval,VA.ev,Env.get,Env.put,Env.keep,Zae,intV,binV,Zah,lenV,Za8,Heap.le,HL.le,Nat.succ_ne_self,Env.le,Nat.reduceEqDiff,ite_true,ite_false,true_and,and_true,reduceCtorEq,List.length_map]
  refine Zai rfl (fun h3=>?_) (fun h3=>?_)
  · simp only [decide_eq_true_eq] at h3
    have ia:i < A.length:=by omega
    have hrow:(A.map Ac.enc).getD i [] = A[i].enc:=rowm ia
    refine Zak ?_
    try simp only [Zae]
    refine Zac ?_
    refine Zaj ?_
    refine Zac (VW_mid (σ:={ b:Bool // b = false → A[i].day < 1099511627776 ∧ A[i].number < 1099511627776 }) (fun z=>([(0,.sl 4 (l.map Gz.enc)),(1,pI act),(2,pI day),(3,.int .u8 kind),(4,pI other),(11,.ro (ordA k act day).enc),(12,.sl 7 (A.map Ac.enc)),(13,pI i),(68,.bool z.1)],⟨[],2⟩)) (Zaa [0,1,2,3,4,11,12,13,68] ?_) (fun z=>?_))
    · cases e1:decide (1099511627776 ≤ A[i].day)
      · simp only [midQ,Zab,Zad,Za6,Zaf,pok,pval,VA.ev,Env.get,Env.put,Env.keep,Za1,isBool,aggV,intV,binV,Zah,isInt,numOf,lenV,Zao,Zan,Zag,Zap,Zax,Zas,PV.nth,PV.row,Heap.le,HL.le,Nat.le_refl,Nat.succ_ne_self,Env.le,List.drop,Nat.reduceEqDiff,Nat.reduceLeDiff,Bool.false_eq_true,ite_true,ite_false,true_and,and_true,implies_true,reduceCtorEq,Int.toNat_natCast,List.length_map,hrow,Zb2,ac_num,ac_day,ac_l2,e1]
        repeat (with_reducible refine And.intro ?_ ?_; first | omega | (with_reducible constructor <;> omega) | exact False.elim | exact True.intro)
        simp only [decide_eq_false_iff_not] at e1
        refine ⟨⟨decide (1099511627776 ≤ A[i].number),fun h=>?_⟩,?_⟩
        · simp only [decide_eq_false_iff_not] at h; omega
        · try simp only []
          all_goals (repeat' (first | rfl | trivial | omega | (simp only []; omega) | refine And.intro ?_ ?_))
      · simp only [midQ,Zab,Zad,Zbz,Zaf,pok,pval,VA.ev,Env.get,Env.put,Env.keep,Za1,isBool,aggV,intV,binV,Zah,isInt,numOf,lenV,Zao,Zan,Zag,Zap,Zax,Zas,PV.nth,PV.row,Heap.le,HL.le,Nat.le_refl,Nat.succ_ne_self,Env.le,Nat.reduceEqDiff,Nat.reduceLeDiff,Bool.false_eq_true,ite_true,ite_false,true_and,and_true,implies_true,reduceCtorEq,Int.toNat_natCast,List.length_map,hrow,Zb2,ac_num,ac_day,ac_l2,e1]
        repeat (with_reducible refine And.intro ?_ ?_; first | omega | (with_reducible constructor <;> omega) | exact False.elim | exact True.intro)
        refine ⟨⟨true,fun h=>by cases h⟩,?_⟩
        try simp only []
        all_goals (repeat' (first | rfl | trivial | omega | (simp only []; omega) | refine And.intro ?_ ?_))
    obtain ⟨z,hz⟩:=z
    simp only []
    refine Zai rfl (fun h4=>?_) (fun h4=>?_)
    · refine Zac (Zaa [10] ?_)
      simp only [Zab,Zad,Zaf,pok,pval,VA.ev,Env.get,Env.put,Env.keep,Zae,Nat.succ_ne_self,Nat.reduceEqDiff,ite_true,ite_false,true_and,reduceCtorEq]
      refine Zar ?_
      try simp only [Env.get,Zae,Zal,retQ,resV,Zau,RS.ev,RS.ok,ite_true,true_and,and_true]
      exact View.refl _ _
    have hz2:=hz h4
    refine Zak ?_
    try simp only [Zae,Zal]
    refine Zaa [0,1,2,3,4,11,12,13] ?_
    simp only [Zab,Zad,Zaf,pok,pval,VA.ev,Env.get,Env.put,Env.keep,Zae,intV,binV,Zah,Nat.le_refl,Nat.succ_ne_self,Nat.reduceEqDiff,ite_true,ite_false,true_and,reduceCtorEq,ad1 (a:=i) (by omega)]
    refine ⟨⟨i + 1,ia,fun j hj hji=>?_⟩,?_⟩
    · by_cases e:j = i
      · subst e; exact hz2
      · exact hpre j hj (by omega)
    · try simp only [true_and]
      all_goals (repeat' (first | rfl | trivial | omega | (simp only []; omega) | refine And.intro ?_ ?_))
  simp only [decide_eq_false_iff_not] at h3
  have hlast:LastG l (ordG k act day) (ordA k act day) (itK k act (-1) day):=by
    refine ⟨rfl,rfl,hk,fun a ha=>?_⟩
    rw [hA] at ha
    obtain ⟨j,hj,rfl⟩:=List.mem_iff_getElem.1 ha
    exact hpre j hj (by omega)
  have hoth:=fun (d:EI) (hd:d ∈ chgS l) (hn:d.act ≠ act)=>hlast.other hd hn
  have hown:=fun (d:EI) (hd:d ∈ chgS l) (hn:d.act = act)=>hlast.own hd hn rfl other
  have hdd:=hlast.dds
  have hds:(dds (l ++ [ordG k act day])).length ≤ 31:=by rw [hdd]; simp; omega
  have hmore:Smal (l ++ [ordG k act day]):=by
    refine ⟨by have:=hn.len; simp; omega,?_,?_⟩
    · have := row_le8 (l ++ [ordG k act day]) (fun g hg => by
        rcases List.mem_append.1 hg with h | h
        · exact hf.2.1 g h
        · rw [List.mem_singleton] at h; subst h; simp [ordG])
      have:=hf.1
      simp at *; omega
    · rw [hlast.actsE,itemsS_app]
      have:=acts_items (rowG l)
      have:=hn.items
      simp [itemsS_one,ordA]; omega
  have hdm:∀ d ∈ chgS l,d ∈ dds (l ++ [ordG k act day]):=fun d hd=>by rw [hdd]; exact List.mem_append_left _ (chg_mem.1 hd).1
  refine Zaz ?_
  try simp only [Zae,Zal,retQ,ite_true]
  have hll:=hn.len
  have htk:(l.map Gz.enc).take l.length = l.map Gz.enc:=List.take_of_length_le (by simp)
  refine Zac (VW_draw2E 1000 [0,1,2,3,4,14] (by simp) ?_)
  simp only [Zaf,Zbb,Zbu,QW,dok,dval,VOp.pure,VOp.simple,VOp.det,pok,pval,VA.ev,Env.get,Env.put,Env.keep,Zae,gd,aggV,Zag,Zap,Zcu,Zcb,PV.cells,PV.fits,overlay,PV.nth,Heap.get,Heap.del,Heap.le,HL.get,HL.del,HL.le,Heap.push,Nat.le_refl,Nat.succ_ne_self,Zbq,Zc8,Zbk,Zda,Zbc,Zcw,Zbj,Zbf,fxV,fxOk,List.map,List.set,List.replicate,List.length,List.take,List.drop,List.drop_succ_cons,List.cons_append,List.nil_append,Nat.reduceEqDiff,Nat.reduceAdd,Nat.reduceLT,Nat.reduceLeDiff,Bool.true_eq_false,ite_true,ite_false,true_and,and_true,implies_true,forall_const,reduceCtorEq,BEq.rfl,Nat.zero_add,Nat.add_zero,List.length_cons,List.length_nil,imp_self,List.length_map,htk]
  have hll8:=hf.1
  refine ⟨by omega,by omega,by simp [ordA,Ac.enc],by simp [ordA,Ac.enc],by omega,by omega,?_⟩
  refine VW_freeze [(0,.sl 4 (l.map Gz.enc)),(1,pI act),(2,pI day),(3,.int .u8 kind),(4,pI other),(14,.sl 4 ((l ++ [ordG k act day]).map Gz.enc))] ⟨View.refl _ _,View.refl _ _,View.refl _ _,View.refl _ _,View.refl _ _,?_,trivial⟩ ?_
  · have e : l.map Gz.enc ++ [[pI 0, pI 0, .str [], .sl 7 [(ordA k act day).enc.take 7]]] = (l ++ [ordG k act day]).map Gz.enc := by
      rw [List.map_append]; rfl
    rw [← e]
    exact View.own_all (fz:=false) (by simp [Heap.get,HL.get]) (by simp)
  refine Zac (Zaa [0,1,2,3,4,14,15] ?_)
  simp only [Zab,Zad,Zaf,pok,pval,VA.ev,Env.get,Env.put,Env.keep,Zae,Nat.succ_ne_self,List.map,Nat.reduceEqDiff,ite_true,ite_false,true_and,reduceCtorEq]
  refine Zat (Zcg l hs (by omega)) ?_
  skip
  obtain ⟨l2,hl2⟩:∃ l2,l ++ [ordG k act day] = l2:=⟨_,rfl⟩
  rw [hl2] at hoth hown hds hmore hdm ⊢
  have hcm:∀ (i:Nat) (h:i < (chgS l).length),(chgS l)[i] ∈ chgS l:=fun i h=>List.getElem_mem h
  have hcd:∀ d ∈ chgS l,d ∈ dds l:=fun d h=>(chg_mem.1 h).1
  have hk8:(kind.tmod 3 != 1) = (k != 8):=by
    rw [hkm,Bool.eq_iff_iff,bne_iff_ne,bne_iff_ne]; omega
  refine Zac ?_
  refine Zac (Zaa [0,1,2,3,4,14,15,16] ?_)
  simp only [Zab,Zad,Zaf,pok,pval,VA.ev,Env.get,Env.put,Env.keep,Zae,Nat.succ_ne_self,Nat.reduceEqDiff,ite_true,ite_false,true_and,reduceCtorEq]
  generalize chgS l = CH at hoth hown hdm hcm hcd hcl ⊢
  refine Zaj ?_
  refine Za4 (σ:={ i:Nat // i ≤ CH.length }) (fun s=>([(0,.sl 4 (l.map Gz.enc)),(1,pI act),(2,pI day),(3,.int .u8 kind),(4,pI other),(14,.sl 4 (l2.map Gz.enc)),(15,.sl 28 (CH.map EI.enc)),(16,pI s.1)],⟨[],5⟩)) (fun s=>CH.length - s.1) ⟨0,Nat.zero_le _⟩ ?_ ?_ ?_
  · simp only [Env.get,Nat.succ_ne_self,Env.le,Nat.reduceEqDiff,ite_true,ite_false,true_and,and_true,reduceCtorEq]
    rfl
  · simp only [Heap.le,HL.le,Nat.le_refl,and_true]
  rintro ⟨i,hi⟩
  simp only []
  refine Zac ?_
  refine Zac (Zaa [0,1,2,3,4,14,15,16,82] ?_)
  simp only [Zab,Zad,Zaf,pok,pval,VA.ev,Env.get,Env.put,Env.keep,Zae,intV,binV,Zah,lenV,Za8,Heap.le,HL.le,Nat.succ_ne_self,Env.le,Nat.reduceEqDiff,ite_true,ite_false,true_and,and_true,reduceCtorEq,List.length_map]
  refine Zai rfl (fun h5=>?_) (fun h5=>?_)
  · simp only [decide_eq_true_eq] at h5
    have ia:i < CH.length:=by omega
    have hrow:(CH.map EI.enc).getD i [] = CH[i].enc:=rowm ia
    have hmem:=hcm i ia
    refine Zak ?_
    try simp only [Zae]
    refine Zac ?_
    refine Zaj ?_
    generalize CH[i] = d at hrow hmem
    have D1:=hDays hs (by omega) (hcd d hmem)
    have D2:=hDays hmore (by omega) (hdm d hmem)
    have hl1:=days_len l d
    have hl2':=days_len l2 d
    have ho:=hoth d hmem
    have hw:=hown d hmem
    refine Zac (Zb3 [0,1,2,3,4,14,15,16,17,18] (by simp [Heap.le,Heap.get,HL.le,HL.get]) ?_)
    simp only [Zbb,Zbu,QW,dok,dval,VOp.pure,VOp.simple,VOp.det,pok,pval,VA.ev,Env.get,Env.put,Env.keep,Zae,gd,aggV,isInt,numOf,lenV,Zao,Zan,Zag,Zap,Zax,Zas,PV.nth,PV.row,Nat.succ_ne_self,List.drop,Nat.reduceEqDiff,Nat.reduceLeDiff,Bool.false_eq_true,ite_true,ite_false,true_and,and_true,implies_true,forall_const,reduceCtorEq,Int.toNat_natCast,List.length_map,hrow,Zb6,ei_l1,ei_act,ei_item]
    refine ⟨by omega,by omega,?_⟩
    refine ⟨_,.inl D1,?_⟩
    skip
    refine ⟨by omega,by omega,?_⟩
    refine ⟨_,.inl D2,?_⟩
    skip
    generalize Zcj l d = X at ho hw hl1 ⊢
    generalize Zcj l2 d = Y at ho hw hl2' ⊢
    refine Zac ?_
    refine Zac (Zaa [0,1,2,3,4,14,15,16,17,18,115] ?_)
    simp only [Zab,Zad,Zaf,pok,pval,VA.ev,Env.get,Env.put,Env.keep,Zae,aggV,intV,binV,Zah,isInt,numOf,lenV,Zao,Zan,Zag,Zap,Zax,Zas,PV.nth,PV.row,Nat.succ_ne_self,List.drop,Nat.reduceEqDiff,Nat.reduceLeDiff,Bool.false_eq_true,ite_true,ite_false,true_and,and_true,implies_true,reduceCtorEq,Int.toNat_natCast,List.length_map,hrow,Zb6,ei_act]
    refine ⟨by omega,?_⟩
    refine Zai rfl (fun h6=>?_) (fun h6=>?_)
    · have hne:d.act ≠ act:=by simpa using h6
      refine Zac ?_
      refine Zac (Zaa [0,1,2,3,4,14,15,16,119] ?_)
      simp only [Zab,Zad,Zaf,pok,pval,VA.ev,Env.get,Env.put,Env.keep,Zae,unV,unOk,Nat.succ_ne_self,List.map,Nat.reduceEqDiff,ite_true,ite_false,true_and,reduceCtorEq]
      refine Zat (sp_pandectref29_Same X Y (by omega) (by omega)) ?_
      have e:decide (X = Y) = true:=decide_eq_true (ho hne).symm
      try simp only [true_and,Bool.not_true,e]
      refine Zai rfl (fun h=>by cases h) (fun _=>?_)
      refine Zak ?_
      try simp only [Zae]
      refine Zaz ?_
      try simp only [Zae,Zal,retQ,Nat.succ_ne_self,ite_true,ite_false]
      refine Zaa [0,1,2,3,4,14,15,16] ?_
      simp only [Zab,Zad,Zaf,pok,pval,VA.ev,Env.get,Env.put,Env.keep,Zae,intV,binV,Zah,Nat.le_refl,Nat.succ_ne_self,Nat.reduceEqDiff,ite_true,ite_false,true_and,reduceCtorEq,ad1 (a:=i) (by omega)]
      refine ⟨⟨i + 1,ia⟩,?_⟩
      try simp only [true_and]
      all_goals (repeat' (first | rfl | trivial | omega | (simp only []; omega) | refine And.intro ?_ ?_))
    have heq:d.act = act:=by simpa using h6
    obtain ⟨w1,w2⟩:=hw heq
    have hw1:other < day → c.memB Y other = c.memB X other:=w1
    have hw2:¬ other < day → other ≤ 1048576 → 0 ≤ other → c.memB Y other = (k != 8):=w2
    refine Zak ?_
    try simp only [Zae]
    refine Zac (Zaa [0,1,2,3,4,14,15,16,17,19] ?_)
    simp only [Zab,Zad,Zaf,pok,pval,VA.ev,Env.get,Env.put,Env.keep,Zae,Nat.succ_ne_self,List.map,Nat.reduceEqDiff,ite_true,ite_false,true_and,reduceCtorEq]
    refine Zat (sp_pandectref29_Has Y other (by omega)) ?_
    skip
    refine Zac (VW_mid (σ:=Unit) (fun _=>([(0,.sl 4 (l.map Gz.enc)),(1,pI act),(2,pI day),(3,.int .u8 kind),(4,pI other),(14,.sl 4 (l2.map Gz.enc)),(15,.sl 28 (CH.map EI.enc)),(16,pI i),(152,.bool false)],⟨[],5⟩)) (Zaa [0,1,2,3,4,14,15,16,152] ?_) (fun _=>?_))
    · cases e1:decide (0 ≤ other)
      · have e2:decide (day ≤ other) = false:=by simp only [decide_eq_false_iff_not] at e1 ⊢; omega
        simp only [midQ,Zab,Zad,Za6,Zbi,Zaf,pok,pval,VA.ev,Env.get,Env.put,Env.keep,Za1,isBool,intV,binV,Zah,Heap.le,HL.le,Nat.le_refl,Nat.succ_ne_self,Env.le,Nat.reduceEqDiff,Bool.false_eq_true,ite_true,ite_false,true_and,and_true,reduceCtorEq,e1,e2]
        refine ⟨(),?_⟩
        try simp only []
        all_goals (repeat' (first | rfl | trivial | omega | (simp only []; omega) | refine And.intro ?_ ?_))
      cases e2:decide (other < day)
      · have e3:decide (day ≤ other) = true:=by simp only [decide_eq_false_iff_not,decide_eq_true_eq] at e2 ⊢; omega
        cases e4:decide (other ≤ 1048576)
        · simp only [midQ,Zab,Zad,Za6,Zbi,Zaf,pok,pval,VA.ev,Env.get,Env.put,Env.keep,Za1,isBool,intV,binV,Zah,Heap.le,HL.le,Nat.le_refl,Nat.succ_ne_self,Env.le,Nat.reduceEqDiff,Bool.false_eq_true,ite_true,ite_false,true_and,and_true,reduceCtorEq,e1,e2,e3,e4]
          refine ⟨(),?_⟩
          try simp only []
          all_goals (repeat' (first | rfl | trivial | omega | (simp only []; omega) | refine And.intro ?_ ?_))
        · simp only [decide_eq_false_iff_not,decide_eq_true_eq] at e1 e2 e4
          have hm:=hw2 e2 e4 e1
          have e1':decide (0 ≤ other) = true:=decide_eq_true e1
          have e2':decide (other < day) = false:=decide_eq_false e2
          have e4':decide (other ≤ 1048576) = true:=decide_eq_true e4
          simp only [midQ,Zab,Zad,Za6,Zbi,Zaf,pok,pval,VA.ev,Env.get,Env.put,Env.keep,Za1,isBool,intV,binV,Zah,binbV,boolV,binbOk,Heap.le,HL.le,Nat.le_refl,Nat.succ_ne_self,Env.le,Nat.reduceEqDiff,Bool.false_eq_true,ite_true,ite_false,true_and,and_true,ne_eq,reduceCtorEq,e1',e2',e3,e4',hm,hk8]
          refine ⟨by omega,(),?_⟩
          have:((k != 8) != (k != 8)) = false:=by cases (k != 8) <;> rfl
          try simp only [this]
          all_goals (repeat' (first | rfl | trivial | omega | (simp only []; omega) | refine And.intro ?_ ?_))
      · have e3:decide (day ≤ other) = false:=by simp only [decide_eq_false_iff_not,decide_eq_true_eq] at e2 ⊢; omega
        simp only [midQ,Zad,Za6,Zaf,pok,pval,VA.ev,Env.get,Env.put,Env.keep,Za1,isBool,intV,binV,Zah,binbV,boolV,binbOk,Heap.le,HL.le,Nat.succ_ne_self,Env.le,List.map,Nat.reduceEqDiff,ite_true,ite_false,true_and,and_true,reduceCtorEq,e1,e2,e3]
        refine Zat (sp_pandectref29_Has X other (by omega)) ?_
        have hm:=hw1 (by simpa using e2)
        have:(c.memB X other != c.memB X other) = false:=by cases c.memB X other <;> rfl
        simp only [Zab,Zad,Za6,Zbi,Zaf,pok,pval,VA.ev,Env.get,Env.put,Za1,isBool,intV,binV,Zah,Nat.le_refl,Nat.succ_ne_self,Nat.reduceEqDiff,Bool.false_eq_true,ite_true,ite_false,true_and,and_true,reduceCtorEq,e1,e2,e3,hm,this]
        refine ⟨(),?_⟩
        try simp only []
        all_goals (repeat' (first | rfl | trivial | omega | (simp only []; omega) | refine And.intro ?_ ?_))
    simp only []
    refine Zai rfl (fun h=>by cases h) (fun _=>?_)
    refine Zak ?_
    try simp only [Zae,Zal]
    refine Zaa [0,1,2,3,4,14,15,16] ?_
    simp only [Zab,Zad,Zaf,pok,pval,VA.ev,Env.get,Env.put,Env.keep,Zae,intV,binV,Zah,Nat.le_refl,Nat.succ_ne_self,Nat.reduceEqDiff,ite_true,ite_false,true_and,reduceCtorEq,ad1 (a:=i) (by omega)]
    refine ⟨⟨i + 1,ia⟩,?_⟩
    try simp only [true_and]
    all_goals (repeat' (first | rfl | trivial | omega | (simp only []; omega) | refine And.intro ?_ ?_))
  · refine Zaz ?_
    try simp only [Zae,Zal,retQ,ite_true]
    refine Zac (Zaa [10] ?_)
    simp only [Zab,Zad,Zaf,pok,pval,VA.ev,Env.get,Env.put,Env.keep,Zae,Nat.reduceEqDiff,ite_true,ite_false,true_and,reduceCtorEq]
    refine Zar ?_
    try simp only [Env.get,retQ,resV,Zau,RS.ev,RS.ok,ite_true,true_and,and_true]
    exact View.refl _ _
end Go.Proofs.YtehokmhebnkfdaaGreat.w
