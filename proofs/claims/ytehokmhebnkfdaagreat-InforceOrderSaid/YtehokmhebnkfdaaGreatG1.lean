import Derived.Test.YtehokmhebnkfdaaGreatS1
import Derived.Test.YtehokmhebnkfdaaGreatRd
set_option linter.all false
namespace Go.Proofs.YtehokmhebnkfdaaGreat.w
open Go Go.VM
set_option maxRecDepth 20000
set_option maxHeartbeats 0
set_option pp.deepTerms false
def Zcy:VC:=(.seq (.region [ZO 10 (.mv (.c (.int .i64 0)))] false) (.block 0 (.loop (.seq (.seq (.region [ZM 11 10,ZM 12 3,ZO 13 (.bin .lss (.t 11) (.t 12))] false) (.cond (.t 13) .skip (.exit 0))) (.seq (.block 1 (.draw2 [ZM 16 0,ZM 17 1,ZM 18 10,ZO 19 (.bin .add (.t 17) (.t 18)),ZM 20 0,ZM 21 2,ZM 22 10,ZO 23 (.bin .add (.t 21) (.t 22)),ZM 24 0,ZM 25 2,ZM 26 10,ZO 27 (.bin .add (.t 25) (.t 26)),ZO 28 (.iaddr 7 (.t 24) (.t 27)),ZO 29 (.load true 7 (.t 28)),ZM 30 0,ZM 31 1,ZM 32 10,ZO 33 (.bin .add (.t 31) (.t 32)),ZO 34 (.iaddr 7 (.t 30) (.t 33)),ZO 35 (.load true 7 (.t 34)),ZO 36 (.iaddr 7 (.t 16) (.t 19)),ZN (.store 7 (.t 36) (.t 29)),ZO 37 (.iaddr 7 (.t 20) (.t 23)),ZN (.store 7 (.t 37) (.t 35))] [true,true,true,true,false,false,false,false,true,true,true,true,true,true,true,true,true,true,true,true,true,false,false,false])) (.region [ZM 14 10,ZO 15 (.bin .add (.t 14) (.c (.int .i64 1))),ZM 10 15] false))))))
def Zdn:VC:=(.seq (.region [ZM 12 2,ZM 13 1,ZO 14 (.bin .sub (.t 12) (.t 13)),ZM 10 14] false) (.seq (.region [ZM 15 3,ZM 16 2,ZO 17 (.bin .sub (.t 15) (.t 16)),ZM 11 17] false) (.seq (.block 0 (.loop (.seq (.seq (.region [ZM 18 10,ZM 19 11,ZO 20 (.bin .neq (.t 18) (.t 19))] false) (.cond (.t 20) .skip (.exit 0))) (.block 1 (.seq (.region [ZM 21 10,ZM 22 11,ZO 23 (.bin .gtr (.t 21) (.t 22))] false) (.cond (.t 23) (.seq (.region [ZM 24 0,ZM 25 2,ZM 26 10,ZO 27 (.bin .sub (.t 25) (.t 26)),ZM 28 2,ZM 29 11,ZM 30 4,ZO 31 (.call 164 [(.t 24),(.t 27),(.t 28),(.t 29),(.t 30)])] false) (.region [ZM 32 10,ZM 33 11,ZO 34 (.bin .sub (.t 32) (.t 33)),ZM 10 34] false)) (.seq (.region [ZM 35 0,ZM 36 2,ZM 37 10,ZO 38 (.bin .sub (.t 36) (.t 37)),ZM 39 2,ZM 40 11,ZO 41 (.bin .add (.t 39) (.t 40)),ZM 42 10,ZO 43 (.bin .sub (.t 41) (.t 42)),ZM 44 10,ZM 45 4,ZO 46 (.call 164 [(.t 35),(.t 38),(.t 43),(.t 44),(.t 45)])] false) (.region [ZM 47 11,ZM 48 10,ZO 49 (.bin .sub (.t 47) (.t 48)),ZM 11 49] false)))))))) (.region [ZM 50 0,ZM 51 2,ZM 52 10,ZO 53 (.bin .sub (.t 51) (.t 52)),ZM 54 2,ZM 55 10,ZM 56 4,ZO 57 (.call 164 [(.t 50),(.t 53),(.t 54),(.t 55),(.t 56)])] false))))
def rws (d:Nat → Ac) (N:Nat):List (List PV):=(List.range N).map fun i=>(d i).enc
def upd (d:Nat → Ac) (i:Nat) (x:Ac):Nat → Ac:=fun j=>if j = i then x else d j
theorem rws_len (d:Nat → Ac) (N:Nat):(rws d N).length = N:=by simp [rws]
theorem rws_get {d:Nat → Ac} {N i:Nat} (h:i < N):(rws d N).getD i [] = (d i).enc:=by simp [rws,List.getD_eq_getElem?_getD,h]
theorem rws_set (d:Nat → Ac) (N i:Nat) (x:Ac):(rws d N).set i x.enc = rws (upd d i x) N:=by
  refine List.ext_getElem (by simp [rws]) fun k h1 h2=>?_
  simp only [rws,upd,List.getElem_set,List.getElem_map,List.getElem_range]
  by_cases h:i = k
  · subst h; simp
  · rw [if_neg h,if_neg (fun e=>h e.symm)]
theorem Zb2 (x:Ac):x.enc.length = 7:=rfl
theorem Zcs (x:Ac):x.enc.take 7 = x.enc:=rfl
theorem ac_drop (x:Ac):x.enc.drop 7 = []:=rfl
theorem upd_at (d:Nat → Ac) (i:Nat) (x:Ac):upd d i x i = x:=if_pos rfl
theorem upd_ne (d:Nat → Ac) {i j:Nat} (x:Ac) (h:j ≠ i):upd d i x j = d j:=if_neg h
theorem swp_more {d d1:Nat → Ac} {a b i:Nat} (h:Swp d d1 a b i) (hd:a + i < b):Swp d (upd (upd d1 (a + i) (d1 (b + i))) (b + i) (d1 (a + i))) a b (i + 1):=by
  refine ⟨fun k hk=>?_,fun k hk=>?_,fun k h1 h2=>?_⟩
  · rw [upd_ne _ _ (by omega)]
    by_cases e:k = i
    · subst e; rw [upd_at]; exact h.out _ (by omega) (by omega)
    · rw [upd_ne _ _ (by omega)]; exact h.fst k (by omega)
  · by_cases e:k = i
    · subst e; rw [upd_at]; exact h.out _ (by omega) (by omega)
    · rw [upd_ne _ _ (by omega),upd_ne _ _ (by omega)]; exact h.snd k (by omega)
  · rw [upd_ne _ _ (by omega),upd_ne _ _ (by omega)]; exact h.out k (by omega) (by omega)
theorem adI {a b:Nat} (h:a + b ≤ 4611686018427387904):IntKind.i64.wrap ((a:Int) + (b:Int)) = ((a + b:Nat):Int):=by rw [w64 (by omega) (by omega)]; omega
theorem ad1 {a:Nat} (h:a ≤ 4611686018427387904):IntKind.i64.wrap ((a:Int) + 1) = ((a + 1:Nat):Int):=by rw [w64 (by omega) (by omega)]; omega
theorem sbI {a b:Nat} (h:b ≤ a) (h2:a ≤ 4611686018427387904):IntKind.i64.wrap ((a:Int) - (b:Int)) = ((a - b:Nat):Int):=by rw [w64 (by omega) (by omega)]; omega
theorem sb1 {a:Nat} (h:1 ≤ a) (h2:a ≤ 4611686018427387904):IntKind.i64.wrap ((a:Int) - 1) = ((a - 1:Nat):Int):=by rw [w64 (by omega) (by omega)]; omega
theorem sp_swapRange (F : PV) (id N a b n t : Nat) (d : Nat → Ac) (hid : id < t) (hab : a + n ≤ b) (hbN : b + n ≤ N) (hN : N ≤ 1000000) :
    Zbg Tryz.prog 164 [.own id 0 N,pI a,pI b,pI n,F] ⟨[(id,.arr false 7 (rws d N))],t⟩ (fun _ h'=>∃ d',Swp d d' a b n ∧ ∃ t',t ≤ t' ∧ h' = ⟨[(id,.arr false 7 (rws d' N))],t'⟩):=by
  refine Zaq (vc:=Zcy) (ts:=[]) Go.Proofs.Tryz.func164 (by kernel_rfl) rfl rfl (Nat.le_of_ble_eq_true rfl) (by kernel_rfl) ?_
  unfold Zcy
  try dsimp only [ZM,ZO,ZN,ZG]
  refine Zac (Zaa [0,1,2,3,10] ?_)
  simp only [Zab,Zad,Zaf,pok,pval,VA.ev,Env.get,Env.put,Env.keep,Za2,Zae,Nat.succ_ne_self,Nat.reduceEqDiff,Nat.reduceAdd,ite_true,ite_false,true_and,reduceCtorEq,Nat.zero_add]
  refine Zaj ?_
  refine Za4 (σ:={ s:Nat × (Nat → Ac) × Nat // s.1 ≤ n ∧ Swp d s.2.1 a b s.1 ∧ t ≤ s.2.2 }) (fun s=>([(0,.own id 0 N),(1,pI a),(2,pI b),(3,pI n),(10,pI s.1.1)],⟨[(id,.arr false 7 (rws s.1.2.1 N))],s.1.2.2⟩)) (fun s=>n - s.1.1) ⟨(0,d,t),by simp only []; exact ⟨by omega,⟨fun i hi=>by omega,fun i hi=>by omega,fun _ _ _=>rfl⟩,by omega⟩⟩ ?_ ?_ ?_
  · simp only [Env.get,Nat.succ_ne_self,Env.le,Nat.reduceEqDiff,ite_true,ite_false,true_and,and_true,reduceCtorEq]
    try first | rfl | exact ⟨rfl,rfl⟩
  · simp only [Heap.get,Heap.le,HL.get,HL.le,Nat.le_refl,ite_true,and_true]
  rintro ⟨⟨i,d1,t1⟩,hi,hsw,ht⟩
  simp only [] at hi hsw ht ⊢
  refine Zac ?_
  refine Zac (Zaa [0,1,2,3,10,13] ?_)
  simp only [Zab,Zad,Zaf,pok,pval,VA.ev,Env.get,Env.put,Env.keep,Zae,intV,binV,Zah,Heap.get,Heap.le,HL.le,Nat.succ_ne_self,Env.le,Nat.reduceEqDiff,ite_true,ite_false,true_and,and_true,reduceCtorEq]
  refine Zai rfl (fun h1=>?_) (fun h1=>?_)
  · refine Zak ?_
    try simp only [Zae]
    simp only [decide_eq_true_eq] at h1
    have e1:=adI (a:=a) (b:=i) (by omega)
    have e2:=adI (a:=b) (b:=i) (by omega)
    refine Zac ?_
    refine Zaj ?_
    refine VW_draw2H [0,1,2,3,10] (by simp [Heap.le,Heap.get,HL.le,HL.get]) ?_
    have g1:∀ d:Nat → Ac,(rws d N).getD (a + i) [] = (d (a + i)).enc:=fun d=>rws_get (by omega)
    have g2:∀ d:Nat → Ac,(rws d N).getD (b + i) [] = (d (b + i)).enc:=fun d=>rws_get (by omega)
    simp only [Zaf,DrawH,VOp.isIaddr,QW,dok,dval,VOp.pure,VOp.simple,VOp.det,pok,pval,VA.ev,Env.get,Env.put,Env.keep,Zae,Zal,gd,aggV,intV,binV,Zah,isInt,numOf,lenV,Zag,Zap,Zax,Zas,PV.cells,PV.fits,overlay,PV.nth,PV.row,Heap.get,Heap.set,HL.get,HL.set,HL.del,Nat.le_refl,Nat.succ_ne_self,Zbh,Za9,List.getD_cons_zero,List.getD_cons_succ,List.take,List.drop,List.nil_append,Nat.reduceEqDiff,Nat.reduceAdd,Bool.false_eq_true,Bool.true_eq_false,ite_true,ite_false,true_and,and_true,implies_true,forall_const,reduceCtorEq,BEq.rfl,Nat.zero_add,imp_self,Int.toNat_natCast,e1,e2,g1,g2,Zcs,Zb2,ac_drop,rws_len,rws_set,List.append_nil]
    repeat (with_reducible refine And.intro ?_ ?_; first | omega | (with_reducible constructor <;> omega) | exact False.elim | exact True.intro)
    refine Zaa [0,1,2,3,10] ?_
    simp only [Zab,Zad,Zaf,pok,pval,VA.ev,Env.get,Env.put,Env.keep,Zae,intV,binV,Zah,HL.get,Nat.succ_ne_self,Nat.reduceEqDiff,ite_true,ite_false,true_and,reduceCtorEq,Option.some.injEq,ad1 (a:=i) (by omega)]
    refine ⟨⟨(i + 1,upd (upd d1 (a + i) (d1 (b + i))) (b + i) (d1 (a + i)),t1),by simp only []; omega,swp_more hsw (by omega),ht⟩,?_,?_,?_⟩
    · simp only []
    · simp only [Nat.le_refl,and_true]
    · simp only []; omega
  · simp only [decide_eq_false_iff_not] at h1
    refine Zaz ?_
    try simp only [Zae,Zal,retQ,Zau,ite_true,true_and]
    obtain rfl:i = n:=by omega
    exact ⟨d1,hsw,t1,ht,rfl⟩
theorem sp_rotate (F : PV) (id N a m b t : Nat) (d : Nat → Ac) (hid : id < t) (ham : a < m) (hmb : m < b) (hbN : b ≤ N) (hN : N ≤ 1000000) :
    Zbg Tryz.prog 155 [.own id 0 N,pI a,pI m,pI b,F] ⟨[(id,.arr false 7 (rws d N))],t⟩ (fun _ h'=>∃ d',Rot d d' a m b ∧ ∃ t',t ≤ t' ∧ h' = ⟨[(id,.arr false 7 (rws d' N))],t'⟩):=by
  refine Zaq (vc:=Zdn) (ts:=[]) Go.Proofs.Tryz.func155 (by kernel_rfl) rfl rfl (Nat.le_of_ble_eq_true rfl) (by kernel_rfl) ?_
  unfold Zdn
  try dsimp only [ZM,ZO,ZN,ZG]
  refine Zac (Zaa [0,2,3,4,10] ?_)
  simp only [Zab,Zad,Zaf,pok,pval,VA.ev,Env.get,Env.put,Env.keep,Za2,Zae,intV,binV,Zah,Nat.succ_ne_self,Nat.reduceEqDiff,Nat.reduceAdd,ite_true,ite_false,true_and,reduceCtorEq,Nat.zero_add,sbI (a:=m) (b:=a) (by omega) (by omega)]
  refine Zac (Zaa [0,2,4,10,11] ?_)
  simp only [Zab,Zad,Zaf,pok,pval,VA.ev,Env.get,Env.put,Env.keep,Zae,intV,binV,Zah,Nat.succ_ne_self,Nat.reduceEqDiff,ite_true,ite_false,true_and,reduceCtorEq,sbI (a:=b) (b:=m) (by omega) (by omega)]
  refine Zac ?_
  refine Zaj ?_
  refine Za4 (σ:={ s:Nat × Nat × (Nat → Ac) × Nat // 0 < s.1 ∧ 0 < s.2.1 ∧ s.1 ≤ m - a ∧ s.2.1 ≤ b - m ∧ (∀ d',Rot s.2.2.1 d' (m - s.1) m (m + s.2.1) → Rot d d' a m b) ∧ t ≤ s.2.2.2 }) (fun s=>([(0,.own id 0 N),(2,pI m),(4,F),(10,pI s.1.1),(11,pI s.1.2.1)],⟨[(id,.arr false 7 (rws s.1.2.2.1 N))],s.1.2.2.2⟩)) (fun s=>s.1.1 + s.1.2.1) ⟨(m - a,b - m,d,t),by simp only []; refine ⟨by omega,by omega,by omega,by omega,fun d' h=>?_,by omega⟩; rwa [show m - (m - a) = a by omega,show m + (b - m) = b by omega] at h⟩ ?_ ?_ ?_
  · simp only [Env.get,Nat.succ_ne_self,Env.le,Nat.reduceEqDiff,ite_true,ite_false,and_true,reduceCtorEq]
    try first | rfl | exact ⟨rfl,rfl⟩
  · simp only [Heap.get,Heap.le,HL.get,HL.le,Nat.le_refl,ite_true,and_true]
  rintro ⟨⟨i,j,d1,t1⟩,hi0,hj0,hi,hj,hsw,ht⟩
  simp only [] at hi0 hj0 hi hj hsw ht ⊢
  refine Zac ?_
  refine Zac (Zaa [0,2,4,10,11,20] ?_)
  simp only [Zab,Zad,Zaf,pok,pval,VA.ev,Env.get,Env.put,Env.keep,Zae,intV,binV,Zah,Heap.get,Heap.le,HL.le,Nat.succ_ne_self,Env.le,Nat.reduceEqDiff,ite_true,ite_false,true_and,and_true,reduceCtorEq]
  refine Zai rfl (fun h1=>?_) (fun h1=>?_)
  · refine Zak ?_
    try simp only [Zae]
    simp only [bne_iff_ne,ne_eq,Int.natCast_inj] at h1
    have e1:=sbI (a:=m) (b:=i) (by omega) (by omega)
    have e2:=adI (a:=m) (b:=j) (by omega)
    refine Zaj ?_
    refine Zac (Zaa [0,2,4,10,11,23] ?_)
    simp only [Zab,Zad,Zaf,pok,pval,VA.ev,Env.get,Env.put,Env.keep,Zae,intV,binV,Zah,Nat.succ_ne_self,Nat.reduceEqDiff,ite_true,ite_false,true_and,reduceCtorEq]
    refine Zai rfl (fun h2=>?_) (fun h2=>?_)
    · simp only [decide_eq_true_eq] at h2
      refine Zac (Zaa [0,2,4,10,11] ?_)
      simp only [Zab,Zad,Zaf,pok,pval,VA.ev,Env.get,Env.put,Env.keep,Zae,intV,binV,Zah,Nat.succ_ne_self,List.map,Nat.reduceEqDiff,ite_true,ite_false,true_and,reduceCtorEq,e1]
      refine Zbg.mono (sp_swapRange F id N (m - i) m j t1 d1 (by omega) (by omega) (by omega) hN) ?_
      rintro p h' ⟨d2,hs2,t2,ht2,rfl⟩
      skip
      refine Zaa [0,2,4,10,11] ?_
      simp only [Zab,Zad,Zaf,pok,pval,VA.ev,Env.get,Env.put,Env.keep,Zae,Zal,intV,binV,Zah,HL.get,Nat.succ_ne_self,Nat.reduceEqDiff,ite_true,ite_false,true_and,reduceCtorEq,Option.some.injEq,sbI (a:=i) (b:=j) (by omega) (by omega)]
      refine ⟨⟨(i - j,j,d2,t2),by simp only []; exact ⟨by omega,by omega,by omega,by omega,fun d' h=>hsw d' (Rot.left (by omega) (by omega) hs2 h),by omega⟩⟩,?_,?_,?_⟩
      · simp only [and_true]
      · simp only [Nat.le_refl,and_true]
      · simp only []; omega
    · simp only [decide_eq_false_iff_not] at h2
      have e3:=sbI (a:=m + j) (b:=i) (by omega) (by omega)
      refine Zac (Zaa [0,2,4,10,11] ?_)
      simp only [Zab,Zad,Zaf,pok,pval,VA.ev,Env.get,Env.put,Env.keep,Zae,intV,binV,Zah,Nat.succ_ne_self,List.map,Nat.reduceEqDiff,ite_true,ite_false,true_and,reduceCtorEq,e1,e2,e3]
      refine Zbg.mono (sp_swapRange F id N (m - i) (m + j - i) i t1 d1 (by omega) (by omega) (by omega) hN) ?_
      rintro p h' ⟨d2,hs2,t2,ht2,rfl⟩
      skip
      refine Zaa [0,2,4,10,11] ?_
      simp only [Zab,Zad,Zaf,pok,pval,VA.ev,Env.get,Env.put,Env.keep,Zae,Zal,intV,binV,Zah,HL.get,Nat.succ_ne_self,Nat.reduceEqDiff,ite_true,ite_false,true_and,reduceCtorEq,Option.some.injEq,sbI (a:=j) (b:=i) (by omega) (by omega)]
      refine ⟨⟨(i,j - i,d2,t2),by simp only []; exact ⟨by omega,by omega,by omega,by omega,fun d' h=>hsw d' (Rot.right (by omega) (by omega) hs2 h),by omega⟩⟩,?_,?_,?_⟩
      · simp only [and_true]
      · simp only [Nat.le_refl,and_true]
      · simp only []; omega
  · simp only [bne_eq_false_iff_eq,Int.natCast_inj] at h1
    subst h1
    refine Zaz ?_
    try simp only [Zae,Zal,retQ,ite_true]
    refine Zaa [] ?_
    simp only [Zab,Zad,Zaf,pok,pval,VA.ev,Env.get,Env.put,retQ,Zau,intV,binV,Zah,Nat.succ_ne_self,List.map,Nat.reduceEqDiff,ite_true,ite_false,true_and,reduceCtorEq,sbI (a:=m) (b:=i) (by omega) (by omega)]
    refine Zbg.mono (sp_swapRange F id N (m - i) m i t1 d1 (by omega) (by omega) (by omega) hN) ?_
    rintro p h' ⟨d2,hs2,t2,ht2,rfl⟩
    skip
    exact ⟨d2,hsw d2 (Rot.last (by omega) hs2),t2,by omega,rfl⟩
end Go.Proofs.YtehokmhebnkfdaaGreat.w
namespace Go.Proofs.YtehokmhebnkfdaaGreat.w
open Go Go.VM
set_option maxRecDepth 20000
set_option maxHeartbeats 0
set_option pp.deepTerms false
def Zcn:VC:=(.seq (.region [ZM 10 1,ZO 11 (.bin .add (.t 10) (.c (.int .i64 1))),ZM 8 11] false) (.block 0 (.loop (.seq (.seq (.region [ZM 12 8,ZM 13 2,ZO 14 (.bin .lss (.t 12) (.t 13))] false) (.cond (.t 14) .skip (.exit 0))) (.seq (.block 1 (.seq (.region [ZM 17 8,ZM 9 17] false) (.block 2 (.loop (.seq (.seq (.region [ZM 18 9,ZM 19 1,ZO 20 (.bin .gtr (.t 18) (.t 19)),ZM 21 20,ZG 22 (.mv (.t 3)) 21 true,ZG 23 (.mv (.t 0)) 21 true,ZG 24 (.mv (.t 9)) 21 true,ZG 25 (.iaddr 7 (.t 23) (.t 24)) 21 true,ZG 26 (.load true 7 (.t 25)) 21 true,ZG 27 (.mv (.t 0)) 21 true,ZG 28 (.mv (.t 9)) 21 true,ZG 29 (.bin .sub (.t 28) (.c (.int .i64 1))) 21 true,ZG 30 (.iaddr 7 (.t 27) (.t 29)) 21 true,ZG 31 (.load true 7 (.t 30)) 21 true,ZG 32 (.callv (.t 22) [(.t 26),(.t 31)]) 21 true,ZG 33 (.bin .lss (.t 32) (.c (.int .i64 0))) 21 true,ZO 34 (.pick (.t 21) (.t 33) (.c (.bool false)))] true) (.cond (.t 34) .skip (.exit 2))) (.seq (.block 3 (.draw2 [ZM 37 0,ZM 38 9,ZM 39 0,ZM 40 9,ZO 41 (.bin .sub (.t 40) (.c (.int .i64 1))),ZM 42 0,ZM 43 9,ZO 44 (.bin .sub (.t 43) (.c (.int .i64 1))),ZO 45 (.iaddr 7 (.t 42) (.t 44)),ZO 46 (.load true 7 (.t 45)),ZM 47 0,ZM 48 9,ZO 49 (.iaddr 7 (.t 47) (.t 48)),ZO 50 (.load true 7 (.t 49)),ZO 51 (.iaddr 7 (.t 37) (.t 38)),ZN (.store 7 (.t 51) (.t 46)),ZO 52 (.iaddr 7 (.t 39) (.t 41)),ZN (.store 7 (.t 52) (.t 50))] [true,true,false,false,false,true,true,true,true,true,true,true,true,true,true,false,false,false])) (.region [ZM 35 9,ZO 36 (.bin .sub (.t 35) (.c (.int .i64 1))),ZM 9 36] false))))))) (.region [ZM 15 8,ZO 16 (.bin .add (.t 15) (.c (.int .i64 1))),ZM 8 16] false))))))
theorem cmpA_lt (x y:Ac):decide (cmpA x y < 0) = aheadA x y:=by
  rw [Bool.eq_iff_iff,ahead_iff,decide_eq_true_eq]
  simp only [cmpA,orI,cmpI]
  repeat' split
  all_goals omega
theorem swp_one (d:Nat → Ac) (k:Nat):Swp d (upd (upd d (k + 1) (d k)) k (d (k + 1))) k (k + 1) 1 :=
  Swp.one (upd_at _ _ _) (by rw [upd_ne _ _ (by omega),upd_at]) (fun i h1 h2=>by rw [upd_ne _ _ h1,upd_ne _ _ h2])
theorem swp_one' (d:Nat → Ac) (k:Nat):Swp d (upd (upd d k (d (k + 1))) (k + 1) (d k)) k (k + 1) 1 :=
  Swp.one (by rw [upd_ne _ _ (by omega),upd_at]) (upd_at _ _ _) (fun i h1 h2=>by rw [upd_ne _ _ h2,upd_ne _ _ h1])
theorem swp_same {d d' d0:Nat → Ac} {k a b:Nat} (h:Swp d d' k (k + 1) 1) (hs:Same d0 d a b) (h1:a ≤ k) (h2:k + 1 < b):Same d0 d' a b:=fun i hi=>by
  rw [h.out i (by omega) (by omega)]; exact hs i hi
theorem srt_one (d:Nat → Ac) (a:Nat):Srt leA d a (a + 1):=fun i j h1 h2 h3=>by omega
theorem sp_insertion (id N a b t : Nat) (d : Nat → Ac) (hid : id < t) (hab : a ≤ b) (hbN : b ≤ N) (hN : N ≤ 1000000) :
    Zbg Tryz.prog 136 [.own id 0 N,pI a,pI b,.fn (.func 74) [] []] ⟨[(id,.arr false 7 (rws d N))],t⟩
      (fun _ h'=>∃ d',(Same d d' a b ∧ (seg d' a b).Perm (seg d a b) ∧ Srt leA d' a b) ∧ ∃ t',t ≤ t' ∧ h' = ⟨[(id,.arr false 7 (rws d' N))],t'⟩):=by
  refine Zaq (vc:=Zcn) (ts:=[]) Go.Proofs.Tryz.func136 (by kernel_rfl) rfl rfl (Nat.le_of_ble_eq_true rfl) (by kernel_rfl) ?_
  unfold Zcn
  try dsimp only [ZM,ZO,ZN,ZG]
  refine Zac (Zaa [0,1,2,3,8] ?_)
  simp only [Zab,Zad,Zaf,pok,pval,VA.ev,Env.get,Env.put,Env.keep,Za2,Zae,intV,binV,Zah,Nat.succ_ne_self,Nat.reduceEqDiff,Nat.reduceAdd,ite_true,ite_false,true_and,reduceCtorEq,Nat.zero_add,ad1 (a:=a) (by omega)]
  refine Zaj ?_
  refine Za4 (σ:={ s:Nat × (Nat → Ac) × Nat // a + 1 ≤ s.1 ∧ (s.1 ≤ b ∨ s.1 = a + 1) ∧ Same d s.2.1 a b ∧ (seg s.2.1 a b).Perm (seg d a b) ∧ Srt leA s.2.1 a s.1 ∧ t ≤ s.2.2 }) (fun s=>([(0,.own id 0 N),(1,pI a),(2,pI b),(3,.fn (.func 74) [] []),(8,pI s.1.1)],⟨[(id,.arr false 7 (rws s.1.2.1 N))],s.1.2.2⟩)) (fun s=>b - s.1.1) ⟨(a + 1,d,t),⟨Nat.le_refl _,.inr rfl,fun _ _=>rfl,.refl _,srt_one d a,Nat.le_refl _⟩⟩ ?_ ?_ ?_
  · simp only [Env.get,Nat.succ_ne_self,Env.le,Nat.reduceEqDiff,ite_true,ite_false,and_true,reduceCtorEq]
    try first | rfl | exact ⟨rfl,rfl⟩
  · simp only [Heap.get,Heap.le,HL.get,HL.le,Nat.le_refl,ite_true,and_true]
  rintro ⟨⟨i,d1,t1⟩,hi,hib,hsm,hpm,hsr,ht⟩
  simp only [] at hi hib hsm hpm hsr ht ⊢
  refine Zac ?_
  refine Zac (Zaa [0,1,2,3,8,14] ?_)
  simp only [Zab,Zad,Zaf,pok,pval,VA.ev,Env.get,Env.put,Env.keep,Zae,intV,binV,Zah,Heap.get,Heap.le,HL.le,Nat.succ_ne_self,Env.le,Nat.reduceEqDiff,ite_true,ite_false,true_and,and_true,reduceCtorEq]
  refine Zai rfl (fun h1=>?_) (fun h1=>?_)
  · refine Zak ?_
    try simp only [Zae]
    simp only [decide_eq_true_eq] at h1
    have ib:i < b:=by omega
    refine Zac ?_
    refine Zaj ?_
    refine Zac (Zaa [0,1,2,3,8,9] ?_)
    simp only [Zab,Zad,Zaf,pok,pval,VA.ev,Env.get,Env.put,Env.keep,Zae,Nat.succ_ne_self,Nat.reduceEqDiff,ite_true,ite_false,true_and,reduceCtorEq]
    refine Zaj ?_
    refine Za4 (σ:={ s:Nat × (Nat → Ac) × Nat // a ≤ s.1 ∧ s.1 ≤ i ∧ Same d s.2.1 a b ∧ (seg s.2.1 a b).Perm (seg d a b) ∧ Ins leA s.2.1 a i s.1 ∧ t ≤ s.2.2 }) (fun s=>([(0,.own id 0 N),(1,pI a),(2,pI b),(3,.fn (.func 74) [] []),(8,pI i),(9,pI s.1.1)],⟨[(id,.arr false 7 (rws s.1.2.1 N))],s.1.2.2⟩)) (fun s=>s.1.1) ⟨(i,d1,t1),by simp only []; exact ⟨by omega,by omega,hsm,hpm,Ins.start hsr,ht⟩⟩ ?_ ?_ ?_
    · simp only [Env.get,Nat.succ_ne_self,Env.le,Nat.reduceEqDiff,ite_true,ite_false,and_true,reduceCtorEq]
      try first | rfl | exact ⟨rfl,rfl⟩
    · simp only [Heap.get,Heap.le,HL.get,HL.le,Nat.le_refl,ite_true,and_true]
    rintro ⟨⟨j,d2,t2⟩,haj,hji,hsm2,hpm2,hins,ht2⟩
    simp only [] at haj hji hsm2 hpm2 hins ht2 ⊢
    refine Zac ?_
    by_cases hj:a < j
    · obtain ⟨k,rfl⟩:∃ k,j = k + 1:=⟨j - 1,by omega⟩
      have g1:∀ d:Nat → Ac,(rws d N).getD k [] = (d k).enc:=fun d=>rws_get (by omega)
      have g2:∀ d:Nat → Ac,(rws d N).getD (k + 1) [] = (d (k + 1)).enc:=fun d=>rws_get (by omega)
      have e0:decide ((a:Int) < ((k + 1:Nat):Int)) = true:=decide_eq_true (by omega)
      have e1:IntKind.i64.wrap (((k + 1:Nat):Int) - 1) = ((k:Nat):Int):=by rw [w64 (by omega) (by omega)]; omega
      refine Zac (Zb3 [0,1,2,3,8,9,34] (by simp [Heap.le,Heap.get,HL.le,HL.get]) ?_)
      simp only [Zbb,Zbu,DrawW_y,QW,dok,dval,VOp.pure,VOp.simple,VOp.det,pok,pval,VA.ev,Env.get,Env.put,Env.keep,Zae,gd,Za1,isBool,aggV,intV,binV,Zah,strV,isInt,numOf,lenV,Zag,Zap,Zax,Zas,PV.nth,PV.row,Heap.get,Heap.le,HL.get,HL.le,Nat.le_refl,Nat.succ_ne_self,Env.le,List.drop,Nat.reduceEqDiff,Bool.true_eq_false,ite_true,ite_false,true_and,and_true,implies_true,forall_const,reduceCtorEq,Nat.zero_add,imp_self,Int.toNat_natCast,e0,e1,g1,g2,Zcs,Zb2,rws_len]
      repeat (with_reducible refine And.intro ?_ ?_; first | omega | (with_reducible constructor <;> omega) | exact False.elim | exact True.intro)
      refine ⟨_,.inl (Zdw ..),?_⟩
      try simp only [true_and,cmpA_lt]
      refine Zai rfl (fun h2=>?_) (fun h2=>?_)
      · refine Zak ?_
        try simp only [Zae]
        refine Zac ?_
        refine Zaj ?_
        refine VW_draw2H [0,1,2,3,8,9] (by simp [Heap.le,Heap.get,HL.le,HL.get]) ?_
        simp only [Zaf,DrawH,VOp.isIaddr,QW,dok,dval,VOp.pure,VOp.simple,VOp.det,pok,pval,VA.ev,Env.get,Env.put,Env.keep,Zae,Zal,gd,aggV,intV,binV,Zah,isInt,numOf,lenV,Zag,Zap,Zax,Zas,PV.cells,PV.fits,overlay,PV.nth,PV.row,Heap.get,Heap.set,HL.get,HL.set,HL.del,Nat.le_refl,Nat.succ_ne_self,Zbh,Za9,List.getD_cons_zero,List.getD_cons_succ,List.take,List.drop,List.nil_append,Nat.reduceEqDiff,Nat.reduceAdd,Bool.false_eq_true,Bool.true_eq_false,ite_true,ite_false,true_and,and_true,implies_true,forall_const,reduceCtorEq,BEq.rfl,Nat.zero_add,imp_self,Int.toNat_natCast,e1,g1,g2,Zcs,Zb2,ac_drop,rws_len,rws_set,List.append_nil]
        repeat (with_reducible refine And.intro ?_ ?_; first | omega | (with_reducible constructor <;> omega) | exact False.elim | exact True.intro)
        refine Zaa [0,1,2,3,8,9] ?_
        simp only [Zab,Zad,Zaf,pok,pval,VA.ev,Env.get,Env.put,Env.keep,Zae,intV,binV,Zah,HL.get,Nat.succ_ne_self,Nat.reduceEqDiff,ite_true,ite_false,true_and,reduceCtorEq,Option.some.injEq,e1]
        have hs:=swp_one d2 k
        refine ⟨⟨(k,upd (upd d2 (k + 1) (d2 k)) k (d2 (k + 1)),t2),by simp only []; exact ⟨by omega,by omega,swp_same hs hsm2 (by omega) (by omega),(hs.perm (by omega) (by omega)).trans hpm2,hins.step (by omega) (by omega) hs (leA_of_ahead h2),ht2⟩⟩,?_,?_,?_⟩
        · simp only []
        · simp only [Nat.le_refl,and_true]
        · simp only []; omega
      · refine Zaz ?_
        try simp only [Zae,Zal,retQ,Zau,Nat.succ_ne_self,ite_true,ite_false,true_and,reduceCtorEq]
        refine Zaa [0,1,2,3,8] ?_
        simp only [Zab,Zad,Zaf,pok,pval,VA.ev,Env.get,Env.put,Env.keep,Zae,intV,binV,Zah,HL.get,Nat.succ_ne_self,Nat.reduceEqDiff,ite_true,ite_false,true_and,reduceCtorEq,Option.some.injEq,ad1 (a:=i) (by omega)]
        refine ⟨⟨(i + 1,d2,t2),by simp only []; exact ⟨by omega,by omega,hsm2,hpm2,hins.done leA_trans (.inr ⟨hj,h2⟩),ht2⟩⟩,?_,?_,?_⟩
        · simp only []
        · simp only [Nat.le_refl,and_true]
        · simp only []; omega
    · obtain rfl:j = a:=by omega
      have e0:decide ((j:Int) < (j:Int)) = false:=decide_eq_false (by omega)
      refine Zac (Zb3 [0,1,2,3,8,9,34] (by simp [Heap.le,Heap.get,HL.le,HL.get]) ?_)
      simp only [Zbb,Zbu,DrawW_xt,QW,dok,dval,VOp.pure,VOp.simple,VOp.det,pok,pval,VA.ev,Env.get,Env.put,Env.keep,Zae,gd,Za1,isBool,intV,binV,Zah,Heap.get,Heap.le,HL.le,Nat.succ_ne_self,Env.le,Nat.reduceEqDiff,Bool.false_eq_true,ite_true,ite_false,true_and,and_true,implies_true,reduceCtorEq,e0]
      refine Zai rfl (fun h2=>by cases h2) (fun h2=>?_)
      refine Zaz ?_
      try simp only [Zae,Zal,retQ,Zau,Nat.succ_ne_self,ite_true,ite_false,true_and,reduceCtorEq]
      refine Zaa [0,1,2,3,8] ?_
      simp only [Zab,Zad,Zaf,pok,pval,VA.ev,Env.get,Env.put,Env.keep,Zae,intV,binV,Zah,HL.get,Nat.succ_ne_self,Nat.reduceEqDiff,ite_true,ite_false,true_and,reduceCtorEq,Option.some.injEq,ad1 (a:=i) (by omega)]
      refine ⟨⟨(i + 1,d2,t2),by simp only []; exact ⟨by omega,by omega,hsm2,hpm2,hins.done leA_trans (.inl rfl),ht2⟩⟩,?_,?_,?_⟩
      · simp only []
      · simp only [Nat.le_refl,and_true]
      · simp only []; omega
  · simp only [decide_eq_false_iff_not] at h1
    refine Zaz ?_
    try simp only [Zae,Zal,retQ,Zau,ite_true,true_and]
    exact ⟨d1,⟨hsm,hpm,fun x y h2 h3 h4=>hsr x y h2 h3 (by omega)⟩,t1,ht,rfl⟩
end Go.Proofs.YtehokmhebnkfdaaGreat.w
namespace Go.Proofs.YtehokmhebnkfdaaGreat.w
open Go Go.VM
set_option maxRecDepth 20000
set_option maxHeartbeats 0
set_option pp.deepTerms false
def Zc4:VC:=(.seq (.seq (.region [ZM 25 2,ZM 26 1,ZO 27 (.bin .sub (.t 25) (.t 26)),ZO 28 (.bin .eql (.t 27) (.c (.int .i64 1)))] false) (.cond (.t 28) (.seq (.region [ZM 29 2,ZM 10 29] false) (.seq (.region [ZM 30 3,ZM 11 30] false) (.seq (.block 0 (.loop (.seq (.seq (.region [ZM 31 10,ZM 32 11,ZO 33 (.bin .lss (.t 31) (.t 32))] false) (.cond (.t 33) .skip (.exit 0))) (.block 1 (.seq (.region [ZM 34 10,ZM 35 11,ZO 36 (.bin .add (.t 34) (.t 35)),ZO 37 (.conv .u64 (.t 36)),ZO 38 (.bin .shr (.t 37) (.c (.int .u64 1))),ZO 39 (.conv .i64 (.t 38)),ZM 12 39] false) (.seq (.region [ZM 40 4,ZM 41 0,ZM 42 12,ZO 43 (.iaddr 7 (.t 41) (.t 42)),ZO 44 (.load true 7 (.t 43)),ZM 45 0,ZM 46 1,ZO 47 (.iaddr 7 (.t 45) (.t 46)),ZO 48 (.load true 7 (.t 47)),ZO 49 (.callv (.t 40) [(.t 44),(.t 48)]),ZO 50 (.bin .lss (.t 49) (.c (.int .i64 0)))] true) (.cond (.t 50) (.region [ZM 51 12,ZO 52 (.bin .add (.t 51) (.c (.int .i64 1))),ZM 10 52] false) (.region [ZM 53 12,ZM 11 53] false)))))))) (.seq (.seq (.region [ZM 54 1,ZM 13 54] false) (.block 2 (.loop (.seq (.seq (.region [ZM 55 13,ZM 56 10,ZO 57 (.bin .sub (.t 56) (.c (.int .i64 1))),ZO 58 (.bin .lss (.t 55) (.t 57))] false) (.cond (.t 58) .skip (.exit 2))) (.seq (.block 3 (.draw2 [ZM 61 0,ZM 62 13,ZM 63 0,ZM 64 13,ZO 65 (.bin .add (.t 64) (.c (.int .i64 1))),ZM 66 0,ZM 67 13,ZO 68 (.bin .add (.t 67) (.c (.int .i64 1))),ZO 69 (.iaddr 7 (.t 66) (.t 68)),ZO 70 (.load true 7 (.t 69)),ZM 71 0,ZM 72 13,ZO 73 (.iaddr 7 (.t 71) (.t 72)),ZO 74 (.load true 7 (.t 73)),ZO 75 (.iaddr 7 (.t 61) (.t 62)),ZN (.store 7 (.t 75) (.t 70)),ZO 76 (.iaddr 7 (.t 63) (.t 65)),ZN (.store 7 (.t 76) (.t 74))] [true,true,false,false,false,true,true,true,true,true,true,true,true,true,true,false,false,false])) (.region [ZM 59 13,ZO 60 (.bin .add (.t 59) (.c (.int .i64 1))),ZM 13 60] false)))))) .ret)))) .skip)) (.seq (.seq (.region [ZM 77 3,ZM 78 2,ZO 79 (.bin .sub (.t 77) (.t 78)),ZO 80 (.bin .eql (.t 79) (.c (.int .i64 1)))] false) (.cond (.t 80) (.seq (.region [ZM 81 1,ZM 14 81] false) (.seq (.region [ZM 82 2,ZM 15 82] false) (.seq (.block 4 (.loop (.seq (.seq (.region [ZM 83 14,ZM 84 15,ZO 85 (.bin .lss (.t 83) (.t 84))] false) (.cond (.t 85) .skip (.exit 4))) (.block 5 (.seq (.region [ZM 86 14,ZM 87 15,ZO 88 (.bin .add (.t 86) (.t 87)),ZO 89 (.conv .u64 (.t 88)),ZO 90 (.bin .shr (.t 89) (.c (.int .u64 1))),ZO 91 (.conv .i64 (.t 90)),ZM 16 91] false) (.seq (.region [ZM 92 4,ZM 93 0,ZM 94 2,ZO 95 (.iaddr 7 (.t 93) (.t 94)),ZO 96 (.load true 7 (.t 95)),ZM 97 0,ZM 98 16,ZO 99 (.iaddr 7 (.t 97) (.t 98)),ZO 100 (.load true 7 (.t 99)),ZO 101 (.callv (.t 92) [(.t 96),(.t 100)]),ZO 102 (.bin .lss (.t 101) (.c (.int .i64 0))),ZO 103 (.un .not (.t 102))] true) (.cond (.t 103) (.region [ZM 104 16,ZO 105 (.bin .add (.t 104) (.c (.int .i64 1))),ZM 14 105] false) (.region [ZM 106 16,ZM 15 106] false)))))))) (.seq (.seq (.region [ZM 107 2,ZM 17 107] false) (.block 6 (.loop (.seq (.seq (.region [ZM 108 17,ZM 109 14,ZO 110 (.bin .gtr (.t 108) (.t 109))] false) (.cond (.t 110) .skip (.exit 6))) (.seq (.block 7 (.draw2 [ZM 113 0,ZM 114 17,ZM 115 0,ZM 116 17,ZO 117 (.bin .sub (.t 116) (.c (.int .i64 1))),ZM 118 0,ZM 119 17,ZO 120 (.bin .sub (.t 119) (.c (.int .i64 1))),ZO 121 (.iaddr 7 (.t 118) (.t 120)),ZO 122 (.load true 7 (.t 121)),ZM 123 0,ZM 124 17,ZO 125 (.iaddr 7 (.t 123) (.t 124)),ZO 126 (.load true 7 (.t 125)),ZO 127 (.iaddr 7 (.t 113) (.t 114)),ZN (.store 7 (.t 127) (.t 122)),ZO 128 (.iaddr 7 (.t 115) (.t 117)),ZN (.store 7 (.t 128) (.t 126))] [true,true,false,false,false,true,true,true,true,true,true,true,true,true,true,false,false,false])) (.region [ZM 111 17,ZO 112 (.bin .sub (.t 111) (.c (.int .i64 1))),ZM 17 112] false)))))) .ret)))) .skip)) (.seq (.region [ZM 129 1,ZM 130 3,ZO 131 (.bin .add (.t 129) (.t 130)),ZO 132 (.conv .u64 (.t 131)),ZO 133 (.bin .shr (.t 132) (.c (.int .u64 1))),ZO 134 (.conv .i64 (.t 133)),ZM 18 134] false) (.seq (.region [ZM 135 18,ZM 136 2,ZO 137 (.bin .add (.t 135) (.t 136)),ZM 19 137] false) (.seq (.region [ZO 20 (.mv (.c (.int .i64 0))),ZO 21 (.mv (.c (.int .i64 0)))] false) (.seq (.seq (.region [ZM 138 2,ZM 139 18,ZO 140 (.bin .gtr (.t 138) (.t 139))] false) (.cond (.t 140) (.seq (.region [ZM 141 19,ZM 142 3,ZO 143 (.bin .sub (.t 141) (.t 142)),ZM 20 143] false) (.region [ZM 144 18,ZM 21 144] false)) (.seq (.region [ZM 145 1,ZM 20 145] false) (.region [ZM 146 2,ZM 21 146] false)))) (.seq (.region [ZM 147 19,ZO 148 (.bin .sub (.t 147) (.c (.int .i64 1))),ZM 22 148] false) (.seq (.block 8 (.loop (.seq (.seq (.region [ZM 149 20,ZM 150 21,ZO 151 (.bin .lss (.t 149) (.t 150))] false) (.cond (.t 151) .skip (.exit 8))) (.block 9 (.seq (.region [ZM 152 20,ZM 153 21,ZO 154 (.bin .add (.t 152) (.t 153)),ZO 155 (.conv .u64 (.t 154)),ZO 156 (.bin .shr (.t 155) (.c (.int .u64 1))),ZO 157 (.conv .i64 (.t 156)),ZM 23 157] false) (.seq (.region [ZM 158 4,ZM 159 0,ZM 160 22,ZM 161 23,ZO 162 (.bin .sub (.t 160) (.t 161)),ZO 163 (.iaddr 7 (.t 159) (.t 162)),ZO 164 (.load true 7 (.t 163)),ZM 165 0,ZM 166 23,ZO 167 (.iaddr 7 (.t 165) (.t 166)),ZO 168 (.load true 7 (.t 167)),ZO 169 (.callv (.t 158) [(.t 164),(.t 168)]),ZO 170 (.bin .lss (.t 169) (.c (.int .i64 0))),ZO 171 (.un .not (.t 170))] true) (.cond (.t 171) (.region [ZM 172 23,ZO 173 (.bin .add (.t 172) (.c (.int .i64 1))),ZM 20 173] false) (.region [ZM 174 23,ZM 21 174] false)))))))) (.seq (.region [ZM 175 19,ZM 176 20,ZO 177 (.bin .sub (.t 175) (.t 176)),ZM 24 177] false) (.seq (.seq (.region [ZM 178 20,ZM 179 2,ZO 180 (.bin .lss (.t 178) (.t 179)),ZM 181 180,ZG 182 (.mv (.t 2)) 181 true,ZG 183 (.mv (.t 24)) 181 true,ZG 184 (.bin .lss (.t 182) (.t 183)) 181 true,ZO 185 (.pick (.t 181) (.t 184) (.c (.bool false)))] false) (.cond (.t 185) (.region [ZM 186 0,ZM 187 20,ZM 188 2,ZM 189 24,ZM 190 4,ZO 191 (.call 155 [(.t 186),(.t 187),(.t 188),(.t 189),(.t 190)])] false) .skip)) (.seq (.seq (.region [ZM 192 1,ZM 193 20,ZO 194 (.bin .lss (.t 192) (.t 193)),ZM 195 194,ZG 196 (.mv (.t 20)) 195 true,ZG 197 (.mv (.t 18)) 195 true,ZG 198 (.bin .lss (.t 196) (.t 197)) 195 true,ZO 199 (.pick (.t 195) (.t 198) (.c (.bool false)))] false) (.cond (.t 199) (.region [ZM 200 0,ZM 201 1,ZM 202 20,ZM 203 18,ZM 204 4,ZO 205 (.call 137 [(.t 200),(.t 201),(.t 202),(.t 203),(.t 204)])] false) .skip)) (.seq (.region [ZM 206 18,ZM 207 24,ZO 208 (.bin .lss (.t 206) (.t 207)),ZM 209 208,ZG 210 (.mv (.t 24)) 209 true,ZG 211 (.mv (.t 3)) 209 true,ZG 212 (.bin .lss (.t 210) (.t 211)) 209 true,ZO 213 (.pick (.t 209) (.t 212) (.c (.bool false)))] false) (.cond (.t 213) (.region [ZM 214 0,ZM 215 18,ZM 216 24,ZM 217 3,ZM 218 4,ZO 219 (.call 137 [(.t 214),(.t 215),(.t 216),(.t 217),(.t 218)])] false) .skip)))))))))))))
theorem half_u {n:Nat} (h:n ≤ 4611686018427387904):IntKind.i64.wrap ((IntKind.u64.wrap (n:Int)).fdiv (2 ^ min 1 IntKind.u64.bits)) = ((n / 2:Nat):Int):=by
  have e1:IntKind.u64.wrap (n:Int) = (n:Int):=by
    simp only [IntKind.wrap,IntKind.signed,IntKind.bits]
    simp; omega
  have e2:(2:Int) ^ min 1 IntKind.u64.bits = 2:=by decide
  have e3:(n:Int).fdiv 2 = ((n / 2:Nat):Int):=by
    rw [Int.fdiv_eq_ediv_of_nonneg _ (by omega)]; omega
  rw [e1,e2,e3,w64 (by omega) (by omega)]
theorem rot_l (d:Nat → Ac) {m e:Nat}:Rot d d m m e:=⟨fun _ _=>rfl,fun i hi=>rfl,fun i hi=>by omega⟩
theorem rot_r (d:Nat → Ac) {s m:Nat}:Rot d d s m m:=⟨fun _ _=>rfl,fun i hi=>by omega,fun i hi=>by rw [show s + (m - m) + i = s + i by omega]⟩
theorem mrg_none (d:Nat → Ac) {a s b:Nat} (h:s = a ∨ s = b):Mrg leA d d a s b:=Mrg.of_sorted fun h1 h2=>by
  rcases h with rfl | rfl
  · exact h2
  · exact h1
theorem sp_symMerge : ∀ (z id N a m b t : Nat) (d : Nat → Ac), b - a ≤ z → id < t → a < m → m < b → b ≤ N → N ≤ 1000000 →
    Zbg Tryz.prog 137 [.own id 0 N,pI a,pI m,pI b,.fn (.func 74) [] []] ⟨[(id,.arr false 7 (rws d N))],t⟩
      (fun _ h'=>∃ d',Mrg leA d d' a m b ∧ ∃ t',t ≤ t' ∧ h' = ⟨[(id,.arr false 7 (rws d' N))],t'⟩):=by
  intro z
  induction z with
  | zero=>intro id N a m b t d h1 h2 h3 h4; omega
  | succ z ih =>
  intro id N a m b t d hz hid ham hmb hbN hN
  refine Zaq (vc:=Zc4) (ts:=[]) Go.Proofs.Tryz.func137 (by kernel_rfl) rfl rfl (Nat.le_of_ble_eq_true rfl) (by kernel_rfl) ?_
  unfold Zc4
  try dsimp only [ZM,ZO,ZN,ZG]
  have e1:=sbI (a:=m) (b:=a) (by omega) (by omega)
  have e2:=sbI (a:=b) (b:=m) (by omega) (by omega)
  refine Zac ?_
  refine Zac (Zaa [0,1,2,3,4,28] ?_)
  simp only [Zab,Zad,Zaf,pok,pval,VA.ev,Env.get,Env.put,Env.keep,Za2,Zae,intV,binV,Zah,Nat.succ_ne_self,Nat.reduceEqDiff,Nat.reduceAdd,ite_true,ite_false,true_and,reduceCtorEq,Nat.zero_add,e1]
  refine Zai rfl (fun h1=>?_) (fun h1=>?_)
  · simp only [beq_iff_eq] at h1
    obtain rfl:m = a + 1:=by omega
    refine Zac (Zaa [0,1,3,4,10] ?_)
    simp only [Zab,Zad,Zaf,pok,pval,VA.ev,Env.get,Env.put,Env.keep,Zae,Nat.succ_ne_self,Nat.reduceEqDiff,ite_true,ite_false,true_and,reduceCtorEq]
    refine Zac (Zaa [0,1,4,10,11] ?_)
    simp only [Zab,Zad,Zaf,pok,pval,VA.ev,Env.get,Env.put,Env.keep,Zae,Nat.succ_ne_self,Nat.reduceEqDiff,ite_true,ite_false,true_and,reduceCtorEq]
    refine Zac ?_
    refine Zaj ?_
    refine Za4 (σ:={ s:Nat × Nat // a + 1 ≤ s.1 ∧ s.1 ≤ s.2 ∧ s.2 ≤ b ∧ (s.2 = b ∨ leA (d a) (d s.2)) ∧ (s.1 = a + 1 ∨ leA (d (s.1 - 1)) (d a)) }) (fun s=>([(0,.own id 0 N),(1,pI a),(4,.fn (.func 74) [] []),(10,pI s.1.1),(11,pI s.1.2)],⟨[(id,.arr false 7 (rws d N))],t⟩)) (fun s=>s.1.2 - s.1.1) ⟨(a + 1,b),⟨Nat.le_refl _,by show a + 1 ≤ b; omega,Nat.le_refl _,.inl rfl,.inl rfl⟩⟩ ?_ ?_ ?_
    · try simp only [Env.get,Nat.succ_ne_self,Env.le,Nat.reduceEqDiff,ite_true,ite_false,and_true,reduceCtorEq]
      all_goals (repeat' (first | rfl | trivial | omega | (simp only []; omega) | refine And.intro ?_ ?_))
    · try simp only [Heap.get,Heap.le,HL.get,HL.le,Nat.le_refl,ite_true,and_true]
      all_goals (repeat' (first | rfl | trivial | omega | (simp only []; omega) | refine And.intro ?_ ?_))
    rintro ⟨⟨i,j⟩,hi,hij,hj,hgj,hgi⟩
    simp only [] at hi hij hj hgj hgi ⊢
    refine Zac ?_
    refine Zac (Zaa [0,1,4,10,11,33] ?_)
    simp only [Zab,Zad,Zaf,pok,pval,VA.ev,Env.get,Env.put,Env.keep,Zae,intV,binV,Zah,Heap.get,Heap.le,HL.le,Nat.succ_ne_self,Env.le,Nat.reduceEqDiff,ite_true,ite_false,true_and,and_true,reduceCtorEq]
    refine Zai rfl (fun h2=>?_) (fun h2=>?_)
    · refine Zak ?_
      try simp only [Zae]
      simp only [decide_eq_true_eq] at h2
      have e3:=adI (a:=i) (b:=j) (by omega)
      have e4:=half_u (n:=i + j) (by omega)
      obtain ⟨c,hc⟩:∃ c,c = (i + j) / 2:=⟨_,rfl⟩
      rw [← hc] at e4
      have hci:i ≤ c:=by omega
      have hcj:c < j:=by omega
      refine Zaj ?_
      refine Zac (Zaa [0,1,4,10,11,12] ?_)
      simp only [Zab,Zad,Zaf,pok,pval,VA.ev,Env.get,Env.put,Env.keep,Zae,intV,binV,Zah,convV,isInt,Nat.succ_ne_self,Nat.reduceEqDiff,ite_true,ite_false,true_and,reduceCtorEq,Int.reduceToNat,e3,e4]
      repeat (with_reducible refine And.intro ?_ ?_; first | omega | (with_reducible constructor <;> omega) | exact False.elim | exact True.intro)
      have g1:∀ d:Nat → Ac,(rws d N).getD c [] = (d c).enc:=fun d=>rws_get (by omega)
      have g2:∀ d:Nat → Ac,(rws d N).getD a [] = (d a).enc:=fun d=>rws_get (by omega)
      refine Zac (Zb3 [0,1,4,10,11,12,50] (by simp [Heap.le,Heap.get,HL.le,HL.get]) ?_)
      simp only [Zbb,Zbu,QW,dok,dval,VOp.pure,VOp.simple,VOp.det,pok,pval,VA.ev,Env.get,Env.put,Env.keep,Zae,gd,aggV,intV,binV,Zah,strV,isInt,numOf,lenV,Zag,Zap,Zax,Zas,PV.nth,PV.row,Heap.get,HL.get,Nat.le_refl,Nat.succ_ne_self,List.drop,Nat.reduceEqDiff,Bool.true_eq_false,ite_true,ite_false,true_and,and_true,implies_true,forall_const,reduceCtorEq,Nat.zero_add,imp_self,Int.toNat_natCast,e4,g1,g2,Zcs,Zb2,rws_len]
      repeat (with_reducible refine And.intro ?_ ?_; first | omega | (with_reducible constructor <;> omega) | exact False.elim | exact True.intro)
      refine ⟨_,.inl (Zdw ..),?_⟩
      try simp only [true_and,cmpA_lt]
      refine Zai rfl (fun h3=>?_) (fun h3=>?_)
      · refine Zaa [0,1,4,10,11] ?_
        simp only [Zab,Zad,Zaf,pok,pval,VA.ev,Env.get,Env.put,Env.keep,Zae,Zal,intV,binV,Zah,HL.get,Nat.le_refl,Nat.succ_ne_self,Nat.reduceEqDiff,ite_true,ite_false,true_and,and_true,reduceCtorEq,ad1 (a:=c) (by omega)]
        refine ⟨⟨(c + 1,j),by show a + 1 ≤ c + 1; omega,by show c + 1 ≤ j; omega,hj,hgj,.inr (leA_of_ahead h3)⟩,?_⟩
        try simp only [true_and,and_true]
        all_goals (repeat' (first | rfl | trivial | omega | (simp only []; omega) | refine And.intro ?_ ?_))
      · refine Zaa [0,1,4,10,11] ?_
        simp only [Zab,Zad,Zaf,pok,pval,VA.ev,Env.get,Env.put,Env.keep,Zae,Zal,HL.get,Nat.le_refl,Nat.succ_ne_self,Nat.reduceEqDiff,ite_true,ite_false,true_and,and_true,reduceCtorEq]
        refine ⟨⟨(i,c),hi,hci,by show c ≤ b; omega,.inr h3,hgi⟩,?_⟩
        try simp only [true_and,and_true]
        all_goals (repeat' (first | rfl | trivial | omega | (simp only []; omega) | refine And.intro ?_ ?_))
    · simp only [decide_eq_false_iff_not] at h2
      obtain rfl:i = j:=by omega
      refine Zaz ?_
      try simp only [Zae,Zal,retQ,ite_true]
      refine Zac ?_
      refine Zac (Zaa [0,10,13] ?_)
      simp only [Zab,Zad,Zaf,pok,pval,VA.ev,Env.get,Env.put,Env.keep,Zae,Nat.succ_ne_self,Nat.reduceEqDiff,ite_true,ite_false,true_and,reduceCtorEq]
      refine Zaj ?_
      refine Za4 (σ:={ s:Nat × (Nat → Ac) × Nat // a ≤ s.1 ∧ s.1 < i ∧ Rot d s.2.1 a (a + 1) (s.1 + 1) ∧ t ≤ s.2.2 }) (fun s=>([(0,.own id 0 N),(10,pI i),(13,pI s.1.1)],⟨[(id,.arr false 7 (rws s.1.2.1 N))],s.1.2.2⟩)) (fun s=>i - s.1.1) ⟨(a,d,t),⟨Nat.le_refl _,by show a < i; omega,Rot.refl_left d a,Nat.le_refl _⟩⟩ ?_ ?_ ?_
      · try simp only [Env.get,Env.le,Nat.reduceEqDiff,ite_true,ite_false,and_true,reduceCtorEq]
        all_goals (repeat' (first | rfl | trivial | omega | (simp only []; omega) | refine And.intro ?_ ?_))
      · try simp only [Heap.get,Heap.le,HL.get,HL.le,Nat.le_refl,ite_true,and_true]
        all_goals (repeat' (first | rfl | trivial | omega | (simp only []; omega) | refine And.intro ?_ ?_))
      rintro ⟨⟨k,d2,t2⟩,hk,hki,hrot,ht2⟩
      simp only [] at hk hki hrot ht2 ⊢
      have e3:=sb1 (a:=i) (by omega) (by omega)
      refine Zac ?_
      refine Zac (Zaa [0,10,13,58] ?_)
      simp only [Zab,Zad,Zaf,pok,pval,VA.ev,Env.get,Env.put,Env.keep,Zae,intV,binV,Zah,Heap.get,Heap.le,HL.le,Nat.succ_ne_self,Env.le,Nat.reduceEqDiff,ite_true,ite_false,true_and,and_true,reduceCtorEq,e3]
      refine Zai rfl (fun h4=>?_) (fun h4=>?_)
      · refine Zak ?_
        try simp only [Zae]
        simp only [decide_eq_true_eq] at h4
        have e4:=ad1 (a:=k) (by omega)
        have g1:∀ d:Nat → Ac,(rws d N).getD k [] = (d k).enc:=fun d=>rws_get (by omega)
        have g2:∀ d:Nat → Ac,(rws d N).getD (k + 1) [] = (d (k + 1)).enc:=fun d=>rws_get (by omega)
        refine Zac ?_
        refine Zaj ?_
        refine VW_draw2H [0,10,13] (by simp [Heap.le,Heap.get,HL.le,HL.get]) ?_
        simp only [Zaf,DrawH,VOp.isIaddr,QW,dok,dval,VOp.pure,VOp.simple,VOp.det,pok,pval,VA.ev,Env.get,Env.put,Env.keep,Zae,Zal,gd,aggV,intV,binV,Zah,isInt,numOf,lenV,Zag,Zap,Zax,Zas,PV.cells,PV.fits,overlay,PV.nth,PV.row,Heap.get,Heap.set,HL.get,HL.set,HL.del,Nat.le_refl,Nat.succ_ne_self,Zbh,Za9,List.getD_cons_zero,List.getD_cons_succ,List.take,List.drop,List.nil_append,Nat.reduceEqDiff,Nat.reduceAdd,Bool.false_eq_true,Bool.true_eq_false,ite_true,ite_false,true_and,and_true,implies_true,forall_const,reduceCtorEq,BEq.rfl,Nat.zero_add,imp_self,Int.toNat_natCast,e4,g1,g2,Zcs,Zb2,ac_drop,rws_len,rws_set,List.append_nil]
        repeat (with_reducible refine And.intro ?_ ?_; first | omega | (with_reducible constructor <;> omega) | exact False.elim | exact True.intro)
        refine Zaa [0,10,13] ?_
        simp only [Zab,Zad,Zaf,pok,pval,VA.ev,Env.get,Env.put,Env.keep,Zae,intV,binV,Zah,HL.get,Nat.reduceEqDiff,ite_true,ite_false,true_and,reduceCtorEq,Option.some.injEq,e4]
        refine ⟨⟨(k + 1,upd (upd d2 k (d2 (k + 1))) (k + 1) (d2 k),t2),by show a ≤ k + 1; omega,by show k + 1 < i; omega,Rot.up hk hrot (swp_one' d2 k),ht2⟩,?_⟩
        try simp only [Nat.le_refl,true_and,and_true]
        all_goals (repeat' (first | rfl | trivial | omega | (simp only []; omega) | refine And.intro ?_ ?_))
      · simp only [decide_eq_false_iff_not] at h4
        obtain rfl:i = k + 1:=by omega
        refine Zaz ?_
        try simp only [Zae,Zal,retQ,ite_true]
        refine Zar ?_
        try simp only [Zae,retQ,Zau,true_and]
        exact ⟨d2,Mrg.ins_left leA_trans (by omega) (by omega) hrot hgj hgi,t2,ht2,rfl⟩
  simp only [beq_eq_false_iff_ne,ne_eq] at h1
  refine Zak ?_
  try simp only [Zae]
  refine Zac ?_
  refine Zac (Zaa [0,1,2,3,4,80] ?_)
  simp only [Zab,Zad,Zaf,pok,pval,VA.ev,Env.get,Env.put,Env.keep,Zae,intV,binV,Zah,Nat.succ_ne_self,Nat.reduceEqDiff,ite_true,ite_false,true_and,reduceCtorEq,e2]
  refine Zai rfl (fun h5=>?_) (fun h5=>?_)
  · simp only [beq_iff_eq] at h5
    obtain rfl:b = m + 1:=by omega
    refine Zac (Zaa [0,2,4,14] ?_)
    simp only [Zab,Zad,Zaf,pok,pval,VA.ev,Env.get,Env.put,Env.keep,Zae,Nat.succ_ne_self,Nat.reduceEqDiff,ite_true,ite_false,true_and,reduceCtorEq]
    refine Zac (Zaa [0,2,4,14,15] ?_)
    simp only [Zab,Zad,Zaf,pok,pval,VA.ev,Env.get,Env.put,Env.keep,Zae,Nat.succ_ne_self,Nat.reduceEqDiff,ite_true,ite_false,true_and,reduceCtorEq]
    refine Zac ?_
    refine Zaj ?_
    refine Za4 (σ:={ s:Nat × Nat // a ≤ s.1 ∧ s.1 ≤ s.2 ∧ s.2 ≤ m ∧ (s.1 = a ∨ leA (d (s.1 - 1)) (d m)) ∧ (s.2 = m ∨ leA (d m) (d s.2)) }) (fun s=>([(0,.own id 0 N),(2,pI m),(4,.fn (.func 74) [] []),(14,pI s.1.1),(15,pI s.1.2)],⟨[(id,.arr false 7 (rws d N))],t⟩)) (fun s=>s.1.2 - s.1.1) ⟨(a,m),⟨Nat.le_refl _,by show a ≤ m; omega,Nat.le_refl _,.inl rfl,.inl rfl⟩⟩ ?_ ?_ ?_
    · try simp only [Env.get,Nat.succ_ne_self,Env.le,Nat.reduceEqDiff,ite_true,ite_false,and_true,reduceCtorEq]
      all_goals (repeat' (first | rfl | trivial | omega | (simp only []; omega) | refine And.intro ?_ ?_))
    · try simp only [Heap.get,Heap.le,HL.get,HL.le,Nat.le_refl,ite_true,and_true]
      all_goals (repeat' (first | rfl | trivial | omega | (simp only []; omega) | refine And.intro ?_ ?_))
    rintro ⟨⟨i,j⟩,hi,hij,hj,hgi,hgj⟩
    simp only [] at hi hij hj hgj hgi ⊢
    refine Zac ?_
    refine Zac (Zaa [0,2,4,14,15,85] ?_)
    simp only [Zab,Zad,Zaf,pok,pval,VA.ev,Env.get,Env.put,Env.keep,Zae,intV,binV,Zah,Heap.get,Heap.le,HL.le,Nat.succ_ne_self,Env.le,Nat.reduceEqDiff,ite_true,ite_false,true_and,and_true,reduceCtorEq]
    refine Zai rfl (fun h6=>?_) (fun h6=>?_)
    · refine Zak ?_
      try simp only [Zae]
      simp only [decide_eq_true_eq] at h6
      have e3:=adI (a:=i) (b:=j) (by omega)
      have e4:=half_u (n:=i + j) (by omega)
      obtain ⟨c,hc⟩:∃ c,c = (i + j) / 2:=⟨_,rfl⟩
      rw [← hc] at e4
      have hci:i ≤ c:=by omega
      have hcj:c < j:=by omega
      refine Zaj ?_
      refine Zac (Zaa [0,2,4,14,15,16] ?_)
      simp only [Zab,Zad,Zaf,pok,pval,VA.ev,Env.get,Env.put,Env.keep,Zae,intV,binV,Zah,convV,isInt,Nat.succ_ne_self,Nat.reduceEqDiff,ite_true,ite_false,true_and,reduceCtorEq,Int.reduceToNat,e3,e4]
      repeat (with_reducible refine And.intro ?_ ?_; first | omega | (with_reducible constructor <;> omega) | exact False.elim | exact True.intro)
      have g1:∀ d:Nat → Ac,(rws d N).getD c [] = (d c).enc:=fun d=>rws_get (by omega)
      have g2:∀ d:Nat → Ac,(rws d N).getD m [] = (d m).enc:=fun d=>rws_get (by omega)
      refine Zac (Zb3 [0,2,4,14,15,16,103] (by simp [Heap.le,Heap.get,HL.le,HL.get]) ?_)
      simp only [Zbb,Zbu,QW,dok,dval,VOp.pure,VOp.simple,VOp.det,pok,pval,VA.ev,Env.get,Env.put,Env.keep,Zae,gd,aggV,intV,binV,Zah,strV,unV,unOk,isInt,numOf,lenV,Zag,Zap,Zax,Zas,PV.nth,PV.row,Heap.get,HL.get,Nat.le_refl,Nat.succ_ne_self,List.drop,Nat.reduceEqDiff,Bool.true_eq_false,ite_true,ite_false,true_and,and_true,implies_true,forall_const,reduceCtorEq,Nat.zero_add,imp_self,Int.toNat_natCast,e4,g1,g2,Zcs,Zb2,rws_len]
      repeat (with_reducible refine And.intro ?_ ?_; first | omega | (with_reducible constructor <;> omega) | exact False.elim | exact True.intro)
      refine ⟨_,.inl (Zdw ..),?_⟩
      try simp only [true_and,cmpA_lt]
      refine Zai rfl (fun h7=>?_) (fun h7=>?_)
      · simp only [Bool.not_eq_true'] at h7
        refine Zaa [0,2,4,14,15] ?_
        simp only [Zab,Zad,Zaf,pok,pval,VA.ev,Env.get,Env.put,Env.keep,Zae,Zal,intV,binV,Zah,HL.get,Nat.le_refl,Nat.succ_ne_self,Nat.reduceEqDiff,ite_true,ite_false,true_and,and_true,reduceCtorEq,ad1 (a:=c) (by omega)]
        refine ⟨⟨(c + 1,j),by show a ≤ c + 1; omega,by show c + 1 ≤ j; omega,hj,.inr h7,hgj⟩,?_⟩
        try simp only [true_and,and_true]
        all_goals (repeat' (first | rfl | trivial | omega | (simp only []; omega) | refine And.intro ?_ ?_))
      · simp only [Bool.not_eq_false'] at h7
        refine Zaa [0,2,4,14,15] ?_
        simp only [Zab,Zad,Zaf,pok,pval,VA.ev,Env.get,Env.put,Env.keep,Zae,Zal,HL.get,Nat.le_refl,Nat.succ_ne_self,Nat.reduceEqDiff,ite_true,ite_false,true_and,and_true,reduceCtorEq]
        refine ⟨⟨(i,c),hi,hci,by show c ≤ m; omega,hgi,.inr (leA_of_ahead h7)⟩,?_⟩
        try simp only [true_and,and_true]
        all_goals (repeat' (first | rfl | trivial | omega | (simp only []; omega) | refine And.intro ?_ ?_))
    · simp only [decide_eq_false_iff_not] at h6
      obtain rfl:i = j:=by omega
      refine Zaz ?_
      try simp only [Zae,Zal,retQ,ite_true]
      refine Zac ?_
      refine Zac (Zaa [0,14,17] ?_)
      simp only [Zab,Zad,Zaf,pok,pval,VA.ev,Env.get,Env.put,Env.keep,Zae,Nat.succ_ne_self,Nat.reduceEqDiff,ite_true,ite_false,true_and,reduceCtorEq]
      refine Zaj ?_
      refine Za4 (σ:={ s:Nat × (Nat → Ac) × Nat // i ≤ s.1 ∧ s.1 ≤ m ∧ Rot d s.2.1 s.1 m (m + 1) ∧ t ≤ s.2.2 }) (fun s=>([(0,.own id 0 N),(14,pI i),(17,pI s.1.1)],⟨[(id,.arr false 7 (rws s.1.2.1 N))],s.1.2.2⟩)) (fun s=>s.1.1) ⟨(m,d,t),⟨by show i ≤ m; omega,Nat.le_refl _,Rot.refl_right d m,Nat.le_refl _⟩⟩ ?_ ?_ ?_
      · try simp only [Env.get,Env.le,Nat.reduceEqDiff,ite_true,ite_false,and_true,reduceCtorEq]
        all_goals (repeat' (first | rfl | trivial | omega | (simp only []; omega) | refine And.intro ?_ ?_))
      · try simp only [Heap.get,Heap.le,HL.get,HL.le,Nat.le_refl,ite_true,and_true]
        all_goals (repeat' (first | rfl | trivial | omega | (simp only []; omega) | refine And.intro ?_ ?_))
      rintro ⟨⟨k,d2,t2⟩,hk,hkm,hrot,ht2⟩
      simp only [] at hk hkm hrot ht2 ⊢
      refine Zac ?_
      refine Zac (Zaa [0,14,17,110] ?_)
      simp only [Zab,Zad,Zaf,pok,pval,VA.ev,Env.get,Env.put,Env.keep,Zae,intV,binV,Zah,Heap.get,Heap.le,HL.le,Nat.succ_ne_self,Env.le,Nat.reduceEqDiff,ite_true,ite_false,true_and,and_true,reduceCtorEq]
      refine Zai rfl (fun h8=>?_) (fun h8=>?_)
      · refine Zak ?_
        try simp only [Zae]
        simp only [decide_eq_true_eq] at h8
        obtain ⟨q,rfl⟩:∃ q,k = q + 1:=⟨k - 1,by omega⟩
        have e4:IntKind.i64.wrap (((q + 1:Nat):Int) - 1) = ((q:Nat):Int):=by rw [w64 (by omega) (by omega)]; omega
        have g1:∀ d:Nat → Ac,(rws d N).getD q [] = (d q).enc:=fun d=>rws_get (by omega)
        have g2:∀ d:Nat → Ac,(rws d N).getD (q + 1) [] = (d (q + 1)).enc:=fun d=>rws_get (by omega)
        refine Zac ?_
        refine Zaj ?_
        refine VW_draw2H [0,14,17] (by simp [Heap.le,Heap.get,HL.le,HL.get]) ?_
        simp only [Zaf,DrawH,VOp.isIaddr,QW,dok,dval,VOp.pure,VOp.simple,VOp.det,pok,pval,VA.ev,Env.get,Env.put,Env.keep,Zae,Zal,gd,aggV,intV,binV,Zah,isInt,numOf,lenV,Zag,Zap,Zax,Zas,PV.cells,PV.fits,overlay,PV.nth,PV.row,Heap.get,Heap.set,HL.get,HL.set,HL.del,Nat.le_refl,Nat.succ_ne_self,Zbh,Za9,List.getD_cons_zero,List.getD_cons_succ,List.take,List.drop,List.nil_append,Nat.reduceEqDiff,Nat.reduceAdd,Bool.false_eq_true,Bool.true_eq_false,ite_true,ite_false,true_and,and_true,implies_true,forall_const,reduceCtorEq,BEq.rfl,Nat.zero_add,imp_self,Int.toNat_natCast,e4,g1,g2,Zcs,Zb2,ac_drop,rws_len,rws_set,List.append_nil]
        repeat (with_reducible refine And.intro ?_ ?_; first | omega | (with_reducible constructor <;> omega) | exact False.elim | exact True.intro)
        refine Zaa [0,14,17] ?_
        simp only [Zab,Zad,Zaf,pok,pval,VA.ev,Env.get,Env.put,Env.keep,Zae,intV,binV,Zah,HL.get,Nat.reduceEqDiff,ite_true,ite_false,true_and,reduceCtorEq,Option.some.injEq,e4]
        refine ⟨⟨(q,upd (upd d2 (q + 1) (d2 q)) q (d2 (q + 1)),t2),by show i ≤ q; omega,by show q ≤ m; omega,Rot.down hkm hrot (swp_one d2 q),ht2⟩,?_⟩
        try simp only [Nat.le_refl,true_and,and_true]
        all_goals (repeat' (first | rfl | trivial | omega | (simp only []; omega) | refine And.intro ?_ ?_))
      · simp only [decide_eq_false_iff_not] at h8
        obtain rfl:i = k:=by omega
        refine Zaz ?_
        try simp only [Zae,Zal,retQ,ite_true]
        refine Zar ?_
        try simp only [Zae,retQ,Zau,true_and]
        exact ⟨d2,Mrg.ins_right leA_trans (by omega) (by omega) hrot hgi hgj,t2,ht2,rfl⟩
  simp only [beq_eq_false_iff_ne,ne_eq] at h5
  refine Zak ?_
  try simp only [Zae]
  have e3:=adI (a:=a) (b:=b) (by omega)
  have e4:=half_u (n:=a + b) (by omega)
  obtain ⟨mid,hmid⟩:∃ c,c = (a + b) / 2:=⟨_,rfl⟩
  rw [← hmid] at e4
  have hmid1:a < mid:=by omega
  have hmid2:mid < b:=by omega
  have e5:=adI (a:=mid) (b:=m) (by omega)
  refine Zac (Zaa [0,1,2,3,4,18] ?_)
  simp only [Zab,Zad,Zaf,pok,pval,VA.ev,Env.get,Env.put,Env.keep,Zae,intV,binV,Zah,convV,isInt,Nat.succ_ne_self,Nat.reduceEqDiff,ite_true,ite_false,true_and,reduceCtorEq,Int.reduceToNat,e3,e4]
  repeat (with_reducible refine And.intro ?_ ?_; first | omega | (with_reducible constructor <;> omega) | exact False.elim | exact True.intro)
  refine Zac (Zaa [0,1,2,3,4,18,19] ?_)
  simp only [Zab,Zad,Zaf,pok,pval,VA.ev,Env.get,Env.put,Env.keep,Zae,intV,binV,Zah,Nat.succ_ne_self,Nat.reduceEqDiff,ite_true,ite_false,true_and,reduceCtorEq,e5]
  refine Zac (Zaa [0,1,2,3,4,18,19] ?_)
  simp only [Zab,Zad,Zaf,pok,pval,VA.ev,Env.get,Env.put,Env.keep,Zae,Nat.succ_ne_self,Nat.reduceEqDiff,ite_true,ite_false,true_and,reduceCtorEq]
  refine Zac ?_
  refine VW_mid (σ:={ s:Nat × Nat // (s.1 = a ∨ s.1 + b = mid + m) ∧ (s.2 = m ∨ s.2 = mid) ∧ a ≤ s.1 ∧ s.1 ≤ s.2 ∧ s.2 ≤ m ∧ s.2 ≤ mid ∧ mid + m ≤ s.1 + b }) (fun s=>([(0,.own id 0 N),(1,pI a),(2,pI m),(3,pI b),(4,.fn (.func 74) [] []),(18,pI mid),(19,pI (mid + m:Nat)),(20,pI s.1.1),(21,pI s.1.2)],⟨[(id,.arr false 7 (rws d N))],t⟩)) ?_ (fun s=>?_)
  · refine Zac (Zaa [0,1,2,3,4,18,19,140] ?_)
    simp only [Zab,Zad,Zaf,pok,pval,VA.ev,Env.get,Env.put,Env.keep,Zae,intV,binV,Zah,Nat.succ_ne_self,Nat.reduceEqDiff,ite_true,ite_false,true_and,reduceCtorEq]
    refine Zai rfl (fun h9=>?_) (fun h9=>?_)
    · simp only [decide_eq_true_eq] at h9
      refine Zac (Zaa [0,1,2,3,4,18,19,20] ?_)
      simp only [Zab,Zad,Zaf,pok,pval,VA.ev,Env.get,Env.put,Env.keep,Zae,intV,binV,Zah,Nat.succ_ne_self,Nat.reduceEqDiff,ite_true,ite_false,true_and,reduceCtorEq,sbI (a:=mid + m) (b:=b) (by omega) (by omega)]
      refine Zaa [0,1,2,3,4,18,19,20,21] ?_
      simp only [midQ,Zab,Zad,Zaf,pok,pval,VA.ev,Env.get,Env.put,Env.keep,Heap.get,Heap.le,HL.get,HL.le,Nat.le_refl,Nat.succ_ne_self,Env.le,Nat.reduceEqDiff,ite_true,ite_false,true_and,and_true,reduceCtorEq]
      refine ⟨⟨(mid + m - b,mid),⟨.inr (by show mid + m - b + b = mid + m; omega),.inr rfl,by show a ≤ mid + m - b; omega,by show mid + m - b ≤ mid; omega,by show mid ≤ m; omega,Nat.le_refl _,by show mid + m ≤ mid + m - b + b; omega⟩⟩,?_⟩
      try simp only [and_true]
      all_goals (repeat' (first | rfl | trivial | omega | (simp only []; omega) | refine And.intro ?_ ?_))
    · simp only [decide_eq_false_iff_not] at h9
      refine Zac (Zaa [0,1,2,3,4,18,19,20] ?_)
      simp only [Zab,Zad,Zaf,pok,pval,VA.ev,Env.get,Env.put,Env.keep,Zae,Nat.succ_ne_self,Nat.reduceEqDiff,ite_true,ite_false,true_and,reduceCtorEq]
      refine Zaa [0,1,2,3,4,18,19,20,21] ?_
      simp only [midQ,Zab,Zad,Zaf,pok,pval,VA.ev,Env.get,Env.put,Env.keep,Heap.get,Heap.le,HL.get,HL.le,Nat.le_refl,Nat.succ_ne_self,Env.le,Nat.reduceEqDiff,ite_true,ite_false,true_and,and_true,reduceCtorEq]
      refine ⟨⟨(a,m),⟨.inl rfl,.inl rfl,Nat.le_refl _,by show a ≤ m; omega,Nat.le_refl _,by show m ≤ mid; omega,by show mid + m ≤ a + b; omega⟩⟩,?_⟩
      try simp only [and_true]
      all_goals (repeat' (first | rfl | trivial | omega | (simp only []; omega) | refine And.intro ?_ ?_))
  obtain ⟨⟨st,r⟩,hst,hr,hast,hstr,hrm,hrmid,hstb⟩:=s
  simp only [] at hst hr hast hstr hrm hrmid hstb ⊢
  have e6:=sb1 (a:=mid + m) (by omega) (by omega)
  refine Zac (Zaa [0,1,2,3,4,18,19,20,21,22] ?_)
  simp only [Zab,Zad,Zaf,pok,pval,VA.ev,Env.get,Env.put,Env.keep,Zae,intV,binV,Zah,Nat.succ_ne_self,Nat.reduceEqDiff,ite_true,ite_false,true_and,reduceCtorEq,e6]
  refine Zac ?_
  refine Zaj ?_
  refine Za4 (σ:={ s:Nat × Nat // st ≤ s.1 ∧ s.1 ≤ s.2 ∧ s.2 ≤ r ∧ (s.1 = st ∨ leA (d (s.1 - 1)) (d (mid + m - 1 - (s.1 - 1)))) ∧ (s.2 = r ∨ leA (d (mid + m - 1 - s.2)) (d s.2)) })
    (fun s=>([(0,.own id 0 N),(1,pI a),(2,pI m),(3,pI b),(4,.fn (.func 74) [] []),(18,pI mid),(19,pI (mid + m:Nat)),(20,pI s.1.1),(21,pI s.1.2),(22,pI (mid + m - 1:Nat))],⟨[(id,.arr false 7 (rws d N))],t⟩)) (fun s=>s.1.2 - s.1.1) ⟨(st,r),⟨Nat.le_refl _,hstr,Nat.le_refl _,.inl rfl,.inl rfl⟩⟩ ?_ ?_ ?_
  · try simp only [Env.get,Nat.succ_ne_self,Env.le,Nat.reduceEqDiff,ite_true,ite_false,and_true,reduceCtorEq]
    all_goals (repeat' (first | rfl | trivial | omega | (simp only []; omega) | refine And.intro ?_ ?_))
  · try simp only [Heap.get,Heap.le,HL.get,HL.le,Nat.le_refl,ite_true,and_true]
    all_goals (repeat' (first | rfl | trivial | omega | (simp only []; omega) | refine And.intro ?_ ?_))
  rintro ⟨⟨s,r1⟩,hs1,hs2,hs3,hg1,hg2⟩
  simp only [] at hs1 hs2 hs3 hg1 hg2 ⊢
  refine Zac ?_
  refine Zac (Zaa [0,1,2,3,4,18,19,20,21,22,151] ?_)
  simp only [Zab,Zad,Zaf,pok,pval,VA.ev,Env.get,Env.put,Env.keep,Zae,intV,binV,Zah,Heap.get,Heap.le,HL.le,Nat.succ_ne_self,Env.le,Nat.reduceEqDiff,ite_true,ite_false,true_and,and_true,reduceCtorEq]
  refine Zai rfl (fun h10=>?_) (fun h10=>?_)
  · refine Zak ?_
    try simp only [Zae]
    simp only [decide_eq_true_eq] at h10
    have f3:=adI (a:=s) (b:=r1) (by omega)
    have f4:=half_u (n:=s + r1) (by omega)
    obtain ⟨c,hc⟩:∃ c,c = (s + r1) / 2:=⟨_,rfl⟩
    rw [← hc] at f4
    have hci:s ≤ c:=by omega
    have hcj:c < r1:=by omega
    have f5:=sbI (a:=mid + m - 1) (b:=c) (by omega) (by omega)
    refine Zaj ?_
    refine Zac (Zaa [0,1,2,3,4,18,19,20,21,22,23] ?_)
    simp only [Zab,Zad,Zaf,pok,pval,VA.ev,Env.get,Env.put,Env.keep,Zae,intV,binV,Zah,convV,isInt,Nat.succ_ne_self,Nat.reduceEqDiff,ite_true,ite_false,true_and,reduceCtorEq,Int.reduceToNat,f3,f4]
    repeat (with_reducible refine And.intro ?_ ?_; first | omega | (with_reducible constructor <;> omega) | exact False.elim | exact True.intro)
    have g1:∀ d:Nat → Ac,(rws d N).getD c [] = (d c).enc:=fun d=>rws_get (by omega)
    have g2:∀ d:Nat → Ac,(rws d N).getD (mid + m - 1 - c) [] = (d (mid + m - 1 - c)).enc:=fun d=>rws_get (by omega)
    refine Zac (Zb3 [0,1,2,3,4,18,19,20,21,22,23,171] (by simp [Heap.le,Heap.get,HL.le,HL.get]) ?_)
    simp only [Zbb,Zbu,QW,dok,dval,VOp.pure,VOp.simple,VOp.det,pok,pval,VA.ev,Env.get,Env.put,Env.keep,Zae,gd,aggV,intV,binV,Zah,strV,unV,unOk,isInt,numOf,lenV,Zag,Zap,Zax,Zas,PV.nth,PV.row,Heap.get,HL.get,Nat.le_refl,Nat.succ_ne_self,List.drop,Nat.reduceEqDiff,Bool.true_eq_false,ite_true,ite_false,true_and,and_true,implies_true,forall_const,reduceCtorEq,Nat.zero_add,imp_self,Int.toNat_natCast,f5,g1,g2,Zcs,Zb2,rws_len]
    repeat (with_reducible refine And.intro ?_ ?_; first | omega | (with_reducible constructor <;> omega) | exact False.elim | exact True.intro)
    refine ⟨_,.inl (Zdw ..),?_⟩
    try simp only [true_and,cmpA_lt]
    refine Zai rfl (fun h11=>?_) (fun h11=>?_)
    · simp only [Bool.not_eq_true'] at h11
      refine Zaa [0,1,2,3,4,18,19,20,21,22] ?_
      simp only [Zab,Zad,Zaf,pok,pval,VA.ev,Env.get,Env.put,Env.keep,Zae,Zal,intV,binV,Zah,HL.get,Nat.le_refl,Nat.succ_ne_self,Nat.reduceEqDiff,ite_true,ite_false,true_and,and_true,reduceCtorEq,ad1 (a:=c) (by omega)]
      refine ⟨⟨(c + 1,r1),by show st ≤ c + 1; omega,by show c + 1 ≤ r1; omega,hs3,.inr h11,hg2⟩,?_⟩
      try simp only [true_and,and_true]
      all_goals (repeat' (first | rfl | trivial | omega | (simp only []; omega) | refine And.intro ?_ ?_))
    · simp only [Bool.not_eq_false'] at h11
      refine Zaa [0,1,2,3,4,18,19,20,21,22] ?_
      simp only [Zab,Zad,Zaf,pok,pval,VA.ev,Env.get,Env.put,Env.keep,Zae,Zal,HL.get,Nat.le_refl,Nat.succ_ne_self,Nat.reduceEqDiff,ite_true,ite_false,true_and,and_true,reduceCtorEq]
      refine ⟨⟨(s,c),hs1,hci,by show c ≤ r; omega,hg1,.inr (leA_of_ahead h11)⟩,?_⟩
      try simp only [true_and,and_true]
      all_goals (repeat' (first | rfl | trivial | omega | (simp only []; omega) | refine And.intro ?_ ?_))
  simp only [decide_eq_false_iff_not] at h10
  obtain rfl:s = r1:=by omega
  have hcut:=cut_of_search (le:=leA) (d:=d) (a:=a) (m:=m) (b:=b) (mid:=mid) (n:=mid + m) (s:=s) (st:=st) (r:=r) rfl ⟨by omega,by omega⟩ ⟨hs1,hs3⟩ ⟨by omega,by omega⟩ hst hr hg1 hg2
  obtain ⟨en,hen⟩:∃ e,e = mid + m - s:=⟨_,rfl⟩
  have f6:=sbI (a:=mid + m) (b:=s) (by omega) (by omega)
  rw [← hen] at f6 hcut
  refine Zaz ?_
  try simp only [Zae,Zal,retQ,ite_true]
  refine Zac (Zaa [0,1,2,3,4,18,20,24] ?_)
  simp only [Zab,Zad,Zaf,pok,pval,VA.ev,Env.get,Env.put,Env.keep,Zae,intV,binV,Zah,Nat.succ_ne_self,Nat.reduceEqDiff,ite_true,ite_false,true_and,reduceCtorEq,f6]
  refine Zac ?_
  refine VW_mid (σ:={ x:(Nat → Ac) × Nat // Rot d x.1 s m en ∧ t ≤ x.2 }) (fun x=>([(0,.own id 0 N),(1,pI a),(3,pI b),(4,.fn (.func 74) [] []),(18,pI mid),(20,pI s),(24,pI en)],⟨[(id,.arr false 7 (rws x.1.1 N))],x.1.2⟩)) ?_ (fun x=>?_)
  · refine VW_seqJ (σ:=Unit) [0,1,2,3,4,18,20,24,185] (fun _=>([(0,.own id 0 N),(1,pI a),(2,pI m),(3,pI b),(4,.fn (.func 74) [] []),(18,pI mid),(20,pI s),(24,pI en),(185,.bool (decide (s < m ∧ m < en)))],⟨[(id,.arr false 7 (rws d N))],t⟩)) ?_ (fun _=>?_)
    · by_cases c1:s < m <;> by_cases c2:m < en
      all_goals
        simp only [c1,c2,decide_true,decide_false,true_and,and_true,false_and,and_false]
        first
        | have q1:decide ((s:Int) < (m:Int)) = true:=decide_eq_true (by omega)
          first
          | have q2:decide ((m:Int) < (en:Int)) = true:=decide_eq_true (by omega)
            simp only [Zab,Zad,Za6,Zaf,pok,pval,VA.ev,Env.get,Env.put,Env.keep,Za1,isBool,intV,binV,Zah,Heap.get,Heap.le,HL.get,HL.le,Nat.le_refl,Nat.succ_ne_self,Env.le,Nat.reduceEqDiff,ite_true,ite_false,true_and,and_true,reduceCtorEq,q1,q2]
            exact ⟨(),by first | trivial | rfl⟩
          | have q2:decide ((m:Int) < (en:Int)) = false:=decide_eq_false (by omega)
            simp only [Zab,Zad,Za6,Zaf,pok,pval,VA.ev,Env.get,Env.put,Env.keep,Za1,isBool,intV,binV,Zah,Heap.get,Heap.le,HL.get,HL.le,Nat.le_refl,Nat.succ_ne_self,Env.le,Nat.reduceEqDiff,ite_true,ite_false,true_and,and_true,reduceCtorEq,q1,q2]
            exact ⟨(),by first | trivial | rfl⟩
        | have q1:decide ((s:Int) < (m:Int)) = false:=decide_eq_false (by omega)
          simp only [Zab,Zad,Zbi,Zaf,pok,pval,VA.ev,Env.get,Env.put,Env.keep,Za1,isBool,intV,binV,Zah,Heap.get,Heap.le,HL.get,HL.le,Nat.le_refl,Nat.succ_ne_self,Env.le,Nat.reduceEqDiff,Bool.false_eq_true,ite_true,ite_false,true_and,and_true,reduceCtorEq,q1]
          exact ⟨(),by first | trivial | rfl⟩
    refine Zai rfl (fun h12=>?_) (fun h12=>?_)
    · simp only [decide_eq_true_eq] at h12
      refine Zaa [0,1,3,4,18,20,24] ?_
      simp only [midQ,Zab,Zad,Zaf,pok,pval,VA.ev,Env.get,Env.put,Env.keep,Heap.get,Heap.le,HL.le,Nat.succ_ne_self,Env.le,List.map,Nat.reduceEqDiff,ite_true,ite_false,true_and,and_true,reduceCtorEq]
      refine Zbg.mono (sp_rotate _ id N s m en t d hid h12.1 h12.2 (by omega) hN) ?_
      rintro p h' ⟨d2,hs2,t2,ht2,rfl⟩
      try simp only [HL.get,ite_true,Option.some.injEq]
      refine ⟨⟨(d2,t2),hs2,ht2⟩,?_⟩
      try simp only [Nat.le_refl,and_true]
      all_goals (repeat' (first | rfl | trivial | omega | (simp only []; omega) | refine And.intro ?_ ?_))
    · simp only [decide_eq_false_iff_not] at h12
      refine Zak ?_
      try simp only [midQ,Env.get,Heap.get,Heap.le,HL.get,HL.le,Nat.succ_ne_self,Env.le,Nat.reduceEqDiff,ite_true,ite_false,true_and,and_true,reduceCtorEq,Option.some.injEq]
      have hrot:Rot d d s m en:=by
        by_cases c1:s = m
        · subst c1; exact rot_l d
        · obtain rfl:en = m:=by omega
          exact rot_r d
      refine ⟨⟨(d,t),hrot,Nat.le_refl _⟩,?_⟩
      try simp only [Nat.le_refl,and_true]
      all_goals (repeat' (first | rfl | trivial | omega | (simp only []; omega) | refine And.intro ?_ ?_))
  obtain ⟨⟨d1,t1⟩,hrot,ht1⟩:=x
  simp only [] at hrot ht1 ⊢
  refine Zac ?_
  refine VW_mid (σ:={ x:(Nat → Ac) × Nat // Mrg leA d1 x.1 a s mid ∧ t ≤ x.2 }) (fun x=>([(0,.own id 0 N),(3,pI b),(4,.fn (.func 74) [] []),(18,pI mid),(24,pI en)],⟨[(id,.arr false 7 (rws x.1.1 N))],x.1.2⟩)) ?_ (fun x=>?_)
  · refine VW_seqJ (σ:=Unit) [0,1,3,4,18,20,24,199] (fun _=>([(0,.own id 0 N),(1,pI a),(3,pI b),(4,.fn (.func 74) [] []),(18,pI mid),(20,pI s),(24,pI en),(199,.bool (decide (a < s ∧ s < mid)))],⟨[(id,.arr false 7 (rws d1 N))],t1⟩)) ?_ (fun _=>?_)
    · by_cases c1:a < s <;> by_cases c2:s < mid
      all_goals
        simp only [c1,c2,decide_true,decide_false,true_and,and_true,false_and,and_false]
        first
        | have q1:decide ((a:Int) < (s:Int)) = true:=decide_eq_true (by omega)
          first
          | have q2:decide ((s:Int) < (mid:Int)) = true:=decide_eq_true (by omega)
            simp only [Zab,Zad,Za6,Zaf,pok,pval,VA.ev,Env.get,Env.put,Env.keep,Za1,isBool,intV,binV,Zah,Heap.get,Heap.le,HL.get,HL.le,Nat.le_refl,Nat.succ_ne_self,Env.le,Nat.reduceEqDiff,ite_true,ite_false,true_and,and_true,reduceCtorEq,q1,q2]
            exact ⟨(),by first | trivial | rfl⟩
          | have q2:decide ((s:Int) < (mid:Int)) = false:=decide_eq_false (by omega)
            simp only [Zab,Zad,Za6,Zaf,pok,pval,VA.ev,Env.get,Env.put,Env.keep,Za1,isBool,intV,binV,Zah,Heap.get,Heap.le,HL.get,HL.le,Nat.le_refl,Nat.succ_ne_self,Env.le,Nat.reduceEqDiff,ite_true,ite_false,true_and,and_true,reduceCtorEq,q1,q2]
            exact ⟨(),by first | trivial | rfl⟩
        | have q1:decide ((a:Int) < (s:Int)) = false:=decide_eq_false (by omega)
          simp only [Zab,Zad,Zbi,Zaf,pok,pval,VA.ev,Env.get,Env.put,Env.keep,Za1,isBool,intV,binV,Zah,Heap.get,Heap.le,HL.get,HL.le,Nat.le_refl,Nat.succ_ne_self,Env.le,Nat.reduceEqDiff,Bool.false_eq_true,ite_true,ite_false,true_and,and_true,reduceCtorEq,q1]
          exact ⟨(),by first | trivial | rfl⟩
    refine Zai rfl (fun h13=>?_) (fun h13=>?_)
    · simp only [decide_eq_true_eq] at h13
      refine Zaa [0,3,4,18,24] ?_
      simp only [midQ,Zab,Zad,Zaf,pok,pval,VA.ev,Env.get,Env.put,Env.keep,Heap.get,Heap.le,HL.le,Nat.succ_ne_self,Env.le,List.map,Nat.reduceEqDiff,ite_true,ite_false,true_and,and_true,reduceCtorEq]
      refine Zbg.mono (ih id N a s mid t1 d1 (by omega) (by omega) h13.1 h13.2 (by omega) hN) ?_
      rintro p h' ⟨d2,hs2,t2,ht2,rfl⟩
      try simp only [HL.get,ite_true,Option.some.injEq]
      refine ⟨⟨(d2,t2),hs2,Nat.le_trans ht1 ht2⟩,?_⟩
      try simp only [Nat.le_refl,and_true]
      all_goals (repeat' (first | rfl | trivial | omega | (simp only []; omega) | refine And.intro ?_ ?_))
    · simp only [decide_eq_false_iff_not] at h13
      refine Zak ?_
      try simp only [midQ,Env.get,Heap.get,Heap.le,HL.get,HL.le,Nat.succ_ne_self,Env.le,Nat.reduceEqDiff,ite_true,ite_false,true_and,and_true,reduceCtorEq,Option.some.injEq]
      refine ⟨⟨(d1,t1),mrg_none d1 (by omega),ht1⟩,?_⟩
      try simp only [Nat.le_refl,and_true]
      all_goals (repeat' (first | rfl | trivial | omega | (simp only []; omega) | refine And.intro ?_ ?_))
  obtain ⟨⟨d2,t2⟩,hm1,ht2⟩:=x
  simp only [] at hm1 ht2 ⊢
  have fin:∀ d3,Mrg leA d2 d3 mid en b → Mrg leA d d3 a m b:=fun d3 hm2 =>
    Mrg.join leA_trans (by omega) (by omega) (by omega) (by omega) (by omega) hrot hm1 hm2 (fun _ _=>hcut.1) (fun _ _=>hcut.2)
  refine VW_seqJ (σ:=Unit) [0,3,4,18,24,213] (fun _=>([(0,.own id 0 N),(3,pI b),(4,.fn (.func 74) [] []),(18,pI mid),(24,pI en),(213,.bool (decide (mid < en ∧ en < b)))],⟨[(id,.arr false 7 (rws d2 N))],t2⟩)) ?_ (fun _=>?_)
  · by_cases c1:mid < en <;> by_cases c2:en < b
    all_goals
      simp only [c1,c2,decide_true,decide_false,true_and,and_true,false_and,and_false]
      first
      | have q1:decide ((mid:Int) < (en:Int)) = true:=decide_eq_true (by omega)
        first
        | have q2:decide ((en:Int) < (b:Int)) = true:=decide_eq_true (by omega)
          simp only [Zab,Zad,Za6,Zaf,pok,pval,VA.ev,Env.get,Env.put,Env.keep,Za1,isBool,intV,binV,Zah,Heap.get,Heap.le,HL.get,HL.le,Nat.le_refl,Nat.succ_ne_self,Env.le,Nat.reduceEqDiff,ite_true,ite_false,true_and,and_true,reduceCtorEq,q1,q2]
          exact ⟨(),by first | trivial | rfl⟩
        | have q2:decide ((en:Int) < (b:Int)) = false:=decide_eq_false (by omega)
          simp only [Zab,Zad,Za6,Zaf,pok,pval,VA.ev,Env.get,Env.put,Env.keep,Za1,isBool,intV,binV,Zah,Heap.get,Heap.le,HL.get,HL.le,Nat.le_refl,Nat.succ_ne_self,Env.le,Nat.reduceEqDiff,ite_true,ite_false,true_and,and_true,reduceCtorEq,q1,q2]
          exact ⟨(),by first | trivial | rfl⟩
      | have q1:decide ((mid:Int) < (en:Int)) = false:=decide_eq_false (by omega)
        simp only [Zab,Zad,Zbi,Zaf,pok,pval,VA.ev,Env.get,Env.put,Env.keep,Za1,isBool,intV,binV,Zah,Heap.get,Heap.le,HL.get,HL.le,Nat.le_refl,Nat.succ_ne_self,Env.le,Nat.reduceEqDiff,Bool.false_eq_true,ite_true,ite_false,true_and,and_true,reduceCtorEq,q1]
        exact ⟨(),by first | trivial | rfl⟩
  refine Zai rfl (fun h14=>?_) (fun h14=>?_)
  · simp only [decide_eq_true_eq] at h14
    refine Zaa [] ?_
    simp only [Zab,Zad,Zaf,pok,pval,VA.ev,Env.get,Env.put,retQ,Zau,Nat.succ_ne_self,List.map,Nat.reduceEqDiff,ite_true,ite_false,true_and,reduceCtorEq]
    refine Zbg.mono (ih id N mid en b t2 d2 (by omega) (by omega) h14.1 h14.2 (by omega) hN) ?_
    rintro p h' ⟨d3,hs3,t3,ht3,rfl⟩
    skip
    exact ⟨d3,fin d3 hs3,t3,Nat.le_trans ht2 ht3,rfl⟩
  · simp only [decide_eq_false_iff_not] at h14
    refine Zak ?_
    try simp only [retQ,Zau,true_and]
    exact ⟨d2,fin d2 (mrg_none d2 (by omega)),t2,ht2,rfl⟩
end Go.Proofs.YtehokmhebnkfdaaGreat.w
namespace Go.Proofs.YtehokmhebnkfdaaGreat.w
open Go Go.VM
set_option maxRecDepth 20000
set_option maxHeartbeats 0
set_option pp.deepTerms false
def Zdo:VC:=(.seq (.region [ZO 6 (.mv (.c (.int .i64 20)))] false) (.seq (.region [ZM 10 6,ZO 7 (.mv (.c (.int .i64 0))),ZM 8 10] false) (.seq (.block 0 (.loop (.seq (.seq (.region [ZM 11 8,ZM 12 1,ZO 13 (.bin .leq (.t 11) (.t 12))] false) (.cond (.t 13) .skip (.exit 0))) (.block 1 (.seq (.region [ZM 14 0,ZM 15 7,ZM 16 8,ZM 17 2,ZO 18 (.call 136 [(.t 14),(.t 15),(.t 16),(.t 17)])] false) (.seq (.region [ZM 19 8,ZM 7 19] false) (.region [ZM 20 8,ZM 21 6,ZO 22 (.bin .add (.t 20) (.t 21)),ZM 8 22] false))))))) (.seq (.region [ZM 23 0,ZM 24 7,ZM 25 1,ZM 26 2,ZO 27 (.call 136 [(.t 23),(.t 24),(.t 25),(.t 26)])] false) (.block 2 (.loop (.seq (.seq (.region [ZM 28 6,ZM 29 1,ZO 30 (.bin .lss (.t 28) (.t 29))] false) (.cond (.t 30) .skip (.exit 2))) (.block 3 (.seq (.region [ZM 31 6,ZO 32 (.bin .mul (.c (.int .i64 2)) (.t 31)),ZO 7 (.mv (.c (.int .i64 0))),ZM 8 32] false) (.seq (.block 4 (.loop (.seq (.seq (.region [ZM 33 8,ZM 34 1,ZO 35 (.bin .leq (.t 33) (.t 34))] false) (.cond (.t 35) .skip (.exit 4))) (.block 5 (.seq (.region [ZM 36 0,ZM 37 7,ZM 38 7,ZM 39 6,ZO 40 (.bin .add (.t 38) (.t 39)),ZM 41 8,ZM 42 2,ZO 43 (.call 137 [(.t 36),(.t 37),(.t 40),(.t 41),(.t 42)])] false) (.seq (.region [ZM 44 8,ZM 7 44] false) (.region [ZM 45 8,ZM 46 6,ZO 47 (.bin .mul (.c (.int .i64 2)) (.t 46)),ZO 48 (.bin .add (.t 45) (.t 47)),ZM 8 48] false))))))) (.seq (.seq (.region [ZM 49 7,ZM 50 6,ZO 51 (.bin .add (.t 49) (.t 50)),ZM 9 51] false) (.seq (.region [ZM 52 9,ZM 53 1,ZO 54 (.bin .lss (.t 52) (.t 53))] false) (.cond (.t 54) (.region [ZM 55 0,ZM 56 7,ZM 57 9,ZM 58 1,ZM 59 2,ZO 60 (.call 137 [(.t 55),(.t 56),(.t 57),(.t 58),(.t 59)])] false) .skip))) (.region [ZM 61 6,ZO 62 (.bin .mul (.t 61) (.c (.int .i64 2))),ZM 6 62] false))))))))))))
def Zde:VC:=(.region [ZM 4 0,ZM 5 0,ZO 6 (.len false (.t 5)),ZM 7 1,ZO 8 (.call 116 [(.t 4),(.t 6),(.t 7)])] false)
theorem perm_ext {d d':Nat → Ac} {a b n:Nat} (h:Same d d' a b) (hp:(seg d' a b).Perm (seg d a b)) (h1:a ≤ b) (h2:b ≤ n):(seg d' 0 n).Perm (seg d 0 n):=by
  rw [Zdq d' (show 0 ≤ a by omega) (show a ≤ n by omega),Zdq d' h1 h2,Zdq d (show 0 ≤ a by omega) (show a ≤ n by omega),Zdq d h1 h2,
    seg_congr (d:=d) (d':=d') (a:=0) (b:=a) (fun i _ hi=>h i (.inl hi)),seg_congr (d:=d) (d':=d') (a:=b) (b:=n) (fun i hi _=>h i (.inr hi))]
  exact List.Perm.append_left _ (hp.append_right _)
theorem ml2 {a:Nat} (h:a ≤ 4611686018427387900):IntKind.i64.wrap (2 * (a:Int)) = ((2 * a:Nat):Int):=by rw [w64 (by omega) (by omega)]; omega
theorem ml2' {a:Nat} (h:a ≤ 4611686018427387900):IntKind.i64.wrap ((a:Int) * 2) = ((2 * a:Nat):Int):=by rw [w64 (by omega) (by omega)]; omega
theorem sp_stable (id N t : Nat) (d : Nat → Ac) (hid : id < t) (hN : N ≤ 1000000) :
    Zbg Tryz.prog 116 [.own id 0 N,pI N,.fn (.func 74) [] []] ⟨[(id,.arr false 7 (rws d N))],t⟩
      (fun _ h'=>∃ d',((seg d' 0 N).Perm (seg d 0 N) ∧ Srt leA d' 0 N) ∧ ∃ t',t ≤ t' ∧ h' = ⟨[(id,.arr false 7 (rws d' N))],t'⟩):=by
  refine Zaq (vc:=Zdo) (ts:=[]) Go.Proofs.Tryz.func116 (by kernel_rfl) rfl rfl (Nat.le_of_ble_eq_true rfl) (by kernel_rfl) ?_
  unfold Zdo
  try dsimp only [ZM,ZO,ZN,ZG]
  refine Zac (Zaa [0,1,2,6] ?_)
  simp only [Zab,Zad,Zaf,pok,pval,VA.ev,Env.get,Env.put,Env.keep,Za2,Zae,Nat.succ_ne_self,Nat.reduceEqDiff,Nat.reduceAdd,ite_true,ite_false,true_and,reduceCtorEq,Nat.zero_add]
  refine Zac (Zaa [0,1,2,6,7,8] ?_)
  simp only [Zab,Zad,Zaf,pok,pval,VA.ev,Env.get,Env.put,Env.keep,Zae,Nat.succ_ne_self,Nat.reduceEqDiff,ite_true,ite_false,true_and,reduceCtorEq]
  refine Zac ?_
  refine Zaj ?_
  refine Za4 (σ:={ s:Nat × (Nat → Ac) × Nat // s.1 * 20 ≤ N ∧ Blk leA s.2.1 20 0 (s.1 * 20) ∧ (seg s.2.1 0 N).Perm (seg d 0 N) ∧ t ≤ s.2.2 }) (fun s=>([(0,.own id 0 N),(1,pI N),(2,.fn (.func 74) [] []),(6,pI (20:Nat)),(7,pI (s.1.1 * 20:Nat)),(8,pI (s.1.1 * 20 + 20:Nat))],⟨[(id,.arr false 7 (rws s.1.2.1 N))],s.1.2.2⟩)) (fun s=>N - s.1.1 * 20) ⟨(0,d,t),⟨Nat.zero_le _,Blk.zero,.refl _,Nat.le_refl _⟩⟩ ?_ ?_ ?_
  · try simp only [Env.get,Nat.succ_ne_self,Env.le,Nat.reduceEqDiff,Nat.reduceMul,ite_true,ite_false,true_and,and_true,reduceCtorEq,Nat.zero_add]
    all_goals (repeat' (first | rfl | trivial | omega | (simp only []; omega) | refine And.intro ?_ ?_))
  · try simp only [Heap.get,Heap.le,HL.get,HL.le,Nat.le_refl,ite_true,and_true]
    all_goals (repeat' (first | rfl | trivial | omega | (simp only []; omega) | refine And.intro ?_ ?_))
  rintro ⟨⟨q,d1,t1⟩,hq,hb,hp,ht⟩
  simp only [] at hq hb hp ht ⊢
  refine Zac ?_
  refine Zac (Zaa [0,1,2,6,7,8,13] ?_)
  simp only [Zab,Zad,Zaf,pok,pval,VA.ev,Env.get,Env.put,Env.keep,Zae,intV,binV,Zah,Heap.get,Heap.le,HL.le,Nat.succ_ne_self,Env.le,Nat.reduceEqDiff,ite_true,ite_false,true_and,and_true,reduceCtorEq]
  refine Zai rfl (fun h1=>?_) (fun h1=>?_)
  · refine Zak ?_
    try simp only [Zae]
    simp only [decide_eq_true_eq] at h1
    have hle:q * 20 + 20 ≤ N:=by omega
    refine Zaj ?_
    refine Zac (Zaa [0,1,2,6,8] ?_)
    simp only [Zab,Zad,Zaf,pok,pval,VA.ev,Env.get,Env.put,Env.keep,Zae,Nat.succ_ne_self,List.map,Nat.reduceEqDiff,ite_true,ite_false,true_and,reduceCtorEq]
    refine Zbg.mono (sp_insertion id N (q * 20) (q * 20 + 20) t1 d1 (by omega) (by omega) (by omega) hN) ?_
    rintro p h' ⟨d2,⟨k1,k2,k3⟩,t2,ht2,rfl⟩
    skip
    refine Zac (Zaa [0,1,2,6,7,8] ?_)
    simp only [Zab,Zad,Zaf,pok,pval,VA.ev,Env.get,Env.put,Env.keep,Zae,Nat.succ_ne_self,Nat.reduceEqDiff,ite_true,ite_false,true_and,reduceCtorEq]
    refine Zaa [0,1,2,6,7,8] ?_
    simp only [Zab,Zad,Zaf,pok,pval,VA.ev,Env.get,Env.put,Env.keep,Zae,Zal,intV,binV,Zah,HL.get,Nat.succ_ne_self,Nat.reduceEqDiff,ite_true,ite_false,true_and,reduceCtorEq,Option.some.injEq,adI (a:=q * 20 + 20) (b:=20) (by omega)]
    refine ⟨⟨(q + 1,d2,t2),⟨by show (q + 1) * 20 ≤ N; omega,by
      have:=Blk.more hb k1 k3 (Nat.le_refl _)
      rwa [show q * 20 + 20 = (q + 1) * 20 by omega] at this,(perm_ext k1 k2 (by omega) (by omega)).trans hp,Nat.le_trans ht ht2⟩⟩,?_⟩
    try simp only [Nat.le_refl,true_and,and_true,show (q + 1) * 20 = q * 20 + 20 by omega]
    all_goals (repeat' (first | rfl | trivial | omega | (simp only []; omega) | refine And.intro ?_ ?_))
  simp only [decide_eq_false_iff_not] at h1
  refine Zaz ?_
  try simp only [Zae,Zal,retQ,ite_true]
  refine Zac (Zaa [0,1,2,6] ?_)
  simp only [Zab,Zad,Zaf,pok,pval,VA.ev,Env.get,Env.put,Env.keep,Zae,Nat.succ_ne_self,List.map,Nat.reduceEqDiff,ite_true,ite_false,true_and,reduceCtorEq]
  refine Zbg.mono (sp_insertion id N (q * 20) N t1 d1 (by omega) (by omega) (by omega) hN) ?_
  rintro p h' ⟨d2,⟨k1,k2,k3⟩,t2,ht2,rfl⟩
  have hb2:Blk leA d2 20 0 N:=Blk.more hb k1 k3 (by omega)
  have hp2:=(perm_ext k1 k2 (by omega) (Nat.le_refl _)).trans hp
  skip
  refine Zaj ?_
  refine Za4 (σ:={ s:Nat × (Nat → Ac) × Nat // 20 ≤ s.1 ∧ s.1 ≤ 2 * N + 20 ∧ Blk leA s.2.1 s.1 0 N ∧ (seg s.2.1 0 N).Perm (seg d 0 N) ∧ t ≤ s.2.2 }) (fun s=>([(0,.own id 0 N),(1,pI N),(2,.fn (.func 74) [] []),(6,pI s.1.1)],⟨[(id,.arr false 7 (rws s.1.2.1 N))],s.1.2.2⟩)) (fun s=>2 * N + 20 - s.1.1) ⟨(20,d2,t2),⟨Nat.le_refl _,by show 20 ≤ 2 * N + 20; omega,hb2,hp2,Nat.le_trans ht ht2⟩⟩ ?_ ?_ ?_
  · try simp only [Env.get,Nat.succ_ne_self,Env.le,Nat.reduceEqDiff,ite_true,ite_false,and_true,reduceCtorEq]
    all_goals (repeat' (first | rfl | trivial | omega | (simp only []; omega) | refine And.intro ?_ ?_))
  · try simp only [Heap.get,Heap.le,HL.get,HL.le,Nat.le_refl,ite_true,and_true]
    all_goals (repeat' (first | rfl | trivial | omega | (simp only []; omega) | refine And.intro ?_ ?_))
  clear k1 k2 k3 hb2 hp2 ht2 hb hp hq h1
  rintro ⟨⟨bs,d2,t2⟩,hbs,hbs2,hb2,hp2,ht2⟩
  simp only [] at hbs hbs2 hb2 hp2 ht2 ⊢
  refine Zac ?_
  refine Zac (Zaa [0,1,2,6,30] ?_)
  simp only [Zab,Zad,Zaf,pok,pval,VA.ev,Env.get,Env.put,Env.keep,Zae,intV,binV,Zah,Heap.get,Heap.le,HL.le,Nat.succ_ne_self,Env.le,Nat.reduceEqDiff,ite_true,ite_false,true_and,and_true,reduceCtorEq]
  refine Zai rfl (fun h2=>?_) (fun h2=>?_)
  · refine Zak ?_
    try simp only [Zae]
    simp only [decide_eq_true_eq] at h2
    have hlt:bs < N:=by omega
    have m2:=ml2 (a:=bs) (by omega)
    refine Zaj ?_
    refine Zac (Zaa [0,1,2,6,7,8] ?_)
    simp only [Zab,Zad,Zaf,pok,pval,VA.ev,Env.get,Env.put,Env.keep,Zae,intV,binV,Zah,Nat.succ_ne_self,Nat.reduceEqDiff,ite_true,ite_false,true_and,reduceCtorEq,m2]
    refine Zac ?_
    refine Zaj ?_
    refine Za4 (σ:={ s:Nat × Nat × (Nat → Ac) × Nat // s.2.1 = s.1 * (2 * bs) ∧ s.2.1 ≤ N ∧ Blk leA s.2.2.1 (2 * bs) 0 (s.1 * (2 * bs)) ∧ Blk leA s.2.2.1 bs (s.1 * (2 * bs)) N ∧ (seg s.2.2.1 0 N).Perm (seg d 0 N) ∧ t ≤ s.2.2.2 }) (fun s=>([(0,.own id 0 N),(1,pI N),(2,.fn (.func 74) [] []),(6,pI bs),(7,pI s.1.2.1),(8,pI (s.1.2.1 + 2 * bs:Nat))],⟨[(id,.arr false 7 (rws s.1.2.2.1 N))],s.1.2.2.2⟩)) (fun s=>N - s.1.2.1) ⟨(0,0,d2,t2),⟨by simp,Nat.zero_le _,by simp only [Nat.zero_mul]; exact Blk.zero,by simp only [Nat.zero_mul]; exact hb2,hp2,ht2⟩⟩ ?_ ?_ ?_
    · try simp only [Env.get,Nat.succ_ne_self,Env.le,Nat.reduceEqDiff,ite_true,ite_false,true_and,and_true,reduceCtorEq,Nat.zero_add]
      all_goals (repeat' (first | rfl | trivial | omega | (simp only []; omega) | refine And.intro ?_ ?_))
    · try simp only [Heap.get,Heap.le,HL.get,HL.le,Nat.le_refl,ite_true,and_true]
      all_goals (repeat' (first | rfl | trivial | omega | (simp only []; omega) | refine And.intro ?_ ?_))
    rintro ⟨⟨q,A,d3,t3⟩,hA,hAN,hb3,hb4,hp3,ht3⟩
    simp only [] at hA hAN hb3 hb4 hp3 ht3 ⊢
    refine Zac ?_
    refine Zac (Zaa [0,1,2,6,7,8,35] ?_)
    simp only [Zab,Zad,Zaf,pok,pval,VA.ev,Env.get,Env.put,Env.keep,Zae,intV,binV,Zah,Heap.get,Heap.le,HL.le,Nat.succ_ne_self,Env.le,Nat.reduceEqDiff,ite_true,ite_false,true_and,and_true,reduceCtorEq]
    refine Zai rfl (fun h3=>?_) (fun h3=>?_)
    · refine Zak ?_
      try simp only [Zae]
      simp only [decide_eq_true_eq] at h3
      have hle:A + 2 * bs ≤ N:=by omega
      refine Zaj ?_
      refine Zac (Zaa [0,1,2,6,8] ?_)
      simp only [Zab,Zad,Zaf,pok,pval,VA.ev,Env.get,Env.put,Env.keep,Zae,intV,binV,Zah,Nat.succ_ne_self,List.map,Nat.reduceEqDiff,ite_true,ite_false,true_and,reduceCtorEq,adI (a:=A) (b:=bs) (by omega)]
      refine Zbg.mono (sp_symMerge (A + 2 * bs - A) id N A (A + bs) (A + 2 * bs) t3 d3 (Nat.le_refl _) (by omega) (by omega) (by omega) (by omega) hN) ?_
      rintro p h' ⟨d4,hm,t4,ht4,rfl⟩
      skip
      refine Zac (Zaa [0,1,2,6,7,8] ?_)
      simp only [Zab,Zad,Zaf,pok,pval,VA.ev,Env.get,Env.put,Env.keep,Zae,Nat.succ_ne_self,Nat.reduceEqDiff,ite_true,ite_false,true_and,reduceCtorEq,m2]
      refine Zaa [0,1,2,6,7,8] ?_
      simp only [Zab,Zad,Zaf,pok,pval,VA.ev,Env.get,Env.put,Env.keep,Zae,Zal,intV,binV,Zah,HL.get,Nat.succ_ne_self,Nat.reduceEqDiff,ite_true,ite_false,true_and,reduceCtorEq,Option.some.injEq,m2,adI (a:=A + 2 * bs) (b:=2 * bs) (by omega)]
      have hnext:(q + 1) * (2 * bs) = A + 2 * bs:=by rw [Nat.add_mul,Nat.one_mul,← hA]
      have hmm:Mrg leA d3 d4 (q * (2 * bs)) (q * (2 * bs) + bs) (A + 2 * bs):=by rw [← hA]; exact hm
      have hbb:=Blk.merge hb3 hb4 (b:=A + 2 * bs) (by omega) (by omega) (by omega) hmm
      refine ⟨⟨(q + 1,A + 2 * bs,d4,t4),⟨hnext.symm,hle,by rw [hnext]; exact hbb.1,by rw [hnext]; exact hbb.2,(perm_ext hm.out hm.perm (by omega) (by omega)).trans hp3,Nat.le_trans ht3 ht4⟩⟩,?_⟩
      try simp only [Nat.le_refl,true_and,and_true]
      all_goals (repeat' (first | rfl | trivial | omega | (simp only []; omega) | refine And.intro ?_ ?_))
    simp only [decide_eq_false_iff_not] at h3
    refine Zaz ?_
    try simp only [Env.get,Zae,Zal,retQ,Zau,HL.get,Nat.succ_ne_self,Nat.reduceEqDiff,ite_true,ite_false,true_and,reduceCtorEq,Option.some.injEq]
    have m2':=ml2' (a:=bs) (by omega)
    refine Zac ?_
    refine Zac (Zaa [0,1,2,6,7,9] ?_)
    simp only [Zab,Zad,Zaf,pok,pval,VA.ev,Env.get,Env.put,Env.keep,Zae,intV,binV,Zah,Nat.succ_ne_self,Nat.reduceEqDiff,ite_true,ite_false,true_and,reduceCtorEq,adI (a:=A) (b:=bs) (by omega)]
    refine Zac (Zaa [0,1,2,6,7,9,54] ?_)
    simp only [Zab,Zad,Zaf,pok,pval,VA.ev,Env.get,Env.put,Env.keep,Zae,intV,binV,Zah,Nat.succ_ne_self,Nat.reduceEqDiff,ite_true,ite_false,true_and,reduceCtorEq]
    refine Zai rfl (fun h4=>?_) (fun h4=>?_)
    · simp only [decide_eq_true_eq] at h4
      refine Zaa [0,1,2,6] ?_
      simp only [Zab,Zad,Zaf,pok,pval,VA.ev,Env.get,Env.put,Env.keep,Zae,Nat.succ_ne_self,List.map,Nat.reduceEqDiff,ite_true,ite_false,true_and,reduceCtorEq]
      refine Zbg.mono (sp_symMerge (N - A) id N A (A + bs) N t3 d3 (Nat.le_refl _) (by omega) (by omega) (by omega) (by omega) hN) ?_
      rintro p h' ⟨d4,hm,t4,ht4,rfl⟩
      skip
      have hmm:Mrg leA d3 d4 (q * (2 * bs)) (q * (2 * bs) + bs) N:=by rw [← hA]; exact hm
      have hbb:=Blk.merge hb3 hb4 (b:=N) (by omega) (by omega) (by omega) hmm
      refine Zaa [0,1,2,6] ?_
      simp only [Zab,Zad,Zaf,pok,pval,VA.ev,Env.get,Env.put,Env.keep,Zae,Zal,intV,binV,Zah,HL.get,Nat.succ_ne_self,Nat.reduceEqDiff,ite_true,ite_false,true_and,reduceCtorEq,Option.some.injEq,m2']
      refine ⟨⟨(2 * bs,d4,t4),⟨by show 20 ≤ 2 * bs; omega,by show 2 * bs ≤ 2 * N + 20; omega,hbb.1,(perm_ext hm.out hm.perm (by omega) (by omega)).trans hp3,Nat.le_trans ht3 ht4⟩⟩,?_⟩
      try simp only [Nat.le_refl,true_and,and_true]
      all_goals (repeat' (first | rfl | trivial | omega | (simp only []; omega) | refine And.intro ?_ ?_))
    · simp only [decide_eq_false_iff_not] at h4
      refine Zak ?_
      try simp only [Zae]
      refine Zaa [0,1,2,6] ?_
      simp only [Zab,Zad,Zaf,pok,pval,VA.ev,Env.get,Env.put,Env.keep,Zae,Zal,intV,binV,Zah,HL.get,Nat.succ_ne_self,Nat.reduceEqDiff,ite_true,ite_false,true_and,reduceCtorEq,Option.some.injEq,m2']
      refine ⟨⟨(2 * bs,d3,t3),⟨by show 20 ≤ 2 * bs; omega,by show 2 * bs ≤ 2 * N + 20; omega,Blk.rest hb3 hb4 (by omega),hp3,ht3⟩⟩,?_⟩
      try simp only [Nat.le_refl,true_and,and_true]
      all_goals (repeat' (first | rfl | trivial | omega | (simp only []; omega) | refine And.intro ?_ ?_))
  · simp only [decide_eq_false_iff_not] at h2
    refine Zaz ?_
    try simp only [Zae,Zal,retQ,Zau,ite_true,true_and]
    exact ⟨d2,⟨hp2,Blk.all hb2 (by omega)⟩,t2,ht2,rfl⟩
theorem sp_sortStable (id t : Nat) (l : List Ac) (hid : id < t) (hN : l.length ≤ 1000000) :
    Zbg Tryz.prog 73 [.own id 0 l.length,.fn (.func 74) [] []] ⟨[(id,.arr false 7 (l.map Ac.enc))],t⟩
      (fun _ h'=>∃ l':List Ac,(l'.Perm l ∧ l'.Pairwise leA) ∧ ∃ t',t ≤ t' ∧ h' = ⟨[(id,.arr false 7 (l'.map Ac.enc))],t'⟩):=by
  have hrw:l.map Ac.enc = rws (rowF l) l.length:=by
    refine List.ext_getElem (by simp [rws]) fun i h1 h2=>?_
    have hi:i < l.length:=by simpa using h1
    simp [rws,rowF,List.getD_eq_getElem?_getD,hi]
  rw [hrw]
  refine Zaq (vc:=Zde) (ts:=[]) Go.Proofs.Tryz.func73 (by kernel_rfl) rfl rfl (Nat.le_of_ble_eq_true rfl) (by kernel_rfl) ?_
  unfold Zde
  try dsimp only [ZM,ZO,ZN,ZG]
  refine Zaa [] ?_
  simp only [Zab,Zad,Zaf,pok,pval,VA.ev,Env.get,Env.put,Za2,retQ,Zau,lenV,Za8,Nat.succ_ne_self,List.map,Nat.reduceEqDiff,ite_true,ite_false,true_and,reduceCtorEq,Nat.zero_add]
  refine Zbg.mono (sp_stable id l.length t (rowF l) hid hN) ?_
  rintro p h' ⟨d',⟨k1,k2⟩,t',ht',rfl⟩
  skip
  rw [seg_rowF] at k1
  refine ⟨seg d' 0 l.length,⟨k1,k2.pairwise⟩,t',ht',?_⟩
  have:(seg d' 0 l.length).map Ac.enc = rws d' l.length:=by
    simp [seg,rws,List.range_eq_range']
  rw [this]
end Go.Proofs.YtehokmhebnkfdaaGreat.w
