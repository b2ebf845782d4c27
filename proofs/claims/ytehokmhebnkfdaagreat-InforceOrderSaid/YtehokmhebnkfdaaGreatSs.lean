import Derived.Test.YtehokmhebnkfdaaGreatVmU
import Derived.Test.YtehokmhebnkfdaaGreatVmI
import Derived.Test.YtehokmhebnkfdaaGreatCSo
import Derived.Test.YtehokmhebnkfdaaGreatShS
import Derived.Shelf.Slices.CompactS
import Derived.Test.YtehokmhebnkfdaaGreatI2
import Derived.Test.YtehokmhebnkfdaaGreatVmP
set_option linter.all false
namespace Go.Proofs.YtehokmhebnkfdaaGreat.w
open Go Go.VM Go.Shelf Go.RowKit Go.Lib Go.Sort
set_option maxRecDepth 20000
set_option maxHeartbeats 0
abbrev encT (x:Str):List Value:=[encStr x]
abbrev Zb5 (x:Str):List PV:=[.str x]
theorem plain_str:Plain Str 1 encT Zb5:=⟨fun _=>rfl,fun _=>rfl,fun x v hv=>by simp [encT,encStr] at hv; rcases hv with rfl; rfl,
  fun g x j hj=>by
    match j,hj with
    | 0,_=>exact .str _ _ (by simp),
  fun g v x j hj h=>by
    match j,hj,h with
    | 0,_,h =>
      cases h
      rename_i s hs
      show Value.string s = encStr x
      unfold encStr
      rw [str_eq hs]⟩
theorem flat_str (d:Array Str):Sort.flatK encT 1 d = d.map encStr:=by
  apply Array.ext
  · simp
  · intro i h1 h2
    have hi:i < d.size:=by simpa using h2
    simp [Sort.flatK,encT,Nat.mod_one,hi]
theorem putCells_str (off:Nat) (d:Array Str) (c:Array Value):putCells encStr off d c = putCells (fun v:Value=>v) off (d.map encStr) c:=by
  unfold putCells
  congr 1
  funext k x
  simp only [Array.size_map]
  split
  · rename_i h
    have:k - off < d.size:=by omega
    rw [getElem!_pos d _ this,getElem!_pos (d.map encStr) _ (by simpa using this)]
    simp
  · rfl
theorem putRow_str (w:World) (b o:Nat) (d:Array Str):putRow encStr w b o d = putRowK encT 1 w b o d:=by
  unfold putRowK putRow
  rw [flat_str]
  congr 1
  funext c
  exact putCells_str o d c
theorem holds_str {w:World} {b o:Nat} {d:Array Str} (h:HoldsK encT 1 w b o d):Holds encStr w b o d:=by
  unfold HoldsK at h
  rw [flat_str] at h
  intro j hj
  have:=h j (by simpa using hj)
  rw [getElem!_pos (d.map encStr) j (by simpa using hj)] at this
  rw [getElem!_pos d j hj]
  simpa using this
noncomputable def sortT (zs:List Str):List Str:=zs.mergeSort fun x y=>decide (x ≤ y)
theorem sortsStr (id n : Nat) (zs : List Str) (hlen : zs.length ≤ 1000000) : Zbg Tryz.prog 49 [.own id 0 zs.length] ⟨[(id, .arr false 1 (zs.map Zb5))], n⟩
    (fun _ h'=>h' = ⟨[(id,.arr false 1 ((sortT zs).map Zb5))],n⟩):=by
  refine ⟨by kernel_rfl,fun g w vals r ha=>?_⟩
  obtain ⟨v,rfl,hv⟩:=c.args1 ha
  have hg:(⟨[(id,.arr false 1 (zs.map Zb5))],n⟩:Heap).get id = some (.arr false 1 (zs.map Zb5)):=by simp [Heap.get,HL.get]
  rcases holds_own plain_str (by decide) r hv hg (by simp) zs.toArray (by simp [List.take_of_length_le]) with ⟨h0,ao,cap,rfl⟩ | ⟨cap,b,o,nn,c,tt,rfl,hsz,hβ,hlt,hc,hfit,hH⟩
  · have hcon:=Any.slices_Sort_string_none Tryz.sortStrs ao cap w
    change Calls Tryz.prog 49 _ _ _ at hcon
    have hz:zs = []:=List.eq_nil_of_length_eq_zero h0
    subst hz
    refine hcon.mono ?_
    rintro e w' ⟨rfl,rfl⟩
    exact ⟨.tuple #[],.tup [],g,_,rfl,by simp [sortT],.tup _ _ rfl (fun j hj=>by cases hj),r,Evo.refl _ _ _⟩
  · have hcon:=Any.slices_Sort_string Tryz.sortStrs b (o + 0 * 1) cap zs w (holds_str hH) hlt (by omega)
    change Calls Tryz.prog 49 _ _ _ at hcon
    refine hcon.mono ?_
    rintro e w' ⟨rfl,m,os,rfl⟩
    rw [putRow_str]
    have sb:=sorted_back plain_str r hg (by simp) hβ hc hfit (sortT zs).toArray (by simp [sortT]) m os
    have he:(⟨[(id,.arr false 1 (zs.map Zb5))],n⟩:Heap).set id (.arr false 1 ((zs.map Zb5).take 0 ++ (sortT zs).toArray.toList.map Zb5 ++ (zs.map Zb5).drop (0 + zs.length))) = ⟨[(id,.arr false 1 ((sortT zs).map Zb5))],n⟩:=by
      simp [Heap.set,HL.set,HL.del]
    rw [he] at sb
    exact ⟨.tuple #[],.tup [],g,_,rfl,rfl,.tup _ _ rfl (fun j hj=>by cases hj),sb.1,sb.2⟩
theorem compactsStr (id n : Nat) (zs : List Str) (hlen : zs.length ≤ 1000000) : Zbg Tryz.prog 50 [.own id 0 zs.length] ⟨[(id, .arr false 1 (zs.map Zb5))], n⟩
    (fun p h'=>p = .own id 0 (Lib.compact zs).length ∧ ∃ rest,h' = ⟨[(id,.arr false 1 ((Lib.compact zs ++ rest).map Zb5))],n⟩):=by
  have hcl:=Lib.compact_length_le zs
  refine ⟨by kernel_rfl,fun g w vals r ha=>?_⟩
  obtain ⟨v,rfl,hv⟩:=c.args1 ha
  have hg:(⟨[(id,.arr false 1 (zs.map Zb5))],n⟩:Heap).get id = some (.arr false 1 (zs.map Zb5)):=by simp [Heap.get,HL.get]
  rcases holds_own plain_str (by decide) r hv hg (by simp) zs.toArray (by simp [List.take_of_length_le]) with ⟨h0,ao,cap,rfl⟩ | ⟨cap,b,o,nn,cs,tt,rfl,hsz,hβ,hlt,hc,hfit,hH⟩
  · have hcon:=Any.slices_Compact_string_empty Tryz.compactStrs ao cap w
    change Calls Tryz.prog 50 _ _ _ at hcon
    have hz:zs = []:=List.eq_nil_of_length_eq_zero h0
    subst hz
    refine hcon.mono ?_
    rintro e w' ⟨rfl,rfl⟩
    exact ⟨_,.own id 0 0,g,_,rfl,⟨rfl,[],rfl⟩,hv,r,Evo.refl _ _ _⟩
  · have hcon:=Any.slices_Compact_string Tryz.compactStrs b (o + 0 * 1) cap zs w (holds_str hH) (by omega) (c.own_cap hv)
    change Calls Tryz.prog 50 _ _ _ at hcon
    refine hcon.mono ?_
    rintro e w' ⟨rfl,m,rfl⟩
    rw [putRow_str]
    have sb:=sorted_back plain_str r hg (by simp) hβ hc hfit (Lib.compact zs ++ List.replicate (zs.length - (Lib.compact zs).length) []).toArray (by simp; omega) m #[]
    have he:(⟨[(id,.arr false 1 (zs.map Zb5))],n⟩:Heap).set id (.arr false 1 ((zs.map Zb5).take 0 ++ (Lib.compact zs ++ List.replicate (zs.length - (Lib.compact zs).length) []).toArray.toList.map Zb5 ++ (zs.map Zb5).drop (0 + zs.length))) = ⟨[(id,.arr false 1 ((Lib.compact zs ++ List.replicate (zs.length - (Lib.compact zs).length) []).map Zb5))],n⟩:=by
      simp [Heap.set,HL.set,HL.del]
    rw [he,grow_empty] at sb
    refine ⟨_,.own id 0 (Lib.compact zs).length,g,_,rfl,⟨rfl,_,rfl⟩,?_,sb.1,sb.2⟩
    by_cases hz:zs.length = 0
    · have e1:(Lib.compact zs).length = zs.length:=by omega
      rw [e1]; exact hv
    · exact c.own_short hv hz hcl
end Go.Proofs.YtehokmhebnkfdaaGreat.w
namespace Go.Proofs.YtehokmhebnkfdaaGreat.w
open Go Go.VM
set_option maxRecDepth 20000
set_option maxHeartbeats 0
set_option pp.deepTerms false
def c_inforce_Breakpoints_1:VC:=(.seq (.region [ZO 3 (.box 28 (.t 0))] false) (.draw2 [ZO 5 (.load false 1 (.t 2)),ZM 6 1,ZO 7 (.call 52 [(.t 6)]),ZO 8 (.app 1 8 [(.int .i64 0)] false (.t 5) (.t 7)),ZN (.store 1 (.t 2) (.t 8))] [true,true,true,false,false]))
def c_inforce_Breakpoints:VC:=(.seq (.region [ZO 2 (.mv (.c .nilsl))] false) (.seq (.region [ZO 4 (.bslice 1 1 [(.int .i64 0)] [(0,(.c (.int .i64 0)))]),ZO 3 (.alloc [.nilsl]),ZN (.store 1 (.t 3) (.t 4))] false) (.seq (.region [ZM 5 0,ZO 6 (.mkfn (.func 51) [] [(.t 3)]),ZO 7 (.call 34 [(.t 5),(.t 6)])] false) (.seq (.region [ZO 8 (.load false 1 (.t 3)),ZO 9 (.call 53 [(.t 8)])] false) (.seq (.region [ZO 10 (.load false 1 (.t 3)),ZO 11 (.call 54 [(.t 10)]),ZM 2 11] false) .ret)))))
def c_inforce_Purposes_1:VC:=(.seq (.region [ZO 3 (.box 28 (.t 0))] false) (.seq (.region [ZO 5 (.faddr 3 (.t 3)),ZO 6 (.faddr 16 (.t 5)),ZO 7 (.load false 1 (.t 6)),ZO 8 (.bin .neq (.t 7) (.c (.str [])))] false) (.cond (.t 8) (.region [ZO 9 (.load false 1 (.t 2)),ZO 10 (.faddr 3 (.t 3)),ZO 11 (.faddr 16 (.t 10)),ZO 12 (.load false 1 (.t 11)),ZO 13 (.bslice 1 1 [(.str [])] [(0,(.t 12))]),ZO 14 (.app 1 16 [(.str [])] false (.t 9) (.t 13)),ZN (.store 1 (.t 2) (.t 14))] false) .skip)))
def c_inforce_Purposes:VC:=(.seq (.region [ZO 2 (.mv (.c .nilsl))] false) (.seq (.region [ZO 3 (.alloc [.nilsl])] false) (.seq (.region [ZM 4 0,ZO 5 (.mkfn (.func 48) [] [(.t 3)]),ZO 6 (.call 34 [(.t 4),(.t 5)])] false) (.seq (.region [ZO 7 (.load false 1 (.t 3)),ZO 8 (.call 49 [(.t 7)])] false) (.seq (.region [ZO 9 (.load false 1 (.t 3)),ZO 10 (.call 50 [(.t 9)]),ZM 2 10] false) .ret)))))
noncomputable def Zci (l:List Gz) (r:List EI):List Int:=0 :: r.flatMap fun d=>c.edges (Zcj l d)
noncomputable def bpS (l:List Gz):List Int:=Lib.compact (c.Zd5 (Zci l (chgS l)))
theorem edgesS_step (l:List Gz) {r:List EI} {k:Nat} (h:k < r.length):Zci l (r.take (k + 1)) = Zci l (r.take k) ++ c.edges (Zcj l (r.getD k EI0)):=by
  unfold Zci
  rw [take_one h EI0,List.flatMap_append]
  simp
theorem edgesS_len (l:List Gz) (r:List EI):(Zci l r).length ≤ 1 + r.length * (2 * ((dds l).length + 1)):=by
  unfold Zci
  rw [List.length_cons]
  suffices h:(r.flatMap fun d=>c.edges (Zcj l d)).length ≤ r.length * (2 * ((dds l).length + 1)) by omega
  induction r with
  | nil=>simp
  | cons d r ih =>
    have h1:=c.edges_len (Zcj l d)
    have h2:=days_len l d
    rw [List.flatMap_cons,List.length_append,List.length_cons,Nat.add_mul]
    omega
theorem back_Breakpoints (l : List Gz) (hd : (dds l).length ≤ 100) : Back 51 [.loc 1 0 0] (chgS l).length (fun k => (chgS l).getD k EI0) (fun k => Zcj l ((chgS l).getD k EI0))
    (fun k L=>∃ id,id ≠ 1 ∧ L = [(id,.arr false 1 ((Zci l ((chgS l).take k)).map c.Zbd)),(1,.arr false 1 [[.own id 0 (Zci l ((chgS l).take k)).length]])]):=by
  intro k hk L t hL hlt hnod
  obtain ⟨id,i0,rfl⟩:=hL
  have h2:id < t:=hlt _ List.mem_cons_self
  have h3:1 < t:=hlt _ (List.mem_cons_of_mem _ List.mem_cons_self)
  have hstep:=edgesS_step l hk
  have hlen:(Zci l ((chgS l).take k)).length ≤ 30000:=by
    have h1:=edgesS_len l ((chgS l).take k)
    have h4:=(chg_sub l).length_le
    rw [List.length_take] at h1
    have h5:min k (chgS l).length ≤ 100:=by omega
    have h6:min k (chgS l).length * (2 * ((dds l).length + 1)) ≤ 100 * (2 * (100 + 1)):=Nat.mul_le_mul h5 (by omega)
    omega
  have hcan:=days_canon l ((chgS l).getD k EI0)
  have hdl:=days_len l ((chgS l).getD k EI0)
  have hel:=c.edges_len (Zcj l ((chgS l).getD k EI0))
  simp only []
  generalize (chgS l).getD k EI0 = d at hstep hcan hdl hel ⊢
  generalize Zcj l d = D at hstep hcan hdl hel ⊢
  generalize Zci l ((chgS l).take k) = G at hstep hlen ⊢
  have C:=c.sp_dateset_Boundaries D (by omega)
  rw [c.norm_self hcan] at C
  generalize c.edges D = E at hstep hel C
  have hgl:(G.map c.Zbd).length = G.length:=by simp
  have hgt:(G.map c.Zbd).take G.length = G.map c.Zbd:=List.take_of_length_le (by simp)
  refine Zbg.drop ?_
  refine Zaq (vc:=c_inforce_Breakpoints_1) (ts:=[]) Go.Proofs.Tryz.func51 (by kernel_rfl) rfl rfl (Nat.le_of_ble_eq_true rfl) (by kernel_rfl) ?_
  unfold c_inforce_Breakpoints_1
  try dsimp only [ZM,ZO,ZN,ZG]
  have qi0:(1 = id) = False:=eq_false (by omega)
  have qi1:(1 = t) = False:=eq_false (by omega)
  have qi2:(1 = (t + 1)) = False:=eq_false (by omega)
  have qi3:(id = 1) = False:=eq_false (by omega)
  have qi4:(id = t) = False:=eq_false (by omega)
  have qi5:(id = (t + 1)) = False:=eq_false (by omega)
  have qi6:(t = 1) = False:=eq_false (by omega)
  have qi7:(t = id) = False:=eq_false (by omega)
  have qi8:(t = (t + 1)) = False:=eq_false (by omega)
  have qi9:((t + 1) = 1) = False:=eq_false (by omega)
  have qi10:((t + 1) = id) = False:=eq_false (by omega)
  have qi11:((t + 1) = t) = False:=eq_false (by omega)
  refine Zac (Zaa [1,2] ?_)
  simp only [Zab,Zad,Zaf,VA.ev,Env.get,Env.put,Env.keep,Za2,Zae,PV.cells,PV.fits,Heap.le,Heap.push,Nat.succ_ne_self,AB.live,Nat.reduceEqDiff,Nat.reduceAdd,ite_true,ite_false,true_and,ne_eq,reduceCtorEq,BEq.rfl,Nat.zero_add,Zb6]
  refine VW_draw2A (t + 10) [] ?_ ?_
  · try simp only [Heap.get,Heap.le,HL.get,HL.le,Nat.reduceLeDiff,ite_true,ite_false,and_true,qi0,qi1,qi2,qi3,qi4,qi5,qi6,qi7,qi8,qi9,qi10,qi11]
    all_goals (repeat' (first | rfl | trivial | omega | (simp only []; omega) | refine And.intro ?_ ?_))
  simp only [Zaf,QW,dok,dval,VOp.pure,VOp.simple,VOp.det,pok,pval,VA.ev,Env.get,Env.put,retQ,Zau,gd,aggV,Zag,Zap,PV.cells,PV.fits,overlay,PV.nth,PV.row,Heap.get,Heap.set,Heap.del,Heap.le,HL.get,HL.set,HL.del,HL.le,Heap.push,Nat.le_refl,Nat.succ_ne_self,Zbq,Zc8,Zbk,Zda,Zbc,Zcw,Zbh,Za9,List.set,List.length,List.getD_cons_zero,List.getD_cons_succ,List.take,List.drop,List.take_succ_cons,List.drop_succ_cons,List.cons_append,List.nil_append,Nat.reduceEqDiff,Nat.reduceAdd,Nat.reduceLT,Nat.reduceLeDiff,Bool.false_eq_true,Bool.true_eq_false,ite_true,ite_false,true_and,and_true,implies_true,forall_const,reduceCtorEq,BEq.rfl,Option.some.injEq,Nat.zero_add,List.length_cons,DrawA,VOp.writes,false_implies,implies_true,List.length_map,hgl,hgt,qi0,qi1,qi2,qi3,qi4,qi5,qi6,qi7,qi8,qi9,qi10,qi11]
  refine ⟨_,.inl C,?_⟩
  try simp only [true_and,DrawA,VOp.writes,false_implies,implies_true,List.length_map,hgl,hgt,qi0,qi1,qi2,qi3,qi4,qi5,qi6,qi7,qi8,qi9,qi10,qi11]
  refine ⟨by omega,by omega,by omega,by omega,⟨[(t + 1,.arr false 1 ((G ++ E).map c.Zbd)),(1,.arr false 1 [[.own (t + 1) 0 (G ++ E).length]])],t + 2⟩,?_,_,_,by omega,by omega,rfl,⟨t + 1,by omega,by rw [hstep]⟩,nod2 (by simp only []; omega),by simp <;> omega,by simp <;> omega,by simp [AB.live]⟩
  simp only [List.map_append,List.length_append]
  try simp only [Heap.get,HL.get,HL.le,Nat.le_refl,ite_true,ite_false,and_true,qi0,qi1,qi2,qi3,qi4,qi5,qi6,qi7,qi8,qi9,qi10,qi11]
  all_goals (repeat' (first | rfl | trivial | omega | (simp only []; omega) | refine And.intro ?_ ?_))
theorem closed_ints (l:List Int):Closed (.sl 1 (l.map c.Zbd)):=Zbm (fun a _ x hx=>by simp only [c.Zbd,List.mem_cons,List.not_mem_nil,or_false] at hx; subst hx; exact cI _)
theorem sp_inforce_Breakpoints (l:List Gz) (hs:Smal l) (hd:(dds l).length ≤ 100):Zbo Tryz.prog 26 [.sl 4 (l.map Gz.enc)] (.sl 1 ((bpS l).map c.Zbd)):=by
  have hlen:(Zci l (chgS l)).length ≤ 30000:=by
    have h1:=edgesS_len l (chgS l)
    have h4:=(chg_sub l).length_le
    have h6:(chgS l).length * (2 * ((dds l).length + 1)) ≤ 100 * (2 * (100 + 1)):=Nat.mul_le_mul (by omega) (by omega)
    omega
  have hsl:(c.Zd5 (Zci l (chgS l))).length = (Zci l (chgS l)).length:=by simp [c.Zd5]
  have hcl:=Lib.compact_length_le (c.Zd5 (Zci l (chgS l)))
  refine Zam ?_ (closed_ints _) (by simp only [Za0,List.mem_cons,List.not_mem_nil,or_false,forall_eq_or_imp,forall_eq,false_implies,implies_true]; repeat' (first  | exact Zbp _ | exact Zcm _ | refine And.intro ?_ ?_))
  refine Zaq (vc:=c_inforce_Breakpoints) (ts:=[.t 2]) Go.Proofs.Tryz.func26 (by kernel_rfl) rfl rfl (Nat.le_of_ble_eq_true rfl) (by kernel_rfl) ?_
  unfold c_inforce_Breakpoints
  try dsimp only [ZM,ZO,ZN,ZG]
  refine Zac (Zaa [0] ?_)
  simp only [Zab,Zad,Zaf,pok,pval,VA.ev,Env.get,Env.put,Env.keep,Za2,Zae,Heap.nil,ite_true,ite_false,true_and,reduceCtorEq]
  refine Zac (Zaa [0,3] ?_)
  simp only [Zab,Zad,Zaf,VA.ev,Env.get,Env.put,Env.keep,Zae,PV.cells,PV.fits,overlay,PV.row,Heap.get,Heap.set,HL.get,HL.set,HL.del,Heap.push,Nat.le_refl,Nat.succ_ne_self,Zbj,Zbf,Zbh,Za9,List.set,List.replicate,List.length,List.getD_cons_zero,List.take,List.drop,List.drop_succ_cons,List.cons_append,List.nil_append,Nat.reduceEqDiff,Nat.reduceAdd,Nat.reduceLT,ite_true,ite_false,true_and,and_true,reduceCtorEq,BEq.rfl,Nat.zero_add,List.length_cons]
  refine Zac (Zaa [3] ?_)
  simp only [Zab,Zad,Zaf,pok,pval,VA.ev,Env.get,Env.put,Env.keep,Zae,Nat.succ_ne_self,List.map,Nat.reduceEqDiff,ite_true,ite_false,true_and,reduceCtorEq]
  refine Zbg.weakenL (h0:=⟨[(0,.arr false 1 [[pI 0]]),(1,.arr false 1 [[.own 0 0 1]])],2⟩) ?_ (Zbg.mono (sp_changes l hs (by omega) 51 [.loc 1 0 0] _ (back_Breakpoints l hd) _ 2 ?_ ?_ ?_ ?_) ?_)
  · skip
    all_goals (repeat' (first | rfl | trivial | omega | (simp only []; omega) | refine And.intro ?_ ?_))
  · exact ⟨0,by simp,rfl⟩
  · simp
  · exact nod2 (by simp)
  · simp [AB.live]
  rintro p h' ⟨L',t',ht,rfl,⟨id,i0,rfl⟩,hnod,hlt,_⟩
  rw [List.take_length]
  have hid:id < t':=hlt _ List.mem_cons_self
  have qi0:(1 = id) = False:=eq_false (by omega)
  have qi1:(id = 1) = False:=eq_false (by omega)
  skip
  refine Zac (Zaa [3] ?_)
  simp only [Zab,Zad,Zaf,pok,pval,VA.ev,Env.get,Env.put,Env.keep,Zae,aggV,Zag,Zap,PV.nth,PV.row,Heap.get,HL.get,Nat.le_refl,List.map,List.length,List.getD_cons_zero,List.take,List.drop,List.take_succ_cons,Nat.reduceEqDiff,Nat.reduceLT,Bool.false_eq_true,ite_true,ite_false,true_and,and_true,implies_true,Nat.zero_add,List.length_cons,qi0,qi1]
  have e0:c.Zd5 (Zci l (chgS l)) = c.Zd5 (Zci l (chgS l)):=rfl
  refine Zbg.frameL (l1:=[(id,.arr false 1 ((Zci l (chgS l)).map c.Zbd))]) (l2:=[(1,.arr false 1 [[.own id 0 (Zci l (chgS l)).length]])]) (by simp <;> omega) (by simp) (Zbg.mono (c.sortsInt id t' (Zci l (chgS l)) (by omega)) ?_)
  rintro p h' rfl
  refine ⟨Nat.le_refl _,by simp <;> omega,by simp [AB.live],?_⟩
  rw [← hsl]
  simp only [List.cons_append,List.nil_append]
  skip
  refine Zac (Zaa [2] ?_)
  simp only [Zab,Zad,Zaf,pok,pval,VA.ev,Env.get,Env.put,Env.keep,Zae,aggV,Zag,Zap,PV.nth,PV.row,Heap.get,HL.get,Nat.le_refl,Nat.succ_ne_self,List.map,List.length,List.getD_cons_zero,List.take,List.drop,List.take_succ_cons,Nat.reduceEqDiff,Nat.reduceLT,Bool.false_eq_true,ite_true,ite_false,true_and,and_true,implies_true,Nat.zero_add,List.length_cons,qi0,qi1]
  refine Zbg.frameL (l1:=[(id,.arr false 1 ((c.Zd5 (Zci l (chgS l))).map c.Zbd))]) (l2:=[(1,.arr false 1 [[.own id 0 (c.Zd5 (Zci l (chgS l))).length]])]) (by simp <;> omega) (by simp) (Zbg.mono (c.compactsInt id t' (c.Zd5 (Zci l (chgS l))) (by omega)) ?_)
  rintro p h' ⟨rfl,rest,rfl⟩
  refine ⟨Nat.le_refl _,by simp <;> omega,by simp [AB.live],?_⟩
  simp only [List.cons_append,List.nil_append]
  skip
  refine Zar ?_
  try simp only [Env.get,retQ,resV,Zau,RS.ev,RS.ok,ite_true,true_and,and_true]
  have V:=View.own (h:=⟨[(id,AB.arr false 1 ((Lib.compact (c.Zd5 (Zci l (chgS l))) ++ rest).map c.Zbd)),(1,.arr false 1 [[.own id 0 (c.Zd5 (Zci l (chgS l))).length]])],t'⟩) (id:=id) (off:=0) (len:=(bpS l).length) (fz:=false) (z:=1) (es:=(Lib.compact (c.Zd5 (Zci l (chgS l))) ++ rest).map c.Zbd) (by simp [Heap.get,HL.get]) (by simp [bpS])
  have e1:((((Lib.compact (c.Zd5 (Zci l (chgS l))) ++ rest).map c.Zbd).drop 0).take (bpS l).length) = (bpS l).map c.Zbd:=by
    rw [List.drop_zero,List.map_append]
    exact List.take_left' (by simp [bpS])
  rw [e1] at V
  exact V
theorem bpS_len (l:List Gz) (hd:(dds l).length ≤ 100):(bpS l).length ≤ 30000:=by
  have h1:=edgesS_len l (chgS l)
  have h4:=(chg_sub l).length_le
  have h6:(chgS l).length * (2 * ((dds l).length + 1)) ≤ 100 * (2 * (100 + 1)):=Nat.mul_le_mul (by omega) (by omega)
  have h7:=Lib.compact_length_le (c.Zd5 (Zci l (chgS l)))
  have h8:(c.Zd5 (Zci l (chgS l))).length = (Zci l (chgS l)).length:=by simp [c.Zd5]
  unfold bpS
  omega
end Go.Proofs.YtehokmhebnkfdaaGreat.w
