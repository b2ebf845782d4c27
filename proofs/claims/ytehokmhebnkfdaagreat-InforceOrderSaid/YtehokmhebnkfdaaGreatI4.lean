import Derived.Test.YtehokmhebnkfdaaGreatSs
set_option linter.all false
namespace Go.Proofs.YtehokmhebnkfdaaGreat.w
open Go Go.VM
set_option maxRecDepth 20000
set_option maxHeartbeats 0
set_option pp.deepTerms false
def Zdm (r:List EI):List Str:=(r.filter fun d=>d.it.forr != []).map fun d=>d.it.forr
noncomputable def purS (l:List Gz):List Str:=Lib.compact (sortT (Zdm (chgS l)))
theorem forsS_step {r:List EI} {k:Nat} (h:k < r.length):Zdm (r.take (k + 1)) = Zdm (r.take k) ++ (if (r.getD k EI0).it.forr != [] then [(r.getD k EI0).it.forr] else []):=by
  unfold Zdm
  rw [take_one h EI0,List.filter_append,List.map_append]
  congr 1
  simp only [List.filter_cons,List.filter_nil]
  split <;> rfl
theorem forsS_len (r:List EI):(Zdm r).length ≤ r.length:=by
  unfold Zdm
  rw [List.length_map]
  exact List.length_filter_le _ _
theorem back_Purposes (l : List Gz) (hd : (dds l).length ≤ 5000) : Back 48 [.loc 0 0 0] (chgS l).length (fun k => (chgS l).getD k EI0) (fun k => Zcj l ((chgS l).getD k EI0))
    (fun k L=>∃ id,id ≠ 0 ∧ L = [(id,.arr false 1 ((Zdm ((chgS l).take k)).map Zb5)),(0,.arr false 1 [[.own id 0 (Zdm ((chgS l).take k)).length]])]):=by
  intro k hk L t hL hlt hnod
  obtain ⟨id,i0,rfl⟩:=hL
  have h2:id < t:=hlt _ List.mem_cons_self
  have hstep:=forsS_step hk
  have hlen:(Zdm ((chgS l).take k)).length ≤ 5000:=by
    have h1:=forsS_len ((chgS l).take k)
    have h4:=(chg_sub l).length_le
    rw [List.length_take] at h1
    omega
  simp only []
  generalize (chgS l).getD k EI0 = d at hstep ⊢
  generalize Zcj l d = D
  generalize Zdm ((chgS l).take k) = G at hstep hlen ⊢
  have hgl:(G.map Zb5).length = G.length:=by simp
  have hgt:(G.map Zb5).take G.length = G.map Zb5:=List.take_of_length_le (by simp)
  refine Zbg.drop ?_
  refine Zaq (vc:=c_inforce_Purposes_1) (ts:=[]) Go.Proofs.Tryz.func48 (by kernel_rfl) rfl rfl (Nat.le_of_ble_eq_true rfl) (by kernel_rfl) ?_
  unfold c_inforce_Purposes_1
  try dsimp only [ZM,ZO,ZN,ZG]
  have qi0:(0 = id) = False:=eq_false (by omega)
  have qi1:(0 = t) = False:=eq_false (by omega)
  have qi2:(0 = (t + 1)) = False:=eq_false (by omega)
  have qi3:(0 = (t + 1 + 1)) = False:=eq_false (by omega)
  have qi4:(id = 0) = False:=eq_false (by omega)
  have qi5:(id = t) = False:=eq_false (by omega)
  have qi6:(id = (t + 1)) = False:=eq_false (by omega)
  have qi7:(id = (t + 1 + 1)) = False:=eq_false (by omega)
  have qi8:(t = 0) = False:=eq_false (by omega)
  have qi9:(t = id) = False:=eq_false (by omega)
  have qi10:(t = (t + 1)) = False:=eq_false (by omega)
  have qi11:(t = (t + 1 + 1)) = False:=eq_false (by omega)
  have qi12:((t + 1) = 0) = False:=eq_false (by omega)
  have qi13:((t + 1) = id) = False:=eq_false (by omega)
  have qi14:((t + 1) = t) = False:=eq_false (by omega)
  have qi15:((t + 1) = (t + 1 + 1)) = False:=eq_false (by omega)
  have qi16:((t + 1 + 1) = 0) = False:=eq_false (by omega)
  have qi17:((t + 1 + 1) = id) = False:=eq_false (by omega)
  have qi18:((t + 1 + 1) = t) = False:=eq_false (by omega)
  have qi19:((t + 1 + 1) = (t + 1)) = False:=eq_false (by omega)
  refine Zac (Zaa [1,2,3] ?_)
  simp only [Zab,Zad,Zaf,VA.ev,Env.get,Env.put,Env.keep,Za2,Zae,PV.cells,PV.fits,Heap.le,Heap.push,Nat.succ_ne_self,AB.live,Nat.reduceEqDiff,Nat.reduceAdd,ite_true,ite_false,true_and,ne_eq,reduceCtorEq,BEq.rfl,Nat.zero_add,Zb6]
  cases hb:(d.it.forr != [])
  · rw [hb] at hstep
    simp only [Bool.false_eq_true,if_false,List.append_nil] at hstep
    refine Zac (Zaa [2,3,8] ?_)
    simp only [Zab,Zad,Zaf,pok,pval,VA.ev,Env.get,Env.put,Env.keep,Zae,aggV,binV,Zah,strV,Zao,Zan,Zag,Zap,PV.nth,PV.row,Heap.get,HL.get,Nat.succ_ne_self,List.length,List.getD_cons_zero,Nat.reduceEqDiff,Nat.reduceAdd,Nat.reduceLT,Nat.reduceLeDiff,Bool.false_eq_true,ite_true,ite_false,true_and,and_true,implies_true,Nat.zero_add,Zb6,ei_for,ei_l19,ei_d19,hb,qi0,qi1,qi2,qi3,qi4,qi5,qi6,qi7,qi8,qi9,qi10,qi11,qi12,qi13,qi14,qi15,qi16,qi17,qi18,qi19]
    refine Zai rfl (fun h=>by cases h) (fun _=>?_)
    refine Zak ?_
    try simp only [retQ,Zau,true_and]
    refine ⟨⟨[(id,.arr false 1 (G.map Zb5)),(0,.arr false 1 [[.own id 0 G.length]])],t + 1⟩,?_,_,_,Nat.le_succ _,by omega,rfl,⟨id,i0,by rw [hstep]⟩,nod2 i0,by simp <;> omega,by simp,by simp [AB.live]⟩
    try simp only [Heap.get,HL.get,HL.le,Nat.le_refl,ite_true,ite_false,and_true,qi0,qi1,qi2,qi3,qi4,qi5,qi6,qi7,qi8,qi9,qi10,qi11,qi12,qi13,qi14,qi15,qi16,qi17,qi18,qi19]
    all_goals (repeat' (first | rfl | trivial | omega | (simp only []; omega) | refine And.intro ?_ ?_))
  · rw [hb,if_pos rfl] at hstep
    refine Zac (Zaa [2,3,8] ?_)
    simp only [Zab,Zad,Zaf,pok,pval,VA.ev,Env.get,Env.put,Env.keep,Zae,aggV,binV,Zah,strV,Zao,Zan,Zag,Zap,PV.nth,PV.row,Heap.get,HL.get,Nat.succ_ne_self,List.length,List.getD_cons_zero,Nat.reduceEqDiff,Nat.reduceAdd,Nat.reduceLT,Nat.reduceLeDiff,Bool.false_eq_true,ite_true,ite_false,true_and,and_true,implies_true,Nat.zero_add,Zb6,ei_for,ei_l19,ei_d19,hb,qi0,qi1,qi2,qi3,qi4,qi5,qi6,qi7,qi8,qi9,qi10,qi11,qi12,qi13,qi14,qi15,qi16,qi17,qi18,qi19]
    refine Zai rfl (fun _=>?_) (fun h=>by cases h)
    refine Zaa [] ?_
    simp only [Zab,Zad,Zaf,pok,pval,VA.ev,Env.get,Env.put,retQ,Zau,aggV,Zao,Zan,Zag,Zap,PV.cells,PV.fits,overlay,PV.nth,PV.row,Heap.get,Heap.set,Heap.del,HL.get,HL.set,HL.del,Heap.push,Nat.le_refl,Nat.succ_ne_self,Zbq,Zc8,Zbk,Zda,Zbc,Zcw,Zbj,Zbf,Zbh,Za9,List.set,List.replicate,List.length,List.getD_cons_zero,List.take,List.drop,List.take_succ_cons,List.drop_succ_cons,List.nil_append,Nat.reduceEqDiff,Nat.reduceAdd,Nat.reduceLT,Nat.reduceLeDiff,Bool.false_eq_true,ite_true,ite_false,true_and,and_true,implies_true,BEq.rfl,Nat.zero_add,List.length_cons,Zb6,ei_for,ei_l19,ei_d19,hgl,hgt,List.append_nil,qi0,qi1,qi2,qi3,qi4,qi5,qi6,qi7,qi8,qi9,qi10,qi11,qi12,qi13,qi14,qi15,qi16,qi17,qi18,qi19]
    refine ⟨by omega,by omega,?_⟩
    refine ⟨⟨[(t + 1 + 1,.arr false 1 ((G ++ [d.it.forr]).map Zb5)),(0,.arr false 1 [[.own (t + 1 + 1) 0 (G ++ [d.it.forr]).length]])],t + 1 + 1 + 1⟩,?_,_,_,by omega,by omega,rfl,⟨t + 1 + 1,by omega,by rw [hstep]⟩,nod2 (by simp only []; omega),by simp <;> omega,by simp <;> omega,by simp [AB.live]⟩
    simp only [List.map_append,List.map_cons,List.map_nil,List.length_append]
    try simp only [Heap.get,HL.get,HL.le,Nat.le_refl,List.length,ite_true,ite_false,and_true,Nat.zero_add,qi0,qi1,qi2,qi3,qi4,qi5,qi6,qi7,qi8,qi9,qi10,qi11,qi12,qi13,qi14,qi15,qi16,qi17,qi18,qi19,Zb5]
    all_goals (repeat' (first | rfl | trivial | omega | (simp only []; omega) | refine And.intro ?_ ?_))
theorem closed_strT (l:List Str):Closed (.sl 1 (l.map Zb5)):=Zbm (fun a _ x hx=>by simp only [Zb5,List.mem_cons,List.not_mem_nil,or_false] at hx; subst hx; exact cS _)
theorem sp_inforce_Purposes (l:List Gz) (hs:Smal l) (hd:(dds l).length ≤ 5000):Zbo Tryz.prog 23 [.sl 4 (l.map Gz.enc)] (.sl 1 ((purS l).map Zb5)):=by
  have hlen:(Zdm (chgS l)).length ≤ 5000:=by
    have h1:=forsS_len (chgS l)
    have h4:=(chg_sub l).length_le
    omega
  have hsl:(sortT (Zdm (chgS l))).length = (Zdm (chgS l)).length:=by simp [sortT]
  have hcl:=Lib.compact_length_le (sortT (Zdm (chgS l)))
  refine Zam ?_ (closed_strT _) (by simp only [Za0,List.mem_cons,List.not_mem_nil,or_false,forall_eq_or_imp,forall_eq,false_implies,implies_true]; repeat' (first  | exact Zbp _ | exact Zcm _ | refine And.intro ?_ ?_))
  refine Zaq (vc:=c_inforce_Purposes) (ts:=[.t 2]) Go.Proofs.Tryz.func23 (by kernel_rfl) rfl rfl (Nat.le_of_ble_eq_true rfl) (by kernel_rfl) ?_
  unfold c_inforce_Purposes
  try dsimp only [ZM,ZO,ZN,ZG]
  refine Zac (Zaa [0] ?_)
  simp only [Zab,Zad,Zaf,pok,pval,VA.ev,Env.get,Env.put,Env.keep,Za2,Zae,Heap.nil,ite_true,ite_false,true_and,reduceCtorEq]
  refine Zac (Zaa [0,3] ?_)
  simp only [Zab,Zad,Zaf,Env.get,Env.put,Env.keep,Zae,Heap.push,List.length,ite_true,ite_false,reduceCtorEq,Nat.zero_add]
  refine VW_own0c 0 1 rfl ?_
  try simp only [Heap.set,HL.set,HL.del,Heap.push,Nat.reduceAdd,ite_true]
  refine Zac (Zaa [3] ?_)
  simp only [Zab,Zad,Zaf,pok,pval,VA.ev,Env.get,Env.put,Env.keep,Zae,Nat.succ_ne_self,List.map,Nat.reduceEqDiff,ite_true,ite_false,true_and,reduceCtorEq]
  refine Zbg.mono (sp_changes l hs hd 48 [.loc 0 0 0] _ (back_Purposes l hd) _ 2 ?_ ?_ ?_ ?_) ?_
  · exact ⟨1,by simp,rfl⟩
  · simp
  · exact nod2 (by simp)
  · simp [AB.live]
  rintro p h' ⟨L',t',ht,rfl,⟨id,i0,rfl⟩,hnod,hlt,_⟩
  rw [List.take_length]
  have hid:id < t':=hlt _ List.mem_cons_self
  have qi0:(0 = id) = False:=eq_false (by omega)
  have qi1:(id = 0) = False:=eq_false (by omega)
  skip
  refine Zac (Zaa [3] ?_)
  simp only [Zab,Zad,Zaf,pok,pval,VA.ev,Env.get,Env.put,Env.keep,Zae,aggV,Zag,Zap,PV.nth,PV.row,Heap.get,HL.get,Nat.le_refl,List.map,List.length,List.getD_cons_zero,List.take,List.drop,List.take_succ_cons,Nat.reduceEqDiff,Nat.reduceLT,Bool.false_eq_true,ite_true,ite_false,true_and,and_true,implies_true,Nat.zero_add,List.length_cons,qi0,qi1]
  refine Zbg.frameL (l1:=[(id,.arr false 1 ((Zdm (chgS l)).map Zb5))]) (l2:=[(0,.arr false 1 [[.own id 0 (Zdm (chgS l)).length]])]) (by simp <;> omega) (by simp) (Zbg.mono (sortsStr id t' (Zdm (chgS l)) (by omega)) ?_)
  rintro p h' rfl
  refine ⟨Nat.le_refl _,by simp <;> omega,by simp [AB.live],?_⟩
  rw [← hsl]
  simp only [List.cons_append,List.nil_append]
  skip
  refine Zac (Zaa [2] ?_)
  simp only [Zab,Zad,Zaf,pok,pval,VA.ev,Env.get,Env.put,Env.keep,Zae,aggV,Zag,Zap,PV.nth,PV.row,Heap.get,HL.get,Nat.le_refl,Nat.succ_ne_self,List.map,List.length,List.getD_cons_zero,List.take,List.drop,List.take_succ_cons,Nat.reduceEqDiff,Nat.reduceLT,Bool.false_eq_true,ite_true,ite_false,true_and,and_true,implies_true,Nat.zero_add,List.length_cons,qi0,qi1]
  refine Zbg.frameL (l1:=[(id,.arr false 1 ((sortT (Zdm (chgS l))).map Zb5))]) (l2:=[(0,.arr false 1 [[.own id 0 (sortT (Zdm (chgS l))).length]])]) (by simp <;> omega) (by simp) (Zbg.mono (compactsStr id t' (sortT (Zdm (chgS l))) (by omega)) ?_)
  rintro p h' ⟨rfl,rest,rfl⟩
  refine ⟨Nat.le_refl _,by simp <;> omega,by simp [AB.live],?_⟩
  simp only [List.cons_append,List.nil_append]
  skip
  refine Zar ?_
  try simp only [Env.get,retQ,resV,Zau,RS.ev,RS.ok,ite_true,true_and,and_true]
  have V:=View.own (h:=⟨[(id,AB.arr false 1 ((Lib.compact (sortT (Zdm (chgS l))) ++ rest).map Zb5)),(0,.arr false 1 [[.own id 0 (sortT (Zdm (chgS l))).length]])],t'⟩) (id:=id) (off:=0) (len:=(purS l).length) (fz:=false) (z:=1) (es:=(Lib.compact (sortT (Zdm (chgS l))) ++ rest).map Zb5) (by simp [Heap.get,HL.get]) (by simp [purS])
  have e1:((((Lib.compact (sortT (Zdm (chgS l))) ++ rest).map Zb5).drop 0).take (purS l).length) = (purS l).map Zb5:=by
    rw [List.drop_zero,List.map_append]
    exact List.take_left' (by simp [purS])
  rw [e1] at V
  exact V
end Go.Proofs.YtehokmhebnkfdaaGreat.w
