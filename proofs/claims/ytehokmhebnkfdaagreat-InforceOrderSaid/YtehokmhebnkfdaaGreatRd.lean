import Derived.Test.YtehokmhebnkfdaaGreatVmA
import Derived.Test.YtehokmhebnkfdaaGreatRows
import Derived.Test.YtehokmhebnkfdaaGreatVmS
import Derived.KernelRfl
set_option linter.all false
namespace Go.Proofs.YtehokmhebnkfdaaGreat.rd
open Go Go.VM
variable {W : World}
theorem k3:Tryz.prog.cellsOf 3 = 1:=by kernel_rfl
theorem k9:Tryz.prog.cellsOf 9 = 1:=by kernel_rfl
theorem k187:Tryz.prog.cellsOf 187 = 3:=by kernel_rfl
theorem k189:Tryz.prog.cellsOf 189 = 4:=by kernel_rfl
theorem k30:Tryz.prog.cellsOf 30 = 3:=by kernel_rfl
theorem k31:Tryz.prog.cellsOf 31 = 1:=by kernel_rfl
theorem k32:Tryz.prog.cellsOf 32 = 1:=by kernel_rfl
theorem k34:Tryz.prog.cellsOf 34 = 8:=by kernel_rfl
theorem k105:Tryz.prog.cellsOf 105 = 2:=by kernel_rfl
theorem k37:Tryz.prog.cellsOf 37 = 3:=by kernel_rfl
theorem k40:Tryz.prog.cellsOf 40 = 25:=by kernel_rfl
theorem k28:Tryz.prog.cellsOf 28 = 1:=by kernel_rfl
theorem k35:Tryz.prog.cellsOf 35 = 1:=by kernel_rfl
theorem k38:Tryz.prog.cellsOf 38 = 1:=by kernel_rfl
theorem k54:Tryz.prog.cellsOf 54 = 1:=by kernel_rfl
theorem k53:Tryz.prog.cellsOf 53 = 7:=by kernel_rfl
theorem k57:Tryz.prog.cellsOf 57 = 4:=by kernel_rfl
theorem rI (n:Nat):Reads Tryz.prog W n 3 i64 (fun a=>[pI a]):=reads_int Tryz.underlying3
theorem rS (n:Nat):Reads Tryz.prog W n 9 okS (fun a=>[.str a]):=reads_string Tryz.underlying9
def enc3 (x:Int × Int × Int × Unit):List PV:=[pI x.1,pI x.2.1,pI x.2.2.1]
def ok3 (x:Int × Int × Int × Unit):Prop:=i64 x.1 ∧ i64 x.2.1 ∧ i64 x.2.2.1 ∧ True
theorem r187 (n:Nat):Reads Tryz.prog W n 187 ok3 enc3:=by
  cases n with
  | zero=>exact Zdk
  | succ n=>exact Reads.map (fun x:Int × Int × Int × Unit=>x) (Zdb Tryz.underlying187 rfl k187 (Za5 (by exact (rI n)) (by exact k3) (by exact (fun _=>rfl)) (by rfl) (Za5 (by exact (rI n)) (by exact k3) (by exact (fun _=>rfl)) (by rfl) (Za5 (by exact (rI n)) (by exact k3) (by exact (fun _=>rfl)) (by rfl) freads_nil))) (by exact fun _=>rfl)) (fun _ h=>h) (fun _=>rfl)
theorem r30 (n:Nat):Reads Tryz.prog W n 30 ok3 enc3:=by
  cases n with
  | zero=>exact Zdk
  | succ n=>exact Reads.map (fun x:Int × Int × Int × Unit=>x) (Zdb Tryz.underlying30 rfl k30 (Za5 (by exact (rI n)) (by exact k3) (by exact (fun _=>rfl)) (by rfl) (Za5 (by exact (rI n)) (by exact k3) (by exact (fun _=>rfl)) (by rfl) (Za5 (by exact (rI n)) (by exact k3) (by exact (fun _=>rfl)) (by rfl) freads_nil))) (by exact fun _=>rfl)) (fun _ h=>h) (fun _=>rfl)
theorem rWd (n:Nat):Reads Tryz.prog W n 189 Wd.ok Wd.enc:=by
  cases n with
  | zero=>exact Zdk
  | succ n =>
    refine Reads.map (fun x:Str × (Int × Int × Int × Unit) × Unit=>(⟨x.1,x.2.1.1,x.2.1.2.1,x.2.1.2.2.1⟩:Wd))
      (Zdb Tryz.underlying189 rfl k189 (Za5 (by exact (rS n)) (by exact k9) (by exact (fun _=>rfl)) (by rfl) (Za5 (by exact (r187 n)) (by exact k187) (by exact (fun _=>rfl)) (by rfl) freads_nil)) (by exact fun _=>rfl)) ?_ ?_
    · rintro ⟨t,⟨a,b,c,_⟩,_⟩ ⟨h1,⟨h2,h3,h4,_⟩,_⟩; exact ⟨h1,h2,h3,h4⟩
    · rintro ⟨t,⟨a,b,c,_⟩,_⟩; rfl
theorem rWds (n:Nat):Reads Tryz.prog W n 31 (okL Wd.ok) (fun l=>[.sl 4 (l.map Wd.enc)]):=reads_sl Tryz.underlying31 k189 (by decide) (fun _=>rfl) n (fun m _=>rWd m)
theorem un_len (u:Un):u.enc.length = 8:=by rw [Un.Zcl]; rfl
theorem rUn:∀ n:Nat,Reads Tryz.prog W n 34 Un.ok Un.enc:=by
  intro n
  induction n using Nat.strongRecOn with
  | _ n ih =>
    cases n with
    | zero=>exact Zdk
    | succ n =>
      refine Reads.map (fun x:(Int × Int × Int × Unit) × Int × Str × List Wd × List Wd × List Un × Unit=>Un.mk x.1.1 x.1.2.1 x.1.2.2.1 x.2.1 x.2.2.1 x.2.2.2.1 x.2.2.2.2.1 x.2.2.2.2.2.1)
        (Zdb Tryz.underlying34 rfl k34 (Za5 (by exact (r30 n)) (by exact k30) (by exact (fun _=>rfl)) (by rfl) (Za5 (by exact (rI n)) (by exact k3) (by exact (fun _=>rfl)) (by rfl) (Za5 (by exact (rS n)) (by exact k9) (by exact (fun _=>rfl)) (by rfl) (Za5 (by exact (rWds n)) (by exact k31) (by exact (fun _=>rfl)) (by rfl)
          (Za5 (by exact (rWds n)) (by exact k31) (by exact (fun _=>rfl)) (by rfl) (Za5 (by exact (reads_sl Tryz.underlying32 k34 (by decide) un_len n (fun m hm=>ih m (by omega)))) (by exact k32) (by exact (fun _=>rfl)) (by rfl) freads_nil)))))) (by exact fun _=>rfl)) ?_ ?_
      · rintro ⟨⟨a,b,c,_⟩,k,l,h,w,ks,_⟩ ⟨⟨h1,h2,h3,_⟩,h4,h5,h6,h7,h8,_⟩
        exact .mk _ h1 h2 h3 h4 h5 h6 h7 h8.1 h8.2
      · rintro ⟨⟨a,b,c,_⟩,k,l,h,w,ks,_⟩
        rw [Un.Zcl]; rfl
theorem rSt (n:Nat):Reads Tryz.prog W n 105 St.ok St.enc:=by
  cases n with
  | zero=>exact Zdk
  | succ n =>
    refine Reads.map (fun x:Int × Str × Unit=>(⟨x.1,x.2.1⟩:St)) (Zdb Tryz.underlying105 rfl k105 (Za5 (by exact (rI n)) (by exact k3) (by exact (fun _=>rfl)) (by rfl) (Za5 (by exact (rS n)) (by exact k9) (by exact (fun _=>rfl)) (by rfl) freads_nil)) (by exact fun _=>rfl)) ?_ ?_
    · rintro ⟨a,b,_⟩ ⟨h1,h2,_⟩; exact ⟨h1,h2⟩
    · rintro ⟨a,b,_⟩; rfl
theorem rSta (n:Nat):Reads Tryz.prog W n 37 Sta.ok Sta.enc:=by
  cases n with
  | zero=>exact Zdk
  | succ n =>
    refine Reads.map (fun x:Int × Int × Str × Unit=>(⟨x.1,x.2.1,x.2.2.1⟩:Sta)) (Zdb Tryz.underlying37 rfl k37 (Za5 (by exact (rI n)) (by exact k3) (by exact (fun _=>rfl)) (by rfl) (Za5 (by exact (rI n)) (by exact k3) (by exact (fun _=>rfl)) (by rfl) (Za5 (by exact (rS n)) (by exact k9) (by exact (fun _=>rfl)) (by rfl) freads_nil))) (by exact fun _=>rfl)) ?_ ?_
    · rintro ⟨a,b,c,_⟩ ⟨h1,h2,h3,_⟩; exact ⟨h1,h2,h3⟩
    · rintro ⟨a,b,c,_⟩; rfl
theorem rSts (n:Nat):Reads Tryz.prog W n 28 (okL St.ok) (fun l=>[.sl 2 (l.map St.enc)]):=reads_sl Tryz.underlying28 k105 (by decide) (fun _=>rfl) n (fun m _=>rSt m)
theorem rSs (n:Nat):Reads Tryz.prog W n 35 (okL okS) (fun l=>[It.strs l]):=reads_sl Tryz.underlying35 k9 (by decide) (fun _=>rfl) n (fun m _=>rS m)
theorem rIt:∀ n:Nat,Reads Tryz.prog W n 40 It.ok It.enc:=by
  intro n
  induction n using Nat.strongRecOn with
  | _ n ih =>
    cases n with
    | zero=>exact Zdk
    | succ n =>
      refine Reads.map (fun x : Int × List St × List St × Int × Int × Un × List Str × List Str × Str × Str × Sta × Int × Int × Int × Str × List It × Unit =>
          It.mk x.1 x.2.1 x.2.2.1 x.2.2.2.1 x.2.2.2.2.1 x.2.2.2.2.2.1 x.2.2.2.2.2.2.1 x.2.2.2.2.2.2.2.1 x.2.2.2.2.2.2.2.2.1 x.2.2.2.2.2.2.2.2.2.1 x.2.2.2.2.2.2.2.2.2.2.1 x.2.2.2.2.2.2.2.2.2.2.2.1 x.2.2.2.2.2.2.2.2.2.2.2.2.1 x.2.2.2.2.2.2.2.2.2.2.2.2.2.1 x.2.2.2.2.2.2.2.2.2.2.2.2.2.2.1 x.2.2.2.2.2.2.2.2.2.2.2.2.2.2.2.1)
        (Zdb Tryz.underlying40 rfl k40 (Za5 (by exact (rI n)) (by exact k3) (by exact (fun _=>rfl)) (by rfl) (Za5 (by exact (rSts n)) (by exact k28) (by exact (fun _=>rfl)) (by rfl) (Za5 (by exact (rSts n)) (by exact k28) (by exact (fun _=>rfl)) (by rfl) (Za5 (by exact (rI n)) (by exact k3) (by exact (fun _=>rfl)) (by rfl) (Za5 (by exact (rI n)) (by exact k3) (by exact (fun _=>rfl)) (by rfl)
          (Za5 (by exact (rUn n)) (by exact k34) (by exact un_len) (by rfl) (Za5 (by exact (rSs n)) (by exact k35) (by exact (fun _=>rfl)) (by rfl) (Za5 (by exact (rSs n)) (by exact k35) (by exact (fun _=>rfl)) (by rfl) (Za5 (by exact (rS n)) (by exact k9) (by exact (fun _=>rfl)) (by rfl) (Za5 (by exact (rS n)) (by exact k9) (by exact (fun _=>rfl)) (by rfl) (Za5 (by exact (rSta n)) (by exact k37) (by exact (fun _=>rfl)) (by rfl)
          (Za5 (by exact (rI n)) (by exact k3) (by exact (fun _=>rfl)) (by rfl) (Za5 (by exact (rI n)) (by exact k3) (by exact (fun _=>rfl)) (by rfl) (Za5 (by exact (rI n)) (by exact k3) (by exact (fun _=>rfl)) (by rfl) (Za5 (by exact (rS n)) (by exact k9) (by exact (fun _=>rfl)) (by rfl)
          (Za5 (by exact (reads_sl Tryz.underlying38 k40 (by decide) It.Zby n (fun m hm=>ih m (by omega)))) (by exact k38) (by exact (fun _=>rfl)) (by rfl) freads_nil)))))))))))))))) ?_) ?_ ?_
      · rintro ⟨k,a,t,w,n,u,o,e,l,f,s,ac,it,d,ev,b,_⟩; simp only [List.length_append,un_len]; rfl
      · rintro ⟨k,a,t,w,n,u,o,e,l,f,s,ac,it,d,ev,b,_⟩ ⟨h1,h2,h3,h4,h5,h6,h7,h8,h9,h10,h11,h12,h13,h14,h15,h16,_⟩
        exact .mk _ h1 h2 h3 h4 h5 h6 h7 h8 h9 h10 h11 h12 h13 h14 h15 h16.1 h16.2
      · rintro ⟨k,a,t,w,n,u,o,e,l,f,s,ac,it,d,ev,b,_⟩
        rw [It.Zcl,Un.Zcl]; rfl
theorem ei_len (x:EI):x.enc.length = 28:=by simp [EI.enc,It.Zby]
end Go.Proofs.YtehokmhebnkfdaaGreat.rd
namespace Go.Proofs.YtehokmhebnkfdaaGreat.w
open Go Go.VM
def Zdc:VC:=(.seq (.region [ZO 2 (.mv (.c (.bool false)))] false) (.seq (.region [ZM 3 0,ZM 4 0,ZO 5 (.bin .neq (.t 3) (.t 4)),ZM 2 5] false) .ret))
def Zcr:VC:=(.seq (.region [ZO 4 (.mv (.c (.int .i64 0)))] false) (.seq (.region [ZM 7 0,ZO 8 (.call 117 [(.t 7)]),ZM 5 8] false) (.seq (.region [ZM 9 1,ZO 10 (.call 117 [(.t 9)]),ZM 6 10] false) (.seq (.seq (.region [ZM 11 5] false) (.cond (.t 11) (.seq (.seq (.region [ZM 12 6] false) (.cond (.t 12) (.seq (.region [ZO 4 (.mv (.c (.int .i64 0)))] false) .ret) .skip)) (.seq (.region [ZO 4 (.mv (.c (.int .i64 (-1))))] false) .ret)) .skip)) (.seq (.seq (.region [ZM 13 6] false) (.cond (.t 13) (.seq (.region [ZO 4 (.mv (.c (.int .i64 1)))] false) .ret) .skip)) (.seq (.seq (.region [ZM 14 0,ZM 15 1,ZO 16 (.bin .lss (.t 14) (.t 15))] false) (.cond (.t 16) (.seq (.region [ZO 4 (.mv (.c (.int .i64 (-1))))] false) .ret) .skip)) (.seq (.seq (.region [ZM 17 0,ZM 18 1,ZO 19 (.bin .gtr (.t 17) (.t 18))] false) (.cond (.t 19) (.seq (.region [ZO 4 (.mv (.c (.int .i64 1)))] false) .ret) .skip)) (.seq (.region [ZO 4 (.mv (.c (.int .i64 0)))] false) .ret))))))))
def c_cmp_Or_int:VC:=(.seq (.region [ZO 2 (.mv (.c (.int .i64 0)))] false) (.seq (.region [ZO 3 (.mv (.c (.int .i64 0)))] false) (.seq (.seq (.region [ZM 6 0,ZO 7 (.len false (.t 6)),ZO 8 (.mv (.c (.int .i64 0)))] false) (.block 0 (.loop (.seq (.region [ZO 9 (.bin .lss (.t 8) (.t 7))] false) (.seq (.cond (.t 9) .skip (.exit 0)) (.seq (.block 1 (.seq (.region [ZO 10 (.iaddr 1 (.t 6) (.t 8)),ZO 11 (.load false 1 (.t 10)),ZM 5 11] false) (.seq (.region [ZM 12 5,ZM 13 3,ZO 14 (.bin .neq (.t 12) (.t 13))] false) (.cond (.t 14) (.seq (.region [ZM 15 5,ZM 2 15] false) .ret) .skip)))) (.region [ZO 16 (.bin .add (.t 8) (.c (.int .i64 1))),ZM 8 16] false))))))) (.seq (.region [ZM 17 3,ZM 2 17] false) .ret))))
theorem Zcx (x:Int):Zbo Tryz.prog 117 [pI x] (.bool false):=by
  refine Zam ?_ (Closed.of_scalar (Zdx _)) (by simp only [Za0,List.mem_cons,List.not_mem_nil,or_false,forall_eq_or_imp,forall_eq,false_implies,implies_true]; repeat' (first  | exact cI _ | exact cB _ | exact Za7 (by simp only [List.mem_cons,List.not_mem_nil,or_false,forall_eq]; first | exact cI _ | exact cS _ | exact Zaw _) | refine And.intro ?_ ?_))
  refine Zaq (vc:=Zdc) (ts:=[.t 2]) Go.Proofs.Tryz.func117 (by kernel_rfl) rfl rfl (Nat.le_of_ble_eq_true rfl) (by kernel_rfl) ?_
  unfold Zdc
  try dsimp only [ZM,ZO,ZN,ZG]
  refine Zac (Zaa [0,2] ?_)
  simp only [Zab,Zad,Zaf,pok,pval,VA.ev,Env.get,Env.put,Env.keep,Za2,Zae,Heap.nil,ite_true,ite_false,true_and,reduceCtorEq]
  refine Zac (Zaa [2] ?_)
  simp only [Zab,Zad,Zaf,pok,pval,VA.ev,Env.get,Env.put,Env.keep,Zae,intV,binV,Zah,Nat.succ_ne_self,Nat.reduceEqDiff,ite_true,ite_false,true_and,reduceCtorEq]
  refine Zar ?_
  simp only [Env.get,retQ,resV,Zau,RS.ev,RS.ok,ite_true,true_and,and_true,bne_self_eq_false]
  exact View.refl _ _
def cmpI (x y:Int):Int:=if x < y then -1 else if y < x then 1 else 0
theorem Zc3 (x y:Int):Zbo Tryz.prog 76 [pI x,pI y] (pI (cmpI x y)):=by
  refine Zam ?_ (Closed.of_scalar (Zd2 _ _)) (by simp only [Za0,List.mem_cons,List.not_mem_nil,or_false,forall_eq_or_imp,forall_eq,false_implies,implies_true]; repeat' (first  | exact cI _ | exact Za7 (by simp only [List.mem_cons,List.not_mem_nil,or_false,forall_eq]; first | exact cI _ | exact cS _ | exact Zaw _) | refine And.intro ?_ ?_))
  refine Zaq (vc:=Zcr) (ts:=[.t 4]) Go.Proofs.Tryz.func76 (by kernel_rfl) rfl rfl (Nat.le_of_ble_eq_true rfl) (by kernel_rfl) ?_
  unfold Zcr
  try dsimp only [ZM,ZO,ZN,ZG]
  refine Zac (Zaa [0,1,4] ?_)
  simp only [Zab,Zad,Zaf,pok,pval,VA.ev,Env.get,Env.put,Env.keep,Za2,Zae,Heap.nil,Nat.succ_ne_self,Nat.reduceEqDiff,ite_true,ite_false,true_and,reduceCtorEq,Nat.zero_add]
  refine Zac (Zaa [0,1,4,5] ?_)
  simp only [Zab,Zad,Zaf,pok,pval,VA.ev,Env.get,Env.put,Env.keep,Zae,Nat.succ_ne_self,List.map,Nat.reduceEqDiff,ite_true,ite_false,true_and,reduceCtorEq]
  refine Zat (Zcx _) ?_
  skip
  refine Zac (Zaa [0,1,4,5,6] ?_)
  simp only [Zab,Zad,Zaf,pok,pval,VA.ev,Env.get,Env.put,Env.keep,Zae,Nat.succ_ne_self,List.map,Nat.reduceEqDiff,ite_true,ite_false,true_and,reduceCtorEq]
  refine Zat (Zcx _) ?_
  skip
  refine Zac ?_
  refine Zac (Zaa [0,1,4,5,6,11] ?_)
  simp only [Zab,Zad,Zaf,pok,pval,VA.ev,Env.get,Env.put,Env.keep,Zae,Nat.succ_ne_self,Nat.reduceEqDiff,ite_true,ite_false,true_and,reduceCtorEq]
  refine Zai rfl (fun hh=>by cases hh) (fun _=>?_)
  refine Zak ?_
  simp only [Zae]
  refine Zac ?_
  refine Zac (Zaa [0,1,4,5,6,13] ?_)
  simp only [Zab,Zad,Zaf,pok,pval,VA.ev,Env.get,Env.put,Env.keep,Zae,Nat.succ_ne_self,Nat.reduceEqDiff,ite_true,ite_false,true_and,reduceCtorEq]
  refine Zai rfl (fun hh=>by cases hh) (fun _=>?_)
  refine Zak ?_
  simp only [Zae]
  refine Zac ?_
  refine Zac (Zaa [0,1,4,16] ?_)
  simp only [Zab,Zad,Zaf,pok,pval,VA.ev,Env.get,Env.put,Env.keep,Zae,intV,binV,Zah,Nat.succ_ne_self,Nat.reduceEqDiff,ite_true,ite_false,true_and,reduceCtorEq]
  refine Zai rfl (fun h1=>?_) (fun h1=>?_)
  · refine Zac (Zaa [4] ?_)
    simp only [Zab,Zad,Zaf,pok,pval,VA.ev,Env.get,Env.put,Env.keep,Zae,Nat.reduceEqDiff,ite_true,ite_false,true_and,reduceCtorEq]
    refine Zar ?_
    simp only [Env.get,Zae,retQ,resV,Zau,RS.ev,RS.ok,ite_true,true_and,and_true]
    simp only [decide_eq_true_eq] at h1
    simp only [cmpI,if_pos h1]
    exact View.refl _ _
  refine Zak ?_
  simp only [Zae]
  refine Zac ?_
  refine Zac (Zaa [0,1,4,19] ?_)
  simp only [Zab,Zad,Zaf,pok,pval,VA.ev,Env.get,Env.put,Env.keep,Zae,intV,binV,Zah,Nat.succ_ne_self,Nat.reduceEqDiff,ite_true,ite_false,true_and,reduceCtorEq]
  refine Zai rfl (fun h2=>?_) (fun h2=>?_)
  · refine Zac (Zaa [4] ?_)
    simp only [Zab,Zad,Zaf,pok,pval,VA.ev,Env.get,Env.put,Env.keep,Zae,Nat.reduceEqDiff,ite_true,ite_false,true_and,reduceCtorEq]
    refine Zar ?_
    simp only [Env.get,Zae,retQ,resV,Zau,RS.ev,RS.ok,ite_true,true_and,and_true]
    simp only [decide_eq_true_eq,decide_eq_false_iff_not] at h1 h2
    simp only [cmpI,if_neg h1,if_pos h2]
    exact View.refl _ _
  refine Zak ?_
  simp only [Zae]
  refine Zac (Zaa [4] ?_)
  simp only [Zab,Zad,Zaf,pok,pval,VA.ev,Env.get,Env.put,Env.keep,Zae,Nat.reduceEqDiff,ite_true,ite_false,true_and,reduceCtorEq]
  refine Zar ?_
  simp only [Env.get,retQ,resV,Zau,RS.ev,RS.ok,ite_true,true_and,and_true]
  simp only [decide_eq_true_eq,decide_eq_false_iff_not] at h1 h2
  simp only [cmpI,if_neg h1,if_neg h2]
  exact View.refl _ _
def orI:List Int → Int
  | []=>0
  | x :: r=>if x = 0 then orI r else x
theorem orI_drop (l:List Int) (k:Nat) (h:k < l.length):orI (l.drop k) = if l[k] = 0 then orI (l.drop (k + 1)) else l[k]:=by
  rw [List.drop_eq_getElem_cons h]; rfl
theorem sp_cmp_Or_int (l:List Int) (hl:l.length ≤ 4611686018427387904):Zbo Tryz.prog 75 [.sl 1 (l.map fun x=>[pI x])] (pI (orI l)):=by
  refine Zam ?_ (Closed.of_scalar (Zd2 _ _)) (by simp only [Za0,List.mem_cons,List.not_mem_nil,or_false,forall_eq_or_imp,forall_eq,false_implies,implies_true]; repeat' (first  | exact cI _ | exact Zcm _ | exact Za7 (by simp only [List.mem_cons,List.not_mem_nil,or_false,forall_eq]; first | exact cI _ | exact cS _ | exact Zaw _) | refine And.intro ?_ ?_))
  refine Zaq (vc:=c_cmp_Or_int) (ts:=[.t 2]) Go.Proofs.Tryz.func75 (by kernel_rfl) rfl rfl (Nat.le_of_ble_eq_true rfl) (by kernel_rfl) ?_
  unfold c_cmp_Or_int
  try dsimp only [ZM,ZO,ZN,ZG]
  refine Zac (Zaa [0] ?_)
  simp only [Zab,Zad,Zaf,pok,pval,VA.ev,Env.get,Env.put,Env.keep,Za2,Zae,Heap.nil,ite_true,ite_false,true_and,reduceCtorEq]
  refine Zac (Zaa [0,3] ?_)
  simp only [Zab,Zad,Zaf,pok,pval,VA.ev,Env.get,Env.put,Env.keep,Zae,ite_true,ite_false,true_and,reduceCtorEq]
  refine Zac ?_
  refine Zac (Zaa [3,6,7,8] ?_)
  simp only [Zab,Zad,Zaf,pok,pval,VA.ev,Env.get,Env.put,Env.keep,Zae,lenV,Za8,Nat.succ_ne_self,Nat.reduceEqDiff,ite_true,ite_false,true_and,reduceCtorEq]
  refine Zaj ?_
  refine Za4 (σ:={ k:Nat // k ≤ l.length ∧ orI (l.drop k) = orI l }) (fun s=>([(3,pI 0),(6,.sl 1 (l.map fun x=>[pI x])),(7,pI l.length),(8,pI s.1)],Heap.nil)) (fun s=>l.length - s.1) ⟨0,by simp⟩ ?_ ?_ ?_
  · simp only [Env.get,Nat.succ_ne_self,Env.le,Nat.reduceEqDiff,ite_true,ite_false,true_and,and_true,List.length_map]
    trivial
  · exact ⟨Nat.le_refl _,trivial⟩
  rintro ⟨k,hk,ho⟩
  simp only []
  refine Zac (Zaa [3,6,7,8,9] ?_)
  simp only [Zab,Zad,Zaf,pok,pval,VA.ev,Env.get,Env.put,Env.keep,Zae,intV,binV,Zah,Heap.le,HL.le,Heap.nil,Nat.succ_ne_self,Env.le,Nat.reduceEqDiff,ite_true,ite_false,true_and,and_true]
  refine Zac ?_
  refine Zai rfl (fun h1=>?_) (fun h1=>?_)
  · simp only [decide_eq_true_eq] at h1
    have hlt:k < l.length:=by omega
    refine Zak ?_
    try simp only [Zae]
    refine Zac ?_
    refine Zaj ?_
    refine Zac (Zaa [3,5,6,7,8] ?_)
    simp only [Zab,Zad,Zaf,pok,pval,VA.ev,Env.get,Env.put,Env.keep,Zae,aggV,isInt,numOf,lenV,Zag,Zap,Zax,Zas,PV.nth,PV.row,Nat.le_refl,Nat.succ_ne_self,List.length,List.getD_cons_zero,List.take,List.take_succ_cons,Nat.reduceEqDiff,Bool.false_eq_true,ite_true,ite_false,true_and,and_true,implies_true,Nat.zero_add,List.length_cons,Int.toNat_natCast,List.length_map,rowm hlt]
    repeat (with_reducible refine And.intro ?_ ?_; first | omega | (with_reducible constructor <;> omega) | exact False.elim | exact True.intro)
    refine Zac (Zaa [3,5,6,7,8,14] ?_)
    simp only [Zab,Zad,Zaf,pok,pval,VA.ev,Env.get,Env.put,Env.keep,Zae,intV,binV,Zah,Nat.succ_ne_self,Nat.reduceEqDiff,ite_true,ite_false,true_and]
    refine Zai rfl (fun h2=>?_) (fun h2=>?_)
    · refine Zac (Zaa [2] ?_)
      simp only [Zab,Zad,Zaf,pok,pval,VA.ev,Env.get,Env.put,Env.keep,Zae,Nat.succ_ne_self,Nat.reduceEqDiff,ite_true,ite_false,true_and]
      refine Zar ?_
      try simp only [Env.get,Zae,Zal,retQ,resV,Zau,RS.ev,RS.ok,ite_true,true_and,and_true]
      simp only [bne_iff_ne,ne_eq] at h2
      rw [← ho,orI_drop l k hlt,if_neg h2]
      exact View.refl _ _
    refine Zak ?_
    try simp only [Zae,Zal]
    refine Zaa [3,6,7,8] ?_
    simp only [Zab,Zad,Zaf,pok,pval,VA.ev,Env.get,Env.put,Env.keep,Zae,intV,binV,Zah,Nat.le_refl,Nat.succ_ne_self,Nat.reduceEqDiff,ite_true,ite_false,true_and,w64 (n:=(k:Int) + 1) (by omega) (by omega)]
    refine ⟨⟨k + 1,by omega,?_⟩,?_,?_⟩
    · simp only [bne_eq_false_iff_eq] at h2
      rw [← ho,orI_drop l k hlt,if_pos h2]
    · simp
    · dsimp only; omega
  · simp only [decide_eq_false_iff_not] at h1
    have hk':k = l.length:=by omega
    refine Zaz ?_
    try simp only [Zae,Zal,retQ,ite_true]
    refine Zac (Zaa [2] ?_)
    simp only [Zab,Zad,Zaf,pok,pval,VA.ev,Env.get,Env.put,Env.keep,Zae,Nat.succ_ne_self,Nat.reduceEqDiff,ite_true,ite_false,true_and]
    refine Zar ?_
    try simp only [Env.get,retQ,resV,Zau,RS.ev,RS.ok,ite_true,true_and,and_true]
    rw [← ho,hk',List.drop_length]
    exact View.refl _ _
def key (a:EI) (k:Nat):Int:=match k with | 0=>a.day | 1=>a.act | _=>a.item
end Go.Proofs.YtehokmhebnkfdaaGreat.w
namespace Go.Proofs.YtehokmhebnkfdaaGreat.w
open Go Go.VM
def c_pandectref04_Same:VC:=(.seq (.region [ZO 4 (.mv (.c (.bool false)))] false) (.seq (.seq (.region [ZM 6 0,ZO 7 (.len false (.t 6)),ZM 8 1,ZO 9 (.len false (.t 8)),ZO 10 (.bin .neq (.t 7) (.t 9))] false) (.cond (.t 10) (.seq (.region [ZO 4 (.mv (.c (.bool false)))] false) .ret) .skip)) (.seq (.seq (.region [ZO 5 (.mv (.c (.int .i64 0)))] false) (.block 0 (.loop (.seq (.seq (.region [ZM 11 5,ZM 12 0,ZO 13 (.len false (.t 12)),ZO 14 (.bin .lss (.t 11) (.t 13))] false) (.cond (.t 14) .skip (.exit 0))) (.seq (.block 1 (.seq (.region [ZM 17 0,ZM 18 5,ZO 19 (.iaddr 1 (.t 17) (.t 18)),ZO 20 (.load false 1 (.t 19)),ZM 21 1,ZM 22 5,ZO 23 (.iaddr 1 (.t 21) (.t 22)),ZO 24 (.load false 1 (.t 23)),ZO 25 (.bin .neq (.t 20) (.t 24))] true) (.cond (.t 25) (.seq (.region [ZO 4 (.mv (.c (.bool false)))] false) .ret) .skip))) (.region [ZM 15 5,ZO 16 (.bin .add (.t 15) (.c (.int .i64 1))),ZM 5 16] false)))))) (.seq (.region [ZO 4 (.mv (.c (.bool true)))] false) .ret))))
theorem sp_pandectref04_Same (l m:List Str) (hl0:l.length ≤ maxLen):Zbo Tryz.prog 30 [It.strs l,It.strs m] (.bool (eqB l m)):=by
  have hl:l.length ≤ 9223372036854775807:=hl0
  refine Zam ?_ (Closed.of_scalar (Zdx _)) (by simp only [Za0,List.mem_cons,List.not_mem_nil,or_false,forall_eq_or_imp,forall_eq,false_implies,implies_true]; repeat' (first  | exact cS _ | exact cB _ | exact closed_strs _ | refine And.intro ?_ ?_))
  refine Zaq (vc:=c_pandectref04_Same) (ts:=[.t 4]) Go.Proofs.Tryz.func30 (by kernel_rfl) rfl rfl (Nat.le_of_ble_eq_true rfl) (by kernel_rfl) ?_
  unfold c_pandectref04_Same
  try dsimp only [ZM,ZO,ZN,ZG]
  refine Zac (Zaa [0,1] ?_)
  simp only [Zab,Zad,Zaf,pok,pval,VA.ev,Env.get,Env.put,Env.keep,Za2,Zae,Heap.nil,Nat.succ_ne_self,Nat.reduceEqDiff,ite_true,ite_false,true_and,reduceCtorEq,Nat.zero_add,It.strs]
  refine Zac ?_
  refine Zac (Zaa [0,1,10] ?_)
  simp only [Zab,Zad,Zaf,pok,pval,VA.ev,Env.get,Env.put,Env.keep,Zae,intV,binV,Zah,lenV,Za8,Nat.succ_ne_self,Nat.reduceEqDiff,ite_true,ite_false,true_and,reduceCtorEq,List.length_map]
  refine Zai rfl (fun h1=>?_) (fun h1=>?_)
  · refine Zac (Zaa [4] ?_)
    simp only [Zab,Zad,Zaf,pok,pval,VA.ev,Env.get,Env.put,Env.keep,Zae,Nat.reduceEqDiff,ite_true,ite_false,true_and,reduceCtorEq]
    refine Zar ?_
    try simp only [Env.get,Zae,retQ,resV,Zau,RS.ev,RS.ok,ite_true,true_and,and_true]
    simp only [bne_iff_ne,ne_eq,Int.natCast_inj] at h1
    rw [eqB_f (len_ne h1)]
    exact View.refl _ _
  simp only [bne_eq_false_iff_eq,Int.natCast_inj] at h1
  refine Zak ?_
  try simp only [Zae]
  refine Zac ?_
  refine Zac (Zaa [0,1,5] ?_)
  simp only [Zab,Zad,Zaf,pok,pval,VA.ev,Env.get,Env.put,Env.keep,Zae,Nat.succ_ne_self,Nat.reduceEqDiff,ite_true,ite_false,true_and,reduceCtorEq,List.length_map]
  refine Zaj ?_
  refine Za4 (σ:={ k:Nat // k ≤ l.length ∧ l.take k = m.take k }) (fun s=>([(0,.sl 1 (l.map fun s=>[.str s])),(1,.sl 1 (m.map fun s=>[.str s])),(5,pI s.1)],Heap.nil)) (fun s=>l.length - s.1) ⟨0,by simp⟩ ?_ ?_ ?_
  · simp only [Env.get,Nat.succ_ne_self,Env.le,Nat.reduceEqDiff,ite_true,ite_false,true_and,and_true,reduceCtorEq]
    first | rfl | exact ⟨rfl,rfl⟩
  · exact ⟨Nat.le_refl _,trivial⟩
  rintro ⟨k,hk,he⟩
  simp only []
  refine Zac ?_
  refine Zac (Zaa [0,1,5,14] ?_)
  simp only [Zab,Zad,Zaf,pok,pval,VA.ev,Env.get,Env.put,Env.keep,Zae,intV,binV,Zah,lenV,Za8,Heap.le,HL.le,Heap.nil,Nat.succ_ne_self,Env.le,Nat.reduceEqDiff,ite_true,ite_false,true_and,and_true,reduceCtorEq,List.length_map]
  refine Zai rfl (fun h2=>?_) (fun h2=>?_)
  · refine Zak ?_
    try simp only [Zae]
    simp only [decide_eq_true_eq] at h2
    have ka:k < l.length:=by omega
    have kb:k < m.length:=by omega
    refine Zac ?_
    refine Zaj ?_
    refine Zac (Zb3 [0,1,5,25] (by simp [Heap.le,Heap.get,HL.le,HL.get]) ?_)
    simp only [Zbb,Zbu,QW,dok,dval,VOp.pure,VOp.simple,VOp.det,pok,pval,VA.ev,Env.get,Env.put,Env.keep,Zae,gd,aggV,binV,Zah,strV,isInt,numOf,lenV,Zag,Zap,Zax,Zas,PV.nth,PV.row,Nat.le_refl,Nat.succ_ne_self,List.length,List.getD_cons_zero,List.take,List.take_succ_cons,Nat.reduceEqDiff,Bool.false_eq_true,ite_true,ite_false,true_and,and_true,implies_true,forall_const,reduceCtorEq,Nat.zero_add,List.length_cons,Int.toNat_natCast,List.length_map,rowm ka,rowm kb,List.length_map]
    repeat (with_reducible refine And.intro ?_ ?_; first | omega | (with_reducible constructor <;> omega) | exact False.elim | exact True.intro)
    refine Zai rfl (fun h3=>?_) (fun h3=>?_)
    · refine Zac (Zaa [4] ?_)
      simp only [Zab,Zad,Zaf,pok,pval,VA.ev,Env.get,Env.put,Env.keep,Zae,Nat.succ_ne_self,Nat.reduceEqDiff,ite_true,ite_false,true_and,reduceCtorEq]
      refine Zar ?_
      try simp only [Env.get,Zae,Zal,retQ,resV,Zau,RS.ev,RS.ok,ite_true,true_and,and_true]
      have h4:l[k] ≠ m[k]:=by
        intro e
        rw [e] at h3
        simp at h3
      rw [eqB_f (get_ne ka kb h4)]
      exact View.refl _ _
    have h4:l[k] = m[k]:=by
      simpa using h3
    refine Zak ?_
    try simp only [Zae,Zal]
    refine Zaa [0,1,5] ?_
    simp only [Zab,Zad,Zaf,pok,pval,VA.ev,Env.get,Env.put,Env.keep,Zae,intV,binV,Zah,Nat.le_refl,Nat.succ_ne_self,Nat.reduceEqDiff,ite_true,ite_false,true_and,reduceCtorEq,w64 (n:=(k:Int) + 1) (by omega) (by omega)]
    refine ⟨⟨k + 1,by omega,take_step he ka kb h4⟩,?_,?_⟩
    · simp
    · dsimp only; omega
  · simp only [decide_eq_false_iff_not] at h2
    obtain rfl:k = l.length:=by omega
    refine Zaz ?_
    try simp only [Zae,Zal,retQ,ite_true]
    refine Zac (Zaa [4] ?_)
    simp only [Zab,Zad,Zaf,pok,pval,VA.ev,Env.get,Env.put,Env.keep,Zae,Nat.succ_ne_self,Nat.reduceEqDiff,ite_true,ite_false,true_and,reduceCtorEq]
    refine Zar ?_
    try simp only [Env.get,retQ,resV,Zau,RS.ev,RS.ok,ite_true,true_and,and_true]
    rw [eqB_t (take_all h1 he)]
    exact View.refl _ _
end Go.Proofs.YtehokmhebnkfdaaGreat.w
namespace Go.Proofs.YtehokmhebnkfdaaGreat.w
open Go Go.VM
set_option maxRecDepth 20000
set_option maxHeartbeats 0
theorem un_size {u:Un} {k:Nat} (h:k < u.kids.length):SizeOf.sizeOf u.kids[k] < SizeOf.sizeOf u:=by
  match u,h with
  | .mk a i n kd l hd w ks,h =>
    have h1:SizeOf.sizeOf ks[k] < SizeOf.sizeOf ks:=List.sizeOf_lt_of_mem (List.getElem_mem h)
    rw [Un.mk.sizeOf_spec]
    show SizeOf.sizeOf ks[k] < _
    omega
theorem un_ok_kids {u:Un} (h:u.ok):u.kids.length ≤ maxLen ∧ ∀ k ∈ u.kids,k.ok:=by cases h; exact ⟨by assumption,by assumption⟩
theorem un_ok_head {u:Un} (h:u.ok):u.head.length ≤ maxLen:=by
  cases h with
  | mk _ _ _ _ _ _ h6=>exact h6.1
theorem un_ok_words {u:Un} (h:u.ok):u.words.length ≤ maxLen:=by
  cases h with
  | mk _ _ _ _ _ _ _ h7=>exact h7.1
end Go.Proofs.YtehokmhebnkfdaaGreat.w
namespace Go.Proofs.YtehokmhebnkfdaaGreat.w
open Go Go.VM
set_option maxRecDepth 20000
set_option maxHeartbeats 0
structure ItOk (x : It) : Prop where
  at' : x.at'.length ≤ maxLen
  to : x.to.length ≤ maxLen
  unit : x.unit.ok
  old : x.old.length ≤ maxLen
  new : x.new.length ≤ maxLen
  len : x.by'.length ≤ maxLen
  by' : ∀ k ∈ x.by', k.ok
theorem it_ok {x:It} (h:x.ok):ItOk x:=by
  cases h with
  | mk _ h1 h2 h3 h4 h5 h6 h7 h8 h9 h10 h11 h12 h13 h14 h15 h16 h17=>exact ⟨h2.1,h3.1,h6,h7.1,h8.1,h16,h17⟩
theorem it_take (u:It):u.enc.take 25 = u.enc:=List.take_of_length_le (by rw [It.Zby]; exact Nat.le_refl _)
theorem it_size {u:It} {k:Nat} (h:k < u.by'.length):SizeOf.sizeOf u.by'[k] < SizeOf.sizeOf u:=by
  match u,h with
  | .mk k1 a t w n u o e l f s ac it d ev b,h =>
    have h1:SizeOf.sizeOf b[k] < SizeOf.sizeOf b:=List.sizeOf_lt_of_mem (List.getElem_mem h)
    rw [It.mk.sizeOf_spec]
    show SizeOf.sizeOf b[k] < _
    omega
def It.deep (a b:It):Prop:=a.at' = b.at' ∧ a.to = b.to ∧ a.old = b.old ∧ a.new = b.new ∧ a.unit = b.unit ∧ a.by'.length = b.by'.length
end Go.Proofs.YtehokmhebnkfdaaGreat.w
namespace Go.Proofs.YtehokmhebnkfdaaGreat.w
open Go Go.VM
set_option maxRecDepth 20000
set_option maxHeartbeats 0
def c_syntax_IsAmendment:VC:=(.seq (.region [ZO 2 (.mv (.c (.bool false)))] false) (.seq (.region [ZM 3 0,ZO 4 (.bin .geq (.t 3) (.c (.int .i64 0))),ZM 5 4,ZG 6 (.mv (.t 0)) 5 true,ZG 7 (.bin .leq (.t 6) (.c (.int .i64 6))) 5 true,ZO 8 (.pick (.t 5) (.t 7) (.c (.bool false))),ZM 2 8] false) .ret))
def c_pandectref28_Change:VC:=(.seq (.region [ZO 2 (.mv (.c (.bool false)))] false) (.seq (.region [ZM 3 0,ZO 4 (.bin .geq (.t 3) (.c (.int .i64 0))),ZM 5 4,ZG 6 (.mv (.t 0)) 5 true,ZG 7 (.bin .leq (.t 6) (.c (.int .i64 6))) 5 true,ZO 8 (.pick (.t 5) (.t 7) (.c (.bool false))),ZM 2 8] false) .ret))
def amend (k:Int):Bool:=decide (0 ≤ k) && decide (k ≤ 6)
theorem Zdd (k:Int):Zbo Tryz.prog 59 [pI k] (.bool (amend k)):=by
  refine Zam ?_ (Closed.of_scalar (Zdx _)) (by simp only [Za0,List.mem_cons,List.not_mem_nil,or_false,forall_eq_or_imp,forall_eq,false_implies,implies_true]; repeat' (first  | exact cI _ | exact cB _ | exact Za7 (by simp only [List.mem_cons,List.not_mem_nil,or_false,forall_eq]; first | exact cI _ | exact cS _ | exact Zaw _) | refine And.intro ?_ ?_))
  refine Zaq (vc:=c_syntax_IsAmendment) (ts:=[.t 2]) Go.Proofs.Tryz.func59 (by kernel_rfl) rfl rfl (Nat.le_of_ble_eq_true rfl) (by kernel_rfl) ?_
  unfold c_syntax_IsAmendment
  try dsimp only [ZM,ZO,ZN,ZG]
  refine Zac (Zaa [0] ?_)
  simp only [Zab,Zad,Zaf,pok,pval,VA.ev,Env.get,Env.put,Env.keep,Za2,Zae,Heap.nil,ite_true,ite_false,true_and,reduceCtorEq]
  refine Zac (Zaa [2] ?_)
  simp only [Zad,Zaf,pok,pval,VA.ev,Env.get,Env.put,Env.keep,Zae,intV,binV,Zah,Nat.reduceEqDiff,ite_true,ite_false,true_and,reduceCtorEq]
  refine Zbw rfl (fun g1=>?_) (fun g1=>?_)
  · simp only [Zab,Zad,Za6,Zaf,pok,pval,VA.ev,Env.get,Env.put,Za1,isBool,intV,binV,Zah,Nat.succ_ne_self,Nat.reduceEqDiff,ite_true,ite_false,true_and,reduceCtorEq,g1]
    refine Zar ?_
    try simp only [Env.get,retQ,resV,Zau,RS.ev,RS.ok,ite_true,true_and,and_true]
    rw [show amend k = decide (k ≤ 6) by rw [amend,g1]; rfl]
    exact View.refl _ _
  · simp only [Zab,Zad,Zbi,Zaf,pok,pval,VA.ev,Env.get,Env.put,Za1,isBool,Nat.succ_ne_self,Nat.reduceEqDiff,Bool.false_eq_true,ite_true,ite_false,true_and,reduceCtorEq,Bool.not_true,g1]
    refine Zar ?_
    try simp only [Env.get,retQ,resV,Zau,RS.ev,RS.ok,ite_true,true_and,and_true]
    rw [show amend k = false by rw [amend,g1]; rfl]
    exact View.refl _ _
theorem Zc1 (k:Int):Zbo Tryz.prog 47 [pI k] (.bool (amend k)):=by
  refine Zam ?_ (Closed.of_scalar (Zdx _)) (by simp only [Za0,List.mem_cons,List.not_mem_nil,or_false,forall_eq_or_imp,forall_eq,false_implies,implies_true]; repeat' (first  | exact cI _ | exact cB _ | exact Za7 (by simp only [List.mem_cons,List.not_mem_nil,or_false,forall_eq]; first | exact cI _ | exact cS _ | exact Zaw _) | refine And.intro ?_ ?_))
  refine Zaq (vc:=c_pandectref28_Change) (ts:=[.t 2]) Go.Proofs.Tryz.func47 (by kernel_rfl) rfl rfl (Nat.le_of_ble_eq_true rfl) (by kernel_rfl) ?_
  unfold c_pandectref28_Change
  try dsimp only [ZM,ZO,ZN,ZG]
  refine Zac (Zaa [0] ?_)
  simp only [Zab,Zad,Zaf,pok,pval,VA.ev,Env.get,Env.put,Env.keep,Za2,Zae,Heap.nil,ite_true,ite_false,true_and,reduceCtorEq]
  refine Zac (Zaa [2] ?_)
  simp only [Zad,Zaf,pok,pval,VA.ev,Env.get,Env.put,Env.keep,Zae,intV,binV,Zah,Nat.reduceEqDiff,ite_true,ite_false,true_and,reduceCtorEq]
  refine Zbw rfl (fun g1=>?_) (fun g1=>?_)
  · simp only [Zab,Zad,Za6,Zaf,pok,pval,VA.ev,Env.get,Env.put,Za1,isBool,intV,binV,Zah,Nat.succ_ne_self,Nat.reduceEqDiff,ite_true,ite_false,true_and,reduceCtorEq,g1]
    refine Zar ?_
    try simp only [Env.get,retQ,resV,Zau,RS.ev,RS.ok,ite_true,true_and,and_true]
    rw [show amend k = decide (k ≤ 6) by rw [amend,g1]; rfl]
    exact View.refl _ _
  · simp only [Zab,Zad,Zbi,Zaf,pok,pval,VA.ev,Env.get,Env.put,Za1,isBool,Nat.succ_ne_self,Nat.reduceEqDiff,Bool.false_eq_true,ite_true,ite_false,true_and,reduceCtorEq,Bool.not_true,g1]
    refine Zar ?_
    try simp only [Env.get,retQ,resV,Zau,RS.ev,RS.ok,ite_true,true_and,and_true]
    rw [show amend k = false by rw [amend,g1]; rfl]
    exact View.refl _ _
end Go.Proofs.YtehokmhebnkfdaaGreat.w
namespace Go.Proofs.YtehokmhebnkfdaaGreat.w
open Go Go.VM
set_option maxRecDepth 20000
set_option maxHeartbeats 0
def c_act_EnactedItems:VC:=(.seq (.region [ZO 1 (.box 7 (.t 0)),ZO 2 (.mv (.c .nilsl))] false) (.seq (.region [ZO 3 (.mv (.c .nilsl))] false) (.seq (.seq (.region [ZO 6 (.faddr 6 (.t 1)),ZO 7 (.load false 1 (.t 6)),ZO 8 (.len false (.t 7)),ZO 9 (.mv (.c (.int .i64 0)))] false) (.block 0 (.loop (.seq (.region [ZO 10 (.bin .lss (.t 9) (.t 8))] false) (.seq (.cond (.t 10) .skip (.exit 0)) (.seq (.block 1 (.seq (.region [ZM 11 9,ZO 12 (.iaddr 25 (.t 7) (.t 9)),ZO 13 (.load true 25 (.t 12)),ZO 5 (.alloc [(.int .i64 0),.nilsl,.nilsl,(.int .i64 0),(.int .i64 0),(.int .i64 0),(.int .i64 0),(.int .i64 0),(.int .i64 0),(.str []),.nilsl,.nilsl,.nilsl,.nilsl,.nilsl,(.str []),(.str []),(.int .i64 0),(.int .i64 0),(.str []),(.int .i64 0),(.int .i64 0),(.int .i64 0),(.str []),.nilsl]),ZM 4 11,ZN (.store 25 (.t 5) (.t 13))] false) (.region [ZM 14 3,ZO 15 (.faddr 0 (.t 1)),ZO 16 (.load false 1 (.t 15)),ZM 17 4,ZO 18 (.faddr 2 (.t 1)),ZO 19 (.load false 1 (.t 18)),ZO 20 (.load true 25 (.t 5)),ZO 21 (.build [(.int .i64 0),(.int .i64 0),(.int .i64 0),(.int .i64 0),.nilsl,.nilsl,(.int .i64 0),(.int .i64 0),(.int .i64 0),(.int .i64 0),(.int .i64 0),(.int .i64 0),(.str []),.nilsl,.nilsl,.nilsl,.nilsl,.nilsl,(.str []),(.str []),(.int .i64 0),(.int .i64 0),(.str []),(.int .i64 0),(.int .i64 0),(.int .i64 0),(.str []),.nilsl] [(0,(1,(.t 16))),(1,(1,(.t 17))),(2,(1,(.t 19))),(3,(25,(.t 20)))]),ZO 22 (.bslice 28 1 [(.int .i64 0),(.int .i64 0),(.int .i64 0),(.int .i64 0),.nilsl,.nilsl,(.int .i64 0),(.int .i64 0),(.int .i64 0),(.int .i64 0),(.int .i64 0),(.int .i64 0),(.str []),.nilsl,.nilsl,.nilsl,.nilsl,.nilsl,(.str []),(.str []),(.int .i64 0),(.int .i64 0),(.str []),(.int .i64 0),(.int .i64 0),(.int .i64 0),(.str []),.nilsl] [(0,(.t 21))]),ZO 23 (.app 28 392 [(.int .i64 0),(.int .i64 0),(.int .i64 0),(.int .i64 0),.nilsl,.nilsl,(.int .i64 0),(.int .i64 0),(.int .i64 0),(.int .i64 0),(.int .i64 0),(.int .i64 0),(.str []),.nilsl,.nilsl,.nilsl,.nilsl,.nilsl,(.str []),(.str []),(.int .i64 0),(.int .i64 0),(.str []),(.int .i64 0),(.int .i64 0),(.int .i64 0),(.str []),.nilsl] false (.t 14) (.t 22)),ZM 3 23] false))) (.region [ZO 24 (.bin .add (.t 9) (.c (.int .i64 1))),ZM 9 24] false))))))) (.seq (.region [ZM 25 3,ZM 2 25] false) .ret))))
def deedsFrom (n:Int) (d:Int):Nat → List It → List EI
  | _,[]=>[]
  | k,it :: r=>⟨n,k,d,it⟩ :: deedsFrom n d (k + 1) r
def deeds (a:Ac):List EI:=deedsFrom a.number a.day 0 a.items
def deedAt (a:Ac) (k:Nat) (h:k < a.items.length):EI:=⟨a.number,k,a.day,a.items[k]⟩
theorem deeds_len (n d:Int):∀ (l:List It) (k:Nat),(deedsFrom n d k l).length = l.length
  | [],_=>rfl
  | x :: r,k=>by simp [deedsFrom,deeds_len n d r]
theorem deeds_get (n d:Int):∀ (l:List It) (k j:Nat) (h:j < l.length),(deedsFrom n d k l)[j]'(by rw [deeds_len]; exact h) = ⟨n,((k + j:Nat):Int),d,l[j]⟩
  | x :: r,k,0,h=>by simp [deedsFrom]
  | x :: r,k,j + 1,h=>by
    simp only [deedsFrom,List.getElem_cons_succ]
    rw [deeds_get n d r (k + 1) j (by simpa using h)]
    simp; omega
theorem sp_act_EnactedItems (a:Ac) (hl:a.items.length ≤ 1000000):Zbo Tryz.prog 78 [.agg a.enc] (.sl 28 ((deeds a).map EI.enc)):=by
  refine Zam ?_ (Zaw _) (by simp only [Za0,List.mem_cons,List.not_mem_nil,or_false,forall_eq_or_imp,forall_eq,false_implies,implies_true]; repeat' (first  | exact Zay (EI.closed _) | exact Zay (Ac.closed _) | exact Zaw _ | exact Zav _ | refine And.intro ?_ ?_))
  refine Zaq (vc:=c_act_EnactedItems) (ts:=[.t 2]) Go.Proofs.Tryz.func78 (by kernel_rfl) rfl rfl (Nat.le_of_ble_eq_true rfl) (by kernel_rfl) ?_
  unfold c_act_EnactedItems
  try dsimp only [ZM,ZO,ZN,ZG]
  have hdl:(deeds a).length = a.items.length:=deeds_len _ _ _ _
  refine Zac (Zaa [1] ?_)
  simp only [Zab,Zad,Zaf,pok,pval,VA.ev,Env.get,Env.put,Env.keep,Za2,Zae,PV.cells,PV.fits,Heap.push,Heap.nil,Nat.succ_ne_self,List.length,Nat.reduceAdd,ite_true,ite_false,true_and,reduceCtorEq,BEq.rfl,Nat.zero_add,Ac.enc]
  refine Zac (Zaa [1,3] ?_)
  simp only [Zab,Zad,Zaf,pok,pval,VA.ev,Env.get,Env.put,Env.keep,Zae,Nat.reduceEqDiff,ite_true,ite_false,true_and]
  refine VW_own0 3 28 rfl ?_
  try simp only [Env.put,Heap.push,Nat.reduceAdd]
  refine Zac ?_
  refine Zac (Zaa [1,3,7,8,9] ?_)
  simp only [Zab,Zad,Zaf,pok,pval,VA.ev,Env.get,Env.put,Env.keep,Zae,aggV,lenV,Zao,Zan,Zag,Zap,Za8,PV.nth,PV.row,Heap.get,HL.get,Nat.le_refl,Nat.succ_ne_self,List.length,List.getD_cons_zero,List.take,List.drop,List.take_succ_cons,List.drop_succ_cons,Nat.reduceEqDiff,Nat.reduceLT,Bool.false_eq_true,ite_true,ite_false,true_and,and_true,implies_true,Nat.zero_add,List.length_cons,List.length_map]
  refine Zaj ?_
  refine Za4 (σ:={ s:Nat × Nat × Nat // s.1 ≤ a.items.length ∧ 0 < s.2.1 ∧ s.2.1 < s.2.2 })
    (fun s=>([(1,.loc 0 0 0),(3,.own s.1.2.1 0 s.1.1),(7,.sl 25 (a.items.map It.enc)),(8,pI a.items.length),(9,pI s.1.1)],⟨[(s.1.2.1,.arr false 28 (((deeds a).take s.1.1).map EI.enc)),(0,.arr false 7 [a.enc])],s.1.2.2⟩)) (fun s=>a.items.length - s.1.1) ⟨(0,1,2),by simp⟩ ?_ ?_ ?_
  · simp only [Env.get,Nat.succ_ne_self,Env.le,Nat.reduceEqDiff,ite_true,ite_false,true_and,and_true]
    rfl
  · simp only [Heap.get,Heap.le,HL.get,HL.le,Nat.le_refl,Nat.succ_ne_self,List.take,ite_true,ite_false,and_true,reduceCtorEq,Ac.enc,List.map_nil]
  rintro ⟨⟨k,id,n⟩,hk,hi,hn⟩
  simp only [] at hk hi hn ⊢
  have qi0:(id = n) = False:=by simp; omega
  have qi1:(n = id) = False:=by simp; omega
  have qi2:(id = 0) = False:=by simp; omega
  have qi3:(0 = id) = False:=by simp; omega
  have qi4:(n = 0) = False:=by simp; omega
  have qi5:(0 = n) = False:=by simp; omega
  have qi6:∀ j,(n + j = id) = False:=fun j=>by simp; try omega
  have qi7:∀ j,(id = n + j) = False:=fun j=>by simp; try omega
  have qi8:∀ j,(n + (j + 1) = n) = False:=fun j=>by simp; try omega
  have qi9:∀ j,(n = n + (j + 1)) = False:=fun j=>by simp; try omega
  have qi10:∀ j,(n + j = 0) = False:=fun j=>by simp; try omega
  have qi11:∀ j,(0 = n + j) = False:=fun j=>by simp; try omega
  have qi12:(n + 1 + 1 = n) = False:=by simp; try omega
  have qi13:(n = n + 1 + 1) = False:=by simp; try omega
  have qi14:(n + 1 + 1 + 1 = n) = False:=by simp; try omega
  have qi15:(n = n + 1 + 1 + 1) = False:=by simp; try omega
  refine Zac (Zaa [1,3,7,8,9,10] ?_)
  simp only [Zab,Zad,Zaf,pok,pval,VA.ev,Env.get,Env.put,Env.keep,Zae,intV,binV,Zah,Heap.get,Heap.le,HL.le,Nat.succ_ne_self,Env.le,Nat.reduceEqDiff,ite_true,ite_false,true_and,and_true,List.length_map]
  refine Zac ?_
  refine Zai rfl (fun h1=>?_) (fun h1=>?_)
  · refine Zak ?_
    try simp only [Zae]
    simp only [decide_eq_true_eq] at h1
    have ka:k < a.items.length:=by omega
    refine Zac ?_
    refine Zaj ?_
    refine Zac (Zaa [1,3,4,5,7,8,9] ?_)
    simp only [Zab,Zad,Zaf,pok,pval,VA.ev,Env.get,Env.put,Env.keep,Zae,aggV,isInt,numOf,lenV,Zag,Zap,Zax,Zas,PV.cells,PV.fits,overlay,PV.nth,PV.row,Heap.get,Heap.set,HL.get,HL.set,HL.del,Heap.push,Nat.le_refl,Nat.succ_ne_self,Zbh,Za9,List.set,List.length,List.getD_cons_zero,List.take,List.drop,List.drop_succ_cons,List.nil_append,Nat.reduceEqDiff,Nat.reduceAdd,Nat.reduceLT,Bool.true_eq_false,ite_true,ite_false,true_and,and_true,BEq.rfl,Nat.zero_add,imp_self,Int.toNat_natCast,List.length_map,rowm ka,it_take,It.Zby]
    repeat (with_reducible refine And.intro ?_ ?_; first | omega | (with_reducible constructor <;> omega) | exact False.elim | exact True.intro)
    have hdk:(deeds a)[k]'(by rw [hdl]; exact ka) = deedAt a k ka:=by
      have:=deeds_get a.number a.day a.items 0 k ka
      simpa [deeds,deedAt] using this
    have hstep:((deeds a).take (k + 1)).map EI.enc = ((deeds a).take k).map EI.enc ++ [(deedAt a k ka).enc]:=by
      rw [List.take_add_one,List.getElem?_eq_getElem (by rw [hdl]; exact ka),hdk]; simp
    try simp only [ite_false,It.Zby,List.append_nil,qi0,qi1,qi2,qi3,qi4,qi5,qi6,qi7,qi8,qi9,qi10,qi11,qi12,qi13,qi14,qi15]
    refine Zaa [1,3,7,8,9] ?_
    have hlen:(((deeds a).take k).map EI.enc).length = k:=by simp [hdl]; omega
    have htk:(((deeds a).take k).map EI.enc).take k = ((deeds a).take k).map EI.enc:=List.take_of_length_le (by rw [hlen]; exact Nat.le_refl _)
    simp only [Zab,Zad,Zaf,pok,pval,VA.ev,Env.get,Env.put,Env.keep,Zae,Zal,aggV,Zao,Zan,Zag,Zap,Zcu,Zcb,PV.cells,PV.fits,overlay,PV.nth,PV.row,Heap.get,Heap.del,HL.get,HL.del,Heap.push,Nat.le_refl,Nat.succ_ne_self,Zbq,Zc8,Zbk,Zda,Zbc,Zcw,Zbj,Zbf,List.set,List.replicate,List.length,List.getD_cons_zero,List.take,List.drop,List.take_succ_cons,List.drop_succ_cons,List.cons_append,List.nil_append,Nat.reduceEqDiff,Nat.reduceAdd,Nat.reduceLT,Nat.reduceLeDiff,Bool.false_eq_true,Bool.true_eq_false,ite_true,ite_false,true_and,and_true,implies_true,BEq.rfl,Nat.zero_add,Nat.add_zero,List.length_cons,imp_self,Ac.enc,it_take,It.Zby,List.append_nil,hlen,htk,qi0,qi1,qi2,qi3,qi4,qi5,qi6,qi7,qi8,qi9,qi10,qi11,qi12,qi13,qi14,qi15]
    repeat (with_reducible refine And.intro ?_ ?_; first | omega | (with_reducible constructor <;> omega) | exact False.elim | exact True.intro)
    skip
    refine Zaa [1,3,7,8,9] ?_
    simp only [Zab,Zad,Zaf,pok,pval,VA.ev,Env.get,Env.put,Env.keep,Zae,intV,binV,Zah,HL.get,Nat.succ_ne_self,Nat.reduceEqDiff,ite_true,ite_false,true_and,and_true,reduceCtorEq,qi0,qi1,qi2,qi3,qi4,qi5,qi6,qi7,qi8,qi9,qi10,qi11,qi12,qi13,qi14,qi15,w64 (n:=(k:Int) + 1) (by omega) (by omega)]
    refine ⟨⟨(k + 1,n + 1 + 1,n + 1 + 1 + 1),?_,?_,?_⟩,?_,?_,?_⟩
    · simp only []; omega
    · simp only []; omega
    · simp only []; omega
    · simp
    · rw [hstep]
      simp only [Nat.le_refl,Nat.left_eq_add,Nat.succ_ne_self,ite_true,ite_false,true_and,reduceCtorEq,Option.some.injEq,qi0,qi1,qi2,qi3,qi4,qi5,qi6,qi7,qi8,qi9,qi10,qi11,qi12,qi13,qi14,qi15,Ac.enc]
      rfl
    · simp only []; omega
  · simp only [decide_eq_false_iff_not] at h1
    have hkl:k = a.items.length:=by omega
    refine Zaz ?_
    try simp only [Zae,Zal,retQ,ite_true]
    refine Zac (Zaa [2] ?_)
    simp only [Zab,Zad,Zaf,pok,pval,VA.ev,Env.get,Env.put,Env.keep,Zae,Nat.succ_ne_self,Nat.reduceEqDiff,ite_true,ite_false,true_and]
    refine Zar ?_
    try simp only [Env.get,retQ,resV,Zau,RS.ev,RS.ok,ite_true,true_and,and_true]
    have hv:=View.own (h:=⟨[(id,.arr false 28 (((deeds a).take k).map EI.enc)),(0,.arr false 7 [a.enc])],n⟩) (id:=id) (off:=0) (len:=k) (z:=28) (fz:=false) (es:=((deeds a).take k).map EI.enc) (by simp [Heap.get,HL.get]) (by simp [hdl]; omega)
    have e1:List.take k (List.drop 0 (((deeds a).take k).map EI.enc)) = (deeds a).map EI.enc:=by
      rw [List.drop_zero,hkl,← hdl,List.take_length,← List.map_take,List.take_length]
    rw [e1] at hv
    exact hv
end Go.Proofs.YtehokmhebnkfdaaGreat.w
namespace Go.Proofs.YtehokmhebnkfdaaGreat.w
open Go Go.VM
set_option maxRecDepth 20000
set_option maxHeartbeats 0
def c_corpus_Acts_2:VC:=(.seq (.region [ZO 2 (.box 7 (.t 0)),ZO 3 (.box 7 (.t 1)),ZO 4 (.mv (.c (.int .i64 0)))] false) (.seq (.region [ZO 5 (.faddr 2 (.t 2)),ZO 6 (.load false 1 (.t 5)),ZO 7 (.faddr 2 (.t 3)),ZO 8 (.load false 1 (.t 7)),ZO 9 (.call 76 [(.t 6),(.t 8)]),ZO 10 (.faddr 0 (.t 2)),ZO 11 (.load false 1 (.t 10)),ZO 12 (.faddr 0 (.t 3)),ZO 13 (.load false 1 (.t 12)),ZO 14 (.call 76 [(.t 11),(.t 13)]),ZO 15 (.bslice 1 2 [(.int .i64 0)] [(0,(.t 9)),(1,(.t 14))]),ZO 16 (.call 75 [(.t 15)]),ZM 4 16] true) .ret))
def cmpA (a b:Ac):Int:=orI [cmpI a.day b.day,cmpI a.number b.number]
theorem Zdw (a b:Ac):Zbo Tryz.prog 74 [.agg a.enc,.agg b.enc] (pI (cmpA a b)):=by
  refine Zam ?_ (Closed.of_scalar (Zd2 _ _)) (by simp only [Za0,List.mem_cons,List.not_mem_nil,or_false,forall_eq_or_imp,forall_eq,false_implies,implies_true]; repeat' (first  | exact cI _ | exact Zay (Ac.closed _) | exact Za7 (by simp only [List.mem_cons,List.not_mem_nil,or_false,forall_eq]; first | exact cI _ | exact cS _ | exact Zaw _) | refine And.intro ?_ ?_))
  refine Zaq (vc:=c_corpus_Acts_2) (ts:=[.t 4]) Go.Proofs.Tryz.func74 (by kernel_rfl) rfl rfl (Nat.le_of_ble_eq_true rfl) (by kernel_rfl) ?_
  unfold c_corpus_Acts_2
  try dsimp only [ZM,ZO,ZN,ZG]
  refine Zac (Zaa [2,3] ?_)
  simp only [Zab,Zad,Zaf,pok,pval,VA.ev,Env.get,Env.put,Env.keep,Za2,Zae,PV.cells,PV.fits,Heap.push,Heap.nil,Nat.succ_ne_self,List.length,Nat.reduceEqDiff,Nat.reduceAdd,ite_true,ite_false,true_and,reduceCtorEq,BEq.rfl,Nat.zero_add,Ac.enc]
  skip
  skip
  refine Zac (Zb3 [4] (by simp [Heap.le,Heap.get,HL.le,HL.get]) ?_)  -- faddr load faddr load call faddr load faddr load call bslice call mv
  simp only [Zbb,Zbu,QW,dok,dval,VOp.pure,VOp.simple,VOp.det,pok,pval,VA.ev,Env.get,Env.put,Env.keep,Zae,gd,aggV,Zao,Zan,Zag,Zap,PV.cells,PV.fits,PV.nth,PV.row,Heap.get,HL.get,Nat.succ_ne_self,Zbj,Zbf,List.set,List.replicate,List.length,List.getD_cons_zero,List.take,List.drop,List.take_succ_cons,List.drop_succ_cons,Nat.reduceEqDiff,Nat.reduceAdd,Nat.reduceLT,Nat.reduceLeDiff,Bool.false_eq_true,ite_true,ite_false,true_and,and_true,implies_true,forall_const,reduceCtorEq,BEq.rfl,Nat.zero_add,Nat.add_zero,List.length_cons]
  refine ⟨_,.inl (Zc3 ..),?_⟩
  try simp only [true_and]
  refine ⟨_,.inl (Zc3 ..),?_⟩
  try simp only [true_and]
  refine ⟨_,.inl (sp_cmp_Or_int [cmpI a.day b.day,cmpI a.number b.number] (by simp)),?_⟩
  skip
  refine Zar ?_
  try simp only [Env.get,retQ,resV,Zau,RS.ev,RS.ok,ite_true,true_and,and_true]
  exact View.refl _ _
end Go.Proofs.YtehokmhebnkfdaaGreat.w
