import Derived.Test.YtehokmhebnkfdaaGreatVmA
import Derived.Test.YtehokmhebnkfdaaGreatRows
import Derived.Test.YtehokmhebnkfdaaGreatVmS
import Derived.KernelRfl
set_option linter.all false
namespace Go.Proofs.YtehokmhebnkfdaaGreat.rd
open Go Go.VM
variable {W : World}
theorem k3:Tryz.prog.cellsOf 3 = 1:=by kernel_rfl
theorem k9:Tryz.prog.cellsOf 9 = 1:=by kernel_rfl
theorem k187:Tryz.prog.cellsOf 187 = 3:=by kernel_rfl
theorem k189:Tryz.prog.cellsOf 189 = 4:=by kernel_rfl
theorem k30:Tryz.prog.cellsOf 30 = 3:=by kernel_rfl
theorem k31:Tryz.prog.cellsOf 31 = 1:=by kernel_rfl
theorem k32:Tryz.prog.cellsOf 32 = 1:=by kernel_rfl
theorem k34:Tryz.prog.cellsOf 34 = 8:=by kernel_rfl
theorem k105:Tryz.prog.cellsOf 105 = 2:=by kernel_rfl
theorem k37:Tryz.prog.cellsOf 37 = 3:=by kernel_rfl
theorem k40:Tryz.prog.cellsOf 40 = 25:=by kernel_rfl
theorem k28:Tryz.prog.cellsOf 28 = 1:=by kernel_rfl
theorem k35:Tryz.prog.cellsOf 35 = 1:=by kernel_rfl
theorem k38:Tryz.prog.cellsOf 38 = 1:=by kernel_rfl
theorem k54:Tryz.prog.cellsOf 54 = 1:=by kernel_rfl
theorem k53:Tryz.prog.cellsOf 53 = 7:=by kernel_rfl
theorem k57:Tryz.prog.cellsOf 57 = 4:=by kernel_rfl
theorem rI (n:Nat):Reads Tryz.prog W n 3 i64 (fun a=>[pI a]):=reads_int Tryz.underlying3
theorem rS (n:Nat):Reads Tryz.prog W n 9 okS (fun a=>[.str a]):=reads_string Tryz.underlying9
def enc3 (x:Int × Int × Int × Unit):List PV:=[pI x.1,pI x.2.1,pI x.2.2.1]
def ok3 (x:Int × Int × Int × Unit):Prop:=i64 x.1 ∧ i64 x.2.1 ∧ i64 x.2.2.1 ∧ True
theorem r187 (n:Nat):Reads Tryz.prog W n 187 ok3 enc3:=by
  cases n with
  | zero=>exact Zdf
  | succ n=>exact Reads.map (fun x:Int × Int × Int × Unit=>x) (Zc5 Tryz.underlying187 rfl k187 (Za7 (by exact (rI n)) (by exact k3) (by exact (fun _=>rfl)) (by rfl) (Za7 (by exact (rI n)) (by exact k3) (by exact (fun _=>rfl)) (by rfl) (Za7 (by exact (rI n)) (by exact k3) (by exact (fun _=>rfl)) (by rfl) freads_nil))) (by exact fun _=>rfl)) (fun _ h=>h) (fun _=>rfl)
theorem r30 (n:Nat):Reads Tryz.prog W n 30 ok3 enc3:=by
  cases n with
  | zero=>exact Zdf
  | succ n=>exact Reads.map (fun x:Int × Int × Int × Unit=>x) (Zc5 Tryz.underlying30 rfl k30 (Za7 (by exact (rI n)) (by exact k3) (by exact (fun _=>rfl)) (by rfl) (Za7 (by exact (rI n)) (by exact k3) (by exact (fun _=>rfl)) (by rfl) (Za7 (by exact (rI n)) (by exact k3) (by exact (fun _=>rfl)) (by rfl) freads_nil))) (by exact fun _=>rfl)) (fun _ h=>h) (fun _=>rfl)
theorem rWd (n:Nat):Reads Tryz.prog W n 189 Wd.ok Wd.enc:=by
  cases n with
  | zero=>exact Zdf
  | succ n =>
    refine Reads.map (fun x:Str × (Int × Int × Int × Unit) × Unit=>(⟨x.1,x.2.1.1,x.2.1.2.1,x.2.1.2.2.1⟩:Wd))
      (Zc5 Tryz.underlying189 rfl k189 (Za7 (by exact (rS n)) (by exact k9) (by exact (fun _=>rfl)) (by rfl) (Za7 (by exact (r187 n)) (by exact k187) (by exact (fun _=>rfl)) (by rfl) freads_nil)) (by exact fun _=>rfl)) ?_ ?_
    · rintro ⟨t,⟨a,b,c,_⟩,_⟩ ⟨h1,⟨h2,h3,h4,_⟩,_⟩; exact ⟨h1,h2,h3,h4⟩
    · rintro ⟨t,⟨a,b,c,_⟩,_⟩; rfl
theorem rWds (n:Nat):Reads Tryz.prog W n 31 (okL Wd.ok) (fun l=>[.sl 4 (l.map Wd.enc)]):=reads_sl Tryz.underlying31 k189 (by decide) (fun _=>rfl) n (fun m _=>rWd m)
theorem un_len (u:Un):u.enc.length = 8:=by rw [Un.Zb8]; rfl
theorem rUn:∀ n:Nat,Reads Tryz.prog W n 34 Un.ok Un.enc:=by
  intro n
  induction n using Nat.strongRecOn with
  | _ n ih =>
    cases n with
    | zero=>exact Zdf
    | succ n =>
      refine Reads.map (fun x:(Int × Int × Int × Unit) × Int × Str × List Wd × List Wd × List Un × Unit=>Un.mk x.1.1 x.1.2.1 x.1.2.2.1 x.2.1 x.2.2.1 x.2.2.2.1 x.2.2.2.2.1 x.2.2.2.2.2.1)
        (Zc5 Tryz.underlying34 rfl k34 (Za7 (by exact (r30 n)) (by exact k30) (by exact (fun _=>rfl)) (by rfl) (Za7 (by exact (rI n)) (by exact k3) (by exact (fun _=>rfl)) (by rfl) (Za7 (by exact (rS n)) (by exact k9) (by exact (fun _=>rfl)) (by rfl) (Za7 (by exact (rWds n)) (by exact k31) (by exact (fun _=>rfl)) (by rfl)
          (Za7 (by exact (rWds n)) (by exact k31) (by exact (fun _=>rfl)) (by rfl) (Za7 (by exact (reads_sl Tryz.underlying32 k34 (by decide) un_len n (fun m hm=>ih m (by omega)))) (by exact k32) (by exact (fun _=>rfl)) (by rfl) freads_nil)))))) (by exact fun _=>rfl)) ?_ ?_
      · rintro ⟨⟨a,b,c,_⟩,k,l,h,w,ks,_⟩ ⟨⟨h1,h2,h3,_⟩,h4,h5,h6,h7,h8,_⟩
        exact .mk _ h1 h2 h3 h4 h5 h6 h7 h8.1 h8.2
      · rintro ⟨⟨a,b,c,_⟩,k,l,h,w,ks,_⟩
        rw [Un.Zb8]; rfl
theorem rSt (n:Nat):Reads Tryz.prog W n 105 St.ok St.enc:=by
  cases n with
  | zero=>exact Zdf
  | succ n =>
    refine Reads.map (fun x:Int × Str × Unit=>(⟨x.1,x.2.1⟩:St)) (Zc5 Tryz.underlying105 rfl k105 (Za7 (by exact (rI n)) (by exact k3) (by exact (fun _=>rfl)) (by rfl) (Za7 (by exact (rS n)) (by exact k9) (by exact (fun _=>rfl)) (by rfl) freads_nil)) (by exact fun _=>rfl)) ?_ ?_
    · rintro ⟨a,b,_⟩ ⟨h1,h2,_⟩; exact ⟨h1,h2⟩
    · rintro ⟨a,b,_⟩; rfl
theorem rSta (n:Nat):Reads Tryz.prog W n 37 Sta.ok Sta.enc:=by
  cases n with
  | zero=>exact Zdf
  | succ n =>
    refine Reads.map (fun x:Int × Int × Str × Unit=>(⟨x.1,x.2.1,x.2.2.1⟩:Sta)) (Zc5 Tryz.underlying37 rfl k37 (Za7 (by exact (rI n)) (by exact k3) (by exact (fun _=>rfl)) (by rfl) (Za7 (by exact (rI n)) (by exact k3) (by exact (fun _=>rfl)) (by rfl) (Za7 (by exact (rS n)) (by exact k9) (by exact (fun _=>rfl)) (by rfl) freads_nil))) (by exact fun _=>rfl)) ?_ ?_
    · rintro ⟨a,b,c,_⟩ ⟨h1,h2,h3,_⟩; exact ⟨h1,h2,h3⟩
    · rintro ⟨a,b,c,_⟩; rfl
theorem rSts (n:Nat):Reads Tryz.prog W n 28 (okL St.ok) (fun l=>[.sl 2 (l.map St.enc)]):=reads_sl Tryz.underlying28 k105 (by decide) (fun _=>rfl) n (fun m _=>rSt m)
theorem rSs (n:Nat):Reads Tryz.prog W n 35 (okL okS) (fun l=>[It.strs l]):=reads_sl Tryz.underlying35 k9 (by decide) (fun _=>rfl) n (fun m _=>rS m)
theorem rIt:∀ n:Nat,Reads Tryz.prog W n 40 It.ok It.enc:=by
  intro n
  induction n using Nat.strongRecOn with
  | _ n ih =>
    cases n with
    | zero=>exact Zdf
    | succ n =>
      refine Reads.map (fun x : Int × List St × List St × Int × Int × Un × List Str × List Str × Str × Str × Sta × Int × Int × Int × Str × List It × Unit =>
          It.mk x.1 x.2.1 x.2.2.1 x.2.2.2.1 x.2.2.2.2.1 x.2.2.2.2.2.1 x.2.2.2.2.2.2.1 x.2.2.2.2.2.2.2.1 x.2.2.2.2.2.2.2.2.1 x.2.2.2.2.2.2.2.2.2.1 x.2.2.2.2.2.2.2.2.2.2.1 x.2.2.2.2.2.2.2.2.2.2.2.1 x.2.2.2.2.2.2.2.2.2.2.2.2.1 x.2.2.2.2.2.2.2.2.2.2.2.2.2.1 x.2.2.2.2.2.2.2.2.2.2.2.2.2.2.1 x.2.2.2.2.2.2.2.2.2.2.2.2.2.2.2.1)
        (Zc5 Tryz.underlying40 rfl k40 (Za7 (by exact (rI n)) (by exact k3) (by exact (fun _=>rfl)) (by rfl) (Za7 (by exact (rSts n)) (by exact k28) (by exact (fun _=>rfl)) (by rfl) (Za7 (by exact (rSts n)) (by exact k28) (by exact (fun _=>rfl)) (by rfl) (Za7 (by exact (rI n)) (by exact k3) (by exact (fun _=>rfl)) (by rfl) (Za7 (by exact (rI n)) (by exact k3) (by exact (fun _=>rfl)) (by rfl)
          (Za7 (by exact (rUn n)) (by exact k34) (by exact un_len) (by rfl) (Za7 (by exact (rSs n)) (by exact k35) (by exact (fun _=>rfl)) (by rfl) (Za7 (by exact (rSs n)) (by exact k35) (by exact (fun _=>rfl)) (by rfl) (Za7 (by exact (rS n)) (by exact k9) (by exact (fun _=>rfl)) (by rfl) (Za7 (by exact (rS n)) (by exact k9) (by exact (fun _=>rfl)) (by rfl) (Za7 (by exact (rSta n)) (by exact k37) (by exact (fun _=>rfl)) (by rfl)
          (Za7 (by exact (rI n)) (by exact k3) (by exact (fun _=>rfl)) (by rfl) (Za7 (by exact (rI n)) (by exact k3) (by exact (fun _=>rfl)) (by rfl) (Za7 (by exact (rI n)) (by exact k3) (by exact (fun _=>rfl)) (by rfl) (Za7 (by exact (rS n)) (by exact k9) (by exact (fun _=>rfl)) (by rfl)
          (Za7 (by exact (reads_sl Tryz.underlying38 k40 (by decide) It.Zbv n (fun m hm=>ih m (by omega)))) (by exact k38) (by exact (fun _=>rfl)) (by rfl) freads_nil)))))))))))))))) ?_) ?_ ?_
      · rintro ⟨k,a,t,w,n,u,o,e,l,f,s,ac,it,d,ev,b,_⟩; simp only [List.length_append,un_len]; rfl
      · rintro ⟨k,a,t,w,n,u,o,e,l,f,s,ac,it,d,ev,b,_⟩ ⟨h1,h2,h3,h4,h5,h6,h7,h8,h9,h10,h11,h12,h13,h14,h15,h16,_⟩
        exact .mk _ h1 h2 h3 h4 h5 h6 h7 h8 h9 h10 h11 h12 h13 h14 h15 h16.1 h16.2
      · rintro ⟨k,a,t,w,n,u,o,e,l,f,s,ac,it,d,ev,b,_⟩
        rw [It.Zb8,Un.Zb8]; rfl
theorem ei_len (x:EI):x.enc.length = 28:=by simp [EI.enc,It.Zbv]
end Go.Proofs.YtehokmhebnkfdaaGreat.rd
namespace Go.Proofs.YtehokmhebnkfdaaGreat.w
open Go Go.VM
def Zc6:VC:=(.seq (.region [ZO 2 (.mv (.c (.bool false)))] false) (.seq (.region [ZM 3 0,ZM 4 0,ZO 5 (.bin .neq (.t 3) (.t 4)),ZM 2 5] false) .ret))
def Zcq:VC:=(.seq (.region [ZO 4 (.mv (.c (.int .i64 0)))] false) (.seq (.region [ZM 7 0,ZO 8 (.call 117 [(.t 7)]),ZM 5 8] false) (.seq (.region [ZM 9 1,ZO 10 (.call 117 [(.t 9)]),ZM 6 10] false) (.seq (.seq (.region [ZM 11 5] false) (.cond (.t 11) (.seq (.seq (.region [ZM 12 6] false) (.cond (.t 12) (.seq (.region [ZO 4 (.mv (.c (.int .i64 0)))] false) .ret) .skip)) (.seq (.region [ZO 4 (.mv (.c (.int .i64 (-1))))] false) .ret)) .skip)) (.seq (.seq (.region [ZM 13 6] false) (.cond (.t 13) (.seq (.region [ZO 4 (.mv (.c (.int .i64 1)))] false) .ret) .skip)) (.seq (.seq (.region [ZM 14 0,ZM 15 1,ZO 16 (.bin .lss (.t 14) (.t 15))] false) (.cond (.t 16) (.seq (.region [ZO 4 (.mv (.c (.int .i64 (-1))))] false) .ret) .skip)) (.seq (.seq (.region [ZM 17 0,ZM 18 1,ZO 19 (.bin .gtr (.t 17) (.t 18))] false) (.cond (.t 19) (.seq (.region [ZO 4 (.mv (.c (.int .i64 1)))] false) .ret) .skip)) (.seq (.region [ZO 4 (.mv (.c (.int .i64 0)))] false) .ret))))))))
def c_cmp_Or_int:VC:=(.seq (.region [ZO 2 (.mv (.c (.int .i64 0)))] false) (.seq (.region [ZO 3 (.mv (.c (.int .i64 0)))] false) (.seq (.seq (.region [ZM 6 0,ZO 7 (.len false (.t 6)),ZO 8 (.mv (.c (.int .i64 0)))] false) (.block 0 (.loop (.seq (.region [ZO 9 (.bin .lss (.t 8) (.t 7))] false) (.seq (.cond (.t 9) .skip (.exit 0)) (.seq (.block 1 (.seq (.region [ZO 10 (.iaddr 1 (.t 6) (.t 8)),ZO 11 (.load false 1 (.t 10)),ZM 5 11] false) (.seq (.region [ZM 12 5,ZM 13 3,ZO 14 (.bin .neq (.t 12) (.t 13))] false) (.cond (.t 14) (.seq (.region [ZM 15 5,ZM 2 15] false) .ret) .skip)))) (.region [ZO 16 (.bin .add (.t 8) (.c (.int .i64 1))),ZM 8 16] false))))))) (.seq (.region [ZM 17 3,ZM 2 17] false) .ret))))
theorem Zcv (x:Int):Zbq Tryz.prog 117 [pI x] (.bool false):=by
  refine Zao ?_ (Closed.of_scalar (Zcd _)) (by simp only [Za1,List.mem_cons,List.not_mem_nil,or_false,forall_eq_or_imp,forall_eq,false_implies,implies_true]; repeat' (first  | exact cI _ | exact cB _ | exact Za9 (by simp only [List.mem_cons,List.not_mem_nil,or_false,forall_eq]; first | exact cI _ | exact cS _ | exact Zav _) | refine And.intro ?_ ?_))
  refine Zar (vc:=Zc6) (ts:=[.t 2]) Go.Proofs.Tryz.func117 (by kernel_rfl) rfl rfl (Nat.le_of_ble_eq_true rfl) (by kernel_rfl) ?_
  unfold Zc6
  try dsimp only [ZM,ZO,ZN,ZG]
  refine Zad (Zaa [0,2] ?_)
  simp only [Zab,Zac,Zaf,pok,pval,VA.ev,Env.get,Env.put,Env.keep,Za3,Zae,Heap.nil,ite_true,ite_false,true_and,reduceCtorEq]
  refine Zad (Zaa [2] ?_)
  simp only [Zab,Zac,Zaf,pok,pval,VA.ev,Env.get,Env.put,Env.keep,Zae,intV,binV,Zah,Nat.succ_ne_self,Nat.reduceEqDiff,ite_true,ite_false,true_and,reduceCtorEq]
  refine Zaq ?_
  simp only [Env.get,retQ,resV,Zau,RS.ev,RS.ok,ite_true,true_and,and_true,bne_self_eq_false]
  exact View.refl _ _
def cmpI (x y:Int):Int:=if x < y then -1 else if y < x then 1 else 0
theorem Zc2 (x y:Int):Zbq Tryz.prog 76 [pI x,pI y] (pI (cmpI x y)):=by
  refine Zao ?_ (Closed.of_scalar (scalar_int _ _)) (by simp only [Za1,List.mem_cons,List.not_mem_nil,or_false,forall_eq_or_imp,forall_eq,false_implies,implies_true]; repeat' (first  | exact cI _ | exact Za9 (by simp only [List.mem_cons,List.not_mem_nil,or_false,forall_eq]; first | exact cI _ | exact cS _ | exact Zav _) | refine And.intro ?_ ?_))
  refine Zar (vc:=Zcq) (ts:=[.t 4]) Go.Proofs.Tryz.func76 (by kernel_rfl) rfl rfl (Nat.le_of_ble_eq_true rfl) (by kernel_rfl) ?_
  unfold Zcq
  try dsimp only [ZM,ZO,ZN,ZG]
  refine Zad (Zaa [0,1,4] ?_)
  simp only [Zab,Zac,Zaf,pok,pval,VA.ev,Env.get,Env.put,Env.keep,Za3,Zae,Heap.nil,Nat.succ_ne_self,Nat.reduceEqDiff,ite_true,ite_false,true_and,reduceCtorEq,Nat.zero_add]
  refine Zad (Zaa [0,1,4,5] ?_)
  simp only [Zab,Zac,Zaf,pok,pval,VA.ev,Env.get,Env.put,Env.keep,Zae,Nat.succ_ne_self,List.map,Nat.reduceEqDiff,ite_true,ite_false,true_and,reduceCtorEq]
  refine Zat (Zcv _) ?_
  skip
  refine Zad (Zaa [0,1,4,5,6] ?_)
  simp only [Zab,Zac,Zaf,pok,pval,VA.ev,Env.get,Env.put,Env.keep,Zae,Nat.succ_ne_self,List.map,Nat.reduceEqDiff,ite_true,ite_false,true_and,reduceCtorEq]
  refine Zat (Zcv _) ?_
  skip
  refine Zad ?_
  refine Zad (Zaa [0,1,4,5,6,11] ?_)
  simp only [Zab,Zac,Zaf,pok,pval,VA.ev,Env.get,Env.put,Env.keep,Zae,Nat.succ_ne_self,Nat.reduceEqDiff,ite_true,ite_false,true_and,reduceCtorEq]
  refine Zai rfl (fun hh=>by cases hh) (fun _=>?_)
  refine Zak ?_
  simp only [Zae]
  refine Zad ?_
  refine Zad (Zaa [0,1,4,5,6,13] ?_)
  simp only [Zab,Zac,Zaf,pok,pval,VA.ev,Env.get,Env.put,Env.keep,Zae,Nat.succ_ne_self,Nat.reduceEqDiff,ite_true,ite_false,true_and,reduceCtorEq]
  refine Zai rfl (fun hh=>by cases hh) (fun _=>?_)
  refine Zak ?_
  simp only [Zae]
  refine Zad ?_
  refine Zad (Zaa [0,1,4,16] ?_)
  simp only [Zab,Zac,Zaf,pok,pval,VA.ev,Env.get,Env.put,Env.keep,Zae,intV,binV,Zah,Nat.succ_ne_self,Nat.reduceEqDiff,ite_true,ite_false,true_and,reduceCtorEq]
  refine Zai rfl (fun h1=>?_) (fun h1=>?_)
  · refine Zad (Zaa [4] ?_)
    simp only [Zab,Zac,Zaf,pok,pval,VA.ev,Env.get,Env.put,Env.keep,Zae,Nat.reduceEqDiff,ite_true,ite_false,true_and,reduceCtorEq]
    refine Zaq ?_
    simp only [Env.get,Zae,retQ,resV,Zau,RS.ev,RS.ok,ite_true,true_and,and_true]
    simp only [decide_eq_true_eq] at h1
    simp only [cmpI,if_pos h1]
    exact View.refl _ _
  refine Zak ?_
  simp only [Zae]
  refine Zad ?_
  refine Zad (Zaa [0,1,4,19] ?_)
  simp only [Zab,Zac,Zaf,pok,pval,VA.ev,Env.get,Env.put,Env.keep,Zae,intV,binV,Zah,Nat.succ_ne_self,Nat.reduceEqDiff,ite_true,ite_false,true_and,reduceCtorEq]
  refine Zai rfl (fun h2=>?_) (fun h2=>?_)
  · refine Zad (Zaa [4] ?_)
    simp only [Zab,Zac,Zaf,pok,pval,VA.ev,Env.get,Env.put,Env.keep,Zae,Nat.reduceEqDiff,ite_true,ite_false,true_and,reduceCtorEq]
    refine Zaq ?_
    simp only [Env.get,Zae,retQ,resV,Zau,RS.ev,RS.ok,ite_true,true_and,and_true]
    simp only [decide_eq_true_eq,decide_eq_false_iff_not] at h1 h2
    simp only [cmpI,if_neg h1,if_pos h2]
    exact View.refl _ _
  refine Zak ?_
  simp only [Zae]
  refine Zad (Zaa [4] ?_)
  simp only [Zab,Zac,Zaf,pok,pval,VA.ev,Env.get,Env.put,Env.keep,Zae,Nat.reduceEqDiff,ite_true,ite_false,true_and,reduceCtorEq]
  refine Zaq ?_
  simp only [Env.get,retQ,resV,Zau,RS.ev,RS.ok,ite_true,true_and,and_true]
  simp only [decide_eq_true_eq,decide_eq_false_iff_not] at h1 h2
  simp only [cmpI,if_neg h1,if_neg h2]
  exact View.refl _ _
def orI:List Int → Int
  | []=>0
  | x :: r=>if x = 0 then orI r else x
theorem orI_drop (l:List Int) (k:Nat) (h:k < l.length):orI (l.drop k) = if l[k] = 0 then orI (l.drop (k + 1)) else l[k]:=by
  rw [List.drop_eq_getElem_cons h]; rfl
theorem sp_cmp_Or_int (l:List Int) (hl:l.length ≤ 4611686018427387904):Zbq Tryz.prog 75 [.sl 1 (l.map fun x=>[pI x])] (pI (orI l)):=by
  refine Zao ?_ (Closed.of_scalar (scalar_int _ _)) (by simp only [Za1,List.mem_cons,List.not_mem_nil,or_false,forall_eq_or_imp,forall_eq,false_implies,implies_true]; repeat' (first  | exact cI _ | exact Zco _ | exact Za9 (by simp only [List.mem_cons,List.not_mem_nil,or_false,forall_eq]; first | exact cI _ | exact cS _ | exact Zav _) | refine And.intro ?_ ?_))
  refine Zar (vc:=c_cmp_Or_int) (ts:=[.t 2]) Go.Proofs.Tryz.func75 (by kernel_rfl) rfl rfl (Nat.le_of_ble_eq_true rfl) (by kernel_rfl) ?_
  unfold c_cmp_Or_int
  try dsimp only [ZM,ZO,ZN,ZG]
  refine Zad (Zaa [0] ?_)
  simp only [Zab,Zac,Zaf,pok,pval,VA.ev,Env.get,Env.put,Env.keep,Za3,Zae,Heap.nil,ite_true,ite_false,true_and,reduceCtorEq]
  refine Zad (Zaa [0,3] ?_)
  simp only [Zab,Zac,Zaf,pok,pval,VA.ev,Env.get,Env.put,Env.keep,Zae,ite_true,ite_false,true_and,reduceCtorEq]
  refine Zad ?_
  refine Zad (Zaa [3,6,7,8] ?_)
  simp only [Zab,Zac,Zaf,pok,pval,VA.ev,Env.get,Env.put,Env.keep,Zae,lenV,Zba,Nat.succ_ne_self,Nat.reduceEqDiff,ite_true,ite_false,true_and,reduceCtorEq]
  refine Zaj ?_
  refine Za6 (σ:={ k:Nat // k ≤ l.length ∧ orI (l.drop k) = orI l }) (fun s=>([(3,pI 0),(6,.sl 1 (l.map fun x=>[pI x])),(7,pI l.length),(8,pI s.1)],Heap.nil)) (fun s=>l.length - s.1) ⟨0,by simp⟩ ?_ ?_ ?_
  · simp only [Env.get,Nat.succ_ne_self,Env.le,Nat.reduceEqDiff,ite_true,ite_false,true_and,and_true,List.length_map]
    trivial
  · exact ⟨Nat.le_refl _,trivial⟩
  rintro ⟨k,hk,ho⟩
  simp only []
  refine Zad (Zaa [3,6,7,8,9] ?_)
  simp only [Zab,Zac,Zaf,pok,pval,VA.ev,Env.get,Env.put,Env.keep,Zae,intV,binV,Zah,Heap.le,HL.le,Heap.nil,Nat.succ_ne_self,Env.le,Nat.reduceEqDiff,ite_true,ite_false,true_and,and_true]
  refine Zad ?_
  refine Zai rfl (fun h1=>?_) (fun h1=>?_)
  · simp only [decide_eq_true_eq] at h1
    have hlt:k < l.length:=by omega
    refine Zak ?_
    try simp only [Zae]
    refine Zad ?_
    refine Zaj ?_
    refine Zad (Zaa [3,5,6,7,8] ?_)
    simp only [Zab,Zac,Zaf,pok,pval,VA.ev,Env.get,Env.put,Env.keep,Zae,aggV,isInt,numOf,lenV,Zag,Zap,Za0,Zas,PV.nth,PV.row,Nat.le_refl,Nat.succ_ne_self,List.length,List.getD_cons_zero,List.take,List.take_succ_cons,Nat.reduceEqDiff,Bool.false_eq_true,ite_true,ite_false,true_and,and_true,implies_true,Nat.zero_add,List.length_cons,Int.toNat_natCast,List.length_map,rowm hlt]
    repeat (with_reducible refine And.intro ?_ ?_; first | omega | (with_reducible constructor <;> omega) | exact False.elim | exact True.intro)
    refine Zad (Zaa [3,5,6,7,8,14] ?_)
    simp only [Zab,Zac,Zaf,pok,pval,VA.ev,Env.get,Env.put,Env.keep,Zae,intV,binV,Zah,Nat.succ_ne_self,Nat.reduceEqDiff,ite_true,ite_false,true_and]
    refine Zai rfl (fun h2=>?_) (fun h2=>?_)
    · refine Zad (Zaa [2] ?_)
      simp only [Zab,Zac,Zaf,pok,pval,VA.ev,Env.get,Env.put,Env.keep,Zae,Nat.succ_ne_self,Nat.reduceEqDiff,ite_true,ite_false,true_and]
      refine Zaq ?_
      try simp only [Env.get,Zae,Zal,retQ,resV,Zau,RS.ev,RS.ok,ite_true,true_and,and_true]
      simp only [bne_iff_ne,ne_eq] at h2
      rw [← ho,orI_drop l k hlt,if_neg h2]
      exact View.refl _ _
    refine Zak ?_
    try simp only [Zae,Zal]
    refine Zaa [3,6,7,8] ?_
    simp only [Zab,Zac,Zaf,pok,pval,VA.ev,Env.get,Env.put,Env.keep,Zae,intV,binV,Zah,Nat.le_refl,Nat.succ_ne_self,Nat.reduceEqDiff,ite_true,ite_false,true_and,w64 (n:=(k:Int) + 1) (by omega) (by omega)]
    refine ⟨⟨k + 1,by omega,?_⟩,?_,?_⟩
    · simp only [bne_eq_false_iff_eq] at h2
      rw [← ho,orI_drop l k hlt,if_pos h2]
    · simp
    · dsimp only; omega
  · simp only [decide_eq_false_iff_not] at h1
    have hk':k = l.length:=by omega
    refine Za4 ?_
    try simp only [Zae,Zal,retQ,ite_true]
    refine Zad (Zaa [2] ?_)
    simp only [Zab,Zac,Zaf,pok,pval,VA.ev,Env.get,Env.put,Env.keep,Zae,Nat.succ_ne_self,Nat.reduceEqDiff,ite_true,ite_false,true_and]
    refine Zaq ?_
    try simp only [Env.get,retQ,resV,Zau,RS.ev,RS.ok,ite_true,true_and,and_true]
    rw [← ho,hk',List.drop_length]
    exact View.refl _ _
def key (a:EI) (k:Nat):Int:=match k with | 0=>a.day | 1=>a.act | _=>a.item
end Go.Proofs.YtehokmhebnkfdaaGreat.w
namespace Go.Proofs.YtehokmhebnkfdaaGreat.w
open Go Go.VM
def c_pandectref04_Same:VC:=(.seq (.region [ZO 4 (.mv (.c (.bool false)))] false) (.seq (.seq (.region [ZM 6 0,ZO 7 (.len false (.t 6)),ZM 8 1,ZO 9 (.len false (.t 8)),ZO 10 (.bin .neq (.t 7) (.t 9))] false) (.cond (.t 10) (.seq (.region [ZO 4 (.mv (.c (.bool false)))] false) .ret) .skip)) (.seq (.seq (.region [ZO 5 (.mv (.c (.int .i64 0)))] false) (.block 0 (.loop (.seq (.seq (.region [ZM 11 5,ZM 12 0,ZO 13 (.len false (.t 12)),ZO 14 (.bin .lss (.t 11) (.t 13))] false) (.cond (.t 14) .skip (.exit 0))) (.seq (.block 1 (.seq (.region [ZM 17 0,ZM 18 5,ZO 19 (.iaddr 1 (.t 17) (.t 18)),ZO 20 (.load false 1 (.t 19)),ZM 21 1,ZM 22 5,ZO 23 (.iaddr 1 (.t 21) (.t 22)),ZO 24 (.load false 1 (.t 23)),ZO 25 (.bin .neq (.t 20) (.t 24))] true) (.cond (.t 25) (.seq (.region [ZO 4 (.mv (.c (.bool false)))] false) .ret) .skip))) (.region [ZM 15 5,ZO 16 (.bin .add (.t 15) (.c (.int .i64 1))),ZM 5 16] false)))))) (.seq (.region [ZO 4 (.mv (.c (.bool true)))] false) .ret))))
def c_pandectref07_Same:VC:=(.seq (.region [ZO 4 (.mv (.c (.bool false)))] false) (.seq (.seq (.region [ZM 6 0,ZO 7 (.len false (.t 6)),ZM 8 1,ZO 9 (.len false (.t 8)),ZO 10 (.bin .neq (.t 7) (.t 9))] false) (.cond (.t 10) (.seq (.region [ZO 4 (.mv (.c (.bool false)))] false) .ret) .skip)) (.seq (.seq (.region [ZO 5 (.mv (.c (.int .i64 0)))] false) (.block 0 (.loop (.seq (.seq (.region [ZM 11 5,ZM 12 0,ZO 13 (.len false (.t 12)),ZO 14 (.bin .lss (.t 11) (.t 13))] false) (.cond (.t 14) .skip (.exit 0))) (.seq (.block 1 (.seq (.region [ZM 17 0,ZM 18 5,ZO 19 (.iaddr 2 (.t 17) (.t 18)),ZO 20 (.load true 2 (.t 19)),ZM 21 1,ZM 22 5,ZO 23 (.iaddr 2 (.t 21) (.t 22)),ZO 24 (.load true 2 (.t 23)),ZO 25 (.eqs true [.i,.s] (.t 20) (.t 24))] true) (.cond (.t 25) (.seq (.region [ZO 4 (.mv (.c (.bool false)))] false) .ret) .skip))) (.region [ZM 15 5,ZO 16 (.bin .add (.t 15) (.c (.int .i64 1))),ZM 5 16] false)))))) (.seq (.region [ZO 4 (.mv (.c (.bool true)))] false) .ret))))
def c_pandectref06_Rows:VC:=(.seq (.region [ZO 4 (.mv (.c (.bool false)))] false) (.seq (.seq (.region [ZM 6 0,ZO 7 (.len false (.t 6)),ZM 8 1,ZO 9 (.len false (.t 8)),ZO 10 (.bin .neq (.t 7) (.t 9))] false) (.cond (.t 10) (.seq (.region [ZO 4 (.mv (.c (.bool false)))] false) .ret) .skip)) (.seq (.seq (.region [ZO 5 (.mv (.c (.int .i64 0)))] false) (.block 0 (.loop (.seq (.seq (.region [ZM 11 5,ZM 12 0,ZO 13 (.len false (.t 12)),ZO 14 (.bin .lss (.t 11) (.t 13))] false) (.cond (.t 14) .skip (.exit 0))) (.seq (.block 1 (.seq (.region [ZM 17 0,ZM 18 5,ZO 19 (.iaddr 4 (.t 17) (.t 18)),ZO 20 (.load true 4 (.t 19)),ZM 21 1,ZM 22 5,ZO 23 (.iaddr 4 (.t 21) (.t 22)),ZO 24 (.load true 4 (.t 23)),ZO 25 (.eqs true [.s,.i,.i,.i] (.t 20) (.t 24))] true) (.cond (.t 25) (.seq (.region [ZO 4 (.mv (.c (.bool false)))] false) .ret) .skip))) (.region [ZM 15 5,ZO 16 (.bin .add (.t 15) (.c (.int .i64 1))),ZM 5 16] false)))))) (.seq (.region [ZO 4 (.mv (.c (.bool true)))] false) .ret))))
def sts (l:List St):PV:=.sl 2 (l.map St.enc)
def wds (l:List Wd):PV:=.sl 4 (l.map Wd.enc)
theorem st_ext {a b:St} (h1:a.kind = b.kind) (h2:a.label = b.label):a = b:=by cases a; cases b; simp_all
theorem wd_ext {a b:Wd} (h1:a.text = b.text) (h2:a.act = b.act) (h3:a.item = b.item) (h4:a.at' = b.at'):a = b:=by cases a; cases b; simp_all
theorem sp_pandectref04_Same (l m:List Str) (hl0:l.length ≤ maxLen):Zbq Tryz.prog 30 [It.strs l,It.strs m] (.bool (eqB l m)):=by
  have hl:l.length ≤ 9223372036854775807:=hl0
  refine Zao ?_ (Closed.of_scalar (Zcd _)) (by simp only [Za1,List.mem_cons,List.not_mem_nil,or_false,forall_eq_or_imp,forall_eq,false_implies,implies_true]; repeat' (first  | exact cS _ | exact cB _ | exact closed_strs _ | refine And.intro ?_ ?_))
  refine Zar (vc:=c_pandectref04_Same) (ts:=[.t 4]) Go.Proofs.Tryz.func30 (by kernel_rfl) rfl rfl (Nat.le_of_ble_eq_true rfl) (by kernel_rfl) ?_
  unfold c_pandectref04_Same
  try dsimp only [ZM,ZO,ZN,ZG]
  refine Zad (Zaa [0,1] ?_)
  simp only [Zab,Zac,Zaf,pok,pval,VA.ev,Env.get,Env.put,Env.keep,Za3,Zae,Heap.nil,Nat.succ_ne_self,Nat.reduceEqDiff,ite_true,ite_false,true_and,reduceCtorEq,Nat.zero_add,It.strs]
  refine Zad ?_
  refine Zad (Zaa [0,1,10] ?_)
  simp only [Zab,Zac,Zaf,pok,pval,VA.ev,Env.get,Env.put,Env.keep,Zae,intV,binV,Zah,lenV,Zba,Nat.succ_ne_self,Nat.reduceEqDiff,ite_true,ite_false,true_and,reduceCtorEq,List.length_map]
  refine Zai rfl (fun h1=>?_) (fun h1=>?_)
  · refine Zad (Zaa [4] ?_)
    simp only [Zab,Zac,Zaf,pok,pval,VA.ev,Env.get,Env.put,Env.keep,Zae,Nat.reduceEqDiff,ite_true,ite_false,true_and,reduceCtorEq]
    refine Zaq ?_
    try simp only [Env.get,Zae,retQ,resV,Zau,RS.ev,RS.ok,ite_true,true_and,and_true]
    simp only [bne_iff_ne,ne_eq,Int.natCast_inj] at h1
    rw [eqB_f (len_ne h1)]
    exact View.refl _ _
  simp only [bne_eq_false_iff_eq,Int.natCast_inj] at h1
  refine Zak ?_
  try simp only [Zae]
  refine Zad ?_
  refine Zad (Zaa [0,1,5] ?_)
  simp only [Zab,Zac,Zaf,pok,pval,VA.ev,Env.get,Env.put,Env.keep,Zae,Nat.succ_ne_self,Nat.reduceEqDiff,ite_true,ite_false,true_and,reduceCtorEq,List.length_map]
  refine Zaj ?_
  refine Za6 (σ:={ k:Nat // k ≤ l.length ∧ l.take k = m.take k }) (fun s=>([(0,.sl 1 (l.map fun s=>[.str s])),(1,.sl 1 (m.map fun s=>[.str s])),(5,pI s.1)],Heap.nil)) (fun s=>l.length - s.1) ⟨0,by simp⟩ ?_ ?_ ?_
  · simp only [Env.get,Nat.succ_ne_self,Env.le,Nat.reduceEqDiff,ite_true,ite_false,true_and,and_true,reduceCtorEq]
    first | rfl | exact ⟨rfl,rfl⟩
  · exact ⟨Nat.le_refl _,trivial⟩
  rintro ⟨k,hk,he⟩
  simp only []
  refine Zad ?_
  refine Zad (Zaa [0,1,5,14] ?_)
  simp only [Zab,Zac,Zaf,pok,pval,VA.ev,Env.get,Env.put,Env.keep,Zae,intV,binV,Zah,lenV,Zba,Heap.le,HL.le,Heap.nil,Nat.succ_ne_self,Env.le,Nat.reduceEqDiff,ite_true,ite_false,true_and,and_true,reduceCtorEq,List.length_map]
  refine Zai rfl (fun h2=>?_) (fun h2=>?_)
  · refine Zak ?_
    try simp only [Zae]
    simp only [decide_eq_true_eq] at h2
    have ka:k < l.length:=by omega
    have kb:k < m.length:=by omega
    refine Zad ?_
    refine Zaj ?_
    refine Zad (Zb6 [0,1,5,25] (by simp [Heap.le,Heap.get,HL.le,HL.get]) ?_)
    simp only [Zbn,Zb5,QW,dok,dval,VOp.pure,VOp.simple,VOp.det,pok,pval,VA.ev,Env.get,Env.put,Env.keep,Zae,gd,aggV,binV,Zah,strV,isInt,numOf,lenV,Zag,Zap,Za0,Zas,PV.nth,PV.row,Nat.le_refl,Nat.succ_ne_self,List.length,List.getD_cons_zero,List.take,List.take_succ_cons,Nat.reduceEqDiff,Bool.false_eq_true,ite_true,ite_false,true_and,and_true,implies_true,forall_const,reduceCtorEq,Nat.zero_add,List.length_cons,Int.toNat_natCast,List.length_map,rowm ka,rowm kb,List.length_map]
    repeat (with_reducible refine And.intro ?_ ?_; first | omega | (with_reducible constructor <;> omega) | exact False.elim | exact True.intro)
    refine Zai rfl (fun h3=>?_) (fun h3=>?_)
    · refine Zad (Zaa [4] ?_)
      simp only [Zab,Zac,Zaf,pok,pval,VA.ev,Env.get,Env.put,Env.keep,Zae,Nat.succ_ne_self,Nat.reduceEqDiff,ite_true,ite_false,true_and,reduceCtorEq]
      refine Zaq ?_
      try simp only [Env.get,Zae,Zal,retQ,resV,Zau,RS.ev,RS.ok,ite_true,true_and,and_true]
      have h4:l[k] ≠ m[k]:=by
        intro e
        rw [e] at h3
        simp at h3
      rw [eqB_f (get_ne ka kb h4)]
      exact View.refl _ _
    have h4:l[k] = m[k]:=by
      simpa using h3
    refine Zak ?_
    try simp only [Zae,Zal]
    refine Zaa [0,1,5] ?_
    simp only [Zab,Zac,Zaf,pok,pval,VA.ev,Env.get,Env.put,Env.keep,Zae,intV,binV,Zah,Nat.le_refl,Nat.succ_ne_self,Nat.reduceEqDiff,ite_true,ite_false,true_and,reduceCtorEq,w64 (n:=(k:Int) + 1) (by omega) (by omega)]
    refine ⟨⟨k + 1,by omega,take_step he ka kb h4⟩,?_,?_⟩
    · simp
    · dsimp only; omega
  · simp only [decide_eq_false_iff_not] at h2
    obtain rfl:k = l.length:=by omega
    refine Za4 ?_
    try simp only [Zae,Zal,retQ,ite_true]
    refine Zad (Zaa [4] ?_)
    simp only [Zab,Zac,Zaf,pok,pval,VA.ev,Env.get,Env.put,Env.keep,Zae,Nat.succ_ne_self,Nat.reduceEqDiff,ite_true,ite_false,true_and,reduceCtorEq]
    refine Zaq ?_
    try simp only [Env.get,retQ,resV,Zau,RS.ev,RS.ok,ite_true,true_and,and_true]
    rw [eqB_t (take_all h1 he)]
    exact View.refl _ _
theorem sp_pandectref07_Same (l m:List St) (hl0:l.length ≤ maxLen):Zbq Tryz.prog 87 [sts l,sts m] (.bool (eqB l m)):=by
  have hl:l.length ≤ 9223372036854775807:=hl0
  refine Zao ?_ (Closed.of_scalar (Zcd _)) (by simp only [Za1,List.mem_cons,List.not_mem_nil,or_false,forall_eq_or_imp,forall_eq,false_implies,implies_true]; repeat' (first  | exact cB _ | exact Zbk (fun w _=>St.closed w) | refine And.intro ?_ ?_))
  refine Zar (vc:=c_pandectref07_Same) (ts:=[.t 4]) Go.Proofs.Tryz.func87 (by kernel_rfl) rfl rfl (Nat.le_of_ble_eq_true rfl) (by kernel_rfl) ?_
  unfold c_pandectref07_Same
  try dsimp only [ZM,ZO,ZN,ZG]
  refine Zad (Zaa [0,1] ?_)
  simp only [Zab,Zac,Zaf,pok,pval,VA.ev,Env.get,Env.put,Env.keep,Za3,Zae,Heap.nil,Nat.succ_ne_self,Nat.reduceEqDiff,ite_true,ite_false,true_and,reduceCtorEq,Nat.zero_add,sts]
  refine Zad ?_
  refine Zad (Zaa [0,1,10] ?_)
  simp only [Zab,Zac,Zaf,pok,pval,VA.ev,Env.get,Env.put,Env.keep,Zae,intV,binV,Zah,lenV,Zba,Nat.succ_ne_self,Nat.reduceEqDiff,ite_true,ite_false,true_and,reduceCtorEq,List.length_map]
  refine Zai rfl (fun h1=>?_) (fun h1=>?_)
  · refine Zad (Zaa [4] ?_)
    simp only [Zab,Zac,Zaf,pok,pval,VA.ev,Env.get,Env.put,Env.keep,Zae,Nat.reduceEqDiff,ite_true,ite_false,true_and,reduceCtorEq]
    refine Zaq ?_
    try simp only [Env.get,Zae,retQ,resV,Zau,RS.ev,RS.ok,ite_true,true_and,and_true]
    simp only [bne_iff_ne,ne_eq,Int.natCast_inj] at h1
    rw [eqB_f (len_ne h1)]
    exact View.refl _ _
  simp only [bne_eq_false_iff_eq,Int.natCast_inj] at h1
  refine Zak ?_
  try simp only [Zae]
  refine Zad ?_
  refine Zad (Zaa [0,1,5] ?_)
  simp only [Zab,Zac,Zaf,pok,pval,VA.ev,Env.get,Env.put,Env.keep,Zae,Nat.succ_ne_self,Nat.reduceEqDiff,ite_true,ite_false,true_and,reduceCtorEq,List.length_map]
  refine Zaj ?_
  refine Za6 (σ:={ k:Nat // k ≤ l.length ∧ l.take k = m.take k }) (fun s=>([(0,.sl 2 (l.map St.enc)),(1,.sl 2 (m.map St.enc)),(5,pI s.1)],Heap.nil)) (fun s=>l.length - s.1) ⟨0,by simp⟩ ?_ ?_ ?_
  · simp only [Env.get,Nat.succ_ne_self,Env.le,Nat.reduceEqDiff,ite_true,ite_false,true_and,and_true,reduceCtorEq]
    first | rfl | exact ⟨rfl,rfl⟩
  · exact ⟨Nat.le_refl _,trivial⟩
  rintro ⟨k,hk,he⟩
  simp only []
  refine Zad ?_
  refine Zad (Zaa [0,1,5,14] ?_)
  simp only [Zab,Zac,Zaf,pok,pval,VA.ev,Env.get,Env.put,Env.keep,Zae,intV,binV,Zah,lenV,Zba,Heap.le,HL.le,Heap.nil,Nat.succ_ne_self,Env.le,Nat.reduceEqDiff,ite_true,ite_false,true_and,and_true,reduceCtorEq,List.length_map]
  refine Zai rfl (fun h2=>?_) (fun h2=>?_)
  · refine Zak ?_
    try simp only [Zae]
    simp only [decide_eq_true_eq] at h2
    have ka:k < l.length:=by omega
    have kb:k < m.length:=by omega
    refine Zad ?_
    refine Zaj ?_
    refine Zad (Zb6 [0,1,5,25] (by simp [Heap.le,Heap.get,HL.le,HL.get]) ?_)
    simp only [Zbn,Zb5,QW,dok,dval,VOp.pure,VOp.simple,VOp.det,pok,pval,VA.ev,Env.get,Env.put,Env.keep,Zae,gd,aggV,isInt,numOf,lenV,Zag,Zap,Zbt,isAggP,Za0,Zas,PV.nth,PV.row,Nat.le_refl,Nat.succ_ne_self,eqOk,ekOk,Zbd,Zb2,List.length,List.getD_cons_zero,List.take,List.take_succ_cons,Nat.reduceEqDiff,Nat.reduceAdd,Bool.true_eq_false,ite_true,ite_false,true_and,and_true,implies_true,forall_const,reduceCtorEq,Nat.zero_add,List.length_cons,imp_self,Int.toNat_natCast,List.length_map,rowm ka,rowm kb,St.enc]
    repeat (with_reducible refine And.intro ?_ ?_; first | omega | (with_reducible constructor <;> omega) | exact False.elim | exact True.intro)
    refine Zai rfl (fun h3=>?_) (fun h3=>?_)
    · refine Zad (Zaa [4] ?_)
      simp only [Zab,Zac,Zaf,pok,pval,VA.ev,Env.get,Env.put,Env.keep,Zae,Nat.succ_ne_self,Nat.reduceEqDiff,ite_true,ite_false,true_and,reduceCtorEq]
      refine Zaq ?_
      try simp only [Env.get,Zae,Zal,retQ,resV,Zau,RS.ev,RS.ok,ite_true,true_and,and_true]
      have h4:l[k] ≠ m[k]:=by
        intro e
        rw [e] at h3
        simp at h3
      rw [eqB_f (get_ne ka kb h4)]
      exact View.refl _ _
    have h4:l[k] = m[k]:=by
      simp at h3
      exact st_ext h3.1 h3.2
    refine Zak ?_
    try simp only [Zae,Zal]
    refine Zaa [0,1,5] ?_
    simp only [Zab,Zac,Zaf,pok,pval,VA.ev,Env.get,Env.put,Env.keep,Zae,intV,binV,Zah,Nat.le_refl,Nat.succ_ne_self,Nat.reduceEqDiff,ite_true,ite_false,true_and,reduceCtorEq,w64 (n:=(k:Int) + 1) (by omega) (by omega)]
    refine ⟨⟨k + 1,by omega,take_step he ka kb h4⟩,?_,?_⟩
    · simp
    · dsimp only; omega
  · simp only [decide_eq_false_iff_not] at h2
    obtain rfl:k = l.length:=by omega
    refine Za4 ?_
    try simp only [Zae,Zal,retQ,ite_true]
    refine Zad (Zaa [4] ?_)
    simp only [Zab,Zac,Zaf,pok,pval,VA.ev,Env.get,Env.put,Env.keep,Zae,Nat.succ_ne_self,Nat.reduceEqDiff,ite_true,ite_false,true_and,reduceCtorEq]
    refine Zaq ?_
    try simp only [Env.get,retQ,resV,Zau,RS.ev,RS.ok,ite_true,true_and,and_true]
    rw [eqB_t (take_all h1 he)]
    exact View.refl _ _
theorem sp_pandectref06_Rows (l m:List Wd) (hl0:l.length ≤ maxLen):Zbq Tryz.prog 122 [wds l,wds m] (.bool (eqB l m)):=by
  have hl:l.length ≤ 9223372036854775807:=hl0
  refine Zao ?_ (Closed.of_scalar (Zcd _)) (by simp only [Za1,List.mem_cons,List.not_mem_nil,or_false,forall_eq_or_imp,forall_eq,false_implies,implies_true]; repeat' (first  | exact cB _ | exact Zbk (fun w _=>Wd.closed w) | refine And.intro ?_ ?_))
  refine Zar (vc:=c_pandectref06_Rows) (ts:=[.t 4]) Go.Proofs.Tryz.func122 (by kernel_rfl) rfl rfl (Nat.le_of_ble_eq_true rfl) (by kernel_rfl) ?_
  unfold c_pandectref06_Rows
  try dsimp only [ZM,ZO,ZN,ZG]
  refine Zad (Zaa [0,1] ?_)
  simp only [Zab,Zac,Zaf,pok,pval,VA.ev,Env.get,Env.put,Env.keep,Za3,Zae,Heap.nil,Nat.succ_ne_self,Nat.reduceEqDiff,ite_true,ite_false,true_and,reduceCtorEq,Nat.zero_add,wds]
  refine Zad ?_
  refine Zad (Zaa [0,1,10] ?_)
  simp only [Zab,Zac,Zaf,pok,pval,VA.ev,Env.get,Env.put,Env.keep,Zae,intV,binV,Zah,lenV,Zba,Nat.succ_ne_self,Nat.reduceEqDiff,ite_true,ite_false,true_and,reduceCtorEq,List.length_map]
  refine Zai rfl (fun h1=>?_) (fun h1=>?_)
  · refine Zad (Zaa [4] ?_)
    simp only [Zab,Zac,Zaf,pok,pval,VA.ev,Env.get,Env.put,Env.keep,Zae,Nat.reduceEqDiff,ite_true,ite_false,true_and,reduceCtorEq]
    refine Zaq ?_
    try simp only [Env.get,Zae,retQ,resV,Zau,RS.ev,RS.ok,ite_true,true_and,and_true]
    simp only [bne_iff_ne,ne_eq,Int.natCast_inj] at h1
    rw [eqB_f (len_ne h1)]
    exact View.refl _ _
  simp only [bne_eq_false_iff_eq,Int.natCast_inj] at h1
  refine Zak ?_
  try simp only [Zae]
  refine Zad ?_
  refine Zad (Zaa [0,1,5] ?_)
  simp only [Zab,Zac,Zaf,pok,pval,VA.ev,Env.get,Env.put,Env.keep,Zae,Nat.succ_ne_self,Nat.reduceEqDiff,ite_true,ite_false,true_and,reduceCtorEq,List.length_map]
  refine Zaj ?_
  refine Za6 (σ:={ k:Nat // k ≤ l.length ∧ l.take k = m.take k }) (fun s=>([(0,.sl 4 (l.map Wd.enc)),(1,.sl 4 (m.map Wd.enc)),(5,pI s.1)],Heap.nil)) (fun s=>l.length - s.1) ⟨0,by simp⟩ ?_ ?_ ?_
  · simp only [Env.get,Nat.succ_ne_self,Env.le,Nat.reduceEqDiff,ite_true,ite_false,true_and,and_true,reduceCtorEq]
    first | rfl | exact ⟨rfl,rfl⟩
  · exact ⟨Nat.le_refl _,trivial⟩
  rintro ⟨k,hk,he⟩
  simp only []
  refine Zad ?_
  refine Zad (Zaa [0,1,5,14] ?_)
  simp only [Zab,Zac,Zaf,pok,pval,VA.ev,Env.get,Env.put,Env.keep,Zae,intV,binV,Zah,lenV,Zba,Heap.le,HL.le,Heap.nil,Nat.succ_ne_self,Env.le,Nat.reduceEqDiff,ite_true,ite_false,true_and,and_true,reduceCtorEq,List.length_map]
  refine Zai rfl (fun h2=>?_) (fun h2=>?_)
  · refine Zak ?_
    try simp only [Zae]
    simp only [decide_eq_true_eq] at h2
    have ka:k < l.length:=by omega
    have kb:k < m.length:=by omega
    refine Zad ?_
    refine Zaj ?_
    refine Zad (Zb6 [0,1,5,25] (by simp [Heap.le,Heap.get,HL.le,HL.get]) ?_)
    simp only [Zbn,Zb5,QW,dok,dval,VOp.pure,VOp.simple,VOp.det,pok,pval,VA.ev,Env.get,Env.put,Env.keep,Zae,gd,aggV,isInt,numOf,lenV,Zag,Zap,Zbt,isAggP,Za0,Zas,PV.nth,PV.row,Nat.le_refl,Nat.succ_ne_self,eqOk,ekOk,Zbd,Zb2,List.length,List.getD_cons_zero,List.take,List.take_succ_cons,Nat.reduceEqDiff,Nat.reduceAdd,Bool.true_eq_false,ite_true,ite_false,true_and,and_true,implies_true,forall_const,reduceCtorEq,Nat.zero_add,List.length_cons,imp_self,Int.toNat_natCast,List.length_map,rowm ka,rowm kb,Wd.enc]
    repeat (with_reducible refine And.intro ?_ ?_; first | omega | (with_reducible constructor <;> omega) | exact False.elim | exact True.intro)
    refine Zai rfl (fun h3=>?_) (fun h3=>?_)
    · refine Zad (Zaa [4] ?_)
      simp only [Zab,Zac,Zaf,pok,pval,VA.ev,Env.get,Env.put,Env.keep,Zae,Nat.succ_ne_self,Nat.reduceEqDiff,ite_true,ite_false,true_and,reduceCtorEq]
      refine Zaq ?_
      try simp only [Env.get,Zae,Zal,retQ,resV,Zau,RS.ev,RS.ok,ite_true,true_and,and_true]
      have h4:l[k] ≠ m[k]:=by
        intro e
        rw [e] at h3
        simp at h3
      rw [eqB_f (get_ne ka kb h4)]
      exact View.refl _ _
    have h4:l[k] = m[k]:=by
      simp at h3
      exact wd_ext h3.1 h3.2.1 h3.2.2.1 h3.2.2.2
    refine Zak ?_
    try simp only [Zae,Zal]
    refine Zaa [0,1,5] ?_
    simp only [Zab,Zac,Zaf,pok,pval,VA.ev,Env.get,Env.put,Env.keep,Zae,intV,binV,Zah,Nat.le_refl,Nat.succ_ne_self,Nat.reduceEqDiff,ite_true,ite_false,true_and,reduceCtorEq,w64 (n:=(k:Int) + 1) (by omega) (by omega)]
    refine ⟨⟨k + 1,by omega,take_step he ka kb h4⟩,?_,?_⟩
    · simp
    · dsimp only; omega
  · simp only [decide_eq_false_iff_not] at h2
    obtain rfl:k = l.length:=by omega
    refine Za4 ?_
    try simp only [Zae,Zal,retQ,ite_true]
    refine Zad (Zaa [4] ?_)
    simp only [Zab,Zac,Zaf,pok,pval,VA.ev,Env.get,Env.put,Env.keep,Zae,Nat.succ_ne_self,Nat.reduceEqDiff,ite_true,ite_false,true_and,reduceCtorEq]
    refine Zaq ?_
    try simp only [Env.get,retQ,resV,Zau,RS.ev,RS.ok,ite_true,true_and,and_true]
    rw [eqB_t (take_all h1 he)]
    exact View.refl _ _
end Go.Proofs.YtehokmhebnkfdaaGreat.w
namespace Go.Proofs.YtehokmhebnkfdaaGreat.w
open Go Go.VM
set_option maxRecDepth 20000
set_option maxHeartbeats 0
def c_pandectref06_Same:VC:=(.seq (.region [ZO 2 (.box 8 (.t 0)),ZO 3 (.box 8 (.t 1)),ZO 4 (.mv (.c (.bool false)))] false) (.seq (.seq (.region [ZO 6 (.faddr 0 (.t 2)),ZO 7 (.load true 3 (.t 6)),ZO 8 (.faddr 0 (.t 3)),ZO 9 (.load true 3 (.t 8)),ZO 10 (.eqs true [.i,.i,.i] (.t 7) (.t 9)),ZM 11 10,ZG 12 (.faddr 3 (.t 2)) 11 false,ZG 13 (.load false 1 (.t 12)) 11 false,ZG 14 (.faddr 3 (.t 3)) 11 false,ZG 15 (.load false 1 (.t 14)) 11 false,ZG 16 (.bin .neq (.t 13) (.t 15)) 11 false,ZO 17 (.pick (.t 11) (.c (.bool true)) (.t 16)),ZM 18 17,ZG 19 (.faddr 4 (.t 2)) 18 false,ZG 20 (.load false 1 (.t 19)) 18 false,ZG 21 (.faddr 4 (.t 3)) 18 false,ZG 22 (.load false 1 (.t 21)) 18 false,ZG 23 (.bin .neq (.t 20) (.t 22)) 18 false,ZO 24 (.pick (.t 18) (.c (.bool true)) (.t 23)),ZM 25 24,ZG 26 (.faddr 5 (.t 2)) 25 false,ZG 27 (.load false 1 (.t 26)) 25 false,ZG 28 (.faddr 5 (.t 3)) 25 false,ZG 29 (.load false 1 (.t 28)) 25 false,ZG 30 (.call 122 [(.t 27),(.t 29)]) 25 false,ZG 31 (.un .not (.t 30)) 25 false,ZO 32 (.pick (.t 25) (.c (.bool true)) (.t 31)),ZM 33 32,ZG 34 (.faddr 6 (.t 2)) 33 false,ZG 35 (.load false 1 (.t 34)) 33 false,ZG 36 (.faddr 6 (.t 3)) 33 false,ZG 37 (.load false 1 (.t 36)) 33 false,ZG 38 (.call 122 [(.t 35),(.t 37)]) 33 false,ZG 39 (.un .not (.t 38)) 33 false,ZO 40 (.pick (.t 33) (.c (.bool true)) (.t 39)),ZM 41 40,ZG 42 (.faddr 7 (.t 2)) 41 false,ZG 43 (.load false 1 (.t 42)) 41 false,ZG 44 (.len false (.t 43)) 41 false,ZG 45 (.faddr 7 (.t 3)) 41 false,ZG 46 (.load false 1 (.t 45)) 41 false,ZG 47 (.len false (.t 46)) 41 false,ZG 48 (.bin .neq (.t 44) (.t 47)) 41 false,ZO 49 (.pick (.t 41) (.c (.bool true)) (.t 48))] false) (.cond (.t 49) (.seq (.region [ZO 4 (.mv (.c (.bool false)))] false) .ret) .skip)) (.seq (.seq (.region [ZO 5 (.mv (.c (.int .i64 0)))] false) (.block 0 (.loop (.seq (.seq (.region [ZM 50 5,ZO 51 (.faddr 7 (.t 2)),ZO 52 (.load false 1 (.t 51)),ZO 53 (.len false (.t 52)),ZO 54 (.bin .lss (.t 50) (.t 53))] false) (.cond (.t 54) .skip (.exit 0))) (.seq (.block 1 (.seq (.region [ZO 57 (.faddr 7 (.t 2)),ZO 58 (.load false 1 (.t 57)),ZM 59 5,ZO 60 (.iaddr 8 (.t 58) (.t 59)),ZO 61 (.load true 8 (.t 60)),ZO 62 (.faddr 7 (.t 3)),ZO 63 (.load false 1 (.t 62)),ZM 64 5,ZO 65 (.iaddr 8 (.t 63) (.t 64)),ZO 66 (.load true 8 (.t 65)),ZO 67 (.call 88 [(.t 61),(.t 66)]),ZO 68 (.un .not (.t 67))] true) (.cond (.t 68) (.seq (.region [ZO 4 (.mv (.c (.bool false)))] false) .ret) .skip))) (.region [ZM 55 5,ZO 56 (.bin .add (.t 55) (.c (.int .i64 1))),ZM 5 56] false)))))) (.seq (.region [ZO 4 (.mv (.c (.bool true)))] false) .ret))))
theorem un_take (u:Un):u.enc.take 8 = u.enc:=List.take_of_length_le (by rw [rd.un_len]; exact Nat.le_refl _)
theorem un_size {u:Un} {k:Nat} (h:k < u.kids.length):SizeOf.sizeOf u.kids[k] < SizeOf.sizeOf u:=by
  match u,h with
  | .mk a i n kd l hd w ks,h =>
    have h1:SizeOf.sizeOf ks[k] < SizeOf.sizeOf ks:=List.sizeOf_lt_of_mem (List.getElem_mem h)
    rw [Un.mk.sizeOf_spec]
    show SizeOf.sizeOf ks[k] < _
    omega
theorem un_eq {a b:Un} (q1:a.act = b.act) (q2:a.item = b.item) (q3:a.n = b.n) (q4:a.kind = b.kind) (q5:a.label = b.label) (q6:a.head = b.head) (q7:a.words = b.words) (q8:a.kids = b.kids):a = b:=by
  cases a; cases b; simp_all [Un.act,Un.item,Un.n,Un.kind,Un.label,Un.head,Un.words,Un.kids]
theorem un_ok_kids {u:Un} (h:u.ok):u.kids.length ≤ maxLen ∧ ∀ k ∈ u.kids,k.ok:=by cases h; exact ⟨by assumption,by assumption⟩
theorem un_ok_head {u:Un} (h:u.ok):u.head.length ≤ maxLen:=by
  cases h with
  | mk _ _ _ _ _ _ h6=>exact h6.1
theorem un_ok_words {u:Un} (h:u.ok):u.words.length ≤ maxLen:=by
  cases h with
  | mk _ _ _ _ _ _ _ h7=>exact h7.1
theorem sp_pandectref06_Same (a b:Un) (ha:a.ok) (hb:b.ok):Zbq Tryz.prog 88 [.agg a.enc,.agg b.enc] (.bool (eqB a b)):=by
  have ea:=Un.Zb8 a
  have eb:=Un.Zb8 b
  refine Zao ?_ (Closed.of_scalar (Zcd _)) (by simp only [Za1,List.mem_cons,List.not_mem_nil,or_false,forall_eq_or_imp,forall_eq,false_implies,implies_true]; repeat' (first  | exact cB _ | exact Zax (Un.closed _) | refine And.intro ?_ ?_))
  refine Zar (vc:=c_pandectref06_Same) (ts:=[.t 4]) Go.Proofs.Tryz.func88 (by kernel_rfl) rfl rfl (Nat.le_of_ble_eq_true rfl) (by kernel_rfl) ?_
  unfold c_pandectref06_Same
  try dsimp only [ZM,ZO,ZN,ZG]
  refine Zad (Zaa [2,3] ?_)
  simp only [Zab,Zac,Zaf,pok,pval,VA.ev,Env.get,Env.put,Env.keep,Za3,Zae,PV.cells,PV.fits,Heap.push,Heap.nil,Nat.succ_ne_self,List.length,Nat.reduceEqDiff,Nat.reduceAdd,ite_true,ite_false,true_and,reduceCtorEq,BEq.rfl,Nat.zero_add,ea,eb]
  skip
  skip
  refine Zad ?_
  refine VW_seqE (σ:={r:Bool // (r = true → a ≠ b) ∧ (r = false → a.act = b.act ∧ a.item = b.item ∧ a.n = b.n ∧ a.kind = b.kind ∧ a.label = b.label ∧ a.head = b.head ∧ a.words = b.words ∧ a.kids.length = b.kids.length)}) [2,3,49]
    (fun s=>[(2,.loc 0 0 0),(3,.loc 1 0 0),(49,.bool s.1)]) ?_ ?_
  rotate_left
  · rintro ⟨r,hr1,hr0⟩
    simp only []
    refine Zai rfl (fun h1=>?_) (fun h1=>?_)
    · subst h1
      refine Zad (Zaa [4] ?_)
      simp only [Zab,Zac,Zaf,pok,pval,VA.ev,Env.get,Env.put,Env.keep,Zae,Nat.reduceEqDiff,ite_true,ite_false,true_and]
      refine Zaq ?_
      try simp only [Env.get,Zae,retQ,resV,Zau,RS.ev,RS.ok,ite_true,true_and,and_true]
      rw [eqB_f (hr1 rfl)]
      exact View.refl _ _
    subst h1
    obtain ⟨q1,q2,q3,q4,q5,q6,q7,q8⟩:=hr0 rfl
    have hk8:=(un_ok_kids ha).1
    refine Zak ?_
    try simp only [Zae]
    refine Zad ?_
    refine Zad (Zaa [2,3,5] ?_)
    simp only [Zab,Zac,Zaf,pok,pval,VA.ev,Env.get,Env.put,Env.keep,Zae,Nat.succ_ne_self,Nat.reduceEqDiff,ite_true,ite_false,true_and]
    refine Zaj ?_
    refine Za6 (σ:={ k:Nat // k ≤ a.kids.length ∧ a.kids.take k = b.kids.take k }) (fun s=>([(2,.loc 0 0 0),(3,.loc 1 0 0),(5,pI s.1)],⟨[(1,.arr false 8 [b.enc]),(0,.arr false 8 [a.enc])],2⟩)) (fun s=>a.kids.length - s.1) ⟨0,by simp⟩ ?_ ?_ ?_
    · simp only [Env.get,Nat.succ_ne_self,Env.le,Nat.reduceEqDiff,ite_true,ite_false,true_and,and_true]
      rfl
    · simp only [Heap.get,Heap.le,HL.get,HL.le,Nat.le_refl,Nat.succ_ne_self,ite_true,ite_false,and_true,reduceCtorEq,ea,eb]
    rintro ⟨k,hk,he⟩
    simp only []
    refine Zad ?_
    refine Zad (Zaa [2,3,5,54] ?_)
    simp only [Zab,Zac,Zaf,pok,pval,VA.ev,Env.get,Env.put,Env.keep,Zae,aggV,intV,binV,Zah,lenV,Zan,Zam,Zag,Zap,Zba,PV.nth,PV.row,Heap.get,Heap.le,HL.get,HL.le,Nat.le_refl,Nat.succ_ne_self,Env.le,List.length,List.getD_cons_zero,List.take,List.drop,List.take_succ_cons,List.drop_succ_cons,Nat.reduceEqDiff,Nat.reduceLT,Bool.false_eq_true,ite_true,ite_false,true_and,and_true,implies_true,Nat.zero_add,List.length_cons,ea,eb,List.length_map]
    repeat (with_reducible refine And.intro ?_ ?_; first | omega | (with_reducible constructor <;> omega) | exact False.elim | exact True.intro)
    refine Zai rfl (fun h2=>?_) (fun h2=>?_)
    · refine Zak ?_
      try simp only [Zae]
      simp only [decide_eq_true_eq] at h2
      have ka:k < a.kids.length:=by omega
      have kb:k < b.kids.length:=by omega
      refine Zad ?_
      refine Zaj ?_
      refine Zad (Zb6 [2,3,5,68] (by simp [Heap.le,Heap.get,HL.le,HL.get]) ?_)  -- faddr load mv iaddr load faddr load mv iaddr load call un
      simp only [Zbn,Zb5,QW,dok,dval,VOp.pure,VOp.simple,VOp.det,pok,pval,VA.ev,Env.get,Env.put,Env.keep,Zae,gd,aggV,unV,unOk,isInt,numOf,lenV,Zan,Zam,Zag,Zap,Za0,Zas,PV.nth,PV.row,Heap.get,HL.get,Nat.le_refl,Nat.succ_ne_self,List.length,List.getD_cons_zero,List.take,List.drop,List.take_succ_cons,List.drop_succ_cons,Nat.reduceEqDiff,Nat.reduceLT,Bool.false_eq_true,Bool.true_eq_false,ite_true,ite_false,true_and,and_true,implies_true,forall_const,reduceCtorEq,Nat.zero_add,List.length_cons,imp_self,Int.toNat_natCast,ea,eb,List.length_map,rowm ka,rowm kb,un_take,rd.un_len]
      repeat (with_reducible refine And.intro ?_ ?_; first | omega | (with_reducible constructor <;> omega) | exact False.elim | exact True.intro)
      refine ⟨_,.inl (sp_pandectref06_Same _ _ ((un_ok_kids ha).2 _ (List.getElem_mem ka)) ((un_ok_kids hb).2 _ (List.getElem_mem kb))),?_⟩
      try simp only [true_and]
      refine Zai rfl (fun h3=>?_) (fun h3=>?_)
      · refine Zad (Zaa [4] ?_)
        simp only [Zab,Zac,Zaf,pok,pval,VA.ev,Env.get,Env.put,Env.keep,Zae,Nat.succ_ne_self,Nat.reduceEqDiff,ite_true,ite_false,true_and]
        refine Zaq ?_
        try simp only [Env.get,Zae,Zal,retQ,resV,Zau,RS.ev,RS.ok,ite_true,true_and,and_true]
        have h4:a.kids[k] ≠ b.kids[k]:=fun e=>by rw [e] at h3; simp [eqB] at h3
        have h5:a ≠ b:=fun e=>get_ne ka kb h4 (by rw [e])
        rw [eqB_f h5]
        exact View.refl _ _
      have h4:a.kids[k] = b.kids[k]:=by simpa [eqB] using h3
      refine Zak ?_
      try simp only [Zae,Zal]
      refine Zaa [2,3,5] ?_
      simp only [Zab,Zac,Zaf,pok,pval,VA.ev,Env.get,Env.put,Env.keep,Zae,intV,binV,Zah,HL.get,Nat.le_refl,Nat.succ_ne_self,Nat.reduceEqDiff,ite_true,ite_false,true_and,and_true,reduceCtorEq,w64 (n:=(k:Int) + 1) (by omega) (by have:a.kids.length ≤ 9223372036854775807:=hk8; omega)]
      refine ⟨⟨k + 1,by omega,take_step he ka kb h4⟩,?_,?_⟩
      · simp
      · simp [ea,eb]; omega
    · simp only [decide_eq_false_iff_not] at h2
      obtain rfl:k = a.kids.length:=by omega
      refine Za4 ?_
      try simp only [Zae,Zal,retQ,ite_true]
      refine Zad (Zaa [4] ?_)
      simp only [Zab,Zac,Zaf,pok,pval,VA.ev,Env.get,Env.put,Env.keep,Zae,Nat.succ_ne_self,Nat.reduceEqDiff,ite_true,ite_false,true_and]
      refine Zaq ?_
      try simp only [Env.get,retQ,resV,Zau,RS.ev,RS.ok,ite_true,true_and,and_true]
      rw [eqB_t (un_eq q1 q2 q3 q4 q5 q6 q7 (take_all q8 he))]
      exact View.refl _ _
  simp only [Zac,Zaf,pok,pval,VA.ev,Env.get,Env.put,Env.keep,aggV,Zan,Zam,Zag,Zap,Zbt,isAggP,PV.nth,PV.row,Heap.get,HL.get,Nat.succ_ne_self,Env.le,eqOk,ekOk,Zbd,Zb2,List.length,List.getD_cons_zero,List.take,List.drop,List.take_succ_cons,Nat.reduceEqDiff,Nat.reduceAdd,Nat.reduceLT,Nat.reduceLeDiff,Bool.true_eq_false,ite_true,ite_false,true_and,and_true,ne_eq,reduceCtorEq,Nat.zero_add,Nat.add_zero,List.length_cons,imp_self]
  repeat (with_reducible refine And.intro ?_ ?_; first | omega | (with_reducible constructor <;> omega) | exact False.elim | exact True.intro)
  refine Za8 rfl (fun g1=>?_) (fun g1=>?_)
  rotate_left
  · simp only [Zab,Zac,Zbb,Zaf,pok,pval,VA.ev,Env.get,Env.put,Zaw,isBool,Nat.succ_ne_self,Nat.reduceEqDiff,ite_true,ite_false,true_and,and_true,Bool.not_false,g1,]
    refine ⟨⟨true,fun _ e=>?_,fun h=>by cases h⟩,by simp⟩
    subst e; simp [eqB] at g1
  simp only [Zac,Zaz,Zaf,pok,pval,VA.ev,Env.get,Env.put,Zaw,isBool,aggV,intV,binV,Zah,Zan,Zam,Zag,Zap,PV.nth,PV.row,Heap.get,HL.get,Nat.succ_ne_self,List.length,List.getD_cons_zero,List.take,List.drop,List.take_succ_cons,List.drop_succ_cons,Nat.reduceEqDiff,Nat.reduceAdd,Nat.reduceLT,Nat.reduceLeDiff,Bool.false_eq_true,ite_true,ite_false,true_and,and_true,implies_true,reduceCtorEq,Nat.zero_add,List.length_cons,g1,]
  repeat (with_reducible refine And.intro ?_ ?_; first | omega | (with_reducible constructor <;> omega) | exact False.elim | exact True.intro)
  refine Za8 rfl (fun g2=>?_) (fun g2=>?_)
  rotate_left
  · simp only [Zab,Zac,Zbb,Zaf,pok,pval,VA.ev,Env.get,Env.put,Zaw,isBool,Nat.succ_ne_self,Nat.reduceEqDiff,ite_true,ite_false,true_and,and_true,Bool.not_false,g2,]
    refine ⟨⟨true,fun _ e=>?_,fun h=>by cases h⟩,by simp⟩
    subst e; simp [eqB] at g2
  simp only [Zac,Zaz,Zaf,pok,pval,VA.ev,Env.get,Env.put,Zaw,isBool,aggV,binV,Zah,strV,Zan,Zam,Zag,Zap,PV.nth,PV.row,Heap.get,HL.get,Nat.succ_ne_self,List.length,List.getD_cons_zero,List.take,List.drop,List.take_succ_cons,List.drop_succ_cons,Nat.reduceEqDiff,Nat.reduceAdd,Nat.reduceLT,Nat.reduceLeDiff,Bool.false_eq_true,ite_true,ite_false,true_and,and_true,implies_true,reduceCtorEq,Nat.zero_add,List.length_cons,g2,]
  repeat (with_reducible refine And.intro ?_ ?_; first | omega | (with_reducible constructor <;> omega) | exact False.elim | exact True.intro)
  refine Za8 rfl (fun g3=>?_) (fun g3=>?_)
  rotate_left
  · simp only [Zab,Zac,Zbb,Zaf,pok,pval,VA.ev,Env.get,Env.put,Zaw,isBool,Nat.succ_ne_self,Nat.reduceEqDiff,ite_true,ite_false,true_and,and_true,Bool.not_false,g3,]
    refine ⟨⟨true,fun _ e=>?_,fun h=>by cases h⟩,by simp⟩
    subst e; simp [eqB] at g3
  simp only [Zac,Zaz,Zaf,pok,pval,VA.ev,Env.get,Env.put,Zaw,isBool,aggV,unV,unOk,Zan,Zam,Zag,Zap,PV.nth,PV.row,Heap.get,HL.get,Nat.succ_ne_self,List.map,List.length,List.getD_cons_zero,List.take,List.drop,List.take_succ_cons,List.drop_succ_cons,Nat.reduceEqDiff,Nat.reduceAdd,Nat.reduceLT,Nat.reduceLeDiff,Bool.false_eq_true,ite_true,ite_false,true_and,and_true,implies_true,reduceCtorEq,Nat.zero_add,List.length_cons,g3,]
  repeat (with_reducible refine And.intro ?_ ?_; first | omega | (with_reducible constructor <;> omega) | exact False.elim | exact True.intro)
  refine Zat (sp_pandectref06_Rows _ _ (un_ok_head ha)) ?_
  try simp only [true_and]
  refine Za8 rfl (fun g4=>?_) (fun g4=>?_)
  rotate_left
  · simp only [Zab,Zac,Zbb,Zaf,pok,pval,VA.ev,Env.get,Env.put,Zaw,isBool,Nat.succ_ne_self,Nat.reduceEqDiff,ite_true,ite_false,true_and,and_true,Bool.not_false,g4,]
    refine ⟨⟨true,fun _ e=>?_,fun h=>by cases h⟩,by simp⟩
    subst e; simp [eqB] at g4
  simp only [Zac,Zaz,Zaf,pok,pval,VA.ev,Env.get,Env.put,Zaw,isBool,aggV,unV,unOk,Zan,Zam,Zag,Zap,PV.nth,PV.row,Heap.get,HL.get,Nat.succ_ne_self,List.map,List.length,List.getD_cons_zero,List.take,List.drop,List.take_succ_cons,List.drop_succ_cons,Nat.reduceEqDiff,Nat.reduceAdd,Nat.reduceLT,Nat.reduceLeDiff,Bool.false_eq_true,ite_true,ite_false,true_and,and_true,implies_true,reduceCtorEq,Nat.zero_add,List.length_cons,g4,]
  repeat (with_reducible refine And.intro ?_ ?_; first | omega | (with_reducible constructor <;> omega) | exact False.elim | exact True.intro)
  refine Zat (sp_pandectref06_Rows _ _ (un_ok_words ha)) ?_
  try simp only [true_and]
  refine Za8 rfl (fun g5=>?_) (fun g5=>?_)
  rotate_left
  · simp only [Zab,Zac,Zbb,Zaf,pok,pval,VA.ev,Env.get,Env.put,Zaw,isBool,Nat.succ_ne_self,Nat.reduceEqDiff,ite_true,ite_false,true_and,and_true,Bool.not_false,g5,]
    refine ⟨⟨true,fun _ e=>?_,fun h=>by cases h⟩,by simp⟩
    subst e; simp [eqB] at g5
  simp only [Zab,Zac,Zaz,Zaf,pok,pval,VA.ev,Env.get,Env.put,Zaw,isBool,aggV,intV,binV,Zah,lenV,Zan,Zam,Zag,Zap,Zba,PV.nth,PV.row,Heap.get,HL.get,Nat.le_refl,Nat.succ_ne_self,List.length,List.getD_cons_zero,List.take,List.drop,List.take_succ_cons,List.drop_succ_cons,Nat.reduceEqDiff,Nat.reduceLT,Bool.false_eq_true,ite_true,ite_false,true_and,and_true,implies_true,reduceCtorEq,Nat.zero_add,List.length_cons,g5,]
  repeat (with_reducible refine And.intro ?_ ?_; first | omega | (with_reducible constructor <;> omega) | exact False.elim | exact True.intro)
  refine ⟨⟨(a.kids.length:Int) != b.kids.length,fun h e=>?_,fun h=>?_⟩,?_⟩
  · subst e; simp at h
  · simp [eqB] at g1 g2 g3 g4 g5 h
    exact ⟨g1.1,g1.2.1,g1.2.2,g2,g3,g4,g5,by omega⟩
  · simp
termination_by SizeOf.sizeOf a
decreasing_by exact un_size ka
end Go.Proofs.YtehokmhebnkfdaaGreat.w
namespace Go.Proofs.YtehokmhebnkfdaaGreat.w
open Go Go.VM
set_option maxRecDepth 20000
set_option maxHeartbeats 0
def c_pandectref17_Same:VC:=(.seq (.region [ZO 2 (.box 25 (.t 0)),ZO 3 (.box 25 (.t 1)),ZO 4 (.mv (.c (.bool false)))] false) (.seq (.seq (.region [ZO 6 (.faddr 0 (.t 2)),ZO 7 (.load false 1 (.t 6)),ZO 8 (.faddr 0 (.t 3)),ZO 9 (.load false 1 (.t 8)),ZO 10 (.bin .neq (.t 7) (.t 9)),ZM 11 10,ZG 12 (.faddr 3 (.t 2)) 11 false,ZG 13 (.load false 1 (.t 12)) 11 false,ZG 14 (.faddr 3 (.t 3)) 11 false,ZG 15 (.load false 1 (.t 14)) 11 false,ZG 16 (.bin .neq (.t 13) (.t 15)) 11 false,ZO 17 (.pick (.t 11) (.c (.bool true)) (.t 16)),ZM 18 17,ZG 19 (.faddr 4 (.t 2)) 18 false,ZG 20 (.load false 1 (.t 19)) 18 false,ZG 21 (.faddr 4 (.t 3)) 18 false,ZG 22 (.load false 1 (.t 21)) 18 false,ZG 23 (.bin .neq (.t 20) (.t 22)) 18 false,ZO 24 (.pick (.t 18) (.c (.bool true)) (.t 23)),ZM 25 24,ZG 26 (.faddr 15 (.t 2)) 25 false,ZG 27 (.load false 1 (.t 26)) 25 false,ZG 28 (.faddr 15 (.t 3)) 25 false,ZG 29 (.load false 1 (.t 28)) 25 false,ZG 30 (.bin .neq (.t 27) (.t 29)) 25 false,ZO 31 (.pick (.t 25) (.c (.bool true)) (.t 30)),ZM 32 31,ZG 33 (.faddr 16 (.t 2)) 32 false,ZG 34 (.load false 1 (.t 33)) 32 false,ZG 35 (.faddr 16 (.t 3)) 32 false,ZG 36 (.load false 1 (.t 35)) 32 false,ZG 37 (.bin .neq (.t 34) (.t 36)) 32 false,ZO 38 (.pick (.t 32) (.c (.bool true)) (.t 37)),ZM 39 38,ZG 40 (.faddr 17 (.t 2)) 39 false,ZG 41 (.load true 3 (.t 40)) 39 false,ZG 42 (.faddr 17 (.t 3)) 39 false,ZG 43 (.load true 3 (.t 42)) 39 false,ZG 44 (.eqs true [.i,.i,.s] (.t 41) (.t 43)) 39 false,ZO 45 (.pick (.t 39) (.c (.bool true)) (.t 44)),ZM 46 45,ZG 47 (.faddr 20 (.t 2)) 46 false,ZG 48 (.load false 1 (.t 47)) 46 false,ZG 49 (.faddr 20 (.t 3)) 46 false,ZG 50 (.load false 1 (.t 49)) 46 false,ZG 51 (.bin .neq (.t 48) (.t 50)) 46 false,ZO 52 (.pick (.t 46) (.c (.bool true)) (.t 51)),ZM 53 52,ZG 54 (.faddr 21 (.t 2)) 53 false,ZG 55 (.load false 1 (.t 54)) 53 false,ZG 56 (.faddr 21 (.t 3)) 53 false,ZG 57 (.load false 1 (.t 56)) 53 false,ZG 58 (.bin .neq (.t 55) (.t 57)) 53 false,ZO 59 (.pick (.t 53) (.c (.bool true)) (.t 58)),ZM 60 59,ZG 61 (.faddr 22 (.t 2)) 60 false,ZG 62 (.load false 1 (.t 61)) 60 false,ZG 63 (.faddr 22 (.t 3)) 60 false,ZG 64 (.load false 1 (.t 63)) 60 false,ZG 65 (.bin .neq (.t 62) (.t 64)) 60 false,ZO 66 (.pick (.t 60) (.c (.bool true)) (.t 65)),ZM 67 66,ZG 68 (.faddr 23 (.t 2)) 67 false,ZG 69 (.load false 1 (.t 68)) 67 false,ZG 70 (.faddr 23 (.t 3)) 67 false,ZG 71 (.load false 1 (.t 70)) 67 false,ZG 72 (.bin .neq (.t 69) (.t 71)) 67 false,ZO 73 (.pick (.t 67) (.c (.bool true)) (.t 72))] false) (.cond (.t 73) (.seq (.region [ZO 4 (.mv (.c (.bool false)))] false) .ret) .skip)) (.seq (.seq (.region [ZO 74 (.faddr 1 (.t 2)),ZO 75 (.load false 1 (.t 74)),ZO 76 (.faddr 1 (.t 3)),ZO 77 (.load false 1 (.t 76)),ZO 78 (.call 87 [(.t 75),(.t 77)]),ZO 79 (.un .not (.t 78)),ZM 80 79,ZG 81 (.faddr 2 (.t 2)) 80 false,ZG 82 (.load false 1 (.t 81)) 80 false,ZG 83 (.faddr 2 (.t 3)) 80 false,ZG 84 (.load false 1 (.t 83)) 80 false,ZG 85 (.call 87 [(.t 82),(.t 84)]) 80 false,ZG 86 (.un .not (.t 85)) 80 false,ZO 87 (.pick (.t 80) (.c (.bool true)) (.t 86)),ZM 88 87,ZG 89 (.faddr 13 (.t 2)) 88 false,ZG 90 (.load false 1 (.t 89)) 88 false,ZG 91 (.faddr 13 (.t 3)) 88 false,ZG 92 (.load false 1 (.t 91)) 88 false,ZG 93 (.call 30 [(.t 90),(.t 92)]) 88 false,ZG 94 (.un .not (.t 93)) 88 false,ZO 95 (.pick (.t 88) (.c (.bool true)) (.t 94)),ZM 96 95,ZG 97 (.faddr 14 (.t 2)) 96 false,ZG 98 (.load false 1 (.t 97)) 96 false,ZG 99 (.faddr 14 (.t 3)) 96 false,ZG 100 (.load false 1 (.t 99)) 96 false,ZG 101 (.call 30 [(.t 98),(.t 100)]) 96 false,ZG 102 (.un .not (.t 101)) 96 false,ZO 103 (.pick (.t 96) (.c (.bool true)) (.t 102)),ZM 104 103,ZG 105 (.faddr 5 (.t 2)) 104 false,ZG 106 (.load true 8 (.t 105)) 104 false,ZG 107 (.faddr 5 (.t 3)) 104 false,ZG 108 (.load true 8 (.t 107)) 104 false,ZG 109 (.call 88 [(.t 106),(.t 108)]) 104 false,ZG 110 (.un .not (.t 109)) 104 false,ZO 111 (.pick (.t 104) (.c (.bool true)) (.t 110)),ZM 112 111,ZG 113 (.faddr 24 (.t 2)) 112 false,ZG 114 (.load false 1 (.t 113)) 112 false,ZG 115 (.len false (.t 114)) 112 false,ZG 116 (.faddr 24 (.t 3)) 112 false,ZG 117 (.load false 1 (.t 116)) 112 false,ZG 118 (.len false (.t 117)) 112 false,ZG 119 (.bin .neq (.t 115) (.t 118)) 112 false,ZO 120 (.pick (.t 112) (.c (.bool true)) (.t 119))] false) (.cond (.t 120) (.seq (.region [ZO 4 (.mv (.c (.bool false)))] false) .ret) .skip)) (.seq (.seq (.region [ZO 5 (.mv (.c (.int .i64 0)))] false) (.block 0 (.loop (.seq (.seq (.region [ZM 121 5,ZO 122 (.faddr 24 (.t 2)),ZO 123 (.load false 1 (.t 122)),ZO 124 (.len false (.t 123)),ZO 125 (.bin .lss (.t 121) (.t 124))] false) (.cond (.t 125) .skip (.exit 0))) (.seq (.block 1 (.seq (.region [ZO 128 (.faddr 24 (.t 2)),ZO 129 (.load false 1 (.t 128)),ZM 130 5,ZO 131 (.iaddr 25 (.t 129) (.t 130)),ZO 132 (.load true 25 (.t 131)),ZO 133 (.faddr 24 (.t 3)),ZO 134 (.load false 1 (.t 133)),ZM 135 5,ZO 136 (.iaddr 25 (.t 134) (.t 135)),ZO 137 (.load true 25 (.t 136)),ZO 138 (.call 63 [(.t 132),(.t 137)]),ZO 139 (.un .not (.t 138))] true) (.cond (.t 139) (.seq (.region [ZO 4 (.mv (.c (.bool false)))] false) .ret) .skip))) (.region [ZM 126 5,ZO 127 (.bin .add (.t 126) (.c (.int .i64 1))),ZM 5 127] false)))))) (.seq (.region [ZO 4 (.mv (.c (.bool true)))] false) .ret)))))
structure ItOk (x : It) : Prop where
  at' : x.at'.length ≤ maxLen
  to : x.to.length ≤ maxLen
  unit : x.unit.ok
  old : x.old.length ≤ maxLen
  new : x.new.length ≤ maxLen
  len : x.by'.length ≤ maxLen
  by' : ∀ k ∈ x.by', k.ok
theorem it_ok {x:It} (h:x.ok):ItOk x:=by
  cases h with
  | mk _ h1 h2 h3 h4 h5 h6 h7 h8 h9 h10 h11 h12 h13 h14 h15 h16 h17=>exact ⟨h2.1,h3.1,h6,h7.1,h8.1,h16,h17⟩
theorem it_take (u:It):u.enc.take 25 = u.enc:=List.take_of_length_le (by rw [It.Zbv]; exact Nat.le_refl _)
theorem it_size {u:It} {k:Nat} (h:k < u.by'.length):SizeOf.sizeOf u.by'[k] < SizeOf.sizeOf u:=by
  match u,h with
  | .mk k1 a t w n u o e l f s ac it d ev b,h =>
    have h1:SizeOf.sizeOf b[k] < SizeOf.sizeOf b:=List.sizeOf_lt_of_mem (List.getElem_mem h)
    rw [It.mk.sizeOf_spec]
    show SizeOf.sizeOf b[k] < _
    omega
def It.flat (a b:It):Prop:=a.kind = b.kind ∧ a.wher = b.wher ∧ a.nth = b.nth ∧ a.label = b.label ∧ a.forr = b.forr ∧ a.start = b.start ∧ a.act = b.act ∧ a.item = b.item ∧ a.day = b.day ∧ a.event = b.event
def It.deep (a b:It):Prop:=a.at' = b.at' ∧ a.to = b.to ∧ a.old = b.old ∧ a.new = b.new ∧ a.unit = b.unit ∧ a.by'.length = b.by'.length
theorem it_eq {a b:It} (h1:It.flat a b) (h2:It.deep a b) (h3:a.by' = b.by'):a = b:=by
  obtain ⟨q1,q2,q3,q4,q5,q6,q7,q8,q9,q10⟩:=h1
  obtain ⟨p1,p2,p3,p4,p5,p6⟩:=h2
  cases a; cases b; simp_all [It.kind,It.wher,It.nth,It.label,It.forr,It.start,It.act,It.item,It.day,It.event,It.at',It.to,It.old,It.new,It.unit,It.by']
theorem sta_ext {a b:Sta} (h1:a.kind = b.kind) (h2:a.day = b.day) (h3:a.event = b.event):a = b:=by cases a; cases b; simp_all
theorem sp_pandectref17_Same (a b:It) (ha:a.ok) (hb:b.ok):Zbq Tryz.prog 63 [.agg a.enc,.agg b.enc] (.bool (eqB a b)):=by
  have ea:=It.Zb8 a
  have eb:=It.Zb8 b
  have oa:=it_ok ha
  have ob:=it_ok hb
  have hu:=sp_pandectref06_Same a.unit b.unit oa.unit ob.unit
  rw [Un.Zb8 a.unit,Un.Zb8 b.unit] at hu
  refine Zao ?_ (Closed.of_scalar (Zcd _)) (by simp only [Za1,List.mem_cons,List.not_mem_nil,or_false,forall_eq_or_imp,forall_eq,false_implies,implies_true]; repeat' (first  | exact cB _ | exact Zax (It.closed _) | refine And.intro ?_ ?_))
  refine Zar (vc:=c_pandectref17_Same) (ts:=[.t 4]) Go.Proofs.Tryz.func63 (by kernel_rfl) rfl rfl (Nat.le_of_ble_eq_true rfl) (by kernel_rfl) ?_
  unfold c_pandectref17_Same
  try dsimp only [ZM,ZO,ZN,ZG]
  refine Zad (Zaa [2,3] ?_)
  simp only [Zab,Zac,Zaf,pok,pval,VA.ev,Env.get,Env.put,Env.keep,Za3,Zae,PV.cells,PV.fits,Heap.push,Heap.nil,Nat.succ_ne_self,List.length,Nat.reduceEqDiff,Nat.reduceAdd,ite_true,ite_false,true_and,reduceCtorEq,BEq.rfl,Nat.zero_add,ea,eb]
  skip
  skip
  refine Zad ?_
  refine VW_seqE (σ:={r:Bool // (r = true → a ≠ b) ∧ (r = false → It.flat a b)}) [2,3,73] (fun s=>[(2,.loc 0 0 0),(3,.loc 1 0 0),(73,.bool s.1)]) ?_ ?_
  · simp only [Zac,Zaf,pok,pval,VA.ev,Env.get,Env.put,Env.keep,aggV,intV,binV,Zah,Zan,Zam,Zag,Zap,PV.nth,PV.row,Heap.get,HL.get,Nat.succ_ne_self,Env.le,List.length,List.getD_cons_zero,List.take,List.drop,List.take_succ_cons,Nat.reduceEqDiff,Nat.reduceAdd,Nat.reduceLT,Nat.reduceLeDiff,Bool.false_eq_true,ite_true,ite_false,true_and,and_true,implies_true,ne_eq,reduceCtorEq,Nat.zero_add,Nat.add_zero,List.length_cons]
    repeat (with_reducible refine And.intro ?_ ?_; first | omega | (with_reducible constructor <;> omega) | exact False.elim | exact True.intro)
    refine Za8 rfl (fun g1=>?_) (fun g1=>?_)
    rotate_left
    · simp only [Zab,Zac,Zbb,Zaf,pok,pval,VA.ev,Env.get,Env.put,Zaw,isBool,Nat.succ_ne_self,Nat.reduceEqDiff,ite_true,ite_false,true_and,and_true,Bool.not_false,g1,]
      refine ⟨⟨true,fun _ e=>?_,fun h=>by cases h⟩,by simp⟩
      subst e; simp [eqB] at g1
    simp only [Zac,Zaz,Zaf,pok,pval,VA.ev,Env.get,Env.put,Zaw,isBool,aggV,intV,binV,Zah,Zan,Zam,Zag,Zap,PV.nth,PV.row,Heap.get,HL.get,Nat.succ_ne_self,List.length,List.getD_cons_zero,List.take,List.drop,List.take_succ_cons,List.drop_succ_cons,Nat.reduceEqDiff,Nat.reduceAdd,Nat.reduceLT,Nat.reduceLeDiff,Bool.false_eq_true,ite_true,ite_false,true_and,and_true,implies_true,reduceCtorEq,Nat.zero_add,List.length_cons,g1,]
    repeat (with_reducible refine And.intro ?_ ?_; first | omega | (with_reducible constructor <;> omega) | exact False.elim | exact True.intro)
    refine Za8 rfl (fun g2=>?_) (fun g2=>?_)
    rotate_left
    · simp only [Zab,Zac,Zbb,Zaf,pok,pval,VA.ev,Env.get,Env.put,Zaw,isBool,Nat.succ_ne_self,Nat.reduceEqDiff,ite_true,ite_false,true_and,and_true,Bool.not_false,g2,]
      refine ⟨⟨true,fun _ e=>?_,fun h=>by cases h⟩,by simp⟩
      subst e; simp [eqB] at g2
    simp only [Zac,Zaz,Zaf,pok,pval,VA.ev,Env.get,Env.put,Zaw,isBool,aggV,intV,binV,Zah,Zan,Zam,Zag,Zap,PV.nth,PV.row,Heap.get,HL.get,Nat.succ_ne_self,List.length,List.getD_cons_zero,List.take,List.drop,List.take_succ_cons,List.drop_succ_cons,Nat.reduceEqDiff,Nat.reduceAdd,Nat.reduceLT,Nat.reduceLeDiff,Bool.false_eq_true,ite_true,ite_false,true_and,and_true,implies_true,reduceCtorEq,Nat.zero_add,List.length_cons,g2,]
    repeat (with_reducible refine And.intro ?_ ?_; first | omega | (with_reducible constructor <;> omega) | exact False.elim | exact True.intro)
    refine Za8 rfl (fun g3=>?_) (fun g3=>?_)
    rotate_left
    · simp only [Zab,Zac,Zbb,Zaf,pok,pval,VA.ev,Env.get,Env.put,Zaw,isBool,Nat.succ_ne_self,Nat.reduceEqDiff,ite_true,ite_false,true_and,and_true,Bool.not_false,g3,]
      refine ⟨⟨true,fun _ e=>?_,fun h=>by cases h⟩,by simp⟩
      subst e; simp [eqB] at g3
    simp only [Zac,Zaz,Zaf,pok,pval,VA.ev,Env.get,Env.put,Zaw,isBool,aggV,binV,Zah,strV,Zan,Zam,Zag,Zap,PV.nth,PV.row,Heap.get,HL.get,Nat.succ_ne_self,List.length,List.getD_cons_zero,List.take,List.drop,List.take_succ_cons,List.drop_succ_cons,Nat.reduceEqDiff,Nat.reduceAdd,Nat.reduceLT,Nat.reduceLeDiff,Bool.false_eq_true,ite_true,ite_false,true_and,and_true,implies_true,reduceCtorEq,Nat.zero_add,List.length_cons,g3,]
    repeat (with_reducible refine And.intro ?_ ?_; first | omega | (with_reducible constructor <;> omega) | exact False.elim | exact True.intro)
    refine Za8 rfl (fun g4=>?_) (fun g4=>?_)
    rotate_left
    · simp only [Zab,Zac,Zbb,Zaf,pok,pval,VA.ev,Env.get,Env.put,Zaw,isBool,Nat.succ_ne_self,Nat.reduceEqDiff,ite_true,ite_false,true_and,and_true,Bool.not_false,g4,]
      refine ⟨⟨true,fun _ e=>?_,fun h=>by cases h⟩,by simp⟩
      subst e; simp [eqB] at g4
    simp only [Zac,Zaz,Zaf,pok,pval,VA.ev,Env.get,Env.put,Zaw,isBool,aggV,binV,Zah,strV,Zan,Zam,Zag,Zap,PV.nth,PV.row,Heap.get,HL.get,Nat.succ_ne_self,List.length,List.getD_cons_zero,List.take,List.drop,List.take_succ_cons,List.drop_succ_cons,Nat.reduceEqDiff,Nat.reduceAdd,Nat.reduceLT,Nat.reduceLeDiff,Bool.false_eq_true,ite_true,ite_false,true_and,and_true,implies_true,reduceCtorEq,Nat.zero_add,List.length_cons,g4,]
    repeat (with_reducible refine And.intro ?_ ?_; first | omega | (with_reducible constructor <;> omega) | exact False.elim | exact True.intro)
    refine Za8 rfl (fun g5=>?_) (fun g5=>?_)
    rotate_left
    · simp only [Zab,Zac,Zbb,Zaf,pok,pval,VA.ev,Env.get,Env.put,Zaw,isBool,Nat.succ_ne_self,Nat.reduceEqDiff,ite_true,ite_false,true_and,and_true,Bool.not_false,g5,]
      refine ⟨⟨true,fun _ e=>?_,fun h=>by cases h⟩,by simp⟩
      subst e; simp [eqB] at g5
    simp only [Zac,Zaz,Zaf,pok,pval,VA.ev,Env.get,Env.put,Zaw,isBool,aggV,Zan,Zam,Zag,Zap,Zbt,isAggP,PV.nth,PV.row,Heap.get,HL.get,Nat.succ_ne_self,eqOk,ekOk,Zbd,Zb2,List.length,List.getD_cons_zero,List.take,List.drop,List.take_succ_cons,List.drop_succ_cons,Nat.reduceEqDiff,Nat.reduceAdd,Nat.reduceLT,Nat.reduceLeDiff,Bool.false_eq_true,Bool.true_eq_false,ite_true,ite_false,true_and,and_true,reduceCtorEq,Nat.zero_add,List.length_cons,imp_self,g5,]
    repeat (with_reducible refine And.intro ?_ ?_; first | omega | (with_reducible constructor <;> omega) | exact False.elim | exact True.intro)
    refine Za8 rfl (fun g6=>?_) (fun g6=>?_)
    rotate_left
    · simp only [Zab,Zac,Zbb,Zaf,pok,pval,VA.ev,Env.get,Env.put,Zaw,isBool,Nat.succ_ne_self,Nat.reduceEqDiff,ite_true,ite_false,true_and,and_true,Bool.not_false,g6,]
      refine ⟨⟨true,fun _ e=>?_,fun h=>by cases h⟩,by simp⟩
      subst e; simp [eqB] at g6
    simp only [Zac,Zaz,Zaf,pok,pval,VA.ev,Env.get,Env.put,Zaw,isBool,aggV,intV,binV,Zah,Zan,Zam,Zag,Zap,PV.nth,PV.row,Heap.get,HL.get,Nat.succ_ne_self,List.length,List.getD_cons_zero,List.take,List.drop,List.take_succ_cons,List.drop_succ_cons,Nat.reduceEqDiff,Nat.reduceAdd,Nat.reduceLT,Nat.reduceLeDiff,Bool.false_eq_true,ite_true,ite_false,true_and,and_true,implies_true,reduceCtorEq,Nat.zero_add,List.length_cons,g6,]
    repeat (with_reducible refine And.intro ?_ ?_; first | omega | (with_reducible constructor <;> omega) | exact False.elim | exact True.intro)
    refine Za8 rfl (fun g7=>?_) (fun g7=>?_)
    rotate_left
    · simp only [Zab,Zac,Zbb,Zaf,pok,pval,VA.ev,Env.get,Env.put,Zaw,isBool,Nat.succ_ne_self,Nat.reduceEqDiff,ite_true,ite_false,true_and,and_true,Bool.not_false,g7,]
      refine ⟨⟨true,fun _ e=>?_,fun h=>by cases h⟩,by simp⟩
      subst e; simp [eqB] at g7
    simp only [Zac,Zaz,Zaf,pok,pval,VA.ev,Env.get,Env.put,Zaw,isBool,aggV,intV,binV,Zah,Zan,Zam,Zag,Zap,PV.nth,PV.row,Heap.get,HL.get,Nat.succ_ne_self,List.length,List.getD_cons_zero,List.take,List.drop,List.take_succ_cons,List.drop_succ_cons,Nat.reduceEqDiff,Nat.reduceAdd,Nat.reduceLT,Nat.reduceLeDiff,Bool.false_eq_true,ite_true,ite_false,true_and,and_true,implies_true,reduceCtorEq,Nat.zero_add,List.length_cons,g7,]
    repeat (with_reducible refine And.intro ?_ ?_; first | omega | (with_reducible constructor <;> omega) | exact False.elim | exact True.intro)
    refine Za8 rfl (fun g8=>?_) (fun g8=>?_)
    rotate_left
    · simp only [Zab,Zac,Zbb,Zaf,pok,pval,VA.ev,Env.get,Env.put,Zaw,isBool,Nat.succ_ne_self,Nat.reduceEqDiff,ite_true,ite_false,true_and,and_true,Bool.not_false,g8,]
      refine ⟨⟨true,fun _ e=>?_,fun h=>by cases h⟩,by simp⟩
      subst e; simp [eqB] at g8
    simp only [Zac,Zaz,Zaf,pok,pval,VA.ev,Env.get,Env.put,Zaw,isBool,aggV,intV,binV,Zah,Zan,Zam,Zag,Zap,PV.nth,PV.row,Heap.get,HL.get,Nat.succ_ne_self,List.length,List.getD_cons_zero,List.take,List.drop,List.take_succ_cons,List.drop_succ_cons,Nat.reduceEqDiff,Nat.reduceAdd,Nat.reduceLT,Nat.reduceLeDiff,Bool.false_eq_true,ite_true,ite_false,true_and,and_true,implies_true,reduceCtorEq,Nat.zero_add,List.length_cons,g8,]
    repeat (with_reducible refine And.intro ?_ ?_; first | omega | (with_reducible constructor <;> omega) | exact False.elim | exact True.intro)
    refine Za8 rfl (fun g9=>?_) (fun g9=>?_)
    rotate_left
    · simp only [Zab,Zac,Zbb,Zaf,pok,pval,VA.ev,Env.get,Env.put,Zaw,isBool,Nat.succ_ne_self,Nat.reduceEqDiff,ite_true,ite_false,true_and,and_true,Bool.not_false,g9,]
      refine ⟨⟨true,fun _ e=>?_,fun h=>by cases h⟩,by simp⟩
      subst e; simp [eqB] at g9
    simp only [Zab,Zac,Zaz,Zaf,pok,pval,VA.ev,Env.get,Env.put,Zaw,isBool,aggV,binV,Zah,strV,Zan,Zam,Zag,Zap,PV.nth,PV.row,Heap.get,HL.get,Nat.succ_ne_self,List.length,List.getD_cons_zero,List.take,List.drop,List.take_succ_cons,List.drop_succ_cons,Nat.reduceEqDiff,Nat.reduceAdd,Nat.reduceLT,Nat.reduceLeDiff,Bool.false_eq_true,ite_true,ite_false,true_and,and_true,implies_true,reduceCtorEq,Nat.zero_add,List.length_cons,g9,]
    repeat (with_reducible refine And.intro ?_ ?_; first | omega | (with_reducible constructor <;> omega) | exact False.elim | exact True.intro)
    refine ⟨⟨a.event != b.event,fun h e=>?_,fun h=>?_⟩,?_⟩
    · subst e; simp at h
    · simp at g1 g2 g3 g4 g5 g6 g7 g8 g9 h
      exact ⟨g1,g2,g3,g4,g5,sta_ext g6.1 g6.2.1 g6.2.2,g7,g8,g9,h⟩
    · simp
  rintro ⟨r,hr1,hr0⟩
  simp only []
  refine Zai rfl (fun h1=>?_) (fun h1=>?_)
  · subst h1
    refine Zad (Zaa [4] ?_)
    simp only [Zab,Zac,Zaf,pok,pval,VA.ev,Env.get,Env.put,Env.keep,Zae,Nat.reduceEqDiff,ite_true,ite_false,true_and]
    refine Zaq ?_
    try simp only [Env.get,Zae,retQ,resV,Zau,RS.ev,RS.ok,ite_true,true_and,and_true]
    rw [eqB_f (hr1 rfl)]
    exact View.refl _ _
  subst h1
  have hflat:=hr0 rfl
  refine Zak ?_
  try simp only [Zae]
  refine Zad ?_
  refine VW_seqE (σ:={r:Bool // (r = true → a ≠ b) ∧ (r = false → It.deep a b)}) [2,3,120] (fun s=>[(2,.loc 0 0 0),(3,.loc 1 0 0),(120,.bool s.1)]) ?_ ?_
  · simp only [Zac,Zaf,pok,pval,VA.ev,Env.get,Env.put,Env.keep,aggV,unV,unOk,Zan,Zam,Zag,Zap,PV.nth,PV.row,Heap.get,HL.get,Nat.succ_ne_self,Env.le,List.map,List.length,List.getD_cons_zero,List.take,List.drop,List.take_succ_cons,List.drop_succ_cons,Nat.reduceEqDiff,Nat.reduceAdd,Nat.reduceLT,Nat.reduceLeDiff,Bool.false_eq_true,ite_true,ite_false,true_and,and_true,implies_true,ne_eq,reduceCtorEq,Nat.zero_add,List.length_cons]
    repeat (with_reducible refine And.intro ?_ ?_; first | omega | (with_reducible constructor <;> omega) | exact False.elim | exact True.intro)
    refine Zat (sp_pandectref07_Same _ _ oa.at') ?_
    try simp only [true_and]
    refine Za8 rfl (fun g1=>?_) (fun g1=>?_)
    rotate_left
    · simp only [Zab,Zac,Zbb,Zaf,pok,pval,VA.ev,Env.get,Env.put,Zaw,isBool,Nat.succ_ne_self,Nat.reduceEqDiff,ite_true,ite_false,true_and,and_true,Bool.not_false,g1,]
      refine ⟨⟨true,fun _ e=>?_,fun h=>by cases h⟩,by simp⟩
      subst e; simp [eqB] at g1
    simp only [Zac,Zaz,Zaf,pok,pval,VA.ev,Env.get,Env.put,Zaw,isBool,aggV,unV,unOk,Zan,Zam,Zag,Zap,PV.nth,PV.row,Heap.get,HL.get,Nat.succ_ne_self,List.map,List.length,List.getD_cons_zero,List.take,List.drop,List.take_succ_cons,List.drop_succ_cons,Nat.reduceEqDiff,Nat.reduceAdd,Nat.reduceLT,Nat.reduceLeDiff,Bool.false_eq_true,ite_true,ite_false,true_and,and_true,implies_true,reduceCtorEq,Nat.zero_add,List.length_cons,g1,]
    repeat (with_reducible refine And.intro ?_ ?_; first | omega | (with_reducible constructor <;> omega) | exact False.elim | exact True.intro)
    refine Zat (sp_pandectref07_Same _ _ oa.to) ?_
    try simp only [true_and]
    refine Za8 rfl (fun g2=>?_) (fun g2=>?_)
    rotate_left
    · simp only [Zab,Zac,Zbb,Zaf,pok,pval,VA.ev,Env.get,Env.put,Zaw,isBool,Nat.succ_ne_self,Nat.reduceEqDiff,ite_true,ite_false,true_and,and_true,Bool.not_false,g2,]
      refine ⟨⟨true,fun _ e=>?_,fun h=>by cases h⟩,by simp⟩
      subst e; simp [eqB] at g2
    simp only [Zac,Zaz,Zaf,pok,pval,VA.ev,Env.get,Env.put,Zaw,isBool,aggV,unV,unOk,Zan,Zam,Zag,Zap,PV.nth,PV.row,Heap.get,HL.get,Nat.succ_ne_self,List.map,List.length,List.getD_cons_zero,List.take,List.drop,List.take_succ_cons,List.drop_succ_cons,Nat.reduceEqDiff,Nat.reduceAdd,Nat.reduceLT,Nat.reduceLeDiff,Bool.false_eq_true,ite_true,ite_false,true_and,and_true,implies_true,reduceCtorEq,Nat.zero_add,List.length_cons,g2,]
    repeat (with_reducible refine And.intro ?_ ?_; first | omega | (with_reducible constructor <;> omega) | exact False.elim | exact True.intro)
    refine Zat (sp_pandectref04_Same _ _ oa.old) ?_
    try simp only [true_and]
    refine Za8 rfl (fun g3=>?_) (fun g3=>?_)
    rotate_left
    · simp only [Zab,Zac,Zbb,Zaf,pok,pval,VA.ev,Env.get,Env.put,Zaw,isBool,Nat.succ_ne_self,Nat.reduceEqDiff,ite_true,ite_false,true_and,and_true,Bool.not_false,g3,]
      refine ⟨⟨true,fun _ e=>?_,fun h=>by cases h⟩,by simp⟩
      subst e; simp [eqB] at g3
    simp only [Zac,Zaz,Zaf,pok,pval,VA.ev,Env.get,Env.put,Zaw,isBool,aggV,unV,unOk,Zan,Zam,Zag,Zap,PV.nth,PV.row,Heap.get,HL.get,Nat.succ_ne_self,List.map,List.length,List.getD_cons_zero,List.take,List.drop,List.take_succ_cons,List.drop_succ_cons,Nat.reduceEqDiff,Nat.reduceAdd,Nat.reduceLT,Nat.reduceLeDiff,Bool.false_eq_true,ite_true,ite_false,true_and,and_true,implies_true,reduceCtorEq,Nat.zero_add,List.length_cons,g3,]
    repeat (with_reducible refine And.intro ?_ ?_; first | omega | (with_reducible constructor <;> omega) | exact False.elim | exact True.intro)
    refine Zat (sp_pandectref04_Same _ _ oa.new) ?_
    try simp only [true_and]
    refine Za8 rfl (fun g4=>?_) (fun g4=>?_)
    rotate_left
    · simp only [Zab,Zac,Zbb,Zaf,pok,pval,VA.ev,Env.get,Env.put,Zaw,isBool,Nat.succ_ne_self,Nat.reduceEqDiff,ite_true,ite_false,true_and,and_true,Bool.not_false,g4,]
      refine ⟨⟨true,fun _ e=>?_,fun h=>by cases h⟩,by simp⟩
      subst e; simp [eqB] at g4
    simp only [Zac,Zaz,Zaf,pok,pval,VA.ev,Env.get,Env.put,Zaw,isBool,aggV,unV,unOk,Zan,Zam,Zag,Zap,PV.nth,PV.row,Heap.get,HL.get,Nat.succ_ne_self,List.map,List.length,List.getD_cons_zero,List.take,List.drop,List.take_succ_cons,List.drop_succ_cons,Nat.reduceEqDiff,Nat.reduceAdd,Nat.reduceLT,Nat.reduceLeDiff,Bool.false_eq_true,Bool.true_eq_false,ite_true,ite_false,true_and,and_true,reduceCtorEq,Nat.zero_add,List.length_cons,imp_self,g4,]
    repeat (with_reducible refine And.intro ?_ ?_; first | omega | (with_reducible constructor <;> omega) | exact False.elim | exact True.intro)
    refine Zat hu ?_
    try simp only [true_and]
    refine Za8 rfl (fun g5=>?_) (fun g5=>?_)
    rotate_left
    · simp only [Zab,Zac,Zbb,Zaf,pok,pval,VA.ev,Env.get,Env.put,Zaw,isBool,Nat.succ_ne_self,Nat.reduceEqDiff,ite_true,ite_false,true_and,and_true,Bool.not_false,g5,]
      refine ⟨⟨true,fun _ e=>?_,fun h=>by cases h⟩,by simp⟩
      subst e; simp [eqB] at g5
    simp only [Zab,Zac,Zaz,Zaf,pok,pval,VA.ev,Env.get,Env.put,Zaw,isBool,aggV,intV,binV,Zah,lenV,Zan,Zam,Zag,Zap,Zba,PV.nth,PV.row,Heap.get,HL.get,Nat.le_refl,Nat.succ_ne_self,List.length,List.getD_cons_zero,List.take,List.drop,List.take_succ_cons,List.drop_succ_cons,Nat.reduceEqDiff,Nat.reduceLT,Bool.false_eq_true,ite_true,ite_false,true_and,and_true,implies_true,reduceCtorEq,Nat.zero_add,List.length_cons,g5,]
    repeat (with_reducible refine And.intro ?_ ?_; first | omega | (with_reducible constructor <;> omega) | exact False.elim | exact True.intro)
    refine ⟨⟨(a.by'.length:Int) != b.by'.length,fun h e=>?_,fun h=>?_⟩,?_⟩
    · subst e; simp at h
    · simp [eqB] at g1 g2 g3 g4 g5 h
      exact ⟨g1,g2,g3,g4,g5,by omega⟩
    · simp
  rintro ⟨r,hr1,hr0⟩
  simp only []
  refine Zai rfl (fun h1=>?_) (fun h1=>?_)
  · subst h1
    refine Zad (Zaa [4] ?_)
    simp only [Zab,Zac,Zaf,pok,pval,VA.ev,Env.get,Env.put,Env.keep,Zae,Nat.reduceEqDiff,ite_true,ite_false,true_and]
    refine Zaq ?_
    try simp only [Env.get,Zae,retQ,resV,Zau,RS.ev,RS.ok,ite_true,true_and,and_true]
    rw [eqB_f (hr1 rfl)]
    exact View.refl _ _
  subst h1
  have hdeep:=hr0 rfl
  have hk8:a.by'.length ≤ 9223372036854775807:=oa.len
  refine Zak ?_
  try simp only [Zae]
  refine Zad ?_
  refine Zad (Zaa [2,3,5] ?_)
  simp only [Zab,Zac,Zaf,pok,pval,VA.ev,Env.get,Env.put,Env.keep,Zae,Nat.succ_ne_self,Nat.reduceEqDiff,ite_true,ite_false,true_and]
  refine Zaj ?_
  refine Za6 (σ:={ k:Nat // k ≤ a.by'.length ∧ a.by'.take k = b.by'.take k }) (fun s=>([(2,.loc 0 0 0),(3,.loc 1 0 0),(5,pI s.1)],⟨[(1,.arr false 25 [b.enc]),(0,.arr false 25 [a.enc])],2⟩)) (fun s=>a.by'.length - s.1) ⟨0,by simp⟩ ?_ ?_ ?_
  · simp only [Env.get,Nat.succ_ne_self,Env.le,Nat.reduceEqDiff,ite_true,ite_false,true_and,and_true]
    rfl
  · simp only [Heap.get,Heap.le,HL.get,HL.le,Nat.le_refl,Nat.succ_ne_self,ite_true,ite_false,and_true,reduceCtorEq,ea,eb]
  rintro ⟨k,hk,he⟩
  simp only []
  refine Zad ?_
  refine Zad (Zaa [2,3,5,125] ?_)
  simp only [Zab,Zac,Zaf,pok,pval,VA.ev,Env.get,Env.put,Env.keep,Zae,aggV,intV,binV,Zah,lenV,Zan,Zam,Zag,Zap,Zba,PV.nth,PV.row,Heap.get,Heap.le,HL.get,HL.le,Nat.le_refl,Nat.succ_ne_self,Env.le,List.length,List.getD_cons_zero,List.take,List.drop,List.take_succ_cons,List.drop_succ_cons,Nat.reduceEqDiff,Nat.reduceLT,Bool.false_eq_true,ite_true,ite_false,true_and,and_true,implies_true,Nat.zero_add,List.length_cons,ea,eb,List.length_map]
  repeat (with_reducible refine And.intro ?_ ?_; first | omega | (with_reducible constructor <;> omega) | exact False.elim | exact True.intro)
  refine Zai rfl (fun h2=>?_) (fun h2=>?_)
  · refine Zak ?_
    try simp only [Zae]
    simp only [decide_eq_true_eq] at h2
    have ka:k < a.by'.length:=by omega
    have kb:k < b.by'.length:=by have:=hdeep.2.2.2.2.2; omega
    refine Zad ?_
    refine Zaj ?_
    refine Zad (Zb6 [2,3,5,139] (by simp [Heap.le,Heap.get,HL.le,HL.get]) ?_)  -- faddr load mv iaddr load faddr load mv iaddr load call un
    simp only [Zbn,Zb5,QW,dok,dval,VOp.pure,VOp.simple,VOp.det,pok,pval,VA.ev,Env.get,Env.put,Env.keep,Zae,gd,aggV,unV,unOk,isInt,numOf,lenV,Zan,Zam,Zag,Zap,Za0,Zas,PV.nth,PV.row,Heap.get,HL.get,Nat.le_refl,Nat.succ_ne_self,List.length,List.getD_cons_zero,List.take,List.drop,List.take_succ_cons,List.drop_succ_cons,Nat.reduceEqDiff,Nat.reduceLT,Bool.false_eq_true,Bool.true_eq_false,ite_true,ite_false,true_and,and_true,implies_true,forall_const,reduceCtorEq,Nat.zero_add,List.length_cons,imp_self,Int.toNat_natCast,ea,eb,List.length_map,rowm ka,rowm kb,it_take,It.Zbv]
    repeat (with_reducible refine And.intro ?_ ?_; first | omega | (with_reducible constructor <;> omega) | exact False.elim | exact True.intro)
    refine ⟨_,.inl (sp_pandectref17_Same _ _ (oa.by' _ (List.getElem_mem ka)) (ob.by' _ (List.getElem_mem kb))),?_⟩
    try simp only [true_and]
    refine Zai rfl (fun h3=>?_) (fun h3=>?_)
    · refine Zad (Zaa [4] ?_)
      simp only [Zab,Zac,Zaf,pok,pval,VA.ev,Env.get,Env.put,Env.keep,Zae,Nat.succ_ne_self,Nat.reduceEqDiff,ite_true,ite_false,true_and]
      refine Zaq ?_
      try simp only [Env.get,Zae,Zal,retQ,resV,Zau,RS.ev,RS.ok,ite_true,true_and,and_true]
      have h4:a.by'[k] ≠ b.by'[k]:=fun e=>by rw [e] at h3; simp [eqB] at h3
      have h5:a ≠ b:=fun e=>get_ne ka kb h4 (by rw [e])
      rw [eqB_f h5]
      exact View.refl _ _
    have h4:a.by'[k] = b.by'[k]:=by simpa [eqB] using h3
    refine Zak ?_
    try simp only [Zae,Zal]
    refine Zaa [2,3,5] ?_
    simp only [Zab,Zac,Zaf,pok,pval,VA.ev,Env.get,Env.put,Env.keep,Zae,intV,binV,Zah,HL.get,Nat.le_refl,Nat.succ_ne_self,Nat.reduceEqDiff,ite_true,ite_false,true_and,and_true,reduceCtorEq,w64 (n:=(k:Int) + 1) (by omega) (by omega)]
    refine ⟨⟨k + 1,by omega,take_step he ka kb h4⟩,?_,?_⟩
    · simp
    · simp [ea,eb]; omega
  · simp only [decide_eq_false_iff_not] at h2
    obtain rfl:k = a.by'.length:=by omega
    refine Za4 ?_
    try simp only [Zae,Zal,retQ,ite_true]
    refine Zad (Zaa [4] ?_)
    simp only [Zab,Zac,Zaf,pok,pval,VA.ev,Env.get,Env.put,Env.keep,Zae,Nat.succ_ne_self,Nat.reduceEqDiff,ite_true,ite_false,true_and]
    refine Zaq ?_
    try simp only [Env.get,retQ,resV,Zau,RS.ev,RS.ok,ite_true,true_and,and_true]
    rw [eqB_t (it_eq hflat hdeep (take_all hdeep.2.2.2.2.2 he))]
    exact View.refl _ _
termination_by SizeOf.sizeOf a
decreasing_by exact it_size ka
end Go.Proofs.YtehokmhebnkfdaaGreat.w
namespace Go.Proofs.YtehokmhebnkfdaaGreat.w
open Go Go.VM
set_option maxRecDepth 20000
set_option maxHeartbeats 0
def c_syntax_IsAmendment:VC:=(.seq (.region [ZO 2 (.mv (.c (.bool false)))] false) (.seq (.region [ZM 3 0,ZO 4 (.bin .geq (.t 3) (.c (.int .i64 0))),ZM 5 4,ZG 6 (.mv (.t 0)) 5 true,ZG 7 (.bin .leq (.t 6) (.c (.int .i64 6))) 5 true,ZO 8 (.pick (.t 5) (.t 7) (.c (.bool false))),ZM 2 8] false) .ret))
def c_pandectref28_Change:VC:=(.seq (.region [ZO 2 (.mv (.c (.bool false)))] false) (.seq (.region [ZM 3 0,ZO 4 (.bin .geq (.t 3) (.c (.int .i64 0))),ZM 5 4,ZG 6 (.mv (.t 0)) 5 true,ZG 7 (.bin .leq (.t 6) (.c (.int .i64 6))) 5 true,ZO 8 (.pick (.t 5) (.t 7) (.c (.bool false))),ZM 2 8] false) .ret))
def amend (k:Int):Bool:=decide (0 ≤ k) && decide (k ≤ 6)
theorem Zc7 (k:Int):Zbq Tryz.prog 59 [pI k] (.bool (amend k)):=by
  refine Zao ?_ (Closed.of_scalar (Zcd _)) (by simp only [Za1,List.mem_cons,List.not_mem_nil,or_false,forall_eq_or_imp,forall_eq,false_implies,implies_true]; repeat' (first  | exact cI _ | exact cB _ | exact Za9 (by simp only [List.mem_cons,List.not_mem_nil,or_false,forall_eq]; first | exact cI _ | exact cS _ | exact Zav _) | refine And.intro ?_ ?_))
  refine Zar (vc:=c_syntax_IsAmendment) (ts:=[.t 2]) Go.Proofs.Tryz.func59 (by kernel_rfl) rfl rfl (Nat.le_of_ble_eq_true rfl) (by kernel_rfl) ?_
  unfold c_syntax_IsAmendment
  try dsimp only [ZM,ZO,ZN,ZG]
  refine Zad (Zaa [0] ?_)
  simp only [Zab,Zac,Zaf,pok,pval,VA.ev,Env.get,Env.put,Env.keep,Za3,Zae,Heap.nil,ite_true,ite_false,true_and,reduceCtorEq]
  refine Zad (Zaa [2] ?_)
  simp only [Zac,Zaf,pok,pval,VA.ev,Env.get,Env.put,Env.keep,Zae,intV,binV,Zah,Nat.reduceEqDiff,ite_true,ite_false,true_and,reduceCtorEq]
  refine Za8 rfl (fun g1=>?_) (fun g1=>?_)
  · simp only [Zab,Zac,Zaz,Zaf,pok,pval,VA.ev,Env.get,Env.put,Zaw,isBool,intV,binV,Zah,Nat.succ_ne_self,Nat.reduceEqDiff,ite_true,ite_false,true_and,reduceCtorEq,g1]
    refine Zaq ?_
    try simp only [Env.get,retQ,resV,Zau,RS.ev,RS.ok,ite_true,true_and,and_true]
    rw [show amend k = decide (k ≤ 6) by rw [amend,g1]; rfl]
    exact View.refl _ _
  · simp only [Zab,Zac,Zbi,Zaf,pok,pval,VA.ev,Env.get,Env.put,Zaw,isBool,Nat.succ_ne_self,Nat.reduceEqDiff,Bool.false_eq_true,ite_true,ite_false,true_and,reduceCtorEq,Bool.not_true,g1]
    refine Zaq ?_
    try simp only [Env.get,retQ,resV,Zau,RS.ev,RS.ok,ite_true,true_and,and_true]
    rw [show amend k = false by rw [amend,g1]; rfl]
    exact View.refl _ _
theorem Zcz (k:Int):Zbq Tryz.prog 47 [pI k] (.bool (amend k)):=by
  refine Zao ?_ (Closed.of_scalar (Zcd _)) (by simp only [Za1,List.mem_cons,List.not_mem_nil,or_false,forall_eq_or_imp,forall_eq,false_implies,implies_true]; repeat' (first  | exact cI _ | exact cB _ | exact Za9 (by simp only [List.mem_cons,List.not_mem_nil,or_false,forall_eq]; first | exact cI _ | exact cS _ | exact Zav _) | refine And.intro ?_ ?_))
  refine Zar (vc:=c_pandectref28_Change) (ts:=[.t 2]) Go.Proofs.Tryz.func47 (by kernel_rfl) rfl rfl (Nat.le_of_ble_eq_true rfl) (by kernel_rfl) ?_
  unfold c_pandectref28_Change
  try dsimp only [ZM,ZO,ZN,ZG]
  refine Zad (Zaa [0] ?_)
  simp only [Zab,Zac,Zaf,pok,pval,VA.ev,Env.get,Env.put,Env.keep,Za3,Zae,Heap.nil,ite_true,ite_false,true_and,reduceCtorEq]
  refine Zad (Zaa [2] ?_)
  simp only [Zac,Zaf,pok,pval,VA.ev,Env.get,Env.put,Env.keep,Zae,intV,binV,Zah,Nat.reduceEqDiff,ite_true,ite_false,true_and,reduceCtorEq]
  refine Za8 rfl (fun g1=>?_) (fun g1=>?_)
  · simp only [Zab,Zac,Zaz,Zaf,pok,pval,VA.ev,Env.get,Env.put,Zaw,isBool,intV,binV,Zah,Nat.succ_ne_self,Nat.reduceEqDiff,ite_true,ite_false,true_and,reduceCtorEq,g1]
    refine Zaq ?_
    try simp only [Env.get,retQ,resV,Zau,RS.ev,RS.ok,ite_true,true_and,and_true]
    rw [show amend k = decide (k ≤ 6) by rw [amend,g1]; rfl]
    exact View.refl _ _
  · simp only [Zab,Zac,Zbi,Zaf,pok,pval,VA.ev,Env.get,Env.put,Zaw,isBool,Nat.succ_ne_self,Nat.reduceEqDiff,Bool.false_eq_true,ite_true,ite_false,true_and,reduceCtorEq,Bool.not_true,g1]
    refine Zaq ?_
    try simp only [Env.get,retQ,resV,Zau,RS.ev,RS.ok,ite_true,true_and,and_true]
    rw [show amend k = false by rw [amend,g1]; rfl]
    exact View.refl _ _
end Go.Proofs.YtehokmhebnkfdaaGreat.w
namespace Go.Proofs.YtehokmhebnkfdaaGreat.w
open Go Go.VM
set_option maxRecDepth 20000
set_option maxHeartbeats 0
def c_act_EnactedItems:VC:=(.seq (.region [ZO 1 (.box 7 (.t 0)),ZO 2 (.mv (.c .nilsl))] false) (.seq (.region [ZO 3 (.mv (.c .nilsl))] false) (.seq (.seq (.region [ZO 6 (.faddr 6 (.t 1)),ZO 7 (.load false 1 (.t 6)),ZO 8 (.len false (.t 7)),ZO 9 (.mv (.c (.int .i64 0)))] false) (.block 0 (.loop (.seq (.region [ZO 10 (.bin .lss (.t 9) (.t 8))] false) (.seq (.cond (.t 10) .skip (.exit 0)) (.seq (.block 1 (.seq (.region [ZM 11 9,ZO 12 (.iaddr 25 (.t 7) (.t 9)),ZO 13 (.load true 25 (.t 12)),ZO 5 (.alloc [(.int .i64 0),.nilsl,.nilsl,(.int .i64 0),(.int .i64 0),(.int .i64 0),(.int .i64 0),(.int .i64 0),(.int .i64 0),(.str []),.nilsl,.nilsl,.nilsl,.nilsl,.nilsl,(.str []),(.str []),(.int .i64 0),(.int .i64 0),(.str []),(.int .i64 0),(.int .i64 0),(.int .i64 0),(.str []),.nilsl]),ZM 4 11,ZN (.store 25 (.t 5) (.t 13))] false) (.region [ZM 14 3,ZO 15 (.faddr 0 (.t 1)),ZO 16 (.load false 1 (.t 15)),ZM 17 4,ZO 18 (.faddr 2 (.t 1)),ZO 19 (.load false 1 (.t 18)),ZO 20 (.load true 25 (.t 5)),ZO 21 (.build [(.int .i64 0),(.int .i64 0),(.int .i64 0),(.int .i64 0),.nilsl,.nilsl,(.int .i64 0),(.int .i64 0),(.int .i64 0),(.int .i64 0),(.int .i64 0),(.int .i64 0),(.str []),.nilsl,.nilsl,.nilsl,.nilsl,.nilsl,(.str []),(.str []),(.int .i64 0),(.int .i64 0),(.str []),(.int .i64 0),(.int .i64 0),(.int .i64 0),(.str []),.nilsl] [(0,(1,(.t 16))),(1,(1,(.t 17))),(2,(1,(.t 19))),(3,(25,(.t 20)))]),ZO 22 (.bslice 28 1 [(.int .i64 0),(.int .i64 0),(.int .i64 0),(.int .i64 0),.nilsl,.nilsl,(.int .i64 0),(.int .i64 0),(.int .i64 0),(.int .i64 0),(.int .i64 0),(.int .i64 0),(.str []),.nilsl,.nilsl,.nilsl,.nilsl,.nilsl,(.str []),(.str []),(.int .i64 0),(.int .i64 0),(.str []),(.int .i64 0),(.int .i64 0),(.int .i64 0),(.str []),.nilsl] [(0,(.t 21))]),ZO 23 (.app 28 392 [(.int .i64 0),(.int .i64 0),(.int .i64 0),(.int .i64 0),.nilsl,.nilsl,(.int .i64 0),(.int .i64 0),(.int .i64 0),(.int .i64 0),(.int .i64 0),(.int .i64 0),(.str []),.nilsl,.nilsl,.nilsl,.nilsl,.nilsl,(.str []),(.str []),(.int .i64 0),(.int .i64 0),(.str []),(.int .i64 0),(.int .i64 0),(.int .i64 0),(.str []),.nilsl] false (.t 14) (.t 22)),ZM 3 23] false))) (.region [ZO 24 (.bin .add (.t 9) (.c (.int .i64 1))),ZM 9 24] false))))))) (.seq (.region [ZM 25 3,ZM 2 25] false) .ret))))
def deedsFrom (n:Int) (d:Int):Nat → List It → List EI
  | _,[]=>[]
  | k,it :: r=>⟨n,k,d,it⟩ :: deedsFrom n d (k + 1) r
def deeds (a:Ac):List EI:=deedsFrom a.number a.day 0 a.items
def deedAt (a:Ac) (k:Nat) (h:k < a.items.length):EI:=⟨a.number,k,a.day,a.items[k]⟩
theorem deeds_len (n d:Int):∀ (l:List It) (k:Nat),(deedsFrom n d k l).length = l.length
  | [],_=>rfl
  | x :: r,k=>by simp [deedsFrom,deeds_len n d r]
theorem deeds_get (n d:Int):∀ (l:List It) (k j:Nat) (h:j < l.length),(deedsFrom n d k l)[j]'(by rw [deeds_len]; exact h) = ⟨n,((k + j:Nat):Int),d,l[j]⟩
  | x :: r,k,0,h=>by simp [deedsFrom]
  | x :: r,k,j + 1,h=>by
    simp only [deedsFrom,List.getElem_cons_succ]
    rw [deeds_get n d r (k + 1) j (by simpa using h)]
    simp; omega
theorem sp_act_EnactedItems (a:Ac) (hl:a.items.length ≤ 1000000):Zbq Tryz.prog 78 [.agg a.enc] (.sl 28 ((deeds a).map EI.enc)):=by
  refine Zao ?_ (Zav _) (by simp only [Za1,List.mem_cons,List.not_mem_nil,or_false,forall_eq_or_imp,forall_eq,false_implies,implies_true]; repeat' (first  | exact Zax (EI.closed _) | exact Zax (Ac.closed _) | exact Zav _ | exact Zay _ | refine And.intro ?_ ?_))
  refine Zar (vc:=c_act_EnactedItems) (ts:=[.t 2]) Go.Proofs.Tryz.func78 (by kernel_rfl) rfl rfl (Nat.le_of_ble_eq_true rfl) (by kernel_rfl) ?_
  unfold c_act_EnactedItems
  try dsimp only [ZM,ZO,ZN,ZG]
  have hdl:(deeds a).length = a.items.length:=deeds_len _ _ _ _
  refine Zad (Zaa [1] ?_)
  simp only [Zab,Zac,Zaf,pok,pval,VA.ev,Env.get,Env.put,Env.keep,Za3,Zae,PV.cells,PV.fits,Heap.push,Heap.nil,Nat.succ_ne_self,List.length,Nat.reduceAdd,ite_true,ite_false,true_and,reduceCtorEq,BEq.rfl,Nat.zero_add,Ac.enc]
  refine Zad (Zaa [1,3] ?_)
  simp only [Zab,Zac,Zaf,pok,pval,VA.ev,Env.get,Env.put,Env.keep,Zae,Nat.reduceEqDiff,ite_true,ite_false,true_and]
  refine VW_own0 3 28 rfl ?_
  try simp only [Env.put,Heap.push,Nat.reduceAdd]
  refine Zad ?_
  refine Zad (Zaa [1,3,7,8,9] ?_)
  simp only [Zab,Zac,Zaf,pok,pval,VA.ev,Env.get,Env.put,Env.keep,Zae,aggV,lenV,Zan,Zam,Zag,Zap,Zba,PV.nth,PV.row,Heap.get,HL.get,Nat.le_refl,Nat.succ_ne_self,List.length,List.getD_cons_zero,List.take,List.drop,List.take_succ_cons,List.drop_succ_cons,Nat.reduceEqDiff,Nat.reduceLT,Bool.false_eq_true,ite_true,ite_false,true_and,and_true,implies_true,Nat.zero_add,List.length_cons,List.length_map]
  refine Zaj ?_
  refine Za6 (σ:={ s:Nat × Nat × Nat // s.1 ≤ a.items.length ∧ 0 < s.2.1 ∧ s.2.1 < s.2.2 })
    (fun s=>([(1,.loc 0 0 0),(3,.own s.1.2.1 0 s.1.1),(7,.sl 25 (a.items.map It.enc)),(8,pI a.items.length),(9,pI s.1.1)],⟨[(s.1.2.1,.arr false 28 (((deeds a).take s.1.1).map EI.enc)),(0,.arr false 7 [a.enc])],s.1.2.2⟩)) (fun s=>a.items.length - s.1.1) ⟨(0,1,2),by simp⟩ ?_ ?_ ?_
  · simp only [Env.get,Nat.succ_ne_self,Env.le,Nat.reduceEqDiff,ite_true,ite_false,true_and,and_true]
    rfl
  · simp only [Heap.get,Heap.le,HL.get,HL.le,Nat.le_refl,Nat.succ_ne_self,List.take,ite_true,ite_false,and_true,reduceCtorEq,Ac.enc,List.map_nil]
  rintro ⟨⟨k,id,n⟩,hk,hi,hn⟩
  simp only [] at hk hi hn ⊢
  have qi0:(id = n) = False:=by simp; omega
  have qi1:(n = id) = False:=by simp; omega
  have qi2:(id = 0) = False:=by simp; omega
  have qi3:(0 = id) = False:=by simp; omega
  have qi4:(n = 0) = False:=by simp; omega
  have qi5:(0 = n) = False:=by simp; omega
  have qi6:∀ j,(n + j = id) = False:=fun j=>by simp; try omega
  have qi7:∀ j,(id = n + j) = False:=fun j=>by simp; try omega
  have qi8:∀ j,(n + (j + 1) = n) = False:=fun j=>by simp; try omega
  have qi9:∀ j,(n = n + (j + 1)) = False:=fun j=>by simp; try omega
  have qi10:∀ j,(n + j = 0) = False:=fun j=>by simp; try omega
  have qi11:∀ j,(0 = n + j) = False:=fun j=>by simp; try omega
  have qi12:(n + 1 + 1 = n) = False:=by simp; try omega
  have qi13:(n = n + 1 + 1) = False:=by simp; try omega
  have qi14:(n + 1 + 1 + 1 = n) = False:=by simp; try omega
  have qi15:(n = n + 1 + 1 + 1) = False:=by simp; try omega
  refine Zad (Zaa [1,3,7,8,9,10] ?_)
  simp only [Zab,Zac,Zaf,pok,pval,VA.ev,Env.get,Env.put,Env.keep,Zae,intV,binV,Zah,Heap.get,Heap.le,HL.le,Nat.succ_ne_self,Env.le,Nat.reduceEqDiff,ite_true,ite_false,true_and,and_true,List.length_map]
  refine Zad ?_
  refine Zai rfl (fun h1=>?_) (fun h1=>?_)
  · refine Zak ?_
    try simp only [Zae]
    simp only [decide_eq_true_eq] at h1
    have ka:k < a.items.length:=by omega
    refine Zad ?_
    refine Zaj ?_
    refine Zad (Zaa [1,3,4,5,7,8,9] ?_)
    simp only [Zab,Zac,Zaf,pok,pval,VA.ev,Env.get,Env.put,Env.keep,Zae,aggV,isInt,numOf,lenV,Zag,Zap,Za0,Zas,PV.cells,PV.fits,overlay,PV.nth,PV.row,Heap.get,Heap.set,HL.get,HL.set,HL.del,Heap.push,Nat.le_refl,Nat.succ_ne_self,Zbj,Zbe,List.set,List.length,List.getD_cons_zero,List.take,List.drop,List.drop_succ_cons,List.nil_append,Nat.reduceEqDiff,Nat.reduceAdd,Nat.reduceLT,Bool.true_eq_false,ite_true,ite_false,true_and,and_true,BEq.rfl,Nat.zero_add,imp_self,Int.toNat_natCast,List.length_map,rowm ka,it_take,It.Zbv]
    repeat (with_reducible refine And.intro ?_ ?_; first | omega | (with_reducible constructor <;> omega) | exact False.elim | exact True.intro)
    have hdk:(deeds a)[k]'(by rw [hdl]; exact ka) = deedAt a k ka:=by
      have:=deeds_get a.number a.day a.items 0 k ka
      simpa [deeds,deedAt] using this
    have hstep:((deeds a).take (k + 1)).map EI.enc = ((deeds a).take k).map EI.enc ++ [(deedAt a k ka).enc]:=by
      rw [List.take_add_one,List.getElem?_eq_getElem (by rw [hdl]; exact ka),hdk]; simp
    try simp only [ite_false,It.Zbv,List.append_nil,qi0,qi1,qi2,qi3,qi4,qi5,qi6,qi7,qi8,qi9,qi10,qi11,qi12,qi13,qi14,qi15]
    refine Zaa [1,3,7,8,9] ?_
    have hlen:(((deeds a).take k).map EI.enc).length = k:=by simp [hdl]; omega
    have htk:(((deeds a).take k).map EI.enc).take k = ((deeds a).take k).map EI.enc:=List.take_of_length_le (by rw [hlen]; exact Nat.le_refl _)
    simp only [Zab,Zac,Zaf,pok,pval,VA.ev,Env.get,Env.put,Env.keep,Zae,Zal,aggV,Zan,Zam,Zag,Zap,Zdn,Zcm,PV.cells,PV.fits,overlay,PV.nth,PV.row,Heap.get,Heap.del,HL.get,HL.del,Heap.push,Nat.le_refl,Nat.succ_ne_self,Zbu,Zdo,Zbp,Zdu,Zbf,Zde,Zbm,Zbh,List.set,List.replicate,List.length,List.getD_cons_zero,List.take,List.drop,List.take_succ_cons,List.drop_succ_cons,List.cons_append,List.nil_append,Nat.reduceEqDiff,Nat.reduceAdd,Nat.reduceLT,Nat.reduceLeDiff,Bool.false_eq_true,Bool.true_eq_false,ite_true,ite_false,true_and,and_true,implies_true,BEq.rfl,Nat.zero_add,Nat.add_zero,List.length_cons,imp_self,Ac.enc,it_take,It.Zbv,List.append_nil,hlen,htk,qi0,qi1,qi2,qi3,qi4,qi5,qi6,qi7,qi8,qi9,qi10,qi11,qi12,qi13,qi14,qi15]
    repeat (with_reducible refine And.intro ?_ ?_; first | omega | (with_reducible constructor <;> omega) | exact False.elim | exact True.intro)
    skip
    refine Zaa [1,3,7,8,9] ?_
    simp only [Zab,Zac,Zaf,pok,pval,VA.ev,Env.get,Env.put,Env.keep,Zae,intV,binV,Zah,HL.get,Nat.succ_ne_self,Nat.reduceEqDiff,ite_true,ite_false,true_and,and_true,reduceCtorEq,qi0,qi1,qi2,qi3,qi4,qi5,qi6,qi7,qi8,qi9,qi10,qi11,qi12,qi13,qi14,qi15,w64 (n:=(k:Int) + 1) (by omega) (by omega)]
    refine ⟨⟨(k + 1,n + 1 + 1,n + 1 + 1 + 1),?_,?_,?_⟩,?_,?_,?_⟩
    · simp only []; omega
    · simp only []; omega
    · simp only []; omega
    · simp
    · rw [hstep]
      simp only [Nat.le_refl,Nat.left_eq_add,Nat.succ_ne_self,ite_true,ite_false,true_and,reduceCtorEq,Option.some.injEq,qi0,qi1,qi2,qi3,qi4,qi5,qi6,qi7,qi8,qi9,qi10,qi11,qi12,qi13,qi14,qi15,Ac.enc]
      rfl
    · simp only []; omega
  · simp only [decide_eq_false_iff_not] at h1
    have hkl:k = a.items.length:=by omega
    refine Za4 ?_
    try simp only [Zae,Zal,retQ,ite_true]
    refine Zad (Zaa [2] ?_)
    simp only [Zab,Zac,Zaf,pok,pval,VA.ev,Env.get,Env.put,Env.keep,Zae,Nat.succ_ne_self,Nat.reduceEqDiff,ite_true,ite_false,true_and]
    refine Zaq ?_
    try simp only [Env.get,retQ,resV,Zau,RS.ev,RS.ok,ite_true,true_and,and_true]
    have hv:=View.own (h:=⟨[(id,.arr false 28 (((deeds a).take k).map EI.enc)),(0,.arr false 7 [a.enc])],n⟩) (id:=id) (off:=0) (len:=k) (z:=28) (fz:=false) (es:=((deeds a).take k).map EI.enc) (by simp [Heap.get,HL.get]) (by simp [hdl]; omega)
    have e1:List.take k (List.drop 0 (((deeds a).take k).map EI.enc)) = (deeds a).map EI.enc:=by
      rw [List.drop_zero,hkl,← hdl,List.take_length,← List.map_take,List.take_length]
    rw [e1] at hv
    exact hv
end Go.Proofs.YtehokmhebnkfdaaGreat.w
namespace Go.Proofs.YtehokmhebnkfdaaGreat.w
open Go Go.VM
set_option maxRecDepth 20000
set_option maxHeartbeats 0
def c_corpus_Acts_2:VC:=(.seq (.region [ZO 2 (.box 7 (.t 0)),ZO 3 (.box 7 (.t 1)),ZO 4 (.mv (.c (.int .i64 0)))] false) (.seq (.region [ZO 5 (.faddr 2 (.t 2)),ZO 6 (.load false 1 (.t 5)),ZO 7 (.faddr 2 (.t 3)),ZO 8 (.load false 1 (.t 7)),ZO 9 (.call 76 [(.t 6),(.t 8)]),ZO 10 (.faddr 0 (.t 2)),ZO 11 (.load false 1 (.t 10)),ZO 12 (.faddr 0 (.t 3)),ZO 13 (.load false 1 (.t 12)),ZO 14 (.call 76 [(.t 11),(.t 13)]),ZO 15 (.bslice 1 2 [(.int .i64 0)] [(0,(.t 9)),(1,(.t 14))]),ZO 16 (.call 75 [(.t 15)]),ZM 4 16] true) .ret))
def cmpA (a b:Ac):Int:=orI [cmpI a.day b.day,cmpI a.number b.number]
theorem Zdr (a b:Ac):Zbq Tryz.prog 74 [.agg a.enc,.agg b.enc] (pI (cmpA a b)):=by
  refine Zao ?_ (Closed.of_scalar (scalar_int _ _)) (by simp only [Za1,List.mem_cons,List.not_mem_nil,or_false,forall_eq_or_imp,forall_eq,false_implies,implies_true]; repeat' (first  | exact cI _ | exact Zax (Ac.closed _) | exact Za9 (by simp only [List.mem_cons,List.not_mem_nil,or_false,forall_eq]; first | exact cI _ | exact cS _ | exact Zav _) | refine And.intro ?_ ?_))
  refine Zar (vc:=c_corpus_Acts_2) (ts:=[.t 4]) Go.Proofs.Tryz.func74 (by kernel_rfl) rfl rfl (Nat.le_of_ble_eq_true rfl) (by kernel_rfl) ?_
  unfold c_corpus_Acts_2
  try dsimp only [ZM,ZO,ZN,ZG]
  refine Zad (Zaa [2,3] ?_)
  simp only [Zab,Zac,Zaf,pok,pval,VA.ev,Env.get,Env.put,Env.keep,Za3,Zae,PV.cells,PV.fits,Heap.push,Heap.nil,Nat.succ_ne_self,List.length,Nat.reduceEqDiff,Nat.reduceAdd,ite_true,ite_false,true_and,reduceCtorEq,BEq.rfl,Nat.zero_add,Ac.enc]
  skip
  skip
  refine Zad (Zb6 [4] (by simp [Heap.le,Heap.get,HL.le,HL.get]) ?_)  -- faddr load faddr load call faddr load faddr load call bslice call mv
  simp only [Zbn,Zb5,QW,dok,dval,VOp.pure,VOp.simple,VOp.det,pok,pval,VA.ev,Env.get,Env.put,Env.keep,Zae,gd,aggV,Zan,Zam,Zag,Zap,PV.cells,PV.fits,PV.nth,PV.row,Heap.get,HL.get,Nat.succ_ne_self,Zbm,Zbh,List.set,List.replicate,List.length,List.getD_cons_zero,List.take,List.drop,List.take_succ_cons,List.drop_succ_cons,Nat.reduceEqDiff,Nat.reduceAdd,Nat.reduceLT,Nat.reduceLeDiff,Bool.false_eq_true,ite_true,ite_false,true_and,and_true,implies_true,forall_const,reduceCtorEq,BEq.rfl,Nat.zero_add,Nat.add_zero,List.length_cons]
  refine ⟨_,.inl (Zc2 ..),?_⟩
  try simp only [true_and]
  refine ⟨_,.inl (Zc2 ..),?_⟩
  try simp only [true_and]
  refine ⟨_,.inl (sp_cmp_Or_int [cmpI a.day b.day,cmpI a.number b.number] (by simp)),?_⟩
  skip
  refine Zaq ?_
  try simp only [Env.get,retQ,resV,Zau,RS.ev,RS.ok,ite_true,true_and,and_true]
  exact View.refl _ _
end Go.Proofs.YtehokmhebnkfdaaGreat.w
