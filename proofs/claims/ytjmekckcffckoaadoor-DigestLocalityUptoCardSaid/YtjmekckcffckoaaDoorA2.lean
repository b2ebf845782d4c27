import Derived.Test.YtjmekckcffckoaaDoorA0
import Derived.Test.YtjmekckcffckoaaDoorVmQ
import Derived.Test.YtjmekckcffckoaaDoorVmG
import Derived.Test.YtjmekckcffckoaaDoorVm8
import Derived.Test.YtjmekckcffckoaaDoorChecked
set_option linter.all false
namespace Go.Proofs.YtjmekckcffckoaaDoor.w
open Go Go.VM
set_option maxRecDepth 20000
set_option maxHeartbeats 0
set_option pp.deepTerms false
def c_strconv_FormatUint:VC:=(.seq (.region [ZO 4 (.mv (.c (.str [])))] false) (.seq (.region [ZM 5 0,ZM 6 1,ZO 7 (.call 44 [(.t 5),(.t 6)]),ZM 4 7] false) .ret))
def Zb2 : VC := (.seq (.region [ZO 4 (.mv (.c (.str [])))] false) (.seq (.seq (.region [ZM 9 1,ZO 10 (.bin .eql (.t 9) (.c (.int .i64 10)))] false) (.cond (.t 10) (.seq (.seq (.region [ZM 11 0,ZO 12 (.bin .lss (.t 11) (.c (.int .u64 100)))] false) (.cond (.t 12) (.seq (.region [ZM 13 0,ZO 14 (.conv .i64 (.t 13)),ZO 15 (.call 60 [(.t 14)]),ZM 4 15] false) .ret) .skip)) (.seq (.region [ZO 5 (.alloc [(.int .u8 0),(.int .u8 0),(.int .u8 0),(.int .u8 0),(.int .u8 0),(.int .u8 0),(.int .u8 0),(.int .u8 0),(.int .u8 0),(.int .u8 0),(.int .u8 0),(.int .u8 0),(.int .u8 0),(.int .u8 0),(.int .u8 0),(.int .u8 0),(.int .u8 0),(.int .u8 0),(.int .u8 0),(.int .u8 0),(.int .u8 0),(.int .u8 0),(.int .u8 0),(.int .u8 0)])] false) (.seq (.region [ZM 16 0,ZO 17 (.call 61 [(.t 16)]),ZM 6 17] false) (.seq (.region [ZM 18 6,ZO 19 (.other ({ dst := some 19,op := Op.slice 94 (Operand.tmp 5) none (some (Operand.tmp 18)) none,type := 45,pos := "itoa.go:19",after := #[{ on := 0,ground := Ground.data }],guard := none } : Oper)),ZM 20 0,ZO 21 (.call 62 [(.t 19),(.t 20)])] false) (.seq (.region [ZM 22 6,ZO 23 (.other ({ dst := some 23,op := Op.slice 94 (Operand.tmp 5) none (some (Operand.tmp 22)) none,type := 45,pos := "itoa.go:20",after := #[{ on := 0,ground := Ground.data }],guard := none } : Oper)),ZO 24 (.px .b2s [(.t 23)]),ZM 4 24] false) .ret))))) .skip)) (.seq (.region [ZM 26 0,ZM 27 1,ZO 28 (.call 63 [(.c .nilsl),(.t 26),(.t 27),(.c (.bool false)),(.c (.bool false))]),ZM 25 28,ZO 29 (.ext (.t 25) 0),ZO 30 (.ext (.t 25) 1),ZM 7 29,ZM 8 30] false) (.seq (.region [ZM 31 8,ZM 4 31] false) .ret))))
def Zb3 : VC := (.seq (.region [ZO 10 (.mv (.c .nilsl)),ZO 11 (.mv (.c (.str [])))] false) (.seq (.seq (.region [ZM 19 2,ZO 20 (.bin .lss (.t 19) (.c (.int .i64 2))),ZM 21 20,ZG 22 (.mv (.t 2)) 21 false,ZG 23 (.bin .eql (.t 22) (.c (.int .i64 10))) 21 false,ZO 24 (.pick (.t 21) (.c (.bool true)) (.t 23)),ZM 25 24,ZG 26 (.mv (.t 2)) 25 false,ZG 27 (.bin .gtr (.t 26) (.c (.int .i64 36))) 25 false,ZO 28 (.pick (.t 25) (.c (.bool true)) (.t 27))] false) (.cond (.t 28) (.region [ZO 29 (.other ({ dst := some 29,op := Op.makeInterface 9 (Operand.const (Value.string { data := #[115,116,114,99,111,110,118,58,32,105,108,108,101,103,97,108,32,65,112,112,101,110,100,73,110,116,47,70,111,114,109,97,116,73,110,116,32,98,97,115,101] })),type := 20,pos := "itoa.go:93",after := #[],guard := none } : Oper)),ZN (.other ({ dst := none,op := Op.panic (Operand.tmp 29),type := 0,pos := "itoa.go:93",after := #[{ on := 0,ground := Ground.data }],guard := none } : Oper))] false) .skip)) (.seq (.region [ZO 12 (.alloc [(.int .u8 0),(.int .u8 0),(.int .u8 0),(.int .u8 0),(.int .u8 0),(.int .u8 0),(.int .u8 0),(.int .u8 0),(.int .u8 0),(.int .u8 0),(.int .u8 0),(.int .u8 0),(.int .u8 0),(.int .u8 0),(.int .u8 0),(.int .u8 0),(.int .u8 0),(.int .u8 0),(.int .u8 0),(.int .u8 0),(.int .u8 0),(.int .u8 0),(.int .u8 0),(.int .u8 0),(.int .u8 0),(.int .u8 0),(.int .u8 0),(.int .u8 0),(.int .u8 0),(.int .u8 0),(.int .u8 0),(.int .u8 0),(.int .u8 0),(.int .u8 0),(.int .u8 0),(.int .u8 0),(.int .u8 0),(.int .u8 0),(.int .u8 0),(.int .u8 0),(.int .u8 0),(.int .u8 0),(.int .u8 0),(.int .u8 0),(.int .u8 0),(.int .u8 0),(.int .u8 0),(.int .u8 0),(.int .u8 0),(.int .u8 0),(.int .u8 0),(.int .u8 0),(.int .u8 0),(.int .u8 0),(.int .u8 0),(.int .u8 0),(.int .u8 0),(.int .u8 0),(.int .u8 0),(.int .u8 0),(.int .u8 0),(.int .u8 0),(.int .u8 0),(.int .u8 0),(.int .u8 0)])] false) (.seq (.region [ZO 13 (.mv (.c (.int .i64 65)))] false) (.seq (.seq (.region [ZM 30 3] false) (.cond (.t 30) (.region [ZM 31 1,ZO 32 (.un .neg (.t 31)),ZM 1 32] false) .skip)) (.seq (.seq (.region [ZM 33 2,ZO 34 (.call 79 [(.t 33)])] false) (.cond (.t 34) (.seq (.region [ZM 35 2,ZO 36 (.conv .u64 (.t 35)),ZO 37 (.call 80 [(.t 36)]),ZO 38 (.conv .u64 (.t 37)),ZM 14 38] false) (.seq (.region [ZM 39 2,ZO 40 (.conv .u64 (.t 39)),ZM 15 40] false) (.seq (.region [ZM 41 2,ZO 42 (.conv .u64 (.t 41)),ZO 43 (.bin .sub (.t 42) (.c (.int .u64 1))),ZM 16 43] false) (.seq (.block 0 (.loop (.seq (.seq (.region [ZM 44 1,ZM 45 15,ZO 46 (.bin .geq (.t 44) (.t 45))] false) (.cond (.t 46) .skip (.exit 0))) (.block 1 (.seq (.region [ZM 47 13,ZO 48 (.bin .sub (.t 47) (.c (.int .i64 1))),ZM 13 48] false) (.seq (.region [ZM 49 13,ZM 50 1,ZM 51 16,ZO 52 (.bin .and (.t 50) (.t 51)),ZO 53 (.idx (.c (.str [48,49,50,51,52,53,54,55,56,57,97,98,99,100,101,102,103,104,105,106,107,108,109,110,111,112,113,114,115,116,117,118,119,120,121,122])) (.t 52)),ZO 54 (.other ({ dst := some 54,op := Op.indexAddr 114 (Operand.tmp 12) (Operand.tmp 49),type := 0,pos := "itoa.go:113",after := #[{ on := 0,ground := Ground.data },{ on := 0,ground := Ground.phase },{ on := 1,ground := Ground.phase },{ on := 2,ground := Ground.phase },{ on := 3,ground := Ground.phase },{ on := 4,ground := Ground.phase }],guard := none } : Oper)),ZN (.store 1 (.t 54) (.t 53))] false) (.region [ZM 55 1,ZM 56 14,ZO 57 (.bin .shr (.t 55) (.t 56)),ZM 1 57] false))))))) (.seq (.region [ZM 58 13,ZO 59 (.bin .sub (.t 58) (.c (.int .i64 1))),ZM 13 59] false) (.region [ZM 60 13,ZM 61 1,ZO 62 (.idx (.c (.str [48,49,50,51,52,53,54,55,56,57,97,98,99,100,101,102,103,104,105,106,107,108,109,110,111,112,113,114,115,116,117,118,119,120,121,122])) (.t 61)),ZO 63 (.other ({ dst := some 63,op := Op.indexAddr 114 (Operand.tmp 12) (Operand.tmp 60),type := 0,pos := "itoa.go:118",after := #[{ on := 0,ground := Ground.data },{ on := 0,ground := Ground.phase },{ on := 1,ground := Ground.phase },{ on := 2,ground := Ground.phase }],guard := none } : Oper)),ZN (.store 1 (.t 63) (.t 62))] false)))))) (.seq (.region [ZM 64 2,ZO 65 (.conv .u64 (.t 64)),ZM 17 65] false) (.seq (.block 2 (.loop (.seq (.seq (.region [ZM 66 1,ZM 67 17,ZO 68 (.bin .geq (.t 66) (.t 67))] false) (.cond (.t 68) .skip (.exit 2))) (.block 3 (.seq (.region [ZM 69 13,ZO 70 (.bin .sub (.t 69) (.c (.int .i64 1))),ZM 13 70] false) (.seq (.region [ZM 71 1,ZM 72 17,ZO 73 (.bin .quo (.t 71) (.t 72)),ZM 18 73] false) (.seq (.region [ZM 74 13,ZM 75 1,ZM 76 18,ZM 77 17,ZO 78 (.bin .mul (.t 76) (.t 77)),ZO 79 (.bin .sub (.t 75) (.t 78)),ZO 80 (.idx (.c (.str [48,49,50,51,52,53,54,55,56,57,97,98,99,100,101,102,103,104,105,106,107,108,109,110,111,112,113,114,115,116,117,118,119,120,121,122])) (.t 79)),ZO 81 (.other ({ dst := some 81,op := Op.indexAddr 114 (Operand.tmp 12) (Operand.tmp 74),type := 0,pos := "itoa.go:128",after := #[{ on := 0,ground := Ground.data },{ on := 0,ground := Ground.phase },{ on := 1,ground := Ground.phase },{ on := 2,ground := Ground.phase },{ on := 3,ground := Ground.phase },{ on := 4,ground := Ground.phase },{ on := 5,ground := Ground.phase },{ on := 6,ground := Ground.phase }],guard := none } : Oper)),ZN (.store 1 (.t 81) (.t 80))] false) (.region [ZM 82 18,ZM 1 82] false)))))))) (.seq (.region [ZM 83 13,ZO 84 (.bin .sub (.t 83) (.c (.int .i64 1))),ZM 13 84] false) (.region [ZM 85 13,ZM 86 1,ZO 87 (.idx (.c (.str [48,49,50,51,52,53,54,55,56,57,97,98,99,100,101,102,103,104,105,106,107,108,109,110,111,112,113,114,115,116,117,118,119,120,121,122])) (.t 86)),ZO 88 (.other ({ dst := some 88,op := Op.indexAddr 114 (Operand.tmp 12) (Operand.tmp 85),type := 0,pos := "itoa.go:133",after := #[{ on := 0,ground := Ground.data },{ on := 0,ground := Ground.phase },{ on := 1,ground := Ground.phase },{ on := 2,ground := Ground.phase }],guard := none } : Oper)),ZN (.store 1 (.t 88) (.t 87))] false)))))) (.seq (.seq (.region [ZM 89 3] false) (.cond (.t 89) (.seq (.region [ZM 90 13,ZO 91 (.bin .sub (.t 90) (.c (.int .i64 1))),ZM 13 91] false) (.region [ZM 92 13,ZO 93 (.other ({ dst := some 93,op := Op.indexAddr 114 (Operand.tmp 12) (Operand.tmp 92),type := 0,pos := "itoa.go:139",after := #[{ on := 0,ground := Ground.data },{ on := 0,ground := Ground.phase }],guard := none } : Oper)),ZN (.store 1 (.t 93) (.c (.int .u8 45)))] false)) .skip)) (.seq (.seq (.region [ZM 94 4] false) (.cond (.t 94) (.seq (.region [ZM 95 0,ZM 96 13,ZO 97 (.other ({ dst := some 97,op := Op.slice 114 (Operand.tmp 12) (some (Operand.tmp 96)) none none,type := 45,pos := "itoa.go:143",after := #[{ on := 1,ground := Ground.data }],guard := none } : Oper)),ZO 98 (.app 1 1 [(.int .u8 0)] false (.t 95) (.t 97)),ZM 10 98] false) .ret) .skip)) (.seq (.region [ZM 99 13,ZO 100 (.other ({ dst := some 100,op := Op.slice 114 (Operand.tmp 12) (some (Operand.tmp 99)) none none,type := 45,pos := "itoa.go:146",after := #[{ on := 0,ground := Ground.data }],guard := none } : Oper)),ZO 101 (.px .b2s [(.t 100)]),ZM 11 101] false) .ret)))))))))
def Zbv:VC:=(.seq (.region [ZO 2 (.mv (.c (.bool false)))] false) (.seq (.region [ZM 3 0,ZM 4 0,ZO 5 (.bin .sub (.t 4) (.c (.int .i64 1))),ZO 6 (.bin .and (.t 3) (.t 5)),ZO 7 (.bin .eql (.t 6) (.c (.int .i64 0))),ZM 2 7] false) .ret))
def Zcf:VC:=(.seq (.region [ZO 2 (.mv (.c (.int .i64 0)))] false) (.seq (.cond (.c (.bool false)) (.seq (.region [ZM 3 0,ZO 4 (.conv .u32 (.t 3)),ZO 5 (.call 93 [(.t 4)]),ZM 2 5] false) .ret) .skip) (.seq (.region [ZM 6 0,ZO 7 (.call 94 [(.t 6)]),ZM 2 7] false) .ret)))
def Zcb : VC := (.seq (.region [ZO 2 (.mv (.c (.int .i64 0)))] false) (.seq (.seq (.region [ZM 3 0,ZO 4 (.bin .eql (.t 3) (.c (.int .u64 0)))] false) (.cond (.t 4) (.seq (.region [ZO 2 (.mv (.c (.int .i64 64)))] false) .ret) .skip)) (.seq (.region [ZM 5 0,ZM 6 0,ZO 7 (.un .neg (.t 6)),ZO 8 (.bin .and (.t 5) (.t 7)),ZO 9 (.bin .mul (.t 8) (.c (.int .u64 285870213051353865))),ZO 10 (.bin .shr (.t 9) (.c (.int .u64 58))),ZO 11 (.other ({ dst := some 11,op := Op.indexAddr 135 (Operand.global 3) (Operand.tmp 10),type := 0,pos := "bits.go:105",after := #[{ on := 5,ground := Ground.data }],guard := none } : Oper)),ZO 12 (.load false 1 (.t 11)),ZO 13 (.conv .i64 (.t 12)),ZM 2 13] false) .ret)))
theorem closed_ns (a:Str):Closed (.tup [.nilsl,.str a]):=closed_tup (by simp only [List.mem_cons,List.not_mem_nil,or_false,forall_eq_or_imp,forall_eq]; exact ⟨closed_nilsl,cS _⟩)
theorem sp_pow2:Za8 Tryd.prog 79 [pI 16] (.bool true):=by
  refine Zai ?_ (cB _) (by simp only [Zax,List.mem_cons,List.not_mem_nil,or_false,forall_eq_or_imp,forall_eq,false_implies,implies_true]; repeat' (first  | exact cI _ | exact cB _ | exact Zbd (by simp only [List.mem_cons,List.not_mem_nil,or_false,forall_eq]; first | exact cI _ | exact cS _ | exact Za9 _) | refine And.intro ?_ ?_))
  refine Zan (vc:=Zbv) (ts:=[.t 2]) Go.Proofs.Tryd.func79 (by kernel_rfl) rfl rfl (Nat.le_of_ble_eq_true rfl) (by kernel_rfl) ?_
  unfold Zbv
  try dsimp only [ZM,ZO,ZN,ZG]
  refine Zac (Zaa [0] ?_)
  simp only [Zab,Zad,Zaf,pok,pval,VA.ev,Env.get,Env.put,Env.keep,Za3,Zae,Heap.nil,ite_true,ite_false,true_and,reduceCtorEq]
  have e1:IntKind.i64.wrap (16 - 1) = 15:=by decide
  have e2:(IntKind.i64.wrap (BitVec.ofInt IntKind.i64.bits 16 &&& BitVec.ofInt IntKind.i64.bits 15).toNat == 0) = true:=by decide
  refine Zac (Zaa [2] ?_)
  simp only [Zab,Zad,Zaf,pok,pval,VA.ev,Env.get,Env.put,Env.keep,Zae,intV,binV,Zal,Nat.succ_ne_self,Nat.reduceEqDiff,ite_true,ite_false,true_and,reduceCtorEq,e1,e2]
  refine Zaz ?_
  try simp only [Env.get,retQ,resV,Zbc,RS.ev,RS.ok,ite_true,true_and,and_true]
  exact View.refl _ _
theorem sp_tz64:Za8 Tryd.prog 94 [.int .u64 16] (pI 4):=by
  refine Zai ?_ (cI _) (by simp only [Zax,List.mem_cons,List.not_mem_nil,or_false,forall_eq_or_imp,forall_eq,false_implies,implies_true]; repeat' (first  | exact cI _ | exact Closed.of_scalar (Zbt _ _) | exact Zbd (by simp only [List.mem_cons,List.not_mem_nil,or_false,forall_eq]; first | exact cI _ | exact cS _ | exact Za9 _) | refine And.intro ?_ ?_))
  refine Zan (vc:=Zcb) (ts:=[.t 2]) Go.Proofs.Tryd.func94 (by kernel_rfl) rfl rfl (Nat.le_of_ble_eq_true rfl) (by kernel_rfl) ?_
  unfold Zcb
  try dsimp only [ZM,ZO,ZN,ZG]
  refine Zac (Zaa [0] ?_)
  simp only [Zab,Zad,Zaf,pok,pval,VA.ev,Env.get,Env.put,Env.keep,Za3,Zae,Heap.nil,ite_true,ite_false,true_and,reduceCtorEq]
  refine Zac ?_
  have e0:((16:Int) == 0) = false:=by decide
  refine Zac (Zaa [0,4] ?_)
  simp only [Zab,Zad,Zaf,pok,pval,VA.ev,Env.get,Env.put,Env.keep,Zae,intV,binV,Zal,Nat.reduceEqDiff,ite_true,ite_false,true_and,reduceCtorEq,e0]
  refine Zaj rfl (fun h1=>?_) (fun h1=>?_)
  · cases h1
  refine Zap ?_
  try simp only [Zae]
  refine Zac (Zaa [2] ?_)
  simp only [Zab,Zad,Zaf,pok,pval,VA.ev,Env.get,Env.put,Env.keep,Zae,aggV,intV,binV,Zal,unV,unOk,convV,isInt,Zag,Zas,PV.nth,PV.row,Heap.get,Nat.succ_ne_self,Nat.reduceEqDiff,Bool.false_eq_true,ite_true,ite_false,true_and,and_true,implies_true,reduceCtorEq,Int.reduceToNat]
  refine ⟨by decide,?_⟩
  refine OpS_iaddrG (k:=15) (kk:=.u64) (ke:=.u8) (n:=4) (l:=(known.lookup 3).getD []) rfl (by kernel_rfl) (by kernel_rfl) rfl (by kernel_rfl) (of_decide_eq_true (by kernel_rfl)) (by kernel_rfl) (of_decide_eq_true (by kernel_rfl)) (by kernel_rfl) ?_
  try simp only [Nat.le_refl,List.length,List.getD_cons_zero,List.take,true_and,and_true,Nat.zero_add]
  have e4:IntKind.i64.wrap 4 = 4:=by decide
  rw [e4]
  refine Zaz ?_
  try simp only [Env.get,retQ,resV,Zbc,RS.ev,RS.ok,ite_true,true_and,and_true]
  exact View.refl _ _
theorem sp_tz:Za8 Tryd.prog 80 [.int .u64 16] (pI 4):=by
  have A:=sp_tz64
  refine Zai ?_ (cI _) (by simp only [Zax,List.mem_cons,List.not_mem_nil,or_false,forall_eq_or_imp,forall_eq,false_implies,implies_true]; repeat' (first  | exact cI _ | exact Closed.of_scalar (Zbt _ _) | exact Zbd (by simp only [List.mem_cons,List.not_mem_nil,or_false,forall_eq]; first | exact cI _ | exact cS _ | exact Za9 _) | refine And.intro ?_ ?_))
  refine Zan (vc:=Zcf) (ts:=[.t 2]) Go.Proofs.Tryd.func80 (by kernel_rfl) rfl rfl (Nat.le_of_ble_eq_true rfl) (by kernel_rfl) ?_
  unfold Zcf
  try dsimp only [ZM,ZO,ZN,ZG]
  refine Zac (Zaa [0,2] ?_)
  simp only [Zab,Zad,Zaf,pok,pval,VA.ev,Env.get,Env.put,Env.keep,Za3,Zae,Heap.nil,ite_true,ite_false,true_and,reduceCtorEq]
  refine Zac ?_
  refine Zaj rfl (fun h1=>?_) (fun h1=>?_)
  · cases h1
  refine Zap ?_
  try simp only [Zae]
  refine Zac (Zaa [2] ?_)
  simp only [Zab,Zad,Zaf,pok,pval,VA.ev,Env.get,Env.put,Env.keep,Zae,List.map,Nat.reduceEqDiff,ite_true,ite_false,true_and,reduceCtorEq]
  refine Zaq A ?_
  skip
  refine Zaz ?_
  try simp only [Env.get,retQ,resV,Zbc,RS.ev,RS.ok,ite_true,true_and,and_true]
  exact View.refl _ _
theorem hexD_small {u:Nat} (h:u < 16):hexD u = [sgn u]:=by rw [hexD,dif_pos h]
theorem hexD_step {u:Nat} (h:¬ u < 16):hexD u = hexD (u / 16) ++ [sgn (u % 16)]:=by rw [hexD,dif_neg h]
def Zbk (i:Nat) (T:Str):List PV:=List.replicate i (.int .u8 0) ++ T.map fun b=>.int .u8 (b.toNat:Int)
theorem cells_set (i:Nat) (T:Str) (b:UInt8):List.take i (Zbk (i + 1) T) ++ [.int .u8 (b.toNat:Int)] ++ List.drop (i + 1) (Zbk (i + 1) T) = Zbk i (b :: T):=by
  have e:Zbk (i + 1) T = List.replicate i (.int .u8 0) ++ (.int .u8 0 :: T.map fun b=>.int .u8 (b.toNat:Int)):=by
    unfold Zbk
    rw [List.replicate_succ',List.append_assoc]; rfl
  have e1:List.take i (Zbk (i + 1) T) = List.replicate i (.int .u8 0):=by rw [e,List.take_append_of_le_length (by simp)]; exact List.take_of_length_le (by simp)
  have e2:List.drop (i + 1) (Zbk (i + 1) T) = T.map fun b=>.int .u8 (b.toNat:Int):=by
    unfold Zbk
    rw [List.drop_append_of_le_length (by simp),List.drop_eq_nil_of_le (by simp),List.nil_append]
  rw [e1,e2]
  unfold Zbk
  simp
theorem cells_drop (i:Nat) (T:Str):((Zbk i T).drop i).map (fun c=>[c]) = T.map fun b=>[PV.int .u8 (b.toNat:Int)]:=by
  unfold Zbk
  rw [List.drop_append_of_le_length (by simp),List.drop_eq_nil_of_le (by simp),List.nil_append,List.map_map]; rfl
theorem idx_sgn {n:Nat} (h:n < 16):List.getD ([48,49,50,51,52,53,54,55,56,57,97,98,99,100,101,102,103,104,105,106,107,108,109,110,111,112,113,114,115,116,117,118,119,120,121,122]:Str) n 0 = sgn n:=by
  have:∀ m:Fin 16,List.getD ([48,49,50,51,52,53,54,55,56,57,97,98,99,100,101,102,103,104,105,106,107,108,109,110,111,112,113,114,115,116,117,118,119,120,121,122]:Str) m.1 0 = sgn m.1:=by decide
  exact this ⟨n,h⟩
theorem u64w {n:Int} (h0:0 ≤ n) (h1:n < 18446744073709551616):IntKind.u64.wrap n = n:=by
  have:IntKind.u64.wrap n = n % 18446744073709551616:=rfl
  rw [this]; omega
theorem and15 (u:Nat) (h:u < 18446744073709551616):IntKind.u64.wrap (BitVec.ofInt IntKind.u64.bits (u:Int) &&& BitVec.ofInt IntKind.u64.bits 15).toNat = ((u % 16:Nat):Int):=by
  have e5:(BitVec.ofInt 64 (u:Int) &&& BitVec.ofInt 64 15).toNat = u % 16:=by
    rw [BitVec.toNat_and,BitVec.ofInt_natCast,BitVec.toNat_ofNat,Nat.mod_eq_of_lt (by simpa using h)]
    exact Nat.and_two_pow_sub_one_eq_mod u 4
  show IntKind.u64.wrap (BitVec.ofInt 64 (u:Int) &&& BitVec.ofInt 64 15).toNat = _
  rw [e5]
  exact u64w (by omega) (by omega)
theorem sp_formatBits (n:Nat) (hn:n < 18446744073709551616):Za8 Tryd.prog 63 [.nilsl,.int .u64 n,pI 16,.bool false,.bool false] (.tup [.nilsl,.str (hexD n)]):=by
  have T1:=sp_pow2
  have T2:=sp_tz
  obtain ⟨hx1, _⟩ := hexD_pad 16 n (by decide) (by have e : (16 : Nat) ^ 16 = 18446744073709551616 := by decide
                                                   rw [e]; exact hn)
  refine Zai ?_ ((closed_ns _)) (by simp only [Zax,List.mem_cons,List.not_mem_nil,or_false,forall_eq_or_imp,forall_eq,false_implies,implies_true]; repeat' (first  | exact cI _ | exact cS _ | exact cB _ | exact closed_nilsl | exact Closed.of_scalar (Zbt _ _) | exact Zbd (by simp only [List.mem_cons,List.not_mem_nil,or_false,forall_eq]; first | exact cI _ | exact cS _ | exact Za9 _) | refine And.intro ?_ ?_))
  refine ACall_fnQ (vc:=Zb3) (ts:=[.t 10,.t 11]) Go.Proofs.Tryd.func63 (by kernel_rfl) rfl rfl (Nat.le_of_ble_eq_true rfl) (by kernel_rfl) ?_
  unfold Zb3
  try dsimp only [ZM,ZO,ZN,ZG]
  refine Zac (Zaa [0,1,2,3,4,10,11] ?_)
  simp only [Zab,Zad,Zaf,pok,pval,VA.ev,Env.get,Env.put,Env.keep,Za3,Zae,Heap.nil,Nat.succ_ne_self,Nat.reduceEqDiff,Nat.reduceAdd,ite_true,ite_false,true_and,reduceCtorEq,Nat.zero_add]
  refine Zac ?_
  have a1:decide ((16:Int) < 2) = false:=by decide
  have a2:((16:Int) == 10) = false:=by decide
  have a3:decide ((16:Int) > 36) = false:=by decide
  refine Zac (Zaa [0,1,2,3,4,10,11,28] ?_)
  simp only [Zab,Zad,OpsW_y,Zaf,pok,pval,VA.ev,Env.get,Env.put,Env.keep,Zae,pickV,isBool,intV,binV,Zal,Nat.succ_ne_self,Nat.reduceEqDiff,Bool.false_eq_true,ite_true,ite_false,true_and,reduceCtorEq,a1,a2,a3]
  refine Zaj rfl (fun h1=>?_) (fun h1=>?_)
  · cases h1
  refine Zap ?_
  try simp only [Zae]
  refine Zac (Zaa [0,1,2,3,4,10,11,12] ?_)
  simp only [Zab,Zad,Zaf,Env.get,Env.put,Env.keep,Zae,Heap.push,Nat.succ_ne_self,List.length,Nat.reduceEqDiff,Nat.reduceAdd,ite_true,ite_false,reduceCtorEq,Nat.zero_add]
  have hc0:∀ (X:List PV),X = Zbk 65 [] → True:=fun _ _=>trivial
  refine Zac (Zaa [0,1,2,3,4,10,11,12,13] ?_)
  simp only [Zab,Zad,Zaf,pok,pval,VA.ev,Env.get,Env.put,Env.keep,Zae,Nat.succ_ne_self,Nat.reduceEqDiff,ite_true,ite_false,true_and,reduceCtorEq]
  refine Zac ?_
  refine Zac (Zaa [0,1,2,3,4,10,11,12,13,30] ?_)
  simp only [Zab,Zad,Zaf,pok,pval,VA.ev,Env.get,Env.put,Env.keep,Zae,Nat.succ_ne_self,Nat.reduceEqDiff,ite_true,ite_false,true_and,reduceCtorEq]
  refine Zaj rfl (fun h2=>?_) (fun h2=>?_)
  · cases h2
  refine Zap ?_
  try simp only [Zae]
  refine Zac ?_
  refine Zac (Zaa [0,1,2,3,4,10,11,12,13,34] ?_)
  simp only [Zab,Zad,Zaf,pok,pval,VA.ev,Env.get,Env.put,Env.keep,Zae,Nat.succ_ne_self,List.map,Nat.reduceEqDiff,ite_true,ite_false,true_and,reduceCtorEq]
  refine Zaq T1 ?_
  skip
  refine Zaj rfl (fun h3=>?_) (fun h3=>?_)
  case refine_2=>cases h3
  have w16:IntKind.u64.wrap 16 = 16:=by decide
  have w4:IntKind.u64.wrap 4 = 4:=by decide
  have w15:IntKind.u64.wrap (16 - 1) = 15:=by decide
  refine Zac (Zaa [0,1,2,3,4,10,11,12,13,14] ?_)
  simp only [Zab,Zad,Zaf,pok,pval,VA.ev,Env.get,Env.put,Env.keep,Zae,convV,isInt,Nat.succ_ne_self,List.map,Nat.reduceEqDiff,ite_true,ite_false,true_and,reduceCtorEq,w16]
  refine Zaq T2 ?_
  try simp only [true_and,w4]
  refine Zac (Zaa [0,1,2,3,4,10,11,12,13,14,15] ?_)
  simp only [Zab,Zad,Zaf,pok,pval,VA.ev,Env.get,Env.put,Env.keep,Zae,convV,isInt,Nat.succ_ne_self,Nat.reduceEqDiff,ite_true,ite_false,true_and,reduceCtorEq,w16]
  refine Zac (Zaa [0,1,3,4,10,11,12,13,14,15,16] ?_)
  simp only [Zab,Zad,Zaf,pok,pval,VA.ev,Env.get,Env.put,Env.keep,Zae,intV,binV,Zal,convV,isInt,Nat.succ_ne_self,Nat.reduceEqDiff,ite_true,ite_false,true_and,reduceCtorEq,w16,w15]
  refine Zac ?_
  refine Zam ?_
  refine Zb6 (σ:={ s:Nat × Nat × Str // hexD s.1 ++ s.2.2 = hexD n ∧ s.2.1 + s.2.2.length = 65 ∧ s.1 ≤ n }) (fun s=>([(0,.nilsl),(1,.int .u64 s.1.1),(3,.bool false),(4,.bool false),(10,.nilsl),(11,.str []),(12,.loc 0 0 0),(13,pI s.1.2.1),(14,.int .u64 4),(15,.int .u64 16),(16,.int .u64 15)],⟨[(0,.arr false 65 [Zbk s.1.2.1 s.1.2.2])],1⟩)) (fun s=>s.1.1) ⟨(n,65,[]),by simp,by simp,Nat.le_refl _⟩ ?_ ?_ ?_
  · try simp only [Env.get,Nat.succ_ne_self,Env.le,Nat.reduceEqDiff,ite_true,ite_false,true_and,and_true,reduceCtorEq,true_and]
    all_goals (repeat' (first | rfl | trivial | omega | (simp only []; omega) | refine And.intro ?_ ?_))
  · simp only [Heap.get,Heap.le,HL.get,HL.le,Nat.le_refl,ite_true,true_and,and_true,Option.some.injEq]
    rfl
  rintro ⟨⟨u,i,T⟩,hT,hi,hu⟩
  simp only [] at hT hi hu ⊢
  have hTl:(hexD u).length + T.length ≤ 16:=by rw [← List.length_append,hT]; exact hx1
  refine Zac ?_
  refine Zac (Zaa [0,1,3,4,10,11,12,13,14,15,16,46] ?_)
  simp only [Zab,Zad,Zaf,pok,pval,VA.ev,Env.get,Env.put,Env.keep,Zae,intV,binV,Zal,Heap.get,Heap.le,HL.le,Nat.succ_ne_self,Env.le,Nat.reduceEqDiff,ite_true,ite_false,true_and,and_true,reduceCtorEq]
  refine Zaj rfl (fun h4=>?_) (fun h4=>?_)
  · simp only [decide_eq_true_eq] at h4
    refine Zap ?_
    try simp only [Zae]
    obtain ⟨i,rfl⟩:∃ i',i = i' + 1:=⟨i - 1,by omega⟩
    have ei:IntKind.i64.wrap (((i + 1:Nat):Int) - 1) = (i:Int):=by rw [w64 (by omega) (by omega)]; omega
    have hun:u < 18446744073709551616:=by omega
    have hand:=and15 u hun
    have hix:=idx_sgn (n:=u % 16) (by omega)
    have hd:=hexD_step (u:=u) (by omega)
    refine Zam ?_
    refine Zac (Zaa [0,1,3,4,10,11,12,13,14,15,16] ?_)
    simp only [Zab,Zad,Zaf,pok,pval,VA.ev,Env.get,Env.put,Env.keep,Zae,intV,binV,Zal,Nat.succ_ne_self,Nat.reduceEqDiff,ite_true,ite_false,true_and,reduceCtorEq,ei]
    refine Zac (Zaa [0,1,3,4,10,11,12,13,14,15,16] ?_)
    simp only [Zab,Zad,Zaf,pok,pval,VA.ev,Env.get,Env.put,Env.keep,Zae,intV,binV,Zal,isInt,numOf,lenV,idxV,idxOk,PV.cells,PV.fits,overlay,PV.row,Heap.get,Heap.set,Nat.succ_ne_self,Zbj,Zbh,List.length,Nat.reduceEqDiff,Nat.reduceAdd,ite_true,ite_false,true_and,and_true,reduceCtorEq,BEq.rfl,Nat.zero_add,List.length_cons,Int.toNat_natCast,hand,hix]
    refine ⟨by omega,?_⟩
    refine OpS_iaddrA (k:=i) (kk:=.i64) (id:=0) (i:=0) (off:=0) rfl (by kernel_rfl) (by kernel_rfl) rfl rfl rfl rfl (Nat.lt_of_lt_of_le (show i < 65 by omega) (Nat.le_of_eq (by kernel_rfl))) ?_
    have hset:=cells_set i T (sgn (u % 16))
    have hcl:(Zbk (i + 1) T).length = 65:=by simp [Zbk]; omega
    try simp only [HL.get,HL.set,HL.del,List.set,List.length,List.getD_cons_zero,Nat.reduceLT,Nat.reduceLeDiff,ite_true,true_and,Nat.zero_add]
    refine ⟨by omega,?_⟩
    have e5:(u:Int).fdiv (2 ^ min 4 IntKind.u64.bits) = ((u / 16:Nat):Int):=by
      show (u:Int).fdiv 16 = _
      rw [Int.fdiv_eq_ediv_of_nonneg _ (by decide)]; rfl
    refine Zaa [0,1,3,4,10,11,12,13,14,15,16] ?_
    simp only [Zab,Zad,Zaf,pok,pval,VA.ev,Env.get,Env.put,Env.keep,Zae,Zaw,intV,binV,Zal,HL.get,Nat.le_refl,Nat.succ_ne_self,Nat.reduceEqDiff,ite_true,ite_false,true_and,and_true,reduceCtorEq,Option.some.injEq,Int.reduceToNat,e5]
    refine ⟨by decide,⟨(u / 16,i,sgn (u % 16) :: T),by rw [← hT,hd]; simp,by simp only [List.length_cons]; omega,by show u / 16 ≤ n; omega⟩,?_⟩
    try simp only [true_and,and_true,true_and]
    all_goals (repeat' (first | rfl | trivial | omega | (simp only []; omega) | refine And.intro ?_ ?_))
    rw [hset]
  simp only [decide_eq_false_iff_not] at h4
  have hu16:u < 16:=by omega
  rw [hexD_small hu16] at hT hTl
  simp only [List.length_cons,List.length_nil] at hTl
  obtain ⟨i,rfl⟩:∃ i',i = i' + 1:=⟨i - 1,by omega⟩
  have ei:IntKind.i64.wrap (((i + 1:Nat):Int) - 1) = (i:Int):=by rw [w64 (by omega) (by omega)]; omega
  have hix:=idx_sgn hu16
  have hset:=cells_set i T (sgn u)
  have hcl:(Zbk (i + 1) T).length = 65:=by simp [Zbk]; omega
  refine Zbs ?_
  try simp only [Zae,Zaw,retQ,ite_true]
  refine Zac (Zaa [0,1,3,4,10,11,12,13] ?_)
  simp only [Zab,Zad,Zaf,pok,pval,VA.ev,Env.get,Env.put,Env.keep,Zae,intV,binV,Zal,Nat.succ_ne_self,Nat.reduceEqDiff,ite_true,ite_false,true_and,reduceCtorEq,ei]
  refine Zaa [0,3,4,10,11,12,13] ?_
  simp only [Zab,Zad,Zaf,pok,pval,VA.ev,Env.get,Env.put,Env.keep,Zae,isInt,numOf,lenV,idxV,idxOk,PV.cells,PV.fits,overlay,PV.row,Heap.get,Heap.set,Nat.succ_ne_self,Zbj,Zbh,List.length,Nat.reduceEqDiff,Nat.reduceAdd,ite_true,ite_false,true_and,and_true,reduceCtorEq,BEq.rfl,Nat.zero_add,List.length_cons,Int.toNat_natCast,hix]
  refine ⟨by omega,?_⟩
  refine OpS_iaddrA (k:=i) (kk:=.i64) (id:=0) (i:=0) (off:=0) rfl (by kernel_rfl) (by kernel_rfl) rfl rfl rfl rfl (Nat.lt_of_lt_of_le (show i < 65 by omega) (Nat.le_of_eq (by kernel_rfl))) ?_
  try simp only [HL.get,HL.set,HL.del,List.set,List.length,List.getD_cons_zero,Nat.reduceLT,Nat.reduceLeDiff,ite_true,true_and,Nat.zero_add]
  refine ⟨by omega,?_⟩
  refine Zac ?_
  refine Zac (Zaa [0,4,10,11,12,13,89] ?_)
  simp only [Zab,Zad,Zaf,pok,pval,VA.ev,Env.get,Env.put,Env.keep,Zae,Nat.succ_ne_self,Nat.reduceEqDiff,ite_true,ite_false,true_and,reduceCtorEq]
  refine Zaj rfl (fun h5=>?_) (fun h5=>?_)
  · cases h5
  refine Zap ?_
  try simp only [Zae]
  refine Zac ?_
  refine Zac (Zaa [10,11,12,13,94] ?_)
  simp only [Zab,Zad,Zaf,pok,pval,VA.ev,Env.get,Env.put,Env.keep,Zae,Nat.succ_ne_self,Nat.reduceEqDiff,ite_true,ite_false,true_and,reduceCtorEq]
  refine Zaj rfl (fun h6=>?_) (fun h6=>?_)
  · cases h6
  refine Zap ?_
  try simp only [Zae]
  rw [hset]
  have hcl2:(Zbk i (sgn u :: T)).length = 65:=by simp [Zbk]; omega
  refine Zbu [(10,.nilsl),(12,.ro (Zbk i (sgn u :: T))),(13,pI i)] ⟨View.refl _ _,View.loc (z:=65) (fz:=false) (es:=[Zbk i (sgn u :: T)]) rfl (by simp) rfl (by simp [hcl2]),View.refl _ _,trivial⟩ ?_
  refine Zac (Zaa [10,11] ?_)
  simp only [Zab,Zad,Zaf,pok,pval,VA.ev,Env.get,Env.put,Env.keep,Zae,Nat.succ_ne_self,pxV,pxOk,List.map,Nat.reduceEqDiff,ite_true,ite_false,true_and]
  refine OpS_sliceA (cs:=Zbk i (sgn u :: T)) (k:=i) rfl (by kernel_rfl) (by kernel_rfl) rfl rfl rfl rfl (Nat.le_trans (show i ≤ 65 by omega) (Nat.le_of_eq (by kernel_rfl))) (hcl2.trans (by kernel_rfl)) ?_
  rw [cells_drop,← hT]
  have hbytes:((sgn u :: T).map fun b=>[PV.int .u8 (b.toNat:Int)]).map VM.byteOf = sgn u :: T:=by
    rw [List.map_map]
    refine (List.map_congr_left fun b _=>?_).trans (List.map_id _)
    simp [VM.byteOf]
  have hb:[sgn u] ++ T = sgn u :: T:=rfl
  rw [hb]
  generalize sgn u :: T = X at hbytes ⊢
  try simp only [true_and,byteRows,bytesOk,hbytes]
  refine ⟨fun r hr=>?_,?_⟩
  · obtain ⟨b,_,rfl⟩:=List.mem_map.1 hr
    trivial
  refine Zaz ?_
  try simp only [Env.get,retQ,resV,Zbc,RS.ev,RS.ok,Nat.succ_ne_self,List.map,Nat.reduceEqDiff,ite_true,ite_false,true_and,and_true]
  exact View.refl _ _
theorem sp_FormatUintI (n:Nat) (hn:n < 18446744073709551616):Za8 Tryd.prog 44 [.int .u64 n,pI 16] (.str (hexD n)):=by
  have A:=sp_formatBits n hn
  refine Zai ?_ ((cS _)) (by simp only [Zax,List.mem_cons,List.not_mem_nil,or_false,forall_eq_or_imp,forall_eq,false_implies,implies_true]; repeat' (first  | exact cI _ | exact cS _ | exact Closed.of_scalar (Zbt _ _) | exact Zbd (by simp only [List.mem_cons,List.not_mem_nil,or_false,forall_eq]; first | exact cI _ | exact cS _ | exact Za9 _) | refine And.intro ?_ ?_))
  refine ACall_fnQ (vc:=Zb2) (ts:=[.t 4]) Go.Proofs.Tryd.func44 (by kernel_rfl) rfl rfl (Nat.le_of_ble_eq_true rfl) (by kernel_rfl) ?_
  unfold Zb2
  try dsimp only [ZM,ZO,ZN,ZG]
  refine Zac (Zaa [0,1] ?_)
  simp only [Zab,Zad,Zaf,pok,pval,VA.ev,Env.get,Env.put,Env.keep,Za3,Zae,Heap.nil,Nat.succ_ne_self,Nat.reduceEqDiff,ite_true,ite_false,true_and,reduceCtorEq,Nat.zero_add]
  refine Zac ?_
  have a2:((16:Int) == 10) = false:=by decide
  refine Zac (Zaa [0,1,10] ?_)
  simp only [Zab,Zad,Zaf,pok,pval,VA.ev,Env.get,Env.put,Env.keep,Zae,intV,binV,Zal,Nat.succ_ne_self,Nat.reduceEqDiff,ite_true,ite_false,true_and,reduceCtorEq,a2]
  refine Zaj rfl (fun h1=>?_) (fun h1=>?_)
  · cases h1
  refine Zap ?_
  try simp only [Zae]
  refine Zac (Zaa [8] ?_)
  simp only [Zab,Zad,Zaf,pok,pval,VA.ev,Env.get,Env.put,Env.keep,Zae,extV,extOk,PV.nth,Nat.succ_ne_self,List.map,Nat.reduceEqDiff,ite_true,ite_false,true_and,reduceCtorEq]
  refine Zaq A ?_
  try simp only [List.length,List.getD_cons_zero,List.getD_cons_succ,Nat.reduceAdd,Nat.reduceLT,true_and,Nat.zero_add]
  repeat (with_reducible refine And.intro ?_ ?_; first | omega | (with_reducible constructor <;> omega) | exact False.elim | exact True.intro)
  refine Zac (Zaa [4] ?_)
  simp only [Zab,Zad,Zaf,pok,pval,VA.ev,Env.get,Env.put,Env.keep,Zae,Nat.reduceEqDiff,ite_true,ite_false,true_and]
  refine Zaz ?_
  try simp only [Env.get,retQ,resV,Zbc,RS.ev,RS.ok,ite_true,true_and,and_true]
  exact View.refl _ _
theorem sp_FormatUint (h:Int) (h0:0 ≤ h) (h1:h < 18446744073709551616):Za8 Tryd.prog 25 [.int .u64 h,pI 16] (.str (hexD h.toNat)):=by
  obtain ⟨n,rfl⟩:=Int.eq_ofNat_of_zero_le h0
  have A:=sp_FormatUintI n (by omega)
  rw [Int.toNat_natCast]
  refine Zai ?_ (cS _) (by simp only [Zax,List.mem_cons,List.not_mem_nil,or_false,forall_eq_or_imp,forall_eq,false_implies,implies_true]; repeat' (first  | exact cI _ | exact cS _ | exact Closed.of_scalar (Zbt _ _) | exact Zbd (by simp only [List.mem_cons,List.not_mem_nil,or_false,forall_eq]; first | exact cI _ | exact cS _ | exact Za9 _) | refine And.intro ?_ ?_))
  refine Zan (vc:=c_strconv_FormatUint) (ts:=[.t 4]) Go.Proofs.Tryd.func25 (by kernel_rfl) rfl rfl (Nat.le_of_ble_eq_true rfl) (by kernel_rfl) ?_
  unfold c_strconv_FormatUint
  try dsimp only [ZM,ZO,ZN,ZG]
  refine Zac (Zaa [0,1,4] ?_)
  simp only [Zab,Zad,Zaf,pok,pval,VA.ev,Env.get,Env.put,Env.keep,Za3,Zae,Heap.nil,Nat.succ_ne_self,Nat.reduceEqDiff,ite_true,ite_false,true_and,reduceCtorEq,Nat.zero_add]
  refine Zac (Zaa [4] ?_)
  simp only [Zab,Zad,Zaf,pok,pval,VA.ev,Env.get,Env.put,Env.keep,Zae,Nat.succ_ne_self,List.map,Nat.reduceEqDiff,ite_true,ite_false,true_and,reduceCtorEq]
  refine Zaq A ?_
  skip
  refine Zaz ?_
  try simp only [Env.get,retQ,resV,Zbc,RS.ev,RS.ok,ite_true,true_and,and_true]
  exact View.refl _ _
end Go.Proofs.YtjmekckcffckoaaDoor.w
namespace Go.Proofs.YtjmekckcffckoaaDoor.w
open Go Go.VM
set_option maxRecDepth 20000
set_option maxHeartbeats 0
set_option pp.deepTerms false
theorem ad1 {a:Nat} (h:a ≤ 1000000000):IntKind.i64.wrap ((a:Int) + 1) = ((a + 1:Nat):Int):=by rw [w64 (by omega) (by omega)]; omega
end Go.Proofs.YtjmekckcffckoaaDoor.w
