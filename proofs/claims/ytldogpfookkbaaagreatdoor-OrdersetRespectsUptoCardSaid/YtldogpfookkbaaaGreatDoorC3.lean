import Derived.Test.YtldogpfookkbaaaGreatDoorTc
import Derived.Test.YtldogpfookkbaaaGreatDoorVmZ
import Derived.Test.YtldogpfookkbaaaGreatDoorVmAy
import Derived.Test.YtldogpfookkbaaaGreatDoorVmBa
set_option linter.all false
set_option maxRecDepth 20000
set_option maxHeartbeats 0
namespace Go.Proofs.YtldogpfookkbaaaGreatDoor.w
open Go Go.VM
def c_address_called:VC:=(ZR [ZO 2 (.box 8 (.t 0)),ZO 3 (.box 2 (.t 1)),ZO 4 (.mv (.c (.bool false)))] (ZR [ZO 5 (.faddr 3 (.t 2)),ZO 6 (.load false 1 (.t 5)),ZO 7 (.faddr 0 (.t 3)),ZO 8 (.load false 1 (.t 7)),ZO 9 (.bin .eql (.t 6) (.t 8)),ZM 10 9,ZG 11 (.faddr 4 (.t 2)) 10 true,ZG 12 (.load false 1 (.t 11)) 10 true,ZG 13 (.faddr 1 (.t 3)) 10 true,ZG 14 (.load false 1 (.t 13)) 10 true,ZG 15 (.bin .eql (.t 12) (.t 14)) 10 true,ZO 16 (.pick (.t 10) (.t 15) (.c (.bool false))),ZM 4 16] .ret))
def c_address_found_1 : VC := (ZR [ZO 3 (.box 8 (.t 0))] (.seq (.region [ZO 4 (.load true 8 (.t 3)),ZO 5 (.load false 1 (.t 1)),ZO 6 (.iaddr 2 (.t 5) (.c (.int .i64 0))),ZO 7 (.load true 2 (.t 6)),ZO 8 (.call 208 [.t 4,.t 7])] true) (.cond (.t 8) (.other (Code.region 2 #[{ dst := some 9,op := Op.load 37 (Operand.tmp 2),type := 37,pos := "address.go:119",after := #[],guard := none },{ dst := some 10,op := Op.load 39 (Operand.tmp 3),type := 39,pos := "address.go:119",after := #[],guard := none },{ dst := some 11,op := Op.call { callee := Callee.builtin Builtin.len,args := #[Operand.tmp 9],argTypes := #[37] },type := 3,pos := "address.go:119",after := #[{ on := 0,ground := Ground.data }],guard := none },{ dst := some 12,op := Op.buildSlice 37 1 #[(0,Operand.const (Value.agg #[Value.int IntKind.i64 0,Value.int IntKind.i64 0,Value.int IntKind.i64 0,Value.int IntKind.i64 0,Value.string { data := #[] },Value.slice none 0 0,Value.slice none 0 0,Value.slice none 0 0]))],type := 37,pos := "address.go:119",after := #[],guard := none },{ dst := some 13,op := Op.call { callee := Callee.builtin Builtin.append,args := #[Operand.tmp 9,Operand.tmp 12],argTypes := #[37,37] },type := 37,pos := "address.go:119",after := #[{ on := 0,ground := Ground.data },{ on := 3,ground := Ground.data },{ on := 0,ground := Ground.phase },{ on := 1,ground := Ground.phase },{ on := 2,ground := Ground.phase },{ on := 3,ground := Ground.phase }],guard := none },{ dst := some 14,op := Op.indexAddr 37 (Operand.tmp 13) (Operand.tmp 11),type := 0,pos := "address.go:119",after := #[{ on := 4,ground := Ground.data },{ on := 2,ground := Ground.data },{ on := 0,ground := Ground.phase },{ on := 1,ground := Ground.phase },{ on := 2,ground := Ground.phase },{ on := 3,ground := Ground.phase },{ on := 4,ground := Ground.phase },{ on := 7,ground := Ground.gcOnly Departure.appendInPlace }],guard := none },{ dst := none,op := Op.store 39 (Operand.tmp 14) (Operand.tmp 10),type := 0,pos := "address.go:119",after := #[{ on := 5,ground := Ground.data },{ on := 1,ground := Ground.data },{ on := 4,ground := Ground.chain },{ on := 0,ground := Ground.phase },{ on := 1,ground := Ground.phase },{ on := 2,ground := Ground.phase },{ on := 3,ground := Ground.phase },{ on := 4,ground := Ground.phase },{ on := 7,ground := Ground.gcOnly Departure.appendInPlace }],guard := none },{ dst := none,op := Op.store 37 (Operand.tmp 2) (Operand.tmp 13),type := 0,pos := "address.go:119",after := #[{ on := 4,ground := Ground.data },{ on := 4,ground := Ground.chain },{ on := 6,ground := Ground.textOnly Departure.appendInPlace },{ on := 0,ground := Ground.phase },{ on := 1,ground := Ground.phase },{ on := 2,ground := Ground.phase },{ on := 3,ground := Ground.phase },{ on := 4,ground := Ground.phase },{ on := 5,ground := Ground.textOnly Departure.appendInPlace },{ on := 6,ground := Ground.textOnly Departure.appendInPlace }],guard := none }] true : Code)) .skip)))
theorem sp_called (a i n k : Int) (lab : List UInt8) (hd wd kd : PV) (j : Int) (l2 : List UInt8) (h1 : Closed hd) (h2 : Closed wd) (h3 : Closed kd) :
  Zan Tryz.prog 208 [.agg [pI a,pI i,pI n,pI k,.str lab,hd,wd,kd],.agg [pI j,.str l2]] (.bool (k==j&&lab==l2)):=by
 refine Zag ?_ (cB _) (by
  intro y hy;simp only [List.mem_cons,List.not_mem_nil,or_false] at hy;rcases hy with rfl|rfl
  ·refine Zax fun z hz=>?_;simp only [List.mem_cons,List.not_mem_nil,or_false] at hz;rcases hz with rfl|rfl|rfl|rfl|rfl|rfl|rfl|rfl<;>first|exact cI _|exact cS _|assumption
  ·refine Zax fun z hz=>?_;simp only [List.mem_cons,List.not_mem_nil,or_false] at hz;rcases hz with rfl|rfl<;>first|exact cI _|exact cS _)
 refine Gn (vc:=c_address_called) [.t 4] Tryz.func208 ?_;unfold c_address_called;try dsimp only [ZM,ZO,ZN,ZG,ZR,ZU]
 refine Rp0 [2,3,4] ?_;cases hk:(k==j) with
 | true =>
  refine Zac (Zay [4] ?_);simp only [vmL,Nat.reduceEqDiff,Nat.reduceAdd,Nat.reduceLT,Nat.reduceLeDiff,Nat.reduceSub,Nat.reduceMul,reduceIte,reduceCtorEq,Int.reduceToNat,hk];exact Tv0
 | false =>
  refine Zac (Zay [4] ?_);simp only [vmL,Nat.reduceEqDiff,Nat.reduceAdd,Nat.reduceLT,Nat.reduceLeDiff,Nat.reduceSub,Nat.reduceMul,reduceIte,reduceCtorEq,Int.reduceToNat,hk];exact Tv0
theorem zero_unit (g:Gh):Rep g (Value.agg #[Value.int IntKind.i64 0,Value.int IntKind.i64 0,Value.int IntKind.i64 0,Value.int IntKind.i64 0,Value.string { data:=#[] },Value.slice none 0 0,Value.slice none 0 0,Value.slice none 0 0]) (.agg [pI 0,pI 0,pI 0,pI 0,.str [],.nilsl,.nilsl,.nilsl]):=by
 refine .agg _ _ rfl (fun j hj=>?_) (fun j hj=>?_)
 ·match j,hj with
  | 0,_|1,_|2,_|3,_|4,_|5,_|6,_|7,_=>rfl
 ·match j,hj with
  | 0,_|1,_|2,_|3,_=>exact .int _ _
  | 4,_=>exact .str _ _ rfl
  | 5,_|6,_|7,_=>exact .nilsl
theorem hok_push {h:Heap} (ok:HOk h) (y:AB):HOk (h.push y):=⟨Nat.lt_succ_self _,ok⟩
open Go.VM.Ap in
theorem own_found1 {a i n k : Int} {lab : List UInt8} {hd wd kd : PV} {j : Int} {l2 : List UInt8} {st : List (List PV)} (h1 : Closed hd) (h2 : Closed wd) (h3 : Closed kd)
  {h:Heap} (ok:HOk h) {ip ia:Nat} {at0:PV} {rows:List (List PV)} (hp:Has h ip (vbox (.sl 2 ([pI j,.str l2]::st)))) (ha:Has h ia (vbox at0)) (ho:(k==j&&lab==l2)=true→OldAt ip ia h.top h at0 rows) (hpa:ip≠ia) (hn:rows.length≤1000000) {K:PV→Heap→Prop}
  (hK1:(k==j&&lab==l2)=false→K (.tup []) (h.push (.arr false 8 [[pI a,pI i,pI n,pI k,.str lab,hd,wd,kd]])))
  (hK2:(k==j&&lab==l2)=true→∃ L:List (Nat×AB),(∀ h':Heap,h'.top=h.top+3→Fr (h.push (.arr false 8 [[pI a,pI i,pI n,pI k,.str lab,hd,wd,kd]])) h' ia at0→Has h' ia (vbox (.own (h.top+2) 0 (rows.length+1)))→Has h' (h.top+2) (.arr false 8 (rows++[[pI a,pI i,pI n,pI k,.str lab,hd,wd,kd]]))→Heap.le ⟨L,h.top+3⟩ h')∧K (.tup []) ⟨L,h.top+3⟩) :
  Zak Tryz.prog 207 [.agg [pI a,pI i,pI n,pI k,.str lab,hd,wd,kd],.loc ip 0 0,.loc ia 0 0] h K:=by
 have CA:=sp_called a i n k lab hd wd kd j l2 h1 h2 h3;have gp:=hp.1;have ga:=ha.1;have np:h.top≠ip:=by have:=hp.2;omega
 have na:h.top≠ia:=by have:=ha.2;omega
 unfold vbox at gp ga;refine Zak.drop ?_;refine Gn (vc:=c_address_found_1) [] Tryz.func207 ?_;unfold c_address_found_1;try dsimp only [ZM,ZO,ZN,ZG,ZR,ZU]
 refine Rp0 [1,2,3] ?_;refine Zac (VW_draw [1,2,3,8] ⟨[(h.top,.arr false 8 [[pI a,pI i,pI n,pI k,.str lab,hd,wd,kd]]),(ip,.arr false 1 [[.sl 2 ([pI j,.str l2]::st)]])],h.top+1⟩ ?_ ?_)
 ·exact ⟨Nat.le_refl _,by simp [Heap.get,HL.get],by simp only [Heap.get,HL.get,if_neg np];exact gp,trivial⟩
 ·refine Sp1 np ?_;refine ⟨⟨Int.le_refl _,by omega⟩,_,.inl CA,?_⟩;refine Sp0 ?_;cases hc:(k==j&&lab==l2) with
  | false =>
   refine Fp0 ?_;exact ⟨_,(hok_push ok _).le_refl,hK1 hc⟩
  | true =>
   refine Ct ?_;refine VW_ap (B:=120) (zs:=[pI 0,pI 0,pI 0,pI 0,.str [],.nilsl,.nilsl,.nilsl]) (ip:=ip) (ia:=ia) (ix:=h.top) (pv:=.sl 2 ([pI j,.str l2]::st)) (at0:=at0) (rows:=rows) [] rfl (by kernel_rfl) (by kernel_rfl) rfl (by kernel_rfl) rfl Tryz.underlying37 (by kernel_rfl) (by kernel_rfl) zero_unit rfl rfl (by decide) hn rfl rfl (hp.push _) (Has.new _ _) (ha.push _) ((ho hc).push _) hpa na.symm ?_;intro e' h' d q1 q2 q3 q4 q5 q6 q7 q8;have q9:d=h.top+2:=q2;subst q9;obtain ⟨L,k1,k2⟩:=hK2 hc;refine ⟨?_,_,k1 h' q1 q3 q5 q6,k2⟩
   first|trivial|trace_state
end Go.Proofs.YtldogpfookkbaaaGreatDoor.w
namespace Go.VM
open Go
def apX (F:Nat):CX:=fun f args h=>bif Nat.beq f F then (match args with
 | [.agg [.int .i64 a,.int .i64 i,.int .i64 n,.int .i64 k,.str lab,hd,wd,kd],.loc ip 0 0,.loc ia 0 0] =>
  (match HL.get h.l ip,HL.get h.l ia with
  | some (.arr false 1 [[.sl 2 ([.int .i64 j,.str l2]::st)]]),some (.arr false 1 [[at0]]) =>
   bif hd.clB&&wd.clB&&kd.clB && !(Nat.beq ip ia) then
    (bif k==j&&lab==l2 then
     (match at0 with
     | .nilsl=>some (.tup [],⟨(h.top+2,.arr false 8 [[.int .i64 a,.int .i64 i,.int .i64 n,.int .i64 k,.str lab,hd,wd,kd]])::HL.set h.l ia (.arr false 1 [[.own (h.top+2) 0 1]]),h.top+3⟩)
     | .own io 0 m=>(match HL.get h.l io with
      | some (.arr false 8 rows) =>
       bif Nat.beq m rows.length && !(Nat.beq io ip) && !(Nat.beq io ia)&&Nat.ble rows.length 1000000 then
        some (.tup [],⟨(h.top+2,.arr false 8 (rows++[[.int .i64 a,.int .i64 i,.int .i64 n,.int .i64 k,.str lab,hd,wd,kd]]))::HL.set (HL.del h.l io) ia (.arr false 1 [[.own (h.top+2) 0 (rows.length+1)]]),h.top+3⟩)
       else none
      | _=>none)
     | _=>none)
    else some (.tup [],⟨(h.top,.arr false 8 [[.int .i64 a,.int .i64 i,.int .i64 n,.int .i64 k,.str lab,hd,wd,kd]])::h.l,h.top+1⟩))
   else none
  | _,_=>none)
 | _=>none) else none
open Go.VM.Ap in
theorem fin_le {h h' : Heap} {at0 : PV} {ia : Nat} {x R V : AB} (ok : HOk h) (B : List (Nat × AB)) (hB : HL.dec B h.top) (hBo : ∀ c y, HL.get B c = some y → HL.get h.l c = some y ∧ oldId at0 ≠ some c)
  (q1:h'.top=h.top+3) (q3:Fr (h.push x) h' ia at0) (q5:Has h' ia V) (q6:Has h' (h.top+2) R):Heap.le ⟨(h.top+2,R)::HL.set B ia V,h.top+3⟩ h':=by
 have d1:HL.dec ((h.top+2,R)::HL.set B ia V) (h.top+3):=⟨Nat.lt_succ_self _,HL.dec_mono (HL.dec_set ia V hB) (Nat.le_add_right _ _)⟩;refine ⟨by rw [q1];exact Nat.le_refl _,HL.le_of d1 fun c y e=>?_⟩;by_cases e1:h.top+2=c
 ·subst e1;simp only [HL.get,if_pos,Option.some.injEq] at e;subst e;exact q6.1
 ·simp only [HL.get,if_neg e1] at e;have e2:=Heap.get_set ⟨B,0⟩ ia c V;change HL.get (HL.set B ia V) c=_ at e2;rw [e2] at e;by_cases e3:ia=c
  ·subst e3;rw [if_pos rfl] at e;split at e
   ·simp only [Option.some.injEq] at e;subst e;exact q5.1
   ·cases e
  ·rw [if_neg e3] at e;obtain ⟨f1,f2⟩:=hBo c y e;have lt:c<h.top:=by
    rcases Nat.lt_or_ge c h.top with h1|h1
    ·exact h1
    ·rw [HL.get_none ok h1] at f1;cases f1
   exact (q3 c y (Ne.symm e3) f2 (Has.push _ ⟨f1,lt⟩)).1
end Go.VM
namespace Go.Proofs.YtldogpfookkbaaaGreatDoor.w
open Go Go.VM Go.VM.Ap
theorem apX_ok:CallOk Tryz.prog (apX 207):=by
 intro f args h v h' H ok;unfold apX at H;obtain ⟨hb,H1⟩:=Zas H;clear H;have hf:=Nat.eq_of_beq_eq_true hb;subst hf;clear hb;split at H1
 case h_2=>cases H1
 rename_i a i n k lab hd wd kd ip ia;split at H1
 case h_2=>cases H1
 rename_i j l2 st at0 gp ga;obtain ⟨hb,H2⟩:=Zas H1;clear H1;simp only [Bool.and_eq_true,Bool.not_eq_true'] at hb;obtain ⟨⟨⟨c1,c2⟩,c3⟩,c4⟩:=hb;have c5:ip≠ia:=fun e=>by rw [e,Nat.beq_refl] at c4;cases c4
 have lt:∀ {c y},HL.get h.l c=some y→c<h.top:=fun {c y} e=>by
  rcases Nat.lt_or_ge c h.top with h1|h1
  ·exact h1
  ·rw [HL.get_none ok h1] at e;cases e
 have hp:Has h ip (vbox (.sl 2 ([pI j,.str l2]::st))):=⟨gp,lt gp⟩;have ha:Has h ia (vbox at0):=⟨ga,lt ga⟩;have dS:∀ (B:List (Nat×AB)) (R V:AB),HL.dec B h.top→HOk ⟨(h.top+2,R)::HL.set B ia V,h.top+3⟩:=fun B R V hB=>⟨Nat.lt_succ_self _,HL.dec_mono (HL.dec_set ia V hB) (Nat.le_add_right _ _)⟩;cases hc:(k==j&&lab==l2) with
 | false =>
  rw [hc] at H2;simp only [cond_false,Option.some.injEq,Prod.mk.injEq] at H2;obtain ⟨rfl,rfl⟩:=H2;exact ⟨fun K hk=>own_found1 (PV.clB_ok _ c1) (PV.clB_ok _ c2) (PV.clB_ok _ c3) ok hp ha (rows:=[]) (fun h=>by rw [hc] at h;cases h) c5 (by decide) (fun _=>hk) (fun h=>by rw [hc] at h;cases h),hok_push ok _,Nat.le_succ _⟩
 | true =>
  rw [hc] at H2;simp only [cond_true] at H2;split at H2
  ·simp only [Option.some.injEq,Prod.mk.injEq] at H2;obtain ⟨rfl,rfl⟩:=H2;exact ⟨fun K hk=>own_found1 (PV.clB_ok _ c1) (PV.clB_ok _ c2) (PV.clB_ok _ c3) ok hp ha (rows:=[]) (fun _=>.inl ⟨rfl,rfl⟩) c5 (by decide) (fun h=>by rw [hc] at h;cases h) (fun _=>⟨_,fun h' q1 q3 q5 q6=>fin_le ok h.l ok (fun c y e=>⟨e,fun h=>by cases h⟩) q1 q3 q5 q6,hk⟩),dS _ _ _ ok,Nat.le_add_right _ _⟩
  ·rename_i io m;split at H2
   ·rename_i rows go;obtain ⟨hb,H3⟩:=Zas H2;simp only [Bool.and_eq_true,Bool.not_eq_true'] at hb;obtain ⟨⟨⟨b1,b2⟩,b3⟩,b4⟩:=hb;have b5:=Nat.eq_of_beq_eq_true b1;subst b5;have b6:io≠ip:=fun e=>by rw [e,Nat.beq_refl] at b2;cases b2
    have b7:io≠ia:=fun e=>by rw [e,Nat.beq_refl] at b3;cases b3
    have b8:=Nat.le_of_ble_eq_true b4;simp only [Option.some.injEq,Prod.mk.injEq] at H3;obtain ⟨rfl,rfl⟩:=H3;have b9:=lt go;refine ⟨fun K hk=>own_found1 (PV.clB_ok _ c1) (PV.clB_ok _ c2) (PV.clB_ok _ c3) ok hp ha (rows:=rows) (fun _=>.inr ⟨io,rfl,⟨go,b9⟩,b6,b7,by omega⟩) c5 b8 (fun h=>by rw [hc] at h;cases h) (fun _=>⟨_,fun h' q1 q3 q5 q6=>fin_le ok (HL.del h.l io) (HL.dec_del io ok) (fun c y e=>?_) q1 q3 q5 q6,hk⟩),dS _ _ _ (HL.dec_del io ok),Nat.le_add_right _ _⟩;rw [HL.get_del] at e;by_cases e1:io=c
    ·rw [if_pos e1] at e;cases e
    ·rw [if_neg e1] at e;exact ⟨e,fun h=>e1 (by simpa [oldId] using h)⟩
   ·cases H2
  ·cases H2
end Go.Proofs.YtldogpfookkbaaaGreatDoor.w
