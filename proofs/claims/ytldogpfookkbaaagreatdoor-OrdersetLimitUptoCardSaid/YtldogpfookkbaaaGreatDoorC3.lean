import Derived.Test.YtldogpfookkbaaaGreatDoorTc
import Derived.Test.YtldogpfookkbaaaGreatDoorVmZ
import Derived.Test.YtldogpfookkbaaaGreatDoorVmAy
import Derived.Test.YtldogpfookkbaaaGreatDoorVmBa
import Derived.Test.YtldogpfookkbaaaGreatDoorVmC
import Derived.Lib.ItoaNum
import Derived.Lib.Atoi
import Derived.Sort.Walk0
import Derived.Shelf.GgClosure.StringsIndexFunc
import Derived.Lib.Repeat
import Derived.Test.YtldogpfookkbaaaGreatDoorV0
import Derived.Test.YtldogpfookkbaaaGreatDoorShAll
set_option linter.all false
set_option maxRecDepth 20000
set_option maxHeartbeats 0
namespace Go.Proofs.YtldogpfookkbaaaGreatDoor.w
open Go Go.VM
def c_address_called:VC:=(ZR [ZO 2 (.box 8 (.t 0)),ZO 3 (.box 2 (.t 1)),ZO 4 (.mv (.c (.bool false)))] (ZR [ZO 5 (.faddr 3 (.t 2)),ZO 6 (.load false 1 (.t 5)),ZO 7 (.faddr 0 (.t 3)),ZO 8 (.load false 1 (.t 7)),ZO 9 (.bin .eql (.t 6) (.t 8)),ZM 10 9,ZG 11 (.faddr 4 (.t 2)) 10 true,ZG 12 (.load false 1 (.t 11)) 10 true,ZG 13 (.faddr 1 (.t 3)) 10 true,ZG 14 (.load false 1 (.t 13)) 10 true,ZG 15 (.bin .eql (.t 12) (.t 14)) 10 true,ZO 16 (.pick (.t 10) (.t 15) (.c (.bool false))),ZM 4 16] .ret))
def c_address_found_1 : VC := (ZR [ZO 3 (.box 8 (.t 0))] (.seq (.region [ZO 4 (.load true 8 (.t 3)),ZO 5 (.load false 1 (.t 1)),ZO 6 (.iaddr 2 (.t 5) (.c (.int .i64 0))),ZO 7 (.load true 2 (.t 6)),ZO 8 (.call 208 [.t 4,.t 7])] true) (.cond (.t 8) (.other (Code.region 2 #[{ dst := some 9,op := Op.load 37 (Operand.tmp 2),type := 37,pos := "address.go:119",after := #[],guard := none },{ dst := some 10,op := Op.load 39 (Operand.tmp 3),type := 39,pos := "address.go:119",after := #[],guard := none },{ dst := some 11,op := Op.call { callee := Callee.builtin Builtin.len,args := #[Operand.tmp 9],argTypes := #[37] },type := 3,pos := "address.go:119",after := #[{ on := 0,ground := Ground.data }],guard := none },{ dst := some 12,op := Op.buildSlice 37 1 #[(0,Operand.const (Value.agg #[Value.int IntKind.i64 0,Value.int IntKind.i64 0,Value.int IntKind.i64 0,Value.int IntKind.i64 0,Value.string { data := #[] },Value.slice none 0 0,Value.slice none 0 0,Value.slice none 0 0]))],type := 37,pos := "address.go:119",after := #[],guard := none },{ dst := some 13,op := Op.call { callee := Callee.builtin Builtin.append,args := #[Operand.tmp 9,Operand.tmp 12],argTypes := #[37,37] },type := 37,pos := "address.go:119",after := #[{ on := 0,ground := Ground.data },{ on := 3,ground := Ground.data },{ on := 0,ground := Ground.phase },{ on := 1,ground := Ground.phase },{ on := 2,ground := Ground.phase },{ on := 3,ground := Ground.phase }],guard := none },{ dst := some 14,op := Op.indexAddr 37 (Operand.tmp 13) (Operand.tmp 11),type := 0,pos := "address.go:119",after := #[{ on := 4,ground := Ground.data },{ on := 2,ground := Ground.data },{ on := 0,ground := Ground.phase },{ on := 1,ground := Ground.phase },{ on := 2,ground := Ground.phase },{ on := 3,ground := Ground.phase },{ on := 4,ground := Ground.phase },{ on := 7,ground := Ground.gcOnly Departure.appendInPlace }],guard := none },{ dst := none,op := Op.store 39 (Operand.tmp 14) (Operand.tmp 10),type := 0,pos := "address.go:119",after := #[{ on := 5,ground := Ground.data },{ on := 1,ground := Ground.data },{ on := 4,ground := Ground.chain },{ on := 0,ground := Ground.phase },{ on := 1,ground := Ground.phase },{ on := 2,ground := Ground.phase },{ on := 3,ground := Ground.phase },{ on := 4,ground := Ground.phase },{ on := 7,ground := Ground.gcOnly Departure.appendInPlace }],guard := none },{ dst := none,op := Op.store 37 (Operand.tmp 2) (Operand.tmp 13),type := 0,pos := "address.go:119",after := #[{ on := 4,ground := Ground.data },{ on := 4,ground := Ground.chain },{ on := 6,ground := Ground.textOnly Departure.appendInPlace },{ on := 0,ground := Ground.phase },{ on := 1,ground := Ground.phase },{ on := 2,ground := Ground.phase },{ on := 3,ground := Ground.phase },{ on := 4,ground := Ground.phase },{ on := 5,ground := Ground.textOnly Departure.appendInPlace },{ on := 6,ground := Ground.textOnly Departure.appendInPlace }],guard := none }] true : Code)) .skip)))
theorem sp_called (a i n k : Int) (lab : List UInt8) (hd wd kd : PV) (j : Int) (l2 : List UInt8) (h1 : Closed hd) (h2 : Closed wd) (h3 : Closed kd) :
  Zaj Tryz.prog 208 [.agg [pI a,pI i,pI n,pI k,.str lab,hd,wd,kd],.agg [pI j,.str l2]] (.bool (k==j&&lab==l2)):=by
 refine Zal ?_ (cB _) (by
  intro y hy;simp only [List.mem_cons,List.not_mem_nil,or_false] at hy;rcases hy with rfl|rfl
  ·refine Zau fun z hz=>?_;simp only [List.mem_cons,List.not_mem_nil,or_false] at hz;rcases hz with rfl|rfl|rfl|rfl|rfl|rfl|rfl|rfl<;>first|exact cI _|exact cS _|assumption
  ·refine Zau fun z hz=>?_;simp only [List.mem_cons,List.not_mem_nil,or_false] at hz;rcases hz with rfl|rfl<;>first|exact cI _|exact cS _)
 refine Gn (vc:=c_address_called) [.t 4] Tryz.func208 ?_;unfold c_address_called;try dsimp only [ZM,ZO,ZN,ZG,ZR,ZU]
 refine Rp0 [2,3,4] ?_;cases hk:(k==j) with
 | true =>
  refine Zab (Zag [4] ?_);simp only [vmL,Nat.reduceEqDiff,Nat.reduceAdd,Nat.reduceLT,Nat.reduceLeDiff,Nat.reduceSub,Nat.reduceMul,reduceIte,reduceCtorEq,Int.reduceToNat,hk];exact Tv0
 | false =>
  refine Zab (Zag [4] ?_);simp only [vmL,Nat.reduceEqDiff,Nat.reduceAdd,Nat.reduceLT,Nat.reduceLeDiff,Nat.reduceSub,Nat.reduceMul,reduceIte,reduceCtorEq,Int.reduceToNat,hk];exact Tv0
theorem zero_unit (g:Gh):Rep g (Value.agg #[Value.int IntKind.i64 0,Value.int IntKind.i64 0,Value.int IntKind.i64 0,Value.int IntKind.i64 0,Value.string { data:=#[] },Value.slice none 0 0,Value.slice none 0 0,Value.slice none 0 0]) (.agg [pI 0,pI 0,pI 0,pI 0,.str [],.nilsl,.nilsl,.nilsl]):=by
 refine .agg _ _ rfl (fun j hj=>?_) (fun j hj=>?_)
 ·match j,hj with
  | 0,_|1,_|2,_|3,_|4,_|5,_|6,_|7,_=>rfl
 ·match j,hj with
  | 0,_|1,_|2,_|3,_=>exact .int _ _
  | 4,_=>exact .str _ _ rfl
  | 5,_|6,_|7,_=>exact .nilsl
theorem hok_push {h:Heap} (ok:HOk h) (y:AB):HOk (h.push y):=⟨Nat.lt_succ_self _,ok⟩
open Go.VM.Ap in
theorem own_found1 {a i n k : Int} {lab : List UInt8} {hd wd kd : PV} {j : Int} {l2 : List UInt8} {st : List (List PV)} (h1 : Closed hd) (h2 : Closed wd) (h3 : Closed kd)
  {h:Heap} (ok:HOk h) {ip ia:Nat} {at0:PV} {rows:List (List PV)} (hp:Has h ip (vbox (.sl 2 ([pI j,.str l2]::st)))) (ha:Has h ia (vbox at0)) (ho:(k==j&&lab==l2)=true→OldAt ip ia h.top h at0 rows) (hpa:ip≠ia) (hn:rows.length≤1000000) {K:PV→Heap→Prop}
  (hK1:(k==j&&lab==l2)=false→K (.tup []) (h.push (.arr false 8 [[pI a,pI i,pI n,pI k,.str lab,hd,wd,kd]])))
  (hK2:(k==j&&lab==l2)=true→∃ L:List (Nat×AB),(∀ h':Heap,h'.top=h.top+3→Fr (h.push (.arr false 8 [[pI a,pI i,pI n,pI k,.str lab,hd,wd,kd]])) h' ia at0→Has h' ia (vbox (.own (h.top+2) 0 (rows.length+1)))→Has h' (h.top+2) (.arr false 8 (rows++[[pI a,pI i,pI n,pI k,.str lab,hd,wd,kd]]))→Heap.le ⟨L,h.top+3⟩ h')∧K (.tup []) ⟨L,h.top+3⟩) :
  Zan Tryz.prog 207 [.agg [pI a,pI i,pI n,pI k,.str lab,hd,wd,kd],.loc ip 0 0,.loc ia 0 0] h K:=by
 have CA:=sp_called a i n k lab hd wd kd j l2 h1 h2 h3;have gp:=hp.1;have ga:=ha.1;have np:h.top≠ip:=by have:=hp.2;omega
 have na:h.top≠ia:=by have:=ha.2;omega
 unfold vbox at gp ga;refine Zan.drop ?_;refine Gn (vc:=c_address_found_1) [] Tryz.func207 ?_;unfold c_address_found_1;try dsimp only [ZM,ZO,ZN,ZG,ZR,ZU]
 refine Rp0 [1,2,3] ?_;refine Zab (VW_draw [1,2,3,8] ⟨[(h.top,.arr false 8 [[pI a,pI i,pI n,pI k,.str lab,hd,wd,kd]]),(ip,.arr false 1 [[.sl 2 ([pI j,.str l2]::st)]])],h.top+1⟩ ?_ ?_)
 ·exact ⟨Nat.le_refl _,by simp [Heap.get,HL.get],by simp only [Heap.get,HL.get,if_neg np];exact gp,trivial⟩
 ·refine Sp1 np ?_;refine ⟨⟨Int.le_refl _,by omega⟩,_,.inl CA,?_⟩;refine Sp0 ?_;cases hc:(k==j&&lab==l2) with
  | false =>
   refine Fp0 ?_;exact ⟨_,(hok_push ok _).le_refl,hK1 hc⟩
  | true =>
   refine Ct ?_;refine VW_ap (B:=120) (zs:=[pI 0,pI 0,pI 0,pI 0,.str [],.nilsl,.nilsl,.nilsl]) (ip:=ip) (ia:=ia) (ix:=h.top) (pv:=.sl 2 ([pI j,.str l2]::st)) (at0:=at0) (rows:=rows) [] rfl (by kernel_rfl) (by kernel_rfl) rfl (by kernel_rfl) rfl Tryz.underlying37 (by kernel_rfl) (by kernel_rfl) zero_unit rfl rfl (by decide) hn rfl rfl (hp.push _) (Has.new _ _) (ha.push _) ((ho hc).push _) hpa na.symm ?_;intro e' h' d q1 q2 q3 q4 q5 q6 q7 q8;have q9:d=h.top+2:=q2;subst q9;obtain ⟨L,k1,k2⟩:=hK2 hc;refine ⟨?_,_,k1 h' q1 q3 q5 q6,k2⟩
   first|trivial|trace_state
end Go.Proofs.YtldogpfookkbaaaGreatDoor.w
namespace Go.VM
open Go
def apX (F:Nat):CX:=fun f args h=>bif Nat.beq f F then (match args with
 | [.agg [.int .i64 a,.int .i64 i,.int .i64 n,.int .i64 k,.str lab,hd,wd,kd],.loc ip 0 0,.loc ia 0 0] =>
  (match HL.get h.l ip,HL.get h.l ia with
  | some (.arr false 1 [[.sl 2 ([.int .i64 j,.str l2]::st)]]),some (.arr false 1 [[at0]]) =>
   bif hd.clB&&wd.clB&&kd.clB && !(Nat.beq ip ia) then
    (bif k==j&&lab==l2 then
     (match at0 with
     | .nilsl=>some (.tup [],⟨(h.top+2,.arr false 8 [[.int .i64 a,.int .i64 i,.int .i64 n,.int .i64 k,.str lab,hd,wd,kd]])::HL.set h.l ia (.arr false 1 [[.own (h.top+2) 0 1]]),h.top+3⟩)
     | .own io 0 m=>(match HL.get h.l io with
      | some (.arr false 8 rows) =>
       bif Nat.beq m rows.length && !(Nat.beq io ip) && !(Nat.beq io ia)&&Nat.ble rows.length 1000000 then
        some (.tup [],⟨(h.top+2,.arr false 8 (rows++[[.int .i64 a,.int .i64 i,.int .i64 n,.int .i64 k,.str lab,hd,wd,kd]]))::HL.set (HL.del h.l io) ia (.arr false 1 [[.own (h.top+2) 0 (rows.length+1)]]),h.top+3⟩)
       else none
      | _=>none)
     | _=>none)
    else some (.tup [],⟨(h.top,.arr false 8 [[.int .i64 a,.int .i64 i,.int .i64 n,.int .i64 k,.str lab,hd,wd,kd]])::h.l,h.top+1⟩))
   else none
  | _,_=>none)
 | _=>none) else none
open Go.VM.Ap in
theorem fin_le {h h' : Heap} {at0 : PV} {ia : Nat} {x R V : AB} (ok : HOk h) (B : List (Nat × AB)) (hB : HL.dec B h.top) (hBo : ∀ c y, HL.get B c = some y → HL.get h.l c = some y ∧ oldId at0 ≠ some c)
  (q1:h'.top=h.top+3) (q3:Fr (h.push x) h' ia at0) (q5:Has h' ia V) (q6:Has h' (h.top+2) R):Heap.le ⟨(h.top+2,R)::HL.set B ia V,h.top+3⟩ h':=by
 have d1:HL.dec ((h.top+2,R)::HL.set B ia V) (h.top+3):=⟨Nat.lt_succ_self _,HL.dec_mono (HL.dec_set ia V hB) (Nat.le_add_right _ _)⟩;refine ⟨by rw [q1];exact Nat.le_refl _,HL.le_of d1 fun c y e=>?_⟩;by_cases e1:h.top+2=c
 ·subst e1;simp only [HL.get,if_pos,Option.some.injEq] at e;subst e;exact q6.1
 ·simp only [HL.get,if_neg e1] at e;have e2:=Heap.get_set ⟨B,0⟩ ia c V;change HL.get (HL.set B ia V) c=_ at e2;rw [e2] at e;by_cases e3:ia=c
  ·subst e3;rw [if_pos rfl] at e;split at e
   ·simp only [Option.some.injEq] at e;subst e;exact q5.1
   ·cases e
  ·rw [if_neg e3] at e;obtain ⟨f1,f2⟩:=hBo c y e;have lt:c<h.top:=by
    rcases Nat.lt_or_ge c h.top with h1|h1
    ·exact h1
    ·rw [HL.get_none ok h1] at f1;cases f1
   exact (q3 c y (Ne.symm e3) f2 (Has.push _ ⟨f1,lt⟩)).1
end Go.VM
namespace Go.Proofs.YtldogpfookkbaaaGreatDoor.w
open Go Go.VM Go.VM.Ap
theorem apX_ok:CallOk Tryz.prog (apX 207):=by
 intro f args h v h' H ok;unfold apX at H;obtain ⟨hb,H1⟩:=Zaw H;clear H;have hf:=Nat.eq_of_beq_eq_true hb;subst hf;clear hb;split at H1
 case h_2=>cases H1
 rename_i a i n k lab hd wd kd ip ia;split at H1
 case h_2=>cases H1
 rename_i j l2 st at0 gp ga;obtain ⟨hb,H2⟩:=Zaw H1;clear H1;simp only [Bool.and_eq_true,Bool.not_eq_true'] at hb;obtain ⟨⟨⟨c1,c2⟩,c3⟩,c4⟩:=hb;have c5:ip≠ia:=fun e=>by rw [e,Nat.beq_refl] at c4;cases c4
 have lt:∀ {c y},HL.get h.l c=some y→c<h.top:=fun {c y} e=>by
  rcases Nat.lt_or_ge c h.top with h1|h1
  ·exact h1
  ·rw [HL.get_none ok h1] at e;cases e
 have hp:Has h ip (vbox (.sl 2 ([pI j,.str l2]::st))):=⟨gp,lt gp⟩;have ha:Has h ia (vbox at0):=⟨ga,lt ga⟩;have dS:∀ (B:List (Nat×AB)) (R V:AB),HL.dec B h.top→HOk ⟨(h.top+2,R)::HL.set B ia V,h.top+3⟩:=fun B R V hB=>⟨Nat.lt_succ_self _,HL.dec_mono (HL.dec_set ia V hB) (Nat.le_add_right _ _)⟩;cases hc:(k==j&&lab==l2) with
 | false =>
  rw [hc] at H2;simp only [cond_false,Option.some.injEq,Prod.mk.injEq] at H2;obtain ⟨rfl,rfl⟩:=H2;exact ⟨fun K hk=>own_found1 (PV.clB_ok _ c1) (PV.clB_ok _ c2) (PV.clB_ok _ c3) ok hp ha (rows:=[]) (fun h=>by rw [hc] at h;cases h) c5 (by decide) (fun _=>hk) (fun h=>by rw [hc] at h;cases h),hok_push ok _,Nat.le_succ _⟩
 | true =>
  rw [hc] at H2;simp only [cond_true] at H2;split at H2
  ·simp only [Option.some.injEq,Prod.mk.injEq] at H2;obtain ⟨rfl,rfl⟩:=H2;exact ⟨fun K hk=>own_found1 (PV.clB_ok _ c1) (PV.clB_ok _ c2) (PV.clB_ok _ c3) ok hp ha (rows:=[]) (fun _=>.inl ⟨rfl,rfl⟩) c5 (by decide) (fun h=>by rw [hc] at h;cases h) (fun _=>⟨_,fun h' q1 q3 q5 q6=>fin_le ok h.l ok (fun c y e=>⟨e,fun h=>by cases h⟩) q1 q3 q5 q6,hk⟩),dS _ _ _ ok,Nat.le_add_right _ _⟩
  ·rename_i io m;split at H2
   ·rename_i rows go;obtain ⟨hb,H3⟩:=Zaw H2;simp only [Bool.and_eq_true,Bool.not_eq_true'] at hb;obtain ⟨⟨⟨b1,b2⟩,b3⟩,b4⟩:=hb;have b5:=Nat.eq_of_beq_eq_true b1;subst b5;have b6:io≠ip:=fun e=>by rw [e,Nat.beq_refl] at b2;cases b2
    have b7:io≠ia:=fun e=>by rw [e,Nat.beq_refl] at b3;cases b3
    have b8:=Nat.le_of_ble_eq_true b4;simp only [Option.some.injEq,Prod.mk.injEq] at H3;obtain ⟨rfl,rfl⟩:=H3;have b9:=lt go;refine ⟨fun K hk=>own_found1 (PV.clB_ok _ c1) (PV.clB_ok _ c2) (PV.clB_ok _ c3) ok hp ha (rows:=rows) (fun _=>.inr ⟨io,rfl,⟨go,b9⟩,b6,b7,by omega⟩) c5 b8 (fun h=>by rw [hc] at h;cases h) (fun _=>⟨_,fun h' q1 q3 q5 q6=>fin_le ok (HL.del h.l io) (HL.dec_del io ok) (fun c y e=>?_) q1 q3 q5 q6,hk⟩),dS _ _ _ (HL.dec_del io ok),Nat.le_add_right _ _⟩;rw [HL.get_del] at e;by_cases e1:io=c
    ·rw [if_pos e1] at e;cases e
    ·rw [if_neg e1] at e;exact ⟨e,fun h=>e1 (by simpa [oldId] using h)⟩
   ·cases H2
  ·cases H2
end Go.Proofs.YtldogpfookkbaaaGreatDoor.w
namespace Go.VM
open Go
def isD (b:UInt8):Bool:=decide (48≤b.toNat)&&decide (b.toNat≤57)
def isU (b:UInt8):Bool:=decide (65≤b.toNat)&&decide (b.toNat≤90)
def dgs (s:Str):Str:=s.takeWhile isD
def caps (s:Str):Str:=s.dropWhile isD
def may (s:Str):Bool:=decide (1≤(dgs s).length)&&decide ((dgs s).length≤4)&&(s.head? != some 48)&&decide ((caps s).length≤3)&&(caps s).all isU
theorem dgs_caps (s:Str):dgs s++caps s=s:=List.takeWhile_append_dropWhile
theorem dgs_len (s:Str):(dgs s).length+(caps s).length=s.length:=by rw [← List.length_append,dgs_caps]
theorem caps_drop (s:Str):caps s=s.drop (dgs s).length:=by
 have h:(dgs s++caps s).drop (dgs s).length=caps s:=List.drop_left;rw [dgs_caps] at h;exact h.symm
theorem tw_at {q:UInt8→Bool}:∀ {s:Str} {k:Nat},k<(s.takeWhile q).length→q (s.getD k 0)=true
 | [],k,h=>by simp at h
 | a::r,k,h=>by
  rw [List.takeWhile_cons] at h;split at h
  ·cases k with
   | zero=>simpa
   | succ k=>simpa using tw_at (s:=r) (k:=k) (by simpa using h)
  ·simp at h
theorem tw_end {q:UInt8→Bool}:∀ {s:Str},(s.takeWhile q).length<s.length→q (s.getD (s.takeWhile q).length 0)=false
 | [],h=>by simp at h
 | a::r,h=>by
  rw [List.takeWhile_cons] at h ⊢;split at h
  ·rename_i e;rw [if_pos e,List.length_cons,List.getD_cons_succ];exact tw_end (by simpa using h)
  ·rename_i e;rw [if_neg e];simpa using e
theorem dgs_at {s:Str} {k:Nat} (h:k<(dgs s).length):48≤(s.getD k 0).toNat∧(s.getD k 0).toNat≤57:=by
 have:=tw_at (q:=isD) h;simpa [isD] using this
theorem dgs_end {s:Str} (h:(dgs s).length<s.length):¬ (48≤(s.getD (dgs s).length 0).toNat∧(s.getD (dgs s).length 0).toNat≤57):=by
 have:=tw_end (q:=isD) h;intro k;have e:isD (s.getD (dgs s).length 0)=true:=by unfold isD;rw [decide_eq_true k.1,decide_eq_true k.2];rfl
 rw [show (s.takeWhile isD).length=(dgs s).length from rfl,e] at this;cases this
theorem dgs_le (s:Str):(dgs s).length≤s.length:=by rw [← dgs_len s];omega
theorem getD_caps (s:Str) (i:Nat):(caps s).getD i 0=s.getD ((dgs s).length+i) 0:=by
 rw [caps_drop,List.getD_eq_getElem?_getD,List.getElem?_drop,← List.getD_eq_getElem?_getD]
theorem all_at {l:Str}:l.all isU=true↔∀ i,i<l.length→isU (l.getD i 0)=true:=by
 rw [List.all_eq_true];constructor
 ·intro h i hi;rw [List.getD_eq_getElem?_getD,List.getElem?_eq_getElem hi];exact h _ (List.getElem_mem hi)
 ·intro h b hb;obtain ⟨i,hi,rfl⟩:=List.mem_iff_getElem.1 hb;have:=h i hi;rw [List.getD_eq_getElem?_getD,List.getElem?_eq_getElem hi] at this;exact this
theorem u8_inj {a b:UInt8} (h:a.toNat=b.toNat):a=b:=UInt8.toNat_inj.1 h
theorem head_getD {s:Str} (h:s≠[]):(s.head? != some 48) = !decide ((s.getD 0 0).toNat=48):=by
 cases s with
 | nil=>exact absurd rfl h
 | cons b r =>
  simp only [List.head?_cons,List.getD_cons_zero];by_cases e:b=48
  ·subst e;rfl
  ·have:b.toNat≠48:=fun h=>e (u8_inj h);simp [e,this]
end Go.VM
namespace Go.Proofs.YtldogpfookkbaaaGreatDoor.w
open Go Go.VM
def c_label_parted_1:VC:=(ZR [ZO 2 (.mv (.c (.bool false)))] (ZR [ZM 3 0,ZO 4 (.bin .lss (.t 3) (.c (.int .i32 48))),ZM 5 4,ZG 6 (.mv (.t 0)) 5 false,ZG 7 (.bin .gtr (.t 6) (.c (.int .i32 57))) 5 false,ZO 8 (.pick (.t 5) (.c (.bool true)) (.t 7)),ZM 2 8] .ret))
def c_label_Valid_1:VC:=(ZR [ZO 2 (.mv (.c (.bool false)))] (ZR [ZM 3 0,ZO 4 (.bin .lss (.t 3) (.c (.int .i32 65))),ZM 5 4,ZG 6 (.mv (.t 0)) 5 false,ZG 7 (.bin .gtr (.t 6) (.c (.int .i32 90))) 5 false,ZO 8 (.pick (.t 5) (.c (.bool true)) (.t 7)),ZM 2 8] .ret))
def c_pandectref03_digits:VC:=(ZR [ZO 2 (.mv (.c (.int .i64 0)))] (ZR [ZO 3 (.mv (.c (.int .i64 0)))] (.seq (.block 0 (.loop (.seq (ZR [ZM 4 3,ZM 5 0,ZO 6 (.len true (.t 5)),ZO 7 (.bin .lss (.t 4) (.t 6)),ZM 8 7,ZG 9 (.mv (.t 0)) 8 true,ZG 10 (.mv (.t 3)) 8 true,ZG 11 (.idx (.t 9) (.t 10)) 8 true,ZG 12 (.bin .geq (.t 11) (.c (.int .u8 48))) 8 true,ZO 13 (.pick (.t 8) (.t 12) (.c (.bool false))),ZM 14 13,ZG 15 (.mv (.t 0)) 14 true,ZG 16 (.mv (.t 3)) 14 true,ZG 17 (.idx (.t 15) (.t 16)) 14 true,ZG 18 (.bin .leq (.t 17) (.c (.int .u8 57))) 14 true,ZO 19 (.pick (.t 14) (.t 18) (.c (.bool false)))] (.cond (.t 19) .skip (.exit 0))) (.block 1 (.region [ZM 20 3,ZO 21 (.bin .add (.t 20) (.c (.int .i64 1))),ZM 3 21] false))))) (ZR [ZM 22 3,ZM 2 22] .ret))))
def c_pandectref03_May:VC:=(ZR [ZO 2 (.mv (.c (.bool false)))] (ZR [ZM 5 0,ZO 6 (.call 211 [.t 5]),ZM 3 6] (.seq (ZR [ZM 7 3,ZO 8 (.bin .lss (.t 7) (.c (.int .i64 1))),ZM 9 8,ZG 10 (.mv (.t 3)) 9 false,ZG 11 (.bin .gtr (.t 10) (.c (.int .i64 4))) 9 false,ZO 12 (.pick (.t 9) (.c (.bool true)) (.t 11)),ZM 13 12,ZG 14 (.mv (.t 0)) 13 false,ZG 15 (.idx (.t 14) (.c (.int .i64 0))) 13 false,ZG 16 (.bin .eql (.t 15) (.c (.int .u8 48))) 13 false,ZO 17 (.pick (.t 13) (.c (.bool true)) (.t 16)),ZM 18 17,ZG 19 (.mv (.t 0)) 18 false,ZG 20 (.len true (.t 19)) 18 false,ZG 21 (.mv (.t 3)) 18 false,ZG 22 (.bin .sub (.t 20) (.t 21)) 18 false,ZG 23 (.bin .gtr (.t 22) (.c (.int .i64 3))) 18 false,ZO 24 (.pick (.t 18) (.c (.bool true)) (.t 23))] (.cond (.t 24) (ZR [ZO 2 (.mv (.c (.bool false)))] .ret) .skip)) (.seq (ZR [ZM 25 3,ZM 4 25] (.block 0 (.loop (.seq (ZR [ZM 26 4,ZM 27 0,ZO 28 (.len true (.t 27)),ZO 29 (.bin .lss (.t 26) (.t 28))] (.cond (.t 29) .skip (.exit 0))) (.seq (.block 1 (ZR [ZM 32 0,ZM 33 4,ZO 34 (.idx (.t 32) (.t 33)),ZO 35 (.bin .lss (.t 34) (.c (.int .u8 65))),ZM 36 35,ZG 37 (.mv (.t 0)) 36 false,ZG 38 (.mv (.t 4)) 36 false,ZG 39 (.idx (.t 37) (.t 38)) 36 false,ZG 40 (.bin .gtr (.t 39) (.c (.int .u8 90))) 36 false,ZO 41 (.pick (.t 36) (.c (.bool true)) (.t 40))] (.cond (.t 41) (ZR [ZO 2 (.mv (.c (.bool false)))] .ret) .skip))) (.region [ZM 30 4,ZO 31 (.bin .add (.t 30) (.c (.int .i64 1))),ZM 4 31] false)))))) (ZR [ZO 2 (.mv (.c (.bool true)))] .ret)))))
theorem grows_of {P:Program} {f:FuncId} {p:Nat→Bool} (H:∀ x:Nat,Zaj P f [.int .i32 x] (.bool (p x))) {g:Gh} {w:World} (r:Rel g w Heap.nil):PredGrows P f #[] p w:=by
 intro W x _ hb;obtain ⟨r',_⟩:=r.below (memExt_below r hb) hb;refine ((H x).2.2 _ W (#[encR x]++#[]) r' ⟨rfl,fun j hj=>?_⟩).mono ?_
 ·obtain rfl:j=0:=by simp at hj;omega
  exact .int .i32 x
 ·rintro e w' ⟨v,m',rfl,hv,_,hb'⟩;obtain rfl:=hv.bool_inv;exact ⟨rfl,hb'⟩
theorem fn0_inv {g:Gh} {u:Value} {f:FuncId} (h:Rep g u (.fn (.func f) [] [])):u=.func (.func f) #[] #[]:=by
 obtain ⟨fs,cs,rfl,h1,h2⟩:=h.fn_inv;have e1:fs=#[]:=Array.eq_empty_of_size_eq_zero h1.1;have e2:cs=#[]:=Array.eq_empty_of_size_eq_zero h2.1;rw [e1,e2]
theorem sp_pandectref03_digits (s:Str) (hl:s.length≤1000000):Zaj Tryz.prog 211 [.str s] (pI (dgs s).length):=by
 have hdl:=dgs_le s;refine Gp (vc:=c_pandectref03_digits) [.t 2] (cI _) Tryz.func211 ?_;unfold c_pandectref03_digits;try dsimp only [ZM,ZO,ZN,ZG,ZR,ZU]
 refine Rp0 [0] ?_;refine Rp0 [0,3] ?_;refine Zab ?_;refine Zac ?_;refine Zao (σ:={ k:Nat//k≤(dgs s).length }) (fun x=>([(0,.str s),(3,pI x.1)],⟨[],0⟩)) (fun x=>s.length-x.1) ⟨0,Nat.zero_le _⟩ ?_ ?_ ?_
 ·refine Sp0 ?_;rfl
 ·exact Sc0
 rintro ⟨k,hk⟩;simp only [];refine Zab ?_;refine VW_seqE (σ:={ b:Bool//b=decide (k<(dgs s).length) }) [0,3,19] (fun b=>[(0,.str s),(3,pI k),(19,.bool b.1)]) ?_ ?_
 ·by_cases c1:k<s.length
  ·have e1:decide ((k:Int)<(s.length:Int))=true:=by simp;omega
   by_cases c2:48≤(s.getD k 0).toNat
   ·have e2:decide ((48:Int)≤((s.getD k 0).toNat:Int))=true:=by simp only [decide_eq_true_eq];omega
    refine Sp1 (x2 e1 e2) ?_;refine Ok ?_;refine ⟨⟨decide (((s.getD k 0).toNat:Int)≤57),?_⟩,rfl⟩
    ·by_cases c:k<(dgs s).length
     ·have:=dgs_at c;rw [decide_eq_true c,decide_eq_true_eq];omega
     ·obtain rfl:k=(dgs s).length:=by omega
      have:=dgs_end c1;rw [decide_eq_false c,decide_eq_false_iff_not];omega
   ·have e2:decide ((48:Int)≤((s.getD k 0).toNat:Int))=false:=by simp only [decide_eq_false_iff_not];omega
    have c:¬ k<(dgs s).length:=fun c=>c2 (dgs_at c).1;refine Sp1 (x2 e1 e2) ?_;refine Ok ?_;exact ⟨⟨false,(decide_eq_false c).symm⟩,rfl⟩
  ·have e1:decide ((k:Int)<(s.length:Int))=false:=by simp;omega
   refine Sp1 e1 ?_;exact ⟨⟨false,(decide_eq_false (by omega)).symm⟩,rfl⟩
 rintro ⟨b,hb⟩;simp only [];refine Zaf rfl (fun h1=>?_) (fun h1=>?_)
 ·have c:k<(dgs s).length:=by rw [h1] at hb;exact of_decide_eq_true hb.symm
  refine Kp0 ?_;refine Zac ?_;refine rp1 [0,3] (w64 (n:=(k:Int)+1) (by omega) (by omega)) ?_;refine ⟨⟨k+1,c⟩,?_,?_⟩
  ·simp
  ·simp only [];omega
 ·have c:¬ k<(dgs s).length:=by rw [h1] at hb;exact of_decide_eq_false hb.symm
  obtain rfl:k=(dgs s).length:=by omega
  refine Ep0 ?_;exact Rv0 [2]
theorem caps_len' (s:Str):(caps s).length=s.length-(dgs s).length:=by have:=dgs_len s;omega
def mayA (s:Str):Bool:=decide (1≤(dgs s).length)&&decide ((dgs s).length≤4)&&(s.head? != some 48)&&decide ((caps s).length≤3)
theorem may_A (s:Str):may s=(mayA s&&(caps s).all isU):=rfl
theorem sp_pandectref03_May (s:Str) (hl:s.length≤1000000):Zaj Tryz.prog 171 [.str s] (.bool (may s)):=by
 have hdl:=dgs_le s;have hcl:=caps_len' s;refine Gp (vc:=c_pandectref03_May) [.t 2] (cB _) Tryz.func171 ?_;unfold c_pandectref03_May;try dsimp only [ZM,ZO,ZN,ZG,ZR,ZU]
 refine Rp0 [0] ?_;refine Rp0 [0,3] ?_;refine Za8 (sp_pandectref03_digits s hl) ?_;refine Zab ?_;refine VW_seqE (σ:={ b:Bool//b = !(mayA s) }) [0,3,24] (fun b=>[(0,.str s),(3,pI (dgs s).length),(24,.bool b.1)]) ?_ ?_
 ·by_cases c1:(dgs s).length<1
  ·have e1:decide (((dgs s).length:Int)<1)=true:=by simp only [decide_eq_true_eq];omega
   refine Sp1 e1 ?_;exact ⟨⟨true,by unfold mayA;rw [decide_eq_false (show ¬ 1≤(dgs s).length by omega)];rfl⟩,rfl⟩
  have e1:decide (((dgs s).length:Int)<1)=false:=by simp only [decide_eq_false_iff_not];omega
  by_cases c2:(dgs s).length>4
  ·have e2:decide ((4:Int)<((dgs s).length:Int))=true:=by simp only [decide_eq_true_eq];omega
   refine Sp1 (x2 e1 e2) ?_;exact ⟨⟨true,by unfold mayA;rw [decide_eq_false (show ¬ (dgs s).length≤4 by omega),Bool.and_false];rfl⟩,rfl⟩
  have e2:decide ((4:Int)<((dgs s).length:Int))=false:=by simp only [decide_eq_false_iff_not];omega
  have hne:s≠[]:=by intro e;subst e;exact c1 (by simp [dgs])
  have hh:=head_getD hne;have hp:0<s.length:=by cases s with|nil=>exact absurd rfl hne|cons=>simp
  by_cases c3:(s.getD 0 0).toNat=48
  ·have e3:(((s.getD 0 0).toNat:Int)==48)=true:=by simp only [beq_iff_eq];omega
   simp only [vmL,Nat.reduceEqDiff,reduceCtorEq,e1,e2,e3,Int.toNat_zero];refine Ok ?_;refine ⟨⟨true,?_⟩,rfl⟩;rw [decide_eq_true c3] at hh;simp only [mayA,hh];simp
  have e3:(((s.getD 0 0).toNat:Int)==48)=false:=by rw [beq_eq_false_iff_ne];omega
  simp only [vmL,Nat.reduceEqDiff,reduceCtorEq,e1,e2,e3,Int.toNat_zero,w64 (n:=(s.length:Int)-(dgs s).length) (by omega) (by omega)];refine Ok ?_;refine ⟨⟨decide ((3:Int)<(s.length:Int)-(dgs s).length),?_⟩,rfl⟩;rw [decide_eq_false c3] at hh;simp only [mayA,hh,hcl];rw [decide_eq_true (show 1≤(dgs s).length by omega),decide_eq_true (show (dgs s).length≤4 by omega)];simp only [Bool.true_and,Bool.not_false];by_cases c4:s.length-(dgs s).length≤3
  ·rw [decide_eq_true c4];simp only [Bool.not_true,decide_eq_false_iff_not];omega
  ·rw [decide_eq_false c4];simp only [Bool.not_false,decide_eq_true_eq];omega
 rintro ⟨b,hb⟩;simp only [];refine Zaf rfl (fun h1=>?_) (fun h1=>?_)
 ·rw [h1] at hb;refine Rp0 [2] ?_;refine Tp0 ?_;have e:may s=false:=by rw [may_A,show mayA s=false by cases h:mayA s;rfl;rw [h] at hb;cases hb];rfl
  rw [e];exact View.refl _ _
 rw [h1] at hb;have hA:mayA s=true:=by cases h:mayA s;rw [h] at hb;cases hb;rfl
 refine Kp0 ?_;refine Zab ?_;refine Rp0 [0,4] ?_;refine Zac ?_;refine Zao (σ:={ k:Nat//k≤(caps s).length∧∀ j,j<k→isU ((caps s).getD j 0)=true }) (fun x=>([(0,.str s),(4,pI ((dgs s).length+x.1:Nat))],⟨[],0⟩)) (fun x=>(caps s).length-x.1) ⟨0,Nat.zero_le _,fun j h=>by cases h⟩ ?_ ?_ ?_
 ·exact Sc0
 ·exact Sc0
 rintro ⟨k,hk,hall⟩;simp only [];have hgd:=getD_caps s k;refine Zab ?_;refine Rp0 [0,4,29] ?_;refine Zaf rfl (fun h2=>?_) (fun h2=>?_)
 ·have hk':k<(caps s).length:=by simp only [decide_eq_true_eq] at h2;omega
  refine Kp0 ?_;refine Zab ?_;refine Zac ?_;have hsk:(dgs s).length+k<s.length:=by omega
  refine VW_seqE (σ:={ b:Bool//b = !(isU ((caps s).getD k 0)) }) [0,4,41] (fun b=>[(0,.str s),(4,pI ((dgs s).length+k:Nat)),(41,.bool b.1)]) ?_ ?_
  ·rw [hgd];by_cases c1:(s.getD ((dgs s).length+k) 0).toNat<65
   ·have e1:decide (((s.getD ((dgs s).length+k) 0).toNat:Int)<65)=true:=by simp only [decide_eq_true_eq];omega
    refine Sp1 e1 ?_;refine Ok ?_;exact ⟨⟨true,by simp only [isU];rw [decide_eq_false (show ¬ 65≤(s.getD ((dgs s).length+k) 0).toNat by omega)];rfl⟩,rfl⟩
   ·have e1:decide (((s.getD ((dgs s).length+k) 0).toNat:Int)<65)=false:=by simp only [decide_eq_false_iff_not];omega
    refine Sp1 e1 ?_;refine Ok ?_;refine ⟨⟨decide ((90:Int)<((s.getD ((dgs s).length+k) 0).toNat:Int)),?_⟩,rfl⟩;simp only [isU];rw [decide_eq_true (show 65≤(s.getD ((dgs s).length+k) 0).toNat by omega),Bool.true_and];by_cases c2:(s.getD ((dgs s).length+k) 0).toNat≤90
    ·rw [decide_eq_true c2,decide_eq_false (by omega)];rfl
    ·rw [decide_eq_false c2,decide_eq_true (by omega)];rfl
  rintro ⟨b,hb2⟩;simp only [];refine Zaf rfl (fun h3=>?_) (fun h3=>?_)
  ·rw [h3] at hb2;refine Rp0 [2] ?_;refine Tp0 ?_;have e:may s=false:=by
    rw [may_A,hA,Bool.true_and];cases h:(caps s).all isU with
    | false=>rfl
    | true=>rw [all_at.1 h k hk'] at hb2;cases hb2
   rw [e];exact View.refl _ _
  rw [h3] at hb2;refine Kp0 ?_;refine rp1 [0,4] (w64 (n:=(((dgs s).length+k:Nat):Int)+1) (by omega) (by omega)) ?_;refine ⟨⟨k+1,hk',fun j hj=>?_⟩,?_,?_⟩
  ·by_cases e:j=k
   ·subst e;cases h:isU ((caps s).getD j 0);rw [h] at hb2;cases hb2;rfl
   ·exact hall j (by omega)
  ·simp only [pI,PV.int.injEq,true_and];omega
  ·simp only [];omega
 ·have hk':k=(caps s).length:=by simp only [decide_eq_false_iff_not] at h2;omega
  refine Ep0 ?_;refine Rp0 [2] ?_;refine Tp0 ?_;have e:may s=true:=by
   rw [may_A,hA,Bool.true_and,all_at];rw [← hk'];exact hall
  rw [e];exact View.refl _ _
end Go.Proofs.YtldogpfookkbaaaGreatDoor.w
