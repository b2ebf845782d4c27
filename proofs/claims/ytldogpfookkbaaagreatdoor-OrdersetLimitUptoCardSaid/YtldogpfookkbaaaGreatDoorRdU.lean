import Derived.Test.YtldogpfookkbaaaGreatDoorC7
import Derived.Test.YtldogpfookkbaaaGreatDoorVmAn
import Derived.Test.YtldogpfookkbaaaGreatDoorB4
import Derived.Test.YtldogpfookkbaaaGreatDoorVmC
import Derived.Test.YtldogpfookkbaaaGreatDoorC5
import Derived.Test.YtldogpfookkbaaaGreatDoorVmBa
import Derived.Test.YtldogpfookkbaaaGreatDoorC3
set_option linter.all false
set_option maxRecDepth 20000
set_option maxHeartbeats 0
namespace Go.VM
open Go
def lenB {α:Type} (ok:α→Prop) (l:List α):Prop:=l.length≤1048576∧∀ a∈l,ok a
def StB (s:St):Prop:=i64 s.kind∧s.label.length≤1048576
def StaB (s:Sta):Prop:=i64 s.kind∧i64 s.day∧s.Zb2.length≤1048576
def strB (s:Str):Prop:=s.length≤1048576
inductive ItB : It → Prop
 | mk (x : It) (h1 : i64 x.kind) (h2 : lenB StB x.at') (h3 : lenB StB x.to) (h4 : i64 x.wher) (h5 : i64 x.nth) (h6 : UnB x.unit) (h7 : lenB strB x.old) (h8 : lenB strB x.new) (h9 : strB x.label) (h10 : strB x.forr) (h11 : StaB x.start)
   (h12 : i64 x.act) (h13 : i64 x.item) (h14 : i64 x.day) (h15 : strB x.Zb2) (h16 : x.by'.length ≤ 1048576) (h17 : ∀ k ∈ x.by', ItB k) : ItB x
def AcB (a:Ac):Prop:=i64 a.number∧strB a.title∧i64 a.day∧StaB a.start∧lenB ItB a.items
end Go.VM
namespace Go.Proofs.YtldogpfookkbaaaGreatDoor.rd
open Go Go.VM
variable {W : World}
theorem rSU (n:Nat):ReadsU Tryz.prog W n 9 strB (fun a=>[.str a]):=readsU_string Tryz.underlying9
theorem rWdU (n:Nat):ReadsU Tryz.prog W n 97 WdB Wd.enc:=by
 cases n with
 | zero=>exact Zbx
 | succ n =>
  refine ReadsU.map (fun x:Str×(Int×Int×Int×Unit)×Unit=>(⟨x.1,x.2.1.1,x.2.1.2.1,x.2.1.2.2.1⟩:Wd))
   (Zbo Tryz.underlying97 rfl k97 (Zae (by exact rSU n) (by exact k9) (by exact (fun _=>rfl)) (by rfl) (Zae (by exact (r95 n).u) (by exact k95) (by exact (fun _=>rfl)) (by rfl) freadsU_nil)) (by exact fun _=>rfl)) ?_ ?_
  ·rintro ⟨a,⟨b,c,d,_⟩,_⟩ ⟨h1,⟨h2,h3,h4,_⟩,_⟩;exact ⟨h1,h2,h3,h4⟩
  ·rintro ⟨a,⟨b,c,d,_⟩,_⟩;rfl
theorem rslU {t e : TypeId} {z : Nat} {α : Type} {ok : α → Prop} {enc : α → List PV} (ht : Tryz.prog.underlying t = some (.slice e)) (hz : Tryz.prog.cellsOf e = z) (h0 : z ≠ 0) (hl : ∀ a, (enc a).length = z) (n : Nat) (h : ∀ m, m < n → ReadsU Tryz.prog W m e ok enc) :
  ReadsU Tryz.prog W n t (lenB ok) (fun l=>[.sl z (l.map enc)]):=by
 cases n with
 | zero=>exact Zbx
 | succ n=>exact readsU_slice ht hz h0 hl (h n (by omega))
theorem rWdsU (n:Nat):ReadsU Tryz.prog W n 36 (lenB WdB) (fun l=>[.sl 4 (l.map Wd.enc)]):=rslU Tryz.underlying36 k97 (by decide) (fun _=>rfl) n (fun m _=>rWdU m)
theorem rIsU (n:Nat):ReadsU Tryz.prog W n 22 (fun l:List Int=>l.length≤1048576) (fun l=>[.sl 1 (l.map fun x=>[pI x])]) :=
 ReadsU.map (fun l:List Int=>l) (rslU Tryz.underlying22 k3 (by decide) (fun _=>rfl) n (fun m _=>(rI m).u)) (fun _ h=>h.1) (fun _=>rfl)
theorem rUnU:∀ n:Nat,ReadsU Tryz.prog W n 39 UnB Un.enc:=by
 intro n
 induction n using Nat.strongRecOn with
 | _ n ih =>
  cases n with
  | zero=>exact Zbx
  | succ n =>
   have kids:ReadsU Tryz.prog W n 37 (lenB UnB) (fun l=>[.sl 8 (l.map Un.enc)]):=rslU Tryz.underlying37 k39 (by decide) un_len n (fun m hm=>ih m (by omega));refine ReadsU.map (fun x:(Int×Int×Int×Unit)×Int×Str×List Wd×List Wd×List Un×Unit=>Un.mk x.1.1 x.1.2.1 x.1.2.2.1 x.2.1 x.2.2.1 x.2.2.2.1 x.2.2.2.2.1 x.2.2.2.2.2.1)
    (Zbo Tryz.underlying39 rfl k39 (Zae (by exact (r35 n).u) (by exact k35) (by exact (fun _=>rfl)) (by rfl) (Zae (by exact (rI n).u) (by exact k3) (by exact (fun _=>rfl)) (by rfl) (Zae (by exact rSU n) (by exact k9) (by exact (fun _=>rfl)) (by rfl) (Zae (by exact rWdsU n) (by exact k36) (by exact (fun _=>rfl)) (by rfl)
     (Zae (by exact rWdsU n) (by exact k36) (by exact (fun _=>rfl)) (by rfl) (Zae (by exact kids) (by exact k37) (by exact (fun _=>rfl)) (by rfl) freadsU_nil)))))) (by exact fun _=>rfl)) ?_ ?_
   ·rintro ⟨⟨a,b,c,_⟩,k,l,h,w,ks,_⟩ ⟨⟨h1,h2,h3,_⟩,h4,h5,h6,h7,h8,_⟩;exact .mk _ ⟨h1,h2,h3,h4⟩ h5 h6 h7 h8.1 h8.2
   ·rintro ⟨⟨a,b,c,_⟩,k,l,h,w,ks,_⟩;rw [Un.Zay];rfl
theorem rStU (n:Nat):ReadsU Tryz.prog W n 100 StB St.enc:=by
 cases n with
 | zero=>exact Zbx
 | succ n =>
  refine ReadsU.map (fun x:Int×Str×Unit=>(⟨x.1,x.2.1⟩:St)) (Zbo Tryz.underlying100 rfl k100 (Zae (by exact (rI n).u) (by exact k3) (by exact (fun _=>rfl)) (by rfl) (Zae (by exact (rSU n)) (by exact k9) (by exact (fun _=>rfl)) (by rfl) freadsU_nil)) (by exact fun _=>rfl)) ?_ ?_
  ·rintro ⟨a,b,_⟩ ⟨h1,h2,_⟩;exact ⟨h1,h2⟩
  ·rintro ⟨a,b,_⟩;rfl
theorem rStaU (n:Nat):ReadsU Tryz.prog W n 41 StaB Sta.enc:=by
 cases n with
 | zero=>exact Zbx
 | succ n =>
  refine ReadsU.map (fun x:Int×Int×Str×Unit=>(⟨x.1,x.2.1,x.2.2.1⟩:Sta)) (Zbo Tryz.underlying41 rfl k41 (Zae (by exact (rI n).u) (by exact k3) (by exact (fun _=>rfl)) (by rfl) (Zae (by exact (rI n).u) (by exact k3) (by exact (fun _=>rfl)) (by rfl) (Zae (by exact (rSU n)) (by exact k9) (by exact (fun _=>rfl)) (by rfl) freadsU_nil))) (by exact fun _=>rfl)) ?_ ?_
  ·rintro ⟨a,b,c,_⟩ ⟨h1,h2,h3,_⟩;exact ⟨h1,h2,h3⟩
  ·rintro ⟨a,b,c,_⟩;rfl
theorem rStsU (n:Nat):ReadsU Tryz.prog W n 81 (lenB StB) (fun l=>[.sl 2 (l.map St.enc)]):=rslU Tryz.underlying81 k100 (by decide) (fun _=>rfl) n (fun m _=>rStU m)
theorem rSsU (n:Nat):ReadsU Tryz.prog W n 82 (lenB strB) (fun l=>[It.strs l]):=rslU Tryz.underlying82 k9 (by decide) (fun _=>rfl) n (fun m _=>rSU m)
theorem rItU:∀ n:Nat,ReadsU Tryz.prog W n 84 ItB It.enc:=by
 intro n
 induction n using Nat.strongRecOn with
 | _ n ih =>
  cases n with
  | zero=>exact Zbx
  | succ n =>
   refine ReadsU.map (fun x : Int × List St × List St × Int × Int × Un × List Str × List Str × Str × Str × Sta × Int × Int × Int × Str × List It × Unit =>
     It.mk x.1 x.2.1 x.2.2.1 x.2.2.2.1 x.2.2.2.2.1 x.2.2.2.2.2.1 x.2.2.2.2.2.2.1 x.2.2.2.2.2.2.2.1 x.2.2.2.2.2.2.2.2.1 x.2.2.2.2.2.2.2.2.2.1 x.2.2.2.2.2.2.2.2.2.2.1 x.2.2.2.2.2.2.2.2.2.2.2.1 x.2.2.2.2.2.2.2.2.2.2.2.2.1 x.2.2.2.2.2.2.2.2.2.2.2.2.2.1 x.2.2.2.2.2.2.2.2.2.2.2.2.2.2.1 x.2.2.2.2.2.2.2.2.2.2.2.2.2.2.2.1)
    (Zbo Tryz.underlying84 rfl k84 (Zae (by exact (rI n).u) (by exact k3) (by exact (fun _=>rfl)) (by rfl) (Zae (by exact (rStsU n)) (by exact k81) (by exact (fun _=>rfl)) (by rfl) (Zae (by exact (rStsU n)) (by exact k81) (by exact (fun _=>rfl)) (by rfl) (Zae (by exact (rI n).u) (by exact k3) (by exact (fun _=>rfl)) (by rfl) (Zae (by exact (rI n).u) (by exact k3) (by exact (fun _=>rfl)) (by rfl)
     (Zae (by exact (rUnU n)) (by exact k39) (by exact un_len) (by rfl) (Zae (by exact (rSsU n)) (by exact k82) (by exact (fun _=>rfl)) (by rfl) (Zae (by exact (rSsU n)) (by exact k82) (by exact (fun _=>rfl)) (by rfl) (Zae (by exact (rSU n)) (by exact k9) (by exact (fun _=>rfl)) (by rfl) (Zae (by exact (rSU n)) (by exact k9) (by exact (fun _=>rfl)) (by rfl) (Zae (by exact (rStaU n)) (by exact k41) (by exact (fun _=>rfl)) (by rfl)
     (Zae (by exact (rI n).u) (by exact k3) (by exact (fun _=>rfl)) (by rfl) (Zae (by exact (rI n).u) (by exact k3) (by exact (fun _=>rfl)) (by rfl) (Zae (by exact (rI n).u) (by exact k3) (by exact (fun _=>rfl)) (by rfl) (Zae (by exact (rSU n)) (by exact k9) (by exact (fun _=>rfl)) (by rfl)
     (Zae (by exact (rslU Tryz.underlying42 k84 (by decide) It.enc_len n (fun m hm=>ih m (by omega)))) (by exact k42) (by exact (fun _=>rfl)) (by rfl) freadsU_nil)))))))))))))))) ?_) ?_ ?_
   ·rintro ⟨k,a,t,w,n,u,o,e,l,f,s,ac,it,d,ev,b,_⟩;simp only [List.length_append,un_len];rfl
   ·rintro ⟨k,a,t,w,n,u,o,e,l,f,s,ac,it,d,ev,b,_⟩ ⟨h1,h2,h3,h4,h5,h6,h7,h8,h9,h10,h11,h12,h13,h14,h15,h16,_⟩;exact .mk _ h1 h2 h3 h4 h5 h6 h7 h8 h9 h10 h11 h12 h13 h14 h15 h16.1 h16.2
   ·rintro ⟨k,a,t,w,n,u,o,e,l,f,s,ac,it,d,ev,b,_⟩;rw [It.Zay,Un.Zay];rfl
theorem rItsU (n:Nat):ReadsU Tryz.prog W n 42 (lenB ItB) (fun l=>[.sl 25 (l.map It.enc)]):=rslU Tryz.underlying42 k84 (by decide) It.enc_len n (fun m _=>rItU m)
theorem rAcU (n:Nat):ReadsU Tryz.prog W n 44 AcB Ac.enc:=by
 cases n with
 | zero=>exact Zbx
 | succ n =>
  refine ReadsU.map (fun x:Int×Str×Int×Sta×List It×Unit=>(⟨x.1,x.2.1,x.2.2.1,x.2.2.2.1,x.2.2.2.2.1⟩:Ac)) (Zbo Tryz.underlying44 rfl k44 (Zae (by exact (rI n).u) (by exact k3) (by exact (fun _=>rfl)) (by rfl) (Zae (by exact (rSU n)) (by exact k9) (by exact (fun _=>rfl)) (by rfl) (Zae (by exact (rI n).u) (by exact k3) (by exact (fun _=>rfl)) (by rfl) (Zae (by exact (rStaU n)) (by exact k41) (by exact (fun _=>rfl)) (by rfl) (Zae (by exact (rItsU n)) (by exact k42) (by exact (fun _=>rfl)) (by rfl) freadsU_nil))))) (by exact fun _=>rfl)) ?_ ?_
  ·rintro ⟨a,b,c,d,e,_⟩ ⟨h1,h2,h3,h4,h5,_⟩;exact ⟨h1,h2,h3,h4,h5⟩
  ·rintro ⟨a,b,c,d,e,_⟩;rfl
end Go.Proofs.YtldogpfookkbaaaGreatDoor.rd
namespace Go.VM
open Go
def kindNames:List Str:=[[98,111,111,107],[112,97,114,116],[115,101,99,116,105,111,110],[112,97,114,97,103,114,97,112,104],[116,97,98,108,101],[114,111,119],[99,101,108,108],[110,111,116,101]]
def belowT:List (List Int):=[[1,2],[2],[3,4,7],[3,4,7],[5],[6],[],[]]
end Go.VM
namespace Go.VM
open Go
def nestB (p k:Int):Bool:=if p=0 then (k==1)||(k==2) else if p=1 then k==2 else if p=2∨p=3 then (k==3)||((k==4)||(k==7)) else if p=4 then k==5 else if p=5 then k==6 else false
end Go.VM
namespace Go.Proofs.YtldogpfookkbaaaGreatDoor.w
open Go Go.VM
def c_pandectref06_Nests:VC:=(ZR [ZO 4 (.mv (.c (.bool false)))] (.seq (ZR [ZM 5 0] (.block 0 (ZR [ZO 7 (.bin .eql (.t 5) (.c (.int .i64 0))),ZM 6 7] (.cond (.t 6) (ZR [ZM 8 1,ZO 9 (.bin .eql (.t 8) (.c (.int .i64 1))),ZM 10 9,ZG 11 (.mv (.t 1)) 10 false,ZG 12 (.bin .eql (.t 11) (.c (.int .i64 2))) 10 false,ZO 13 (.pick (.t 10) (.c (.bool true)) (.t 12)),ZM 4 13] .ret) (ZR [ZO 15 (.bin .eql (.t 5) (.c (.int .i64 1))),ZM 14 15] (.cond (.t 14) (ZR [ZM 16 1,ZO 17 (.bin .eql (.t 16) (.c (.int .i64 2))),ZM 4 17] .ret) (.seq (ZR [ZO 19 (.bin .eql (.t 5) (.c (.int .i64 2))),ZM 18 19] (.cond (.t 18) .skip (.region [ZO 20 (.bin .eql (.t 5) (.c (.int .i64 3))),ZM 18 20] false))) (.cond (.t 18) (ZR [ZM 21 1,ZO 22 (.bin .eql (.t 21) (.c (.int .i64 3))),ZM 23 22,ZG 24 (.mv (.t 1)) 23 false,ZG 25 (.bin .eql (.t 24) (.c (.int .i64 4))) 23 false,ZO 26 (.pick (.t 23) (.c (.bool true)) (.t 25)),ZM 27 26,ZG 28 (.mv (.t 1)) 27 false,ZG 29 (.bin .eql (.t 28) (.c (.int .i64 7))) 27 false,ZO 30 (.pick (.t 27) (.c (.bool true)) (.t 29)),ZM 4 30] .ret) (ZR [ZO 32 (.bin .eql (.t 5) (.c (.int .i64 4))),ZM 31 32] (.cond (.t 31) (ZR [ZM 33 1,ZO 34 (.bin .eql (.t 33) (.c (.int .i64 5))),ZM 4 34] .ret) (ZR [ZO 36 (.bin .eql (.t 5) (.c (.int .i64 5))),ZM 35 36] (.cond (.t 35) (ZR [ZM 37 1,ZO 38 (.bin .eql (.t 37) (.c (.int .i64 6))),ZM 4 38] .ret) .skip)))))))))))) (ZR [ZO 4 (.mv (.c (.bool false)))] .ret)))
theorem sp_ref06_Nests (p k:Int):Zaj Tryz.prog 113 [pI p,pI k] (.bool (nestB p k)):=by
 refine Gp (vc:=c_pandectref06_Nests) [.t 4] (cB _) Tryz.func113 ?_;unfold c_pandectref06_Nests;try dsimp only [ZM,ZO,ZN,ZG,ZR,ZU]
 refine Rp0 [0,1] ?_;refine Zab ?_;refine Rp0 [0,1,5] ?_;refine Zac ?_;unfold nestB;refine Rp0 [1,5,6] ?_;by_cases h0:p=0
 ·rw [if_pos h0];refine Zaf rfl (fun _=>?_) (fun h=>by simp [h0] at h);cases e1:k==1 with
  | true =>
   refine Zab (Zag [4] ?_);simp only [vmL,Nat.reduceEqDiff,Nat.reduceAdd,Nat.reduceLT,Nat.reduceLeDiff,Nat.reduceSub,Nat.reduceMul,reduceIte,reduceCtorEq,Int.reduceToNat,e1];exact Tv0
  | false =>
   refine Zab (Zag [4] ?_);simp only [vmL,Nat.reduceEqDiff,Nat.reduceAdd,Nat.reduceLT,Nat.reduceLeDiff,Nat.reduceSub,Nat.reduceMul,reduceIte,reduceCtorEq,Int.reduceToNat,e1];exact Tv0
 rw [if_neg h0];refine Zaf rfl (fun h=>absurd (by simpa using h) h0) (fun _=>?_);refine Rp0 [1,5,14] ?_;by_cases h1:p=1
 ·rw [if_pos h1];refine Zaf rfl (fun _=>?_) (fun h=>by simp [h1] at h);exact Rv0 [4]
 rw [if_neg h1];refine Zaf rfl (fun h=>absurd (by simpa using h) h1) (fun _=>?_);refine Zab (VW_mid (σ:=Unit) (fun _=>([(1,pI k),(5,pI p),(18,.bool (decide (p=2∨p=3)))],⟨[],0⟩)) ?_ (fun _=>?_))
 ·refine Rp0 [1,5,18] ?_;by_cases h2:p=2
  ·refine Zaf rfl (fun _=>?_) (fun h=>by simp [h2] at h);refine Kp0 ?_;have e:decide (p=2∨p=3)=true:=decide_eq_true (.inl h2);have e':(p==2)=true:=by simp [h2]
   rw [e,e'];exact ⟨(),by first|trivial|rfl⟩
  ·refine Zaf rfl (fun h=>absurd (by simpa using h) h2) (fun _=>?_);refine rp0 [1,5,18] ?_;have e:decide (p=2∨p=3)=(p==3):=by
    rw [Bool.eq_iff_iff];simp [h2]
   rw [e];exact ⟨(),by first|trivial|rfl⟩
 by_cases h2:p=2∨p=3
 ·rw [if_pos h2];refine Zaf rfl (fun _=>?_) (fun h=>by simp only [decide_eq_false_iff_not] at h;exact absurd h2 h);cases e3:k==3 with
  | true =>
   refine Zab (Zag [4] ?_);simp only [vmL,Nat.reduceEqDiff,Nat.reduceAdd,Nat.reduceLT,Nat.reduceLeDiff,Nat.reduceSub,Nat.reduceMul,reduceIte,reduceCtorEq,Int.reduceToNat,e3];exact Tv0
  | false =>
   cases e4:k==4 with
   | true =>
    refine Zab (Zag [4] ?_);simp only [vmL,Nat.reduceEqDiff,Nat.reduceAdd,Nat.reduceLT,Nat.reduceLeDiff,Nat.reduceSub,Nat.reduceMul,reduceIte,reduceCtorEq,Int.reduceToNat,e3,e4];exact Tv0
   | false =>
    refine Zab (Zag [4] ?_);simp only [vmL,Nat.reduceEqDiff,Nat.reduceAdd,Nat.reduceLT,Nat.reduceLeDiff,Nat.reduceSub,Nat.reduceMul,reduceIte,reduceCtorEq,Int.reduceToNat,e3,e4];exact Tv0
 rw [if_neg h2];refine Zaf rfl (fun h=>by simp only [decide_eq_true_eq] at h;exact absurd h h2) (fun _=>?_);refine Rp0 [1,5,31] ?_;by_cases h4:p=4
 ·rw [if_pos h4];refine Zaf rfl (fun _=>?_) (fun h=>by simp [h4] at h);exact Rv0 [4]
 rw [if_neg h4];refine Zaf rfl (fun h=>absurd (by simpa using h) h4) (fun _=>?_);refine Rp0 [1,5,35] ?_;by_cases h5:p=5
 ·rw [if_pos h5];refine Zaf rfl (fun _=>?_) (fun h=>by simp [h5] at h);exact Rv0 [4]
 rw [if_neg h5];refine Zaf rfl (fun h=>absurd (by simpa using h) h5) (fun _=>?_);refine Kp0 ?_;exact Rv0 [4]
end Go.Proofs.YtldogpfookkbaaaGreatDoor.w
namespace Go.VM
open Go
def idZ:Idt:=⟨0,0,0⟩
def aloneR (u:Un):Bool:=(decide (0≤u.kind)&&decide (u.kind≤7))&&(decide (u.kids.length≤64)&&(rowB u.head&&(rowB u.words&&(if u.kind=0 then (u.label==[])&&((u.head.length==0)&&(u.words.length==0)) else may u.label))))
def sameB (a b:Un):Bool:=(a.kind==b.kind)&&(a.label==b.label)
mutual
def rightT : Un → Bool
 | .mk a i n k l h w ks => aloneR (.mk a i n k l h w ks) && rightL k [] ks
def rightL : Int → List Un → List Un → Bool
 | _, _, [] => true
 | p, pre, k :: r => (nestB p k.kind && rightT k) && ((!(pre.any fun x => sameB x k)) && rightL p (pre ++ [k]) r)
end
theorem rightT_eq (u:Un):rightT u=(aloneR u&&rightL u.kind [] u.kids):=by cases u;rw [rightT];rfl
def idsB (u:Un):Bool:=((idsT u).all fun x=>decide (x=idZ))||(((u.kind==0)==decide (idU u=idZ))&&decide (idsT u).Nodup)
def validT (u:Un):Bool:=rightT u&&(decide (depthT u≤8)&&(decide ((unitsT u).length≤1024)&&idsB u))
def namedB (u:Un):Bool:=(unitsT u).all fun x=>(x.kind==0) || !(decide (idU x=idZ))
def standsB (u:Un):Bool:=validT u&&namedB u
end Go.VM
namespace Go.Proofs.YtldogpfookkbaaaGreatDoor.w
open Go Go.VM
def c_pandectref06_alone:VC:=(ZR [ZO 1 (.box 8 (.t 0)),ZO 2 (.mv (.c (.bool false)))] (.seq (ZR [ZO 3 (.faddr 3 (.t 1)),ZO 4 (.load false 1 (.t 3)),ZO 5 (.bin .lss (.t 4) (.c (.int .i64 0))),ZM 6 5,ZG 7 (.faddr 3 (.t 1)) 6 false,ZG 8 (.load false 1 (.t 7)) 6 false,ZG 9 (.bin .gtr (.t 8) (.c (.int .i64 7))) 6 false,ZO 10 (.pick (.t 6) (.c (.bool true)) (.t 9)),ZM 11 10,ZG 12 (.faddr 7 (.t 1)) 11 false,ZG 13 (.load false 1 (.t 12)) 11 false,ZG 14 (.len false (.t 13)) 11 false,ZG 15 (.bin .gtr (.t 14) (.c (.int .i64 64))) 11 false,ZO 16 (.pick (.t 11) (.c (.bool true)) (.t 15)),ZM 17 16,ZG 18 (.faddr 5 (.t 1)) 17 false,ZG 19 (.load false 1 (.t 18)) 17 false,ZG 20 (.call 170 [.t 19]) 17 false,ZG 21 (.un .not (.t 20)) 17 false,ZO 22 (.pick (.t 17) (.c (.bool true)) (.t 21)),ZM 23 22,ZG 24 (.faddr 6 (.t 1)) 23 false,ZG 25 (.load false 1 (.t 24)) 23 false,ZG 26 (.call 170 [.t 25]) 23 false,ZG 27 (.un .not (.t 26)) 23 false,ZO 28 (.pick (.t 23) (.c (.bool true)) (.t 27))] (.cond (.t 28) (ZR [ZO 2 (.mv (.c (.bool false)))] .ret) .skip)) (.seq (ZR [ZO 29 (.faddr 3 (.t 1)),ZO 30 (.load false 1 (.t 29)),ZO 31 (.bin .eql (.t 30) (.c (.int .i64 0)))] (.cond (.t 31) (ZR [ZO 32 (.faddr 4 (.t 1)),ZO 33 (.load false 1 (.t 32)),ZO 34 (.bin .eql (.t 33) (.c (.str []))),ZM 35 34,ZG 36 (.faddr 5 (.t 1)) 35 true,ZG 37 (.load false 1 (.t 36)) 35 true,ZG 38 (.len false (.t 37)) 35 true,ZG 39 (.bin .eql (.t 38) (.c (.int .i64 0))) 35 true,ZO 40 (.pick (.t 35) (.t 39) (.c (.bool false))),ZM 41 40,ZG 42 (.faddr 6 (.t 1)) 41 true,ZG 43 (.load false 1 (.t 42)) 41 true,ZG 44 (.len false (.t 43)) 41 true,ZG 45 (.bin .eql (.t 44) (.c (.int .i64 0))) 41 true,ZO 46 (.pick (.t 41) (.t 45) (.c (.bool false))),ZM 2 46] .ret) .skip)) (ZR [ZO 47 (.faddr 4 (.t 1)),ZO 48 (.load false 1 (.t 47)),ZO 49 (.call 171 [.t 48]),ZM 2 49] .ret))))
def c_pandectref08_named:VC:=(ZR [ZO 1 (.box 8 (.t 0)),ZO 2 (.mv (.c (.bool false)))] (.seq (ZR [ZO 4 (.faddr 3 (.t 1)),ZO 5 (.load false 1 (.t 4)),ZO 6 (.bin .neq (.t 5) (.c (.int .i64 0))),ZM 7 6,ZG 8 (.faddr 0 (.t 1)) 7 true,ZG 9 (.load true 3 (.t 8)) 7 true,ZG 10 (.build [.int .i64 0,.int .i64 0,.int .i64 0] []) 7 true,ZG 11 (.eqs false [.i,.i,.i] (.t 9) (.t 10)) 7 true,ZO 12 (.pick (.t 7) (.t 11) (.c (.bool false)))] (.cond (.t 12) (ZR [ZO 2 (.mv (.c (.bool false)))] .ret) .skip)) (.seq (ZR [ZO 3 (.mv (.c (.int .i64 0)))] (.block 0 (.loop (.seq (ZR [ZM 13 3,ZO 14 (.faddr 7 (.t 1)),ZO 15 (.load false 1 (.t 14)),ZO 16 (.len false (.t 15)),ZO 17 (.bin .lss (.t 13) (.t 16))] (.cond (.t 17) .skip (.exit 0))) (.seq (.block 1 (ZR [ZO 20 (.faddr 7 (.t 1)),ZO 21 (.load false 1 (.t 20)),ZM 22 3,ZO 23 (.iaddr 8 (.t 21) (.t 22)),ZO 24 (.load true 8 (.t 23)),ZO 25 (.call 70 [.t 24]),ZO 26 (.un .not (.t 25))] (.cond (.t 26) (ZR [ZO 2 (.mv (.c (.bool false)))] .ret) .skip))) (.region [ZM 18 3,ZO 19 (.bin .add (.t 18) (.c (.int .i64 1))),ZM 3 19] false)))))) (ZR [ZO 2 (.mv (.c (.bool true)))] .ret))))
theorem sp_ref06_alone {u:Un} (h:SmU u) (hk:u.kids.length≤1000):Zaj Tryz.prog 112 [.agg u.enc] (.bool (aloneR u)):=by
 have H:=sp_ref06_row u.head (by have:=h.head.1;omega) (fun w hw=>by have:=h.head.2 w hw;omega);have W:=sp_ref06_row u.words (by have:=h.words.1;omega) (fun w hw=>by have:=h.words.2 w hw;omega);have M:=sp_pandectref03_May u.label (by have:=h.label;omega);have n0:decide (u.kind<0) = !(decide (0≤u.kind)):=by
  by_cases h:0≤u.kind
  ·rw [decide_eq_true h,decide_eq_false (by omega)];rfl
  ·rw [decide_eq_false h,decide_eq_true (by omega)];rfl
 have n7:decide (7<u.kind) = !(decide (u.kind≤7)):=by
  by_cases h:u.kind≤7
  ·rw [decide_eq_true h,decide_eq_false (by omega)];rfl
  ·rw [decide_eq_false h,decide_eq_true (by omega)];rfl
 have n64:decide ((64:Int)<(u.kids.length:Int)) = !(decide (u.kids.length≤64)):=by
  by_cases h:u.kids.length≤64
  ·rw [decide_eq_true h,decide_eq_false (by omega)];rfl
  ·rw [decide_eq_false h,decide_eq_true (by omega)];rfl
 unfold aloneR;refine Gp (vc:=c_pandectref06_alone) [.t 2] (cB _) Tryz.func112 ?_;unfold c_pandectref06_alone;try dsimp only [ZM,ZO,ZN,ZG,ZR,ZU]
 rw [Un.Zay];refine Rp0 [1] ?_;refine Zaz [(1,.ro [pI u.act,pI u.item,pI u.n,pI u.kind,.str u.label,.sl 4 (u.head.map Wd.enc),.sl 4 (u.words.map Wd.enc),.sl 8 (u.kids.map Un.enc)])] ⟨View.loc (z:=8) (fz:=false) (es:=[[pI u.act,pI u.item,pI u.n,pI u.kind,.str u.label,.sl 4 (u.head.map Wd.enc),.sl 4 (u.words.map Wd.enc),.sl 8 (u.kids.map Un.enc)]]) rfl (by simp) rfl (by simp),trivial⟩ ?_;generalize hEH:u.head.map Wd.enc=EH at H ⊢;generalize hEW:u.words.map Wd.enc=EW at W ⊢;have lEH:EH.length=u.head.length:=by rw [← hEH,List.length_map]
 have lEW:EW.length=u.words.length:=by rw [← hEW,List.length_map]
 refine Zab ?_;cases d0:decide (0≤u.kind) with
 | false =>
  rw [d0] at n0;refine Rp1 [1,28] n0 ?_;refine Ct ?_;exact Rv0 [2]
 | true =>
 rw [d0] at n0;cases d7:decide (u.kind≤7) with
 | false =>
  rw [d7] at n7;refine Rp1 [1,28] (x2 n0 n7) ?_;refine Ct ?_;exact Rv0 [2]
 | true =>
 rw [d7] at n7;cases d64:decide (u.kids.length≤64) with
 | false =>
  rw [d64] at n64;refine Rp1 [1,28] (x4 n0 n7 n64 @xlm) ?_;refine Ct ?_;exact Rv0 [2]
 | true =>
 rw [d64] at n64;cases dh:rowB u.head with
 | false =>
  rw [dh] at H;refine Rp1 [1,28] (x4 n0 n7 n64 @xlm) ?_;refine Ap0 H ?_;refine Ct ?_;exact Rv0 [2]
 | true =>
 rw [dh] at H;cases dw:rowB u.words with
 | false =>
  rw [dw] at W;refine Rp1 [1,28] (x4 n0 n7 n64 @xlm) ?_;refine Ap0 H ?_;refine Ap0 W ?_;refine Ct ?_;exact Rv0 [2]
 | true =>
 rw [dw] at W;refine Rp1 [1,28] (x4 n0 n7 n64 @xlm) ?_;refine Ap0 H ?_;refine Ap0 W ?_;refine Fp0 ?_;refine Zab ?_;refine Rp0 [1,31] ?_;by_cases hk0:u.kind=0
 ·rw [if_pos hk0];refine Zaf rfl (fun _=>?_) (fun h=>by simp [hk0] at h);have zh:((u.head.length:Int)==0)=(u.head.length==0):=by rw [Bool.eq_iff_iff];simp
  have zw:((u.words.length:Int)==0)=(u.words.length==0):=by rw [Bool.eq_iff_iff];simp
  cases e1:u.label==[] with
  | false =>
   refine Zab (Zag [2] ?_);simp only [vmL,Nat.reduceEqDiff,Nat.reduceAdd,Nat.reduceLeDiff,e1];exact Tv0
  | true =>
  cases e2:u.head.length==0 with
  | false =>
   rw [e2] at zh;refine Zab (Zag [2] ?_);simp only [vmL,Nat.reduceEqDiff,Nat.reduceAdd,Nat.reduceLeDiff,e1,lEH,lEW,zh];exact Tv0
  | true =>
   rw [e2] at zh;refine Zab (Zag [2] ?_);simp only [vmL,Nat.reduceEqDiff,Nat.reduceAdd,Nat.reduceLeDiff,e1,lEH,lEW,zh,zw];exact Tv0
 ·rw [if_neg hk0];refine Zaf rfl (fun h=>absurd (by simpa using h) hk0) (fun _=>?_);refine Kp0 ?_;refine Rp0 [2] ?_;refine Za8 M ?_;exact Tv0
theorem named_eq (u:Un):namedB u=(((u.kind==0) || !(decide (idU u=idZ)))&&u.kids.all namedB):=unitsT_all _ u
theorem idz_eq (a b c:Int):((a==0&&(b==0&&(c==0&&true))) != false)=decide ((⟨a,b,c⟩:Idt)=idZ):=by
 rw [Bool.eq_iff_iff];simp [idZ]
theorem sp_ref08_named {u:Un} (hu:SmT u):Zaj Tryz.prog 70 [.agg u.enc] (.bool (namedB u)):=by
 induction hu with
 | mk u h hk hs ih =>
  rw [named_eq];refine Gp (vc:=c_pandectref08_named) [.t 2] (cB _) Tryz.func70 ?_;unfold c_pandectref08_named;try dsimp only [ZM,ZO,ZN,ZG,ZR,ZU]
  rw [Un.Zay];refine Rp0 [1] ?_;refine Zaz [(1,.ro [pI u.act,pI u.item,pI u.n,pI u.kind,.str u.label,.sl 4 (u.head.map Wd.enc),.sl 4 (u.words.map Wd.enc),.sl 8 (u.kids.map Un.enc)])] ⟨View.loc (z:=8) (fz:=false) (es:=[[pI u.act,pI u.item,pI u.n,pI u.kind,.str u.label,.sl 4 (u.head.map Wd.enc),.sl 4 (u.words.map Wd.enc),.sl 8 (u.kids.map Un.enc)]]) rfl (by simp) rfl (by simp),trivial⟩ ?_;generalize u.head.map Wd.enc=EH;generalize u.words.map Wd.enc=EW;have hid:=idz_eq u.act u.item u.n;generalize hnz:decide ((⟨u.act,u.item,u.n⟩:Idt)=idZ)=nz at hid;have hid2:decide (idU u=idZ)=nz:=hnz;rw [hid2];generalize u.kids=L at hk hs ih ⊢;refine Zab ?_;refine Zab (VW_mid (σ:=Unit) (fun _=>([(1,.ro [pI u.act,pI u.item,pI u.n,pI u.kind,.str u.label,.sl 4 EH,.sl 4 EW,.sl 8 (L.map Un.enc)]),(12,.bool (!((u.kind==0) || !nz)))],⟨[],1⟩)) ?_ (fun _=>?_))
  ·cases k0:u.kind==0 with
   | false =>
    have k0':(u.kind != 0)=true:=by rw [bne,k0];rfl
    refine rp1 [1,12] (x2 k0' hid) ?_;exact ⟨(),by cases nz<;>rfl⟩
   | true =>
    have k0':(u.kind != 0)=false:=by rw [bne,k0];rfl
    refine rp1 [1,12] k0' ?_;exact ⟨(),by cases nz<;>rfl⟩
  cases hq:((u.kind==0) || !nz) with
  | false =>
   refine Ct ?_;exact Rv0 [2]
  | true =>
  refine Fp0 ?_;refine Zab ?_;refine Rp0 [1,3] ?_;refine Zac ?_;refine Zao (σ:={ x:Nat×Nat//x.1≤L.length∧L.all namedB=(L.drop x.1).all namedB }) (fun x=>([(1,.ro [pI u.act,pI u.item,pI u.n,pI u.kind,.str u.label,.sl 4 EH,.sl 4 EW,.sl 8 (L.map Un.enc)]),(3,pI x.1.1)],⟨[],x.1.2⟩)) (fun x=>L.length-x.1.1) ⟨(0,1),Nat.zero_le _,rfl⟩ ?_ ?_ ?_
  ·exact Fn0
  ·exact Sc0
  rintro ⟨⟨k,t⟩,hkk,hpre⟩;simp only [] at hkk hpre ⊢;refine Zab ?_;refine Rp1 [1,3,17] @xlm ?_;refine Zaf rfl (fun h1=>?_) (fun h1=>?_)
  ·have ka:k<L.length:=by simp only [decide_eq_true_eq] at h1;omega
   have hd:L.drop k=L[k]::L.drop (k+1):=List.drop_eq_getElem_cons ka;rw [hd,List.all_cons] at hpre;have hrow:(L.map Un.enc).getD k []=L[k].enc:=rowm ka;have R:=ih _ (List.getElem_mem ka);generalize L[k]=v at hpre hrow R;rw [Un.Zay] at hrow R;refine Kp0 ?_;refine Zab ?_;refine Zac ?_;refine Rp1 [1,3,26] (x2 @xlm hrow) ?_;refine Ok ?_;refine Ap0 R ?_;cases hq:namedB v with
   | false =>
    refine Ct ?_;refine Rp0 [2] ?_;refine Tp0 ?_;rw [hpre,hq];exact View.refl _ _
   | true =>
    rw [hq,Bool.true_and] at hpre;refine Fp0 ?_;refine rp1 [1,3] (ad1 (a:=k) (by omega)) ?_;refine ⟨⟨(k+1,t),ka,hpre⟩,?_⟩;exact Fn0
  ·have ka:k=L.length:=by simp only [decide_eq_false_iff_not] at h1;omega
   subst ka;rw [List.drop_length] at hpre;refine Ep0 ?_;refine Rp0 [2] ?_;refine Tp0 ?_;rw [hpre];exact View.refl _ _
end Go.Proofs.YtldogpfookkbaaaGreatDoor.w
namespace Go.Proofs.YtldogpfookkbaaaGreatDoor.w
open Go Go.VM
def c_pandectref06_Right:VC:=(ZR [ZO 1 (.box 8 (.t 0)),ZO 2 (.mv (.c (.bool false)))] (.seq (ZR [ZO 5 (.load true 8 (.t 1)),ZO 6 (.call 112 [.t 5]),ZO 7 (.un .not (.t 6))] (.cond (.t 7) (ZR [ZO 2 (.mv (.c (.bool false)))] .ret) .skip)) (.seq (ZR [ZO 3 (.mv (.c (.int .i64 0)))] (.block 0 (.loop (.seq (ZR [ZM 8 3,ZO 9 (.faddr 7 (.t 1)),ZO 10 (.load false 1 (.t 9)),ZO 11 (.len false (.t 10)),ZO 12 (.bin .lss (.t 8) (.t 11))] (.cond (.t 12) .skip (.exit 0))) (.seq (.block 1 (.seq (.seq (.region [ZO 15 (.faddr 3 (.t 1)),ZO 16 (.load false 1 (.t 15)),ZO 17 (.faddr 7 (.t 1)),ZO 18 (.load false 1 (.t 17)),ZM 19 3,ZO 20 (.iaddr 8 (.t 18) (.t 19)),ZO 21 (.faddr 3 (.t 20)),ZO 22 (.load false 1 (.t 21)),ZO 23 (.call 113 [.t 16,.t 22]),ZO 24 (.un .not (.t 23)),ZM 25 24,ZG 26 (.faddr 7 (.t 1)) 25 false,ZG 27 (.load false 1 (.t 26)) 25 false,ZG 28 (.mv (.t 3)) 25 false,ZG 29 (.iaddr 8 (.t 27) (.t 28)) 25 false,ZG 30 (.load true 8 (.t 29)) 25 false,ZG 31 (.call 88 [.t 30]) 25 false,ZG 32 (.un .not (.t 31)) 25 false,ZO 33 (.pick (.t 25) (.c (.bool true)) (.t 32))] true) (.cond (.t 33) (ZR [ZO 2 (.mv (.c (.bool false)))] .ret) .skip)) (ZR [ZO 4 (.mv (.c (.int .i64 0)))] (.block 2 (.loop (.seq (ZR [ZM 34 4,ZM 35 3,ZO 36 (.bin .lss (.t 34) (.t 35))] (.cond (.t 36) .skip (.exit 2))) (.seq (.block 3 (.seq (.region [ZO 39 (.faddr 7 (.t 1)),ZO 40 (.load false 1 (.t 39)),ZM 41 4,ZO 42 (.iaddr 8 (.t 40) (.t 41)),ZO 43 (.faddr 3 (.t 42)),ZO 44 (.load false 1 (.t 43)),ZO 45 (.faddr 7 (.t 1)),ZO 46 (.load false 1 (.t 45)),ZM 47 3,ZO 48 (.iaddr 8 (.t 46) (.t 47)),ZO 49 (.faddr 3 (.t 48)),ZO 50 (.load false 1 (.t 49)),ZO 51 (.bin .eql (.t 44) (.t 50)),ZM 52 51,ZG 53 (.faddr 7 (.t 1)) 52 true,ZG 54 (.load false 1 (.t 53)) 52 true,ZG 55 (.mv (.t 4)) 52 true,ZG 56 (.iaddr 8 (.t 54) (.t 55)) 52 true,ZG 57 (.faddr 4 (.t 56)) 52 true,ZG 58 (.load false 1 (.t 57)) 52 true,ZG 59 (.faddr 7 (.t 1)) 52 true,ZG 60 (.load false 1 (.t 59)) 52 true,ZG 61 (.mv (.t 3)) 52 true,ZG 62 (.iaddr 8 (.t 60) (.t 61)) 52 true,ZG 63 (.faddr 4 (.t 62)) 52 true,ZG 64 (.load false 1 (.t 63)) 52 true,ZG 65 (.bin .eql (.t 58) (.t 64)) 52 true,ZO 66 (.pick (.t 52) (.t 65) (.c (.bool false)))] true) (.cond (.t 66) (ZR [ZO 2 (.mv (.c (.bool false)))] .ret) .skip))) (.region [ZM 37 4,ZO 38 (.bin .add (.t 37) (.c (.int .i64 1))),ZM 4 38] false)))))))) (.region [ZM 13 3,ZO 14 (.bin .add (.t 13) (.c (.int .i64 1))),ZM 3 14] false)))))) (ZR [ZO 2 (.mv (.c (.bool true)))] .ret))))
theorem right_step {p:Int} {L:List Un} {i:Nat} (h:i<L.length):rightL p (L.take i) (L.drop i)=((nestB p L[i].kind&&rightT L[i])&&((!((L.take i).any fun x=>sameB x L[i]))&&rightL p (L.take (i+1)) (L.drop (i+1)))):=by
 have hd:L.drop i=L[i]::L.drop (i+1):=List.drop_eq_getElem_cons h;have ht:L.take i++[L[i]]=L.take (i+1):=by rw [List.take_add_one,List.getElem?_eq_getElem h];rfl
 rw [hd,rightL,ht]
theorem same_step {L:List Un} {v:Un} {k:Nat} (h:k<L.length):((L.take (k+1)).any fun x=>sameB x v)=(((L.take k).any fun x=>sameB x v)||sameB L[k] v):=by
 rw [List.take_add_one,List.getElem?_eq_getElem h,List.any_append];simp
theorem sp_ref06_Right {u:Un} (hu:SmT u):Zaj Tryz.prog 88 [.agg u.enc] (.bool (rightT u)):=by
 induction hu with
 | mk u h hk hs ih =>
  have A:=sp_ref06_alone h hk;rw [rightT_eq];refine Gp (vc:=c_pandectref06_Right) [.t 2] (cB _) Tryz.func88 ?_;unfold c_pandectref06_Right;try dsimp only [ZM,ZO,ZN,ZG,ZR,ZU]
  rw [Un.Zay] at A ⊢;refine Rp0 [1] ?_;refine Zaz [(1,.ro [pI u.act,pI u.item,pI u.n,pI u.kind,.str u.label,.sl 4 (u.head.map Wd.enc),.sl 4 (u.words.map Wd.enc),.sl 8 (u.kids.map Un.enc)])] ⟨View.loc (z:=8) (fz:=false) (es:=[[pI u.act,pI u.item,pI u.n,pI u.kind,.str u.label,.sl 4 (u.head.map Wd.enc),.sl 4 (u.words.map Wd.enc),.sl 8 (u.kids.map Un.enc)]]) rfl (by simp) rfl (by simp),trivial⟩ ?_;generalize u.head.map Wd.enc=EH at A ⊢;generalize u.words.map Wd.enc=EW at A ⊢;generalize aloneR u=al at A ⊢;generalize u.kids=L at hk hs ih A ⊢;refine Zab ?_;refine Rp0 [1,7] ?_;refine Ap0 A ?_;cases al with
  | false =>
   refine Ct ?_;exact Rv0 [2]
  | true =>
  refine Fp0 ?_;refine Zab ?_;refine Rp0 [1,3] ?_;refine Zac ?_;refine Zao (σ:={ x:Nat×Nat//x.1≤L.length∧rightL u.kind [] L=rightL u.kind (L.take x.1) (L.drop x.1) }) (fun x=>([(1,.ro [pI u.act,pI u.item,pI u.n,pI u.kind,.str u.label,.sl 4 EH,.sl 4 EW,.sl 8 (L.map Un.enc)]),(3,pI x.1.1)],⟨[],x.1.2⟩)) (fun x=>L.length-x.1.1) ⟨(0,1),Nat.zero_le _,rfl⟩ ?_ ?_ ?_
  ·exact Fn0
  ·exact Sc0
  rintro ⟨⟨i,t⟩,hii,hpre⟩;simp only [] at hii hpre ⊢;refine Zab ?_;refine Rp1 [1,3,12] @xlm ?_;refine Zaf rfl (fun h1=>?_) (fun h1=>?_)
  ·have ia:i<L.length:=by simp only [decide_eq_true_eq] at h1;omega
   rw [right_step ia] at hpre;have hrow:(L.map Un.enc).getD i []=L[i].enc:=rowm ia;have R:=ih _ (List.getElem_mem ia);generalize hv:L[i]=v at hpre hrow R;rw [Un.Zay] at hrow R;have N:=sp_ref06_Nests u.kind v.kind;refine Kp0 ?_;refine Zab ?_;refine Zac ?_;refine Zab ?_;have fin:∀ b,b=rightL u.kind [] L→View ⟨[],t⟩ (PV.bool b) (.bool (rightL u.kind [] L)):=fun b e=>by rw [e];exact View.refl _ _
   have fin2:∀ {t:Nat} (b:Bool),b=rightL u.kind [] L→View ⟨[],t⟩ (PV.bool b) (.bool (rightL u.kind [] L)):=fun b e=>by rw [e];exact View.refl _ _
   cases hnst:nestB u.kind v.kind with
   | false =>
    rw [hnst] at N hpre;refine Zab (Zbs [1,3,33] (by simp [Heap.le,Heap.get,HL.le,HL.get]) ?_);refine Sp1 (x2 @xlm hrow) ?_;refine ⟨⟨by omega,by omega⟩,_,.inl N,?_⟩;try simp only [vmL,Nat.reduceEqDiff]
    repeat (first|refine ⟨fun h=>h.elim,?_⟩|refine ⟨PV.undef,fun h=>h.elim,?_⟩)
    skip
    refine Ct ?_;refine Rp0 [2] ?_;refine Tp0 ?_;exact fin _ (by rw [hpre];rfl)
   | true =>
   rw [hnst] at N hpre;cases hrt:rightT v with
   | false =>
    rw [hrt] at R hpre;refine Zab (Zbs [1,3,33] (by simp [Heap.le,Heap.get,HL.le,HL.get]) ?_);refine Sp1 (x2 @xlm hrow) ?_;refine ⟨⟨by omega,by omega⟩,_,.inl N,?_⟩;refine Sp1 (x2 @xlm hrow) ?_;refine ⟨⟨by omega,by omega⟩,_,.inl R,?_⟩;refine Sp0 ?_;refine Ct ?_;refine Rp0 [2] ?_;refine Tp0 ?_;exact fin _ (by rw [hpre];rfl)
   | true =>
   rw [hrt] at R hpre;rw [Bool.true_and,Bool.true_and] at hpre;refine Zab (Zbs [1,3,33] (by simp [Heap.le,Heap.get,HL.le,HL.get]) ?_);refine Sp1 (x2 @xlm hrow) ?_;refine ⟨⟨by omega,by omega⟩,_,.inl N,?_⟩;refine Sp1 (x2 @xlm hrow) ?_;refine ⟨⟨by omega,by omega⟩,_,.inl R,?_⟩;refine Sp0 ?_;refine Fp0 ?_;refine Rp0 [1,3,4] ?_;refine Zac ?_;refine Zao (σ:={ x:Nat×Nat//x.1≤i∧((L.take x.1).any fun x=>sameB x v)=false }) (fun x=>([(1,.ro [pI u.act,pI u.item,pI u.n,pI u.kind,.str u.label,.sl 4 EH,.sl 4 EW,.sl 8 (L.map Un.enc)]),(3,pI i),(4,pI x.1.1)],⟨[],x.1.2⟩)) (fun x=>i-x.1.1) ⟨(0,t),Nat.zero_le _,rfl⟩ ?_ ?_ ?_
   ·exact Fn0
   ·exact Sc0
   rintro ⟨⟨k,t2⟩,hkk,hdis⟩;simp only [] at hkk hdis ⊢;refine Zab ?_;refine Rp0 [1,3,4,36] ?_;refine Zaf rfl (fun h2=>?_) (fun h2=>?_)
   ·have ki:k<i:=by simp only [decide_eq_true_eq] at h2;omega
    have ka:k<L.length:=by omega
    have hss:=same_step (v:=v) ka;rw [hdis,Bool.false_or] at hss;have hrk:(L.map Un.enc).getD k []=L[k].enc:=rowm ka;have hmem:((L.take i).any fun x=>sameB x v)=true∨sameB L[k] v=false:=by
     cases hs:sameB L[k] v with
     | false=>exact .inr rfl
     | true=>exact .inl (List.any_eq_true.2 ⟨L[k],List.mem_take_iff_getElem.2 ⟨k,by omega,rfl⟩,hs⟩)
    generalize L[k]=w at hss hrk hmem;rw [Un.Zay] at hrk;refine Kp0 ?_;refine Zab ?_;refine Zac ?_;refine Zab (VW_mid (σ:=Unit) (fun _=>([(1,.ro [pI u.act,pI u.item,pI u.n,pI u.kind,.str u.label,.sl 4 EH,.sl 4 EW,.sl 8 (L.map Un.enc)]),(3,pI i),(4,pI k),(66,.bool (sameB w v))],⟨[],t2⟩)) ?_ (fun _=>?_))
    ·unfold sameB;cases e1:w.kind==v.kind with
     | false =>
      refine Zbs [1,3,4,66] (by simp [Heap.le,Heap.get,HL.le,HL.get]) ?_;simp only [vmL,Nat.reduceEqDiff,Nat.reduceAdd,Nat.reduceLeDiff,List.length_map,hrow,hrk,e1];refine ⟨⟨by omega,by omega⟩,⟨by omega,by omega⟩,?_⟩
      skip
      exact ⟨(),by first|trivial|rfl⟩
     | true =>
      refine Zbs [1,3,4,66] (by simp [Heap.le,Heap.get,HL.le,HL.get]) ?_;refine Sp1 (x4 @xlm hrow hrk e1) ?_;refine ⟨⟨by omega,by omega⟩,⟨by omega,by omega⟩,⟨by omega,by omega⟩,⟨by omega,by omega⟩,?_⟩
      skip
      exact ⟨(),by first|trivial|rfl⟩
    cases hs:sameB w v with
    | true =>
     refine Ct ?_;refine Rp0 [2] ?_;refine Tp0 ?_;rcases hmem with hm|hm
     ·rw [hm] at hpre;exact fin2 _ (by rw [hpre];rfl)
     ·rw [hs] at hm;cases hm
    | false =>
     rw [hs] at hss;refine Fp0 ?_;refine rp1 [1,3,4] (ad1 (a:=k) (by omega)) ?_;refine ⟨⟨(k+1,t2),by show k+1≤i;omega,hss⟩,?_⟩;exact Fn0
   ·have ki:k=i:=by simp only [decide_eq_false_iff_not] at h2;omega
    subst ki;rw [hdis,Bool.not_false,Bool.true_and] at hpre;refine Ep0 ?_;refine rp1 [1,3] (ad1 (a:=k) (by omega)) ?_;refine ⟨⟨(k+1,t2),ia,hpre⟩,?_⟩;exact Fn0
  ·have ka:i=L.length:=by simp only [decide_eq_false_iff_not] at h1;omega
   subst ka;rw [List.drop_length,rightL] at hpre;refine Ep0 ?_;refine Rp0 [2] ?_;refine Tp0 ?_;rw [hpre];exact View.refl _ _
end Go.Proofs.YtldogpfookkbaaaGreatDoor.w
namespace Go.Proofs.YtldogpfookkbaaaGreatDoor.w
open Go Go.VM
def c_pandectref06_Depth:VC:=(ZR [ZO 1 (.box 8 (.t 0)),ZO 2 (.mv (.c (.int .i64 0)))] (ZR [ZO 3 (.mv (.c (.int .i64 0)))] (.seq (ZR [ZO 4 (.mv (.c (.int .i64 0)))] (.block 0 (.loop (.seq (ZR [ZM 5 4,ZO 6 (.faddr 7 (.t 1)),ZO 7 (.load false 1 (.t 6)),ZO 8 (.len false (.t 7)),ZO 9 (.bin .lss (.t 5) (.t 8))] (.cond (.t 9) .skip (.exit 0))) (.seq (.block 1 (.region [ZM 12 3,ZO 13 (.faddr 7 (.t 1)),ZO 14 (.load false 1 (.t 13)),ZM 15 4,ZO 16 (.iaddr 8 (.t 14) (.t 15)),ZO 17 (.load true 8 (.t 16)),ZO 18 (.call 89 [.t 17]),ZO 19 (.bin .add (.c (.int .i64 1)) (.t 18)),ZO 20 (.mm true [.t 12,.t 19]),ZM 3 20] false)) (.region [ZM 10 4,ZO 11 (.bin .add (.t 10) (.c (.int .i64 1))),ZM 4 11] false)))))) (ZR [ZM 21 3,ZM 2 21] .ret))))
def c_pandectref06_Count:VC:=(ZR [ZO 1 (.box 8 (.t 0)),ZO 2 (.mv (.c (.int .i64 0)))] (ZR [ZO 3 (.mv (.c (.int .i64 1)))] (.seq (ZR [ZO 4 (.mv (.c (.int .i64 0)))] (.block 0 (.loop (.seq (ZR [ZM 5 4,ZO 6 (.faddr 7 (.t 1)),ZO 7 (.load false 1 (.t 6)),ZO 8 (.len false (.t 7)),ZO 9 (.bin .lss (.t 5) (.t 8))] (.cond (.t 9) .skip (.exit 0))) (.seq (.block 1 (.region [ZM 12 3,ZO 13 (.faddr 7 (.t 1)),ZO 14 (.load false 1 (.t 13)),ZM 15 4,ZO 16 (.iaddr 8 (.t 14) (.t 15)),ZO 17 (.load true 8 (.t 16)),ZO 18 (.call 90 [.t 17]),ZO 19 (.bin .add (.t 12) (.t 18)),ZM 3 19] false)) (.region [ZM 10 4,ZO 11 (.bin .add (.t 10) (.c (.int .i64 1))),ZM 4 11] false)))))) (ZR [ZM 20 3,ZM 2 20] .ret))))
def c_pandectref06_All:VC:=(ZR [ZO 1 (.box 8 (.t 0)),ZO 2 (.mv (.c .nilsl))] (ZR [ZO 5 (.faddr 0 (.t 1)),ZO 6 (.load true 3 (.t 5)),ZO 7 (.bslice 3 1 [.int .i64 0,.int .i64 0,.int .i64 0] [(0,(.t 6))]),ZM 3 7] (.seq (ZR [ZO 4 (.mv (.c (.int .i64 0)))] (.block 0 (.loop (.seq (ZR [ZM 8 4,ZO 9 (.faddr 7 (.t 1)),ZO 10 (.load false 1 (.t 9)),ZO 11 (.len false (.t 10)),ZO 12 (.bin .lss (.t 8) (.t 11))] (.cond (.t 12) .skip (.exit 0))) (.seq (.block 1 (.region [ZM 15 3,ZO 16 (.faddr 7 (.t 1)),ZO 17 (.load false 1 (.t 16)),ZM 18 4,ZO 19 (.iaddr 8 (.t 17) (.t 18)),ZO 20 (.load true 8 (.t 19)),ZO 21 (.call 114 [.t 20]),ZO 22 (.app 3 24 [.int .i64 0,.int .i64 0,.int .i64 0] false (.t 15) (.t 21)),ZM 3 22] false)) (.region [ZM 13 4,ZO 14 (.bin .add (.t 13) (.c (.int .i64 1))),ZM 4 14] false)))))) (ZR [ZM 23 3,ZM 2 23] .ret))))
theorem sp_ref06_Depth {u:Un} (hu:SmT u) (hn:(unitsT u).length≤1000):Zaj Tryz.prog 89 [.agg u.enc] (pI (depthT u)):=by
 induction hu with
 | mk u h hk hs ih =>
  have hb:∀ k∈u.kids,1+depthT k≤1000:=fun k hk'=>by have:=depth_le (hs k hk');have:=unitsL_mem hk';rw [Zbr,List.length_cons] at hn;omega
  have ih':∀ k∈u.kids,Zaj Tryz.prog 89 [.agg k.enc] (pI (depthT k)):=fun k hk'=>ih k hk' (by have:=unitsL_mem hk';rw [Zbr,List.length_cons] at hn;omega);rw [depthT_eq];refine Gp (vc:=c_pandectref06_Depth) [.t 2] (cI _) Tryz.func89 ?_;unfold c_pandectref06_Depth;try dsimp only [ZM,ZO,ZN,ZG,ZR,ZU]
  rw [Un.Zay];refine Rp0 [1] ?_;refine Zaz [(1,.ro [pI u.act,pI u.item,pI u.n,pI u.kind,.str u.label,.sl 4 (u.head.map Wd.enc),.sl 4 (u.words.map Wd.enc),.sl 8 (u.kids.map Un.enc)])] ⟨View.loc (z:=8) (fz:=false) (es:=[[pI u.act,pI u.item,pI u.n,pI u.kind,.str u.label,.sl 4 (u.head.map Wd.enc),.sl 4 (u.words.map Wd.enc),.sl 8 (u.kids.map Un.enc)]]) rfl (by simp) rfl (by simp),trivial⟩ ?_;generalize u.head.map Wd.enc=EH;generalize u.words.map Wd.enc=EW;generalize u.kids=L at hk hb ih' ⊢;refine Rp0 [1,3] ?_;refine Zab ?_;refine Rp0 [1,3,4] ?_;refine Zac ?_;refine Zao (σ:={ x:Nat×Nat//x.1≤L.length }) (fun x=>([(1,.ro [pI u.act,pI u.item,pI u.n,pI u.kind,.str u.label,.sl 4 EH,.sl 4 EW,.sl 8 (L.map Un.enc)]),(3,pI ((L.take x.1.1).foldl dpF 0:Nat)),(4,pI x.1.1)],⟨[],x.1.2⟩)) (fun x=>L.length-x.1.1) ⟨(0,1),Nat.zero_le _⟩ ?_ ?_ ?_
  ·exact Fn0
  ·exact Sc0
  rintro ⟨⟨k,t⟩,hkk⟩;simp only [] at hkk ⊢;refine Zab ?_;refine Rp1 [1,3,4,9] @xlm ?_;refine Zaf rfl (fun h1=>?_) (fun h1=>?_)
  ·have ka:k<L.length:=by simp only [decide_eq_true_eq] at h1;omega
   have hst:=dpF_step ka;have hrow:(L.map Un.enc).getD k []=L[k].enc:=rowm ka;have R:=ih' _ (List.getElem_mem ka);have hkb:=hb _ (List.getElem_mem ka);have hd:=dpF_bd (L.take k) 0 1000 (by omega) (fun x hx=>hb x (List.mem_of_mem_take hx));generalize L[k]=v at hst hrow R hkb;generalize (L.take k).foldl dpF 0=D at hst hd ⊢;rw [Un.Zay] at hrow R;generalize depthT v=dv at hst R hkb;refine Kp0 ?_;refine Zab ?_;refine Zac ?_;refine rp1 [1,3,4] (x2 @xlm hrow) ?_;refine Ok ?_;refine Ap1 R (w64 (n:=(1:Int)+dv) (by omega) (by omega)) ?_;have e:(if (1:Int)+dv>D then (1:Int)+dv else (D:Int))=((max D (1+dv):Nat):Int):=by split<;>omega
   rw [e];refine rp1 [1,3,4] (ad1 (a:=k) (by omega)) ?_;refine ⟨⟨(k+1,t),ka⟩,?_⟩;simp only [hst]
   all_goals exact Fn0
  ·have ka:k=L.length:=by simp only [decide_eq_false_iff_not] at h1;omega
   subst ka;rw [List.take_length];refine Ep0 ?_;exact Rv0 [2]
theorem sp_ref06_Count {u:Un} (hu:SmT u) (hn:(unitsT u).length≤1000):Zaj Tryz.prog 90 [.agg u.enc] (pI (unitsT u).length):=by
 induction hu with
 | mk u h hk hs ih =>
  rw [Zbr,List.length_cons] at hn ⊢;have ih':∀ k∈u.kids,Zaj Tryz.prog 90 [.agg k.enc] (pI (unitsT k).length):=fun k hk'=>ih k hk' (by have:=unitsL_mem hk';omega);refine Gp (vc:=c_pandectref06_Count) [.t 2] (cI _) Tryz.func90 ?_;unfold c_pandectref06_Count;try dsimp only [ZM,ZO,ZN,ZG,ZR,ZU]
  rw [Un.Zay];refine Rp0 [1] ?_;refine Zaz [(1,.ro [pI u.act,pI u.item,pI u.n,pI u.kind,.str u.label,.sl 4 (u.head.map Wd.enc),.sl 4 (u.words.map Wd.enc),.sl 8 (u.kids.map Un.enc)])] ⟨View.loc (z:=8) (fz:=false) (es:=[[pI u.act,pI u.item,pI u.n,pI u.kind,.str u.label,.sl 4 (u.head.map Wd.enc),.sl 4 (u.words.map Wd.enc),.sl 8 (u.kids.map Un.enc)]]) rfl (by simp) rfl (by simp),trivial⟩ ?_;generalize u.head.map Wd.enc=EH;generalize u.words.map Wd.enc=EW;generalize u.kids=L at hk hn ih' ⊢;refine Rp0 [1,3] ?_;refine Zab ?_;refine Rp0 [1,3,4] ?_;refine Zac ?_;refine Zao (σ:={ x:Nat×Nat//x.1≤L.length }) (fun x=>([(1,.ro [pI u.act,pI u.item,pI u.n,pI u.kind,.str u.label,.sl 4 EH,.sl 4 EW,.sl 8 (L.map Un.enc)]),(3,pI ((unitsL (L.take x.1.1)).length+1:Nat)),(4,pI x.1.1)],⟨[],x.1.2⟩)) (fun x=>L.length-x.1.1) ⟨(0,1),Nat.zero_le _⟩ ?_ ?_ ?_
  ·refine Sp0 ?_;simp [unitsL]
  ·exact Sc0
  rintro ⟨⟨k,t⟩,hkk⟩;simp only [] at hkk ⊢;refine Zab ?_;refine Rp1 [1,3,4,9] @xlm ?_;refine Zaf rfl (fun h1=>?_) (fun h1=>?_)
  ·have ka:k<L.length:=by simp only [decide_eq_true_eq] at h1;omega
   have hst:=unitsL_step ka;have htk:=unitsL_take L (k+1);have hrow:(L.map Un.enc).getD k []=L[k].enc:=rowm ka;have R:=ih' _ (List.getElem_mem ka);rw [hst,List.length_append] at htk;generalize L[k]=v at hst hrow R htk;rw [Un.Zay] at hrow R;have hst':(unitsL (L.take (k+1))).length+1=(unitsL (L.take k)).length+1+(unitsT v).length:=by
    have:=congrArg List.length hst;rw [List.length_append] at this;omega
   generalize (unitsL (L.take k)).length=A at hst' htk ⊢;generalize (unitsT v).length=B at hst' htk R;refine Kp0 ?_;refine Zab ?_;refine Zac ?_;refine rp1 [1,3,4] (x2 @xlm hrow) ?_;refine Ok ?_;refine Ap1 R (w64 (n:=((A+1:Nat):Int)+(B:Int)) (by omega) (by omega)) ?_;refine rp1 [1,3,4] (ad1 (a:=k) (by omega)) ?_;refine ⟨⟨(k+1,t),ka⟩,?_⟩;have e:((A+1:Nat):Int)+(B:Int)=((A+1+B:Nat):Int):=by omega
   simp only [hst',e]
   all_goals exact Fn0
  ·have ka:k=L.length:=by simp only [decide_eq_false_iff_not] at h1;omega
   subst ka;rw [List.take_length];refine Ep0 ?_;exact Rv0 [2]
def idK (u:Un) (L:List Un) (k:Nat):List Idt:=idU u::(unitsL (L.take k)).map idU
theorem sp_ref06_All {u:Un} (hu:SmT u) (hn:(unitsT u).length≤1000):Zaj Tryz.prog 114 [.agg u.enc] (.sl 3 ((idsT u).map Idt.enc)):=by
 induction hu with
 | mk u h hk hs ih =>
  rw [Zbr,List.length_cons] at hn;rw [idsT_eq];have ih':∀ k∈u.kids,Zaj Tryz.prog 114 [.agg k.enc] (.sl 3 ((idsT k).map Idt.enc)):=fun k hk'=>ih k hk' (by have:=unitsL_mem hk';omega);have hidu:(idU u).enc=[pI u.act,pI u.item,pI u.n]:=rfl;refine Gp (vc:=c_pandectref06_All) [.t 2] (closed_ids _) Tryz.func114 ?_;unfold c_pandectref06_All;try dsimp only [ZM,ZO,ZN,ZG,ZR,ZU]
  rw [Un.Zay];refine Rp0 [1,2] ?_;refine Zaz [(1,.ro [pI u.act,pI u.item,pI u.n,pI u.kind,.str u.label,.sl 4 (u.head.map Wd.enc),.sl 4 (u.words.map Wd.enc),.sl 8 (u.kids.map Un.enc)])] ⟨View.loc (z:=8) (fz:=false) (es:=[[pI u.act,pI u.item,pI u.n,pI u.kind,.str u.label,.sl 4 (u.head.map Wd.enc),.sl 4 (u.words.map Wd.enc),.sl 8 (u.kids.map Un.enc)]]) rfl (by simp) rfl (by simp),trivial⟩ ?_;generalize u.head.map Wd.enc=EH;generalize u.words.map Wd.enc=EW;refine Rp0 [1,3] ?_;generalize u.kids=L at hk hn ih' ⊢;refine Zab ?_;refine Rp0 [1,3,4] ?_;refine Zac ?_;refine Zao (σ:={ x:Nat×Nat×Nat//x.1≤L.length∧x.2.1<x.2.2 }) (fun x=>([(1,.ro [pI u.act,pI u.item,pI u.n,pI u.kind,.str u.label,.sl 4 EH,.sl 4 EW,.sl 8 (L.map Un.enc)]),(3,.own x.1.2.1 0 (idK u L x.1.1).length),(4,pI x.1.1)],⟨[(x.1.2.1,.arr false 3 ((idK u L x.1.1).map Idt.enc))],x.1.2.2⟩)) (fun x=>L.length-x.1.1) ⟨(0,1,2),Nat.zero_le _,by simp⟩ ?_ ?_ ?_
  ·refine Sp0 ?_;simp [idK,unitsL]
  ·refine Sp0 ?_;simp [idK,unitsL,hidu]
  rintro ⟨⟨k,id,t⟩,hkk,hid⟩;simp only [] at hkk hid ⊢;have qq:=N4 id t (t+1) (t+1+1);refine Zab ?_;refine Rp1 [1,3,4,12] (x2 @xlm qq) ?_;refine Zaf rfl (fun h1=>?_) (fun h1=>?_)
  ·have ka:k<L.length:=by simp only [decide_eq_true_eq] at h1;omega
   have hst:=unitsL_step ka;have htk:=unitsL_take L (k+1);have hrow:(L.map Un.enc).getD k []=L[k].enc:=rowm ka;have R:=ih' _ (List.getElem_mem ka);have hkl:=unitsL_mem (List.getElem_mem ka);rw [hst,List.length_append] at htk;have hst':idK u L (k+1)=idK u L k++idsT L[k]:=by
    unfold idK idsT;rw [hst,List.map_append];rfl
   have hAl:(idK u L k).length=(unitsL (L.take k)).length+1:=by unfold idK;simp
   have hBl:(idsT L[k]).length=(unitsT L[k]).length:=by unfold idsT;simp
   generalize L[k]=v at hst' hrow R htk hBl hkl;rw [Un.Zay] at hrow R;generalize idK u L k=A at hst' hAl ⊢;generalize idsT v=B at hst' R hBl;have hale:(A.map Idt.enc).length=A.length:=List.length_map _;have hatk:List.take A.length (A.map Idt.enc)=A.map Idt.enc:=List.take_of_length_le (by omega);refine Kp0 ?_;refine Zab ?_;refine Zac ?_;refine rp1 [1,3,4] (x3 @xlm hrow qq) ?_;refine Ok ?_;refine Ap1 R (x4 @xlm hale hatk qq) ?_;refine ⟨by omega,by omega,?_⟩;refine rp1 [1,3,4] (x2 (ad1 (a:=k) (by omega)) qq) ?_;refine ⟨⟨(k+1,t,t+1),ka,Nat.lt_succ_self _⟩,⟨?_,rfl⟩,⟨Nat.le_refl _,?_⟩,by show L.length-(k+1)<L.length-k;omega⟩
   ·show PV.own t 0 (A.length+B.length)=PV.own t 0 (idK u L (k+1)).length;rw [hst',List.length_append]
   ·show (if t=t then some (AB.arr false 3 (A.map Idt.enc++B.map Idt.enc)) else none)=some (AB.arr false 3 ((idK u L (k+1)).map Idt.enc));rw [if_pos rfl,hst',List.map_append]
  ·have ka:k=L.length:=by simp only [decide_eq_false_iff_not] at h1;omega
   subst ka;have e:idK u L L.length=idU u::(unitsL L).map idU:=by unfold idK;rw [List.take_length]
   rw [e];refine Ep0 ?_;refine Rp1 [2] qq ?_;refine Tp0 ?_;exact View.own_all (fz:=false) (by simp [Heap.get,HL.get]) (by simp)
end Go.Proofs.YtldogpfookkbaaaGreatDoor.w
namespace Go.Proofs.YtldogpfookkbaaaGreatDoor.w
open Go Go.VM
def c_pandectref06_Ids:VC:=(ZR [ZO 1 (.box 8 (.t 0)),ZO 2 (.mv (.c (.bool false)))] (ZR [ZO 8 (.load true 8 (.t 1)),ZO 9 (.call 114 [.t 8]),ZM 3 9] (ZR [ZO 4 (.mv (.c (.bool true)))] (.seq (ZR [ZO 5 (.mv (.c (.int .i64 0)))] (.block 0 (.loop (.seq (ZR [ZM 10 5,ZM 11 3,ZO 12 (.len false (.t 11)),ZO 13 (.bin .lss (.t 10) (.t 12))] (.cond (.t 13) .skip (.exit 0))) (.seq (.block 1 (.region [ZM 16 4,ZM 17 16,ZG 18 (.mv (.t 3)) 17 true,ZG 19 (.mv (.t 5)) 17 true,ZG 20 (.iaddr 3 (.t 18) (.t 19)) 17 true,ZG 21 (.load true 3 (.t 20)) 17 true,ZG 22 (.build [.int .i64 0,.int .i64 0,.int .i64 0] []) 17 true,ZG 23 (.eqs false [.i,.i,.i] (.t 21) (.t 22)) 17 true,ZO 24 (.pick (.t 17) (.t 23) (.c (.bool false))),ZM 4 24] false)) (.region [ZM 14 5,ZO 15 (.bin .add (.t 14) (.c (.int .i64 1))),ZM 5 15] false)))))) (.seq (ZR [ZM 25 4] (.cond (.t 25) (ZR [ZO 2 (.mv (.c (.bool true)))] .ret) .skip)) (.seq (.seq (.region [ZM 26 3,ZO 27 (.iaddr 3 (.t 26) (.c (.int .i64 0))),ZO 28 (.load true 3 (.t 27)),ZO 29 (.build [.int .i64 0,.int .i64 0,.int .i64 0] []),ZO 30 (.eqs false [.i,.i,.i] (.t 28) (.t 29)),ZO 31 (.faddr 3 (.t 1)),ZO 32 (.load false 1 (.t 31)),ZO 33 (.bin .eql (.t 32) (.c (.int .i64 0))),ZO 34 (.binb .neq (.t 30) (.t 33))] true) (.cond (.t 34) (ZR [ZO 2 (.mv (.c (.bool false)))] .ret) .skip)) (.seq (ZR [ZO 6 (.mv (.c (.int .i64 0)))] (.block 2 (.loop (.seq (ZR [ZM 35 6,ZM 36 3,ZO 37 (.len false (.t 36)),ZO 38 (.bin .lss (.t 35) (.t 37))] (.cond (.t 38) .skip (.exit 2))) (.seq (.block 3 (ZR [ZO 7 (.mv (.c (.int .i64 0)))] (.block 4 (.loop (.seq (ZR [ZM 41 7,ZM 42 6,ZO 43 (.bin .lss (.t 41) (.t 42))] (.cond (.t 43) .skip (.exit 4))) (.seq (.block 5 (.seq (.region [ZM 46 3,ZM 47 7,ZO 48 (.iaddr 3 (.t 46) (.t 47)),ZO 49 (.load true 3 (.t 48)),ZM 50 3,ZM 51 6,ZO 52 (.iaddr 3 (.t 50) (.t 51)),ZO 53 (.load true 3 (.t 52)),ZO 54 (.eqs false [.i,.i,.i] (.t 49) (.t 53))] true) (.cond (.t 54) (ZR [ZO 2 (.mv (.c (.bool false)))] .ret) .skip))) (.region [ZM 44 7,ZO 45 (.bin .add (.t 44) (.c (.int .i64 1))),ZM 7 45] false))))))) (.region [ZM 39 6,ZO 40 (.bin .add (.t 39) (.c (.int .i64 1))),ZM 6 40] false)))))) (ZR [ZO 2 (.mv (.c (.bool true)))] .ret))))))))
def c_pandectref06_May:VC:=(ZR [ZO 1 (.box 8 (.t 0)),ZO 2 (.mv (.c (.bool false)))] (ZR [ZO 3 (.load true 8 (.t 1)),ZO 4 (.call 88 [.t 3]),ZM 5 4,ZG 6 (.load true 8 (.t 1)) 5 true,ZG 7 (.call 89 [.t 6]) 5 true,ZG 8 (.bin .leq (.t 7) (.c (.int .i64 8))) 5 true,ZO 9 (.pick (.t 5) (.t 8) (.c (.bool false))),ZM 10 9,ZG 11 (.load true 8 (.t 1)) 10 true,ZG 12 (.call 90 [.t 11]) 10 true,ZG 13 (.bin .leq (.t 12) (.c (.int .i64 1024))) 10 true,ZO 14 (.pick (.t 10) (.t 13) (.c (.bool false))),ZM 15 14,ZG 16 (.load true 8 (.t 1)) 15 true,ZG 17 (.call 91 [.t 16]) 15 true,ZO 18 (.pick (.t 15) (.t 17) (.c (.bool false))),ZM 2 18] .ret))
def c_pandectref08_Stands:VC:=(ZR [ZO 1 (.box 8 (.t 0)),ZO 2 (.mv (.c (.bool false)))] (ZR [ZO 3 (.load true 8 (.t 1)),ZO 4 (.call 69 [.t 3]),ZM 5 4,ZG 6 (.load true 8 (.t 1)) 5 true,ZG 7 (.call 70 [.t 6]) 5 true,ZO 8 (.pick (.t 5) (.t 7) (.c (.bool false))),ZM 2 8] .ret))
theorem id_eqs (a b:Idt):((a.act==b.act&&(a.item==b.item&&(a.n==b.n&&true))) != false)=decide (a=b):=by
 rw [Bool.eq_iff_iff];cases a;cases b;simp
theorem id_row {I:List Idt} {k:Nat} (h:k<I.length):(I.map Idt.enc).getD k []=[pI I[k].act,pI I[k].item,pI I[k].n]:=by rw [rowm h];rfl
theorem nodup_take {I:List Idt} {i:Nat} (h:i<I.length):(I.take (i+1)).Nodup↔(I.take i).Nodup∧I[i] ∉ I.take i:=by
 rw [List.take_add_one,List.getElem?_eq_getElem h,Option.toList_some,List.nodup_append];constructor
 ·rintro ⟨h1,_,h3⟩;exact ⟨h1,fun hm=>h3 _ hm _ (List.mem_singleton.2 rfl) rfl⟩
 ·rintro ⟨h1,h2⟩;exact ⟨h1,by simp,fun a ha b hb e=>by rw [List.mem_singleton] at hb;subst hb;subst e;exact h2 ha⟩
theorem mem_take_step {I:List Idt} {k:Nat} {x:Idt} (h:k<I.length):x∈I.take (k+1)↔x∈I.take k∨x=I[k]:=by
 rw [List.take_add_one,List.getElem?_eq_getElem h,List.mem_append];simp
theorem sp_ref06_Ids {u:Un} (hu:SmT u) (hn:(unitsT u).length≤1000):Zaj Tryz.prog 91 [.agg u.enc] (.bool (idsB u)):=by
 have A:=sp_ref06_All hu hn;have hil:(idsT u).length=(unitsT u).length:=by unfold idsT;simp
 have hip:=unitsT_pos u;have r0:((idsT u).map Idt.enc).getD 0 []=[pI u.act,pI u.item,pI u.n]:=by rw [idsT_eq];rfl
 unfold idsB;refine Gp (vc:=c_pandectref06_Ids) [.t 2] (cB _) Tryz.func91 ?_;unfold c_pandectref06_Ids;try dsimp only [ZM,ZO,ZN,ZG,ZR,ZU]
 rw [Un.Zay] at A ⊢;refine Rp0 [1] ?_;refine Zaz [(1,.ro [pI u.act,pI u.item,pI u.n,pI u.kind,.str u.label,.sl 4 (u.head.map Wd.enc),.sl 4 (u.words.map Wd.enc),.sl 8 (u.kids.map Un.enc)])] ⟨View.loc (z:=8) (fz:=false) (es:=[[pI u.act,pI u.item,pI u.n,pI u.kind,.str u.label,.sl 4 (u.head.map Wd.enc),.sl 4 (u.words.map Wd.enc),.sl 8 (u.kids.map Un.enc)]]) rfl (by simp) rfl (by simp),trivial⟩ ?_;generalize u.head.map Wd.enc=EH at A ⊢;generalize u.words.map Wd.enc=EW at A ⊢;generalize u.kids.map Un.enc=EK at A ⊢;generalize idsT u=I at A hil r0 ⊢;refine Rp0 [1,3] ?_;refine Za8 A ?_;refine Rp0 [1,3,4] ?_;refine Zab ?_;refine Rp0 [1,3,4,5] ?_;refine Zac ?_;refine Zao (σ:={ x:Nat×Nat//x.1≤I.length }) (fun x=>([(1,.ro [pI u.act,pI u.item,pI u.n,pI u.kind,.str u.label,.sl 4 EH,.sl 4 EW,.sl 8 EK]),(3,.sl 3 (I.map Idt.enc)),(4,.bool ((I.take x.1.1).all fun x=>decide (x=idZ))),(5,pI x.1.1)],⟨[],x.1.2⟩)) (fun x=>I.length-x.1.1) ⟨(0,1),Nat.zero_le _⟩ ?_ ?_ ?_
 ·exact Fn0
 ·exact Sc0
 rintro ⟨⟨k,t⟩,hk⟩;simp only [] at hk ⊢;refine Zab ?_;refine Rp1 [1,3,4,5,13] @xlm ?_;refine Zaf rfl (fun h1=>?_) (fun h1=>?_)
 ·have ka:k<I.length:=by simp only [decide_eq_true_eq] at h1;omega
  have hrow:=id_row ka;have hst:((I.take (k+1)).all fun x=>decide (x=idZ))=(((I.take k).all fun x=>decide (x=idZ))&&decide (I[k]=idZ)):=by
   rw [List.take_add_one,List.getElem?_eq_getElem ka,List.all_append];simp
  have he:=id_eqs I[k] idZ;generalize I[k]=y at hrow hst he;refine Kp0 ?_;refine Zab ?_;refine Zac ?_;cases hb:(I.take k).all fun x=>decide (x=idZ) with
  | false =>
   rw [hb] at hst;refine rp0 [1,3,4,5] ?_;refine rp1 [1,3,4,5] (ad1 (a:=k) (by omega)) ?_;refine ⟨⟨(k+1,t),ka⟩,?_⟩;simp only [hst]
   all_goals exact Fn0
  | true =>
   rw [hb,Bool.true_and] at hst;refine rp1 [1,3,4,5] (x2 @xlm hrow) ?_;refine ⟨⟨by omega,by omega⟩,?_⟩;refine rp1 [1,3,4,5] (ad1 (a:=k) (by omega)) ?_;refine ⟨⟨(k+1,t),ka⟩,?_⟩;simp only [hst,← he];exact ⟨⟨rfl,trivial⟩,Nat.le_refl _,by omega⟩
 ·have ka:k=I.length:=by simp only [decide_eq_false_iff_not] at h1;omega
  subst ka;rw [List.take_length];refine Ep0 ?_;refine Zab ?_;refine Rp0 [1,3,25] ?_;cases hall:I.all fun x=>decide (x=idZ) with
  | true =>
   refine Ct ?_;exact Rv0 [2]
  | false =>
  refine Fp0 ?_;refine Zab ?_;have he:=id_eqs (idU u) idZ;refine Zab (Zbs [1,3,34] (by simp [Heap.le,Heap.get,HL.le,HL.get]) ?_);simp only [vmL,Nat.reduceEqDiff,Nat.reduceAdd,Nat.reduceLeDiff,List.length_map,r0,Int.toNat_zero];refine ⟨⟨by omega,by omega⟩,?_⟩;have he':((u.act==0&&(u.item==0&&(u.n==0&&true))) != false)=decide (idU u=idZ):=he;rw [he'];cases hkz:(u.kind==0)==decide (idU u=idZ) with
  | false =>
   have e34:(decide (idU u=idZ) != (u.kind==0))=true:=by
    cases h1:u.kind==0<;>cases h2:decide (idU u=idZ)<;>rw [h1,h2] at hkz<;>first|rfl|cases hkz
   rw [e34];refine Ct ?_;exact Rv0 [2]
  | true =>
  have e34:(decide (idU u=idZ) != (u.kind==0))=false:=by
   cases h1:u.kind==0<;>cases h2:decide (idU u=idZ)<;>rw [h1,h2] at hkz<;>first|rfl|cases hkz
  rw [e34];refine Fp0 ?_;clear r0 he he' A;refine Zab ?_;refine Rp0 [3,6] ?_;refine Zac ?_;refine Zao (σ:={ x:Nat×Nat//x.1≤I.length∧(I.take x.1).Nodup }) (fun x=>([(3,.sl 3 (I.map Idt.enc)),(6,pI x.1.1)],⟨[],x.1.2⟩)) (fun x=>I.length-x.1.1) ⟨(0,t),Nat.zero_le _,by simp⟩ ?_ ?_ ?_
  ·exact Fn0
  ·exact Sc0
  rintro ⟨⟨i,t2⟩,hii,hnd⟩;simp only [] at hii hnd ⊢;refine Zab ?_;refine Rp1 [3,6,38] @xlm ?_;refine Zaf rfl (fun h2=>?_) (fun h2=>?_)
  ·have ia:i<I.length:=by simp only [decide_eq_true_eq] at h2;omega
   have hri:=id_row ia;have hni:=nodup_take ia;generalize hx:I[i]=x at hri hni;refine Kp0 ?_;refine Zab ?_;refine Zac ?_;refine Rp0 [3,6,7] ?_;refine Zac ?_;refine Zao (σ:={ y:Nat×Nat//y.1≤i∧x ∉ I.take y.1 }) (fun y=>([(3,.sl 3 (I.map Idt.enc)),(6,pI i),(7,pI y.1.1)],⟨[],y.1.2⟩)) (fun y=>i-y.1.1) ⟨(0,t2),Nat.zero_le _,by simp⟩ ?_ ?_ ?_
   ·exact Fn0
   ·exact Sc0
   rintro ⟨⟨k,t3⟩,hkk,hnm⟩;simp only [] at hkk hnm ⊢;refine Zab ?_;refine Rp0 [3,6,7,43] ?_;refine Zaf rfl (fun h3=>?_) (fun h3=>?_)
   ·have ki:k<i:=by simp only [decide_eq_true_eq] at h3;omega
    have ka:k<I.length:=by omega
    have hrk:=id_row ka;have hms:=mem_take_step (x:=x) ka;have hin:I[k]∈I.take i:=List.mem_take_iff_getElem.2 ⟨k,by omega,rfl⟩;have he2:=id_eqs I[k] x;generalize I[k]=y at hrk hms hin he2;refine Kp0 ?_;refine Zab ?_;refine Zac ?_;refine Zab (Zbs [3,6,7,54] (by simp [Heap.le,Heap.get,HL.le,HL.get]) ?_);refine Sp1 (x3 @xlm hrk hri) ?_;refine ⟨⟨by omega,by omega⟩,⟨by omega,by omega⟩,?_⟩;rw [he2];by_cases hyx:y=x
    ·rw [decide_eq_true hyx];refine Ct ?_;refine Rp0 [2] ?_;refine Tp0 ?_;have hno:¬ I.Nodup:=fun hnd'=>by
      have:=hni.1 (hnd'.sublist (List.take_sublist _ _));exact this.2 (hyx▸hin)
     rw [decide_eq_false hno];exact View.refl _ _
    ·rw [decide_eq_false hyx];refine Fp0 ?_;refine rp1 [3,6,7] (ad1 (a:=k) (by omega)) ?_;refine ⟨⟨(k+1,t3),by show k+1≤i;omega,fun hm=>by rcases hms.1 hm with h|h;exact hnm h;exact hyx h.symm⟩,?_⟩;exact Fn0
   ·have ki:k=i:=by simp only [decide_eq_false_iff_not] at h3;omega
    subst ki;refine Ep0 ?_;refine rp1 [3,6] (ad1 (a:=k) (by omega)) ?_;refine ⟨⟨(k+1,t3),ia,hni.2 ⟨hnd,hnm⟩⟩,?_⟩;exact Fn0
  ·have ka:i=I.length:=by simp only [decide_eq_false_iff_not] at h2;omega
   subst ka;rw [List.take_length] at hnd;refine Ep0 ?_;refine Rp0 [2] ?_;refine Tp0 ?_;rw [decide_eq_true hnd];exact View.refl _ _
theorem sp_ref06_May {u:Un} (hu:SmT u) (hn:(unitsT u).length≤1000):Zaj Tryz.prog 69 [.agg u.enc] (.bool (validT u)):=by
 have R:=sp_ref06_Right hu;have D:=sp_ref06_Depth hu hn;have C:=sp_ref06_Count hu hn;have I:=sp_ref06_Ids hu hn;have hd:=depth_le hu;have e8:decide ((depthT u:Int)≤8)=decide (depthT u≤8):=decide_eq_decide.2 (by omega);have e1:decide (((unitsT u).length:Int)≤1024)=true:=decide_eq_true (by omega);have e2:decide ((unitsT u).length≤1024)=true:=decide_eq_true (by omega);unfold validT;rw [e2,Bool.true_and];refine Gp (vc:=c_pandectref06_May) [.t 2] (cB _) Tryz.func69 ?_;unfold c_pandectref06_May;try dsimp only [ZM,ZO,ZN,ZG,ZR,ZU]
 rw [Un.Zay] at R D C I ⊢;refine Rp0 [1] ?_;refine Zaz [(1,.ro [pI u.act,pI u.item,pI u.n,pI u.kind,.str u.label,.sl 4 (u.head.map Wd.enc),.sl 4 (u.words.map Wd.enc),.sl 8 (u.kids.map Un.enc)])] ⟨View.loc (z:=8) (fz:=false) (es:=[[pI u.act,pI u.item,pI u.n,pI u.kind,.str u.label,.sl 4 (u.head.map Wd.enc),.sl 4 (u.words.map Wd.enc),.sl 8 (u.kids.map Un.enc)]]) rfl (by simp) rfl (by simp),trivial⟩ ?_;generalize u.head.map Wd.enc=EH at *;generalize u.words.map Wd.enc=EW at *;generalize u.kids.map Un.enc=EK at *;cases hr:rightT u with
 | false =>
  rw [hr] at R;refine Rp0 [2] ?_;refine Ap0 R ?_;exact Tv0
 | true =>
 rw [hr] at R;cases hd8:decide (depthT u≤8) with
 | false =>
  rw [hd8] at e8;refine Rp0 [2] ?_;refine Ap0 R ?_;refine Ap1 D e8 ?_;exact Tv0
 | true =>
 rw [hd8] at e8;refine Rp0 [2] ?_;refine Ap0 R ?_;refine Ap1 D e8 ?_;refine Ap1 C e1 ?_;refine Za8 I ?_;exact Tv0
theorem sp_ref08_Stands {u:Un} (hu:SmT u) (hn:(unitsT u).length≤1000):Zaj Tryz.prog 57 [.agg u.enc] (.bool (standsB u)):=by
 have M:=sp_ref06_May hu hn;have N:=sp_ref08_named hu;unfold standsB;refine Gp (vc:=c_pandectref08_Stands) [.t 2] (cB _) Tryz.func57 ?_;unfold c_pandectref08_Stands;try dsimp only [ZM,ZO,ZN,ZG,ZR,ZU]
 rw [Un.Zay] at M N ⊢;refine Rp0 [1] ?_;refine Zaz [(1,.ro [pI u.act,pI u.item,pI u.n,pI u.kind,.str u.label,.sl 4 (u.head.map Wd.enc),.sl 4 (u.words.map Wd.enc),.sl 8 (u.kids.map Un.enc)])] ⟨View.loc (z:=8) (fz:=false) (es:=[[pI u.act,pI u.item,pI u.n,pI u.kind,.str u.label,.sl 4 (u.head.map Wd.enc),.sl 4 (u.words.map Wd.enc),.sl 8 (u.kids.map Un.enc)]]) rfl (by simp) rfl (by simp),trivial⟩ ?_;generalize u.head.map Wd.enc=EH at *;generalize u.words.map Wd.enc=EW at *;generalize u.kids.map Un.enc=EK at *;cases hv:validT u with
 | false =>
  rw [hv] at M;refine Rp0 [2] ?_;refine Ap0 M ?_;exact Tv0
 | true =>
 rw [hv] at M;refine Rp0 [2] ?_;refine Ap0 M ?_;refine Za8 N ?_;exact Tv0
end Go.Proofs.YtldogpfookkbaaaGreatDoor.w
