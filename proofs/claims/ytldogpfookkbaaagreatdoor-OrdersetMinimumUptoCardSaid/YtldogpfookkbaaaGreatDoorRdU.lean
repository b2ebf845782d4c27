import Derived.Test.YtldogpfookkbaaaGreatDoorC3
import Derived.Test.YtldogpfookkbaaaGreatDoorVmAn
set_option linter.all false
namespace Go.VM
open Go
def Z4m{α:Type}(ok:α→Prop)(l:List α):Prop:=l.length≤1048576∧∀a∈l,ok a
def StB(s:St):Prop:=i64 s.kind∧s.label.length≤1048576
def StaB(s:Sta):Prop:=i64 s.kind∧i64 s.day∧s.Zbd.length≤1048576
def Xcy(s:Str):Prop:=s.length≤1048576
inductive ItB:It→Prop
 | mk (x:It) (h1:i64 x.kind) (h2:Z4m StB x.at') (h3:Z4m StB x.to) (h4:i64 x.Zff) (h5:i64 x.nth) (h6:UnB x.unit) (h7:Z4m Xcy x.old) (h8:Z4m Xcy x.new) (h9:Xcy x.label) (h10:Xcy x.Zib) (h11:StaB x.start)
   (h12:i64 x.act) (h13:i64 x.item) (h14:i64 x.day) (h15:Xcy x.Zbd) (h16:x.by'.length≤1048576) (h17:∀k∈x.by',ItB k):ItB x
def AcB(a:Ac):Prop:=i64 a.number∧Xcy a.title∧i64 a.day∧StaB a.start∧Z4m ItB a.items
end Go.VM
namespace Go.Proofs.YtldogpfookkbaaaGreatDoor.rd
open Go Go.VM
variable {W:World}
theorem rSU(n:Nat):ReadsU Tryz.prog W n 9 Xcy (fun a=>[.str a]):=Zs2 Tryz.underlying9
theorem rWdU(n:Nat):ReadsU Tryz.prog W n 97 WdB Wd.enc:=by
 cases n with
 |zero=>exact Zc8
 | succ n=>
  refine ReadsU.map (fun x:Str×(Int×Int×Int×Unit)×Unit=>(⟨x.1,x.2.1.1,x.2.1.2.1,x.2.1.2.2.1⟩:Wd))
   (Zcp Tryz.underlying97 rfl k97 (Zan (by exact rSU n) (by exact k9) (by exact(fun _=>rfl)) (by rfl) (Zan (by exact(r95 n).u) (by exact k95) (by exact(fun _=>rfl)) (by rfl) Zdz)) (by exact fun _=>rfl)) ?_ ?_
  ·rintro⟨a,⟨b,c,d,_⟩,_⟩ ⟨h1,⟨h2,h3,h4,_⟩,_⟩;exact⟨h1,h2,h3,h4⟩
  ·rintro⟨a,⟨b,c,d,_⟩,_⟩;rfl
theorem Xeg{t e:TypeId}{z:Nat}{α:Type}{ok:α→Prop}{enc:α→List PV}(ht:Tryz.prog.underlying t=some (.slice e))(hz:Tryz.prog.cellsOf e=z)(h0:z≠0)(hl:∀a,(enc a).length=z)(n:Nat)(h:∀m,m<n→ReadsU Tryz.prog W m e ok enc):
  ReadsU Tryz.prog W n t (Z4m ok) (fun l=>[.sl z (l.map enc)]):=by
 cases n with
 |zero=>exact Zc8
 |succ n=>exact Zvu ht hz h0 hl (h n (by omega))
theorem rWdsU(n:Nat):ReadsU Tryz.prog W n 36 (Z4m WdB) (fun l=>[.sl 4 (l.map Wd.enc)]):=Xeg Tryz.underlying36 k97 (by decide) (fun _=>rfl) n (fun m _=>rWdU m)
theorem rUnU:∀n:Nat,ReadsU Tryz.prog W n 39 UnB Un.enc:=by
 intro n
 induction n using Nat.strongRecOn with
 | _ n ih=>
  cases n with
  |zero=>exact Zc8
  | succ n=>
   have kids:ReadsU Tryz.prog W n 37 (Z4m UnB) (fun l=>[.sl 8 (l.map Un.enc)]):=Xeg Tryz.underlying37 k39 (by decide) Z8a n (fun m hm=>ih m (by omega));refine ReadsU.map (fun x:(Int×Int×Int×Unit)×Int×Str×List Wd×List Wd×List Un×Unit=>Un.mk x.1.1 x.1.2.1 x.1.2.2.1 x.2.1 x.2.2.1 x.2.2.2.1 x.2.2.2.2.1 x.2.2.2.2.2.1)
    (Zcp Tryz.underlying39 rfl k39 (Zan (by exact(r35 n).u) (by exact k35) (by exact(fun _=>rfl)) (by rfl) (Zan (by exact(rI n).u) (by exact k3) (by exact(fun _=>rfl)) (by rfl) (Zan (by exact rSU n) (by exact k9) (by exact(fun _=>rfl)) (by rfl) (Zan (by exact rWdsU n) (by exact k36) (by exact(fun _=>rfl)) (by rfl)
     (Zan (by exact rWdsU n) (by exact k36) (by exact(fun _=>rfl)) (by rfl) (Zan (by exact kids) (by exact k37) (by exact(fun _=>rfl)) (by rfl) Zdz)))))) (by exact fun _=>rfl)) ?_ ?_
   ·rintro⟨⟨a,b,c,_⟩,k,l,h,w,ks,_⟩ ⟨⟨h1,h2,h3,_⟩,h4,h5,h6,h7,h8,_⟩;exact .mk _ ⟨h1,h2,h3,h4⟩ h5 h6 h7 h8.1 h8.2
   ·rintro⟨⟨a,b,c,_⟩,k,l,h,w,ks,_⟩;rw[Un.Zaf];rfl
theorem rStU(n:Nat):ReadsU Tryz.prog W n 100 StB St.enc:=by
 cases n with
 |zero=>exact Zc8
 |succ n=>
  refine ReadsU.map (fun x:Int×Str×Unit=>(⟨x.1,x.2.1⟩:St)) (Zcp Tryz.underlying100 rfl k100 (Zan (by exact(rI n).u) (by exact k3) (by exact(fun _=>rfl)) (by rfl) (Zan (by exact(rSU n)) (by exact k9) (by exact(fun _=>rfl)) (by rfl) Zdz)) (by exact fun _=>rfl)) ?_ ?_
  ·rintro⟨a,b,_⟩ ⟨h1,h2,_⟩;exact⟨h1,h2⟩
  ·rintro⟨a,b,_⟩;rfl
theorem rStaU(n:Nat):ReadsU Tryz.prog W n 41 StaB Sta.enc:=by
 cases n with
 |zero=>exact Zc8
 |succ n=>
  refine ReadsU.map (fun x:Int×Int×Str×Unit=>(⟨x.1,x.2.1,x.2.2.1⟩:Sta)) (Zcp Tryz.underlying41 rfl k41 (Zan (by exact(rI n).u) (by exact k3) (by exact(fun _=>rfl)) (by rfl) (Zan (by exact(rI n).u) (by exact k3) (by exact(fun _=>rfl)) (by rfl) (Zan (by exact(rSU n)) (by exact k9) (by exact(fun _=>rfl)) (by rfl) Zdz))) (by exact fun _=>rfl)) ?_ ?_
  ·rintro⟨a,b,c,_⟩ ⟨h1,h2,h3,_⟩;exact⟨h1,h2,h3⟩
  ·rintro⟨a,b,c,_⟩;rfl
theorem rStsU(n:Nat):ReadsU Tryz.prog W n 81 (Z4m StB) (fun l=>[.sl 2 (l.map St.enc)]):=Xeg Tryz.underlying81 k100 (by decide) (fun _=>rfl) n (fun m _=>rStU m)
theorem rSsU(n:Nat):ReadsU Tryz.prog W n 82 (Z4m Xcy) (fun l=>[It.strs l]):=Xeg Tryz.underlying82 k9 (by decide) (fun _=>rfl) n (fun m _=>rSU m)
theorem rItU:∀n:Nat,ReadsU Tryz.prog W n 84 ItB It.enc:=by
 intro n
 induction n using Nat.strongRecOn with
 | _ n ih=>
  cases n with
  |zero=>exact Zc8
  | succ n=>
   refine ReadsU.map (fun x:Int×List St×List St×Int×Int×Un×List Str×List Str×Str×Str×Sta×Int×Int×Int×Str×List It×Unit=>
     It.mk x.1 x.2.1 x.2.2.1 x.2.2.2.1 x.2.2.2.2.1 x.2.2.2.2.2.1 x.2.2.2.2.2.2.1 x.2.2.2.2.2.2.2.1 x.2.2.2.2.2.2.2.2.1 x.2.2.2.2.2.2.2.2.2.1 x.2.2.2.2.2.2.2.2.2.2.1 x.2.2.2.2.2.2.2.2.2.2.2.1 x.2.2.2.2.2.2.2.2.2.2.2.2.1 x.2.2.2.2.2.2.2.2.2.2.2.2.2.1 x.2.2.2.2.2.2.2.2.2.2.2.2.2.2.1 x.2.2.2.2.2.2.2.2.2.2.2.2.2.2.2.1)
    (Zcp Tryz.underlying84 rfl k84 (Zan (by exact(rI n).u) (by exact k3) (by exact(fun _=>rfl)) (by rfl) (Zan (by exact(rStsU n)) (by exact k81) (by exact(fun _=>rfl)) (by rfl) (Zan (by exact(rStsU n)) (by exact k81) (by exact(fun _=>rfl)) (by rfl) (Zan (by exact(rI n).u) (by exact k3) (by exact(fun _=>rfl)) (by rfl) (Zan (by exact(rI n).u) (by exact k3) (by exact(fun _=>rfl)) (by rfl)
     (Zan (by exact(rUnU n)) (by exact k39) (by exact Z8a) (by rfl) (Zan (by exact(rSsU n)) (by exact k82) (by exact(fun _=>rfl)) (by rfl) (Zan (by exact(rSsU n)) (by exact k82) (by exact(fun _=>rfl)) (by rfl) (Zan (by exact(rSU n)) (by exact k9) (by exact(fun _=>rfl)) (by rfl) (Zan (by exact(rSU n)) (by exact k9) (by exact(fun _=>rfl)) (by rfl) (Zan (by exact(rStaU n)) (by exact k41) (by exact(fun _=>rfl)) (by rfl)
     (Zan (by exact(rI n).u) (by exact k3) (by exact(fun _=>rfl)) (by rfl) (Zan (by exact(rI n).u) (by exact k3) (by exact(fun _=>rfl)) (by rfl) (Zan (by exact(rI n).u) (by exact k3) (by exact(fun _=>rfl)) (by rfl) (Zan (by exact(rSU n)) (by exact k9) (by exact(fun _=>rfl)) (by rfl)
     (Zan (by exact(Xeg Tryz.underlying42 k84 (by decide) It.Zd8 n (fun m hm=>ih m (by omega)))) (by exact k42) (by exact(fun _=>rfl)) (by rfl) Zdz)))))))))))))))) ?_) ?_ ?_
   ·rintro⟨k,a,t,w,n,u,o,e,l,f,s,ac,it,d,ev,b,_⟩;simp only[Zx5,Z8a];rfl
   ·rintro⟨k,a,t,w,n,u,o,e,l,f,s,ac,it,d,ev,b,_⟩ ⟨h1,h2,h3,h4,h5,h6,h7,h8,h9,h10,h11,h12,h13,h14,h15,h16,_⟩;exact .mk _ h1 h2 h3 h4 h5 h6 h7 h8 h9 h10 h11 h12 h13 h14 h15 h16.1 h16.2
   ·rintro⟨k,a,t,w,n,u,o,e,l,f,s,ac,it,d,ev,b,_⟩;rw[It.Zaf,Un.Zaf];rfl
theorem rItsU(n:Nat):ReadsU Tryz.prog W n 42 (Z4m ItB) (fun l=>[.sl 25 (l.map It.enc)]):=Xeg Tryz.underlying42 k84 (by decide) It.Zd8 n (fun m _=>rItU m)
theorem rAcU(n:Nat):ReadsU Tryz.prog W n 44 AcB Ac.enc:=by
 cases n with
 |zero=>exact Zc8
 |succ n=>
  refine ReadsU.map (fun x:Int×Str×Int×Sta×List It×Unit=>(⟨x.1,x.2.1,x.2.2.1,x.2.2.2.1,x.2.2.2.2.1⟩:Ac)) (Zcp Tryz.underlying44 rfl k44 (Zan (by exact(rI n).u) (by exact k3) (by exact(fun _=>rfl)) (by rfl) (Zan (by exact(rSU n)) (by exact k9) (by exact(fun _=>rfl)) (by rfl) (Zan (by exact(rI n).u) (by exact k3) (by exact(fun _=>rfl)) (by rfl) (Zan (by exact(rStaU n)) (by exact k41) (by exact(fun _=>rfl)) (by rfl) (Zan (by exact(rItsU n)) (by exact k42) (by exact(fun _=>rfl)) (by rfl) Zdz))))) (by exact fun _=>rfl)) ?_ ?_
  ·rintro⟨a,b,c,d,e,_⟩ ⟨h1,h2,h3,h4,h5,_⟩;exact⟨h1,h2,h3,h4,h5⟩
  ·rintro⟨a,b,c,d,e,_⟩;rfl
theorem rAcsU(n:Nat):ReadsU Tryz.prog W n 46 (Z4m AcB) (fun l=>[.sl 7 (l.map Ac.enc)]):=Xeg Tryz.underlying46 k44 (by decide) (fun _=>rfl) n (fun m _=>rAcU m)
end Go.Proofs.YtldogpfookkbaaaGreatDoor.rd
