import Derived.Test.YtldogpfookkbaaaGreatDoorVmC
set_option linter.all false
namespace Go.VM
open Go
def Zvv(P:Program)(f:FuncId)(args:List PV)(S:PV→Prop):Prop:=
 Ztr P f=true∧Za8 args∧∀g w (vals:Array Value),Rel g w Heap.nil→Zm0 g vals args→
  Calls P f vals w fun x w'=>∃v p m',x=.returned v∧S p∧Rep ⟨m',fun _=>none⟩ v p∧MemExt g w m' w'∧RowKit.Below w.heap.size w w'
theorem Zhq{P:Program}{f:FuncId}{args:List PV}{S:PV→Prop}(H:Zam P f args Heap.nil (fun r h'=>∃p,View h' r p∧S p∧Closed p))(hargs:Za8 args):Zvv P f args S:=by
 refine⟨H.1,hargs,fun g w vals r ha=>(H.2 g w vals r ha).mono ?_⟩;rintro x w' ⟨v,q,g',h',rfl,⟨p,h1,hS,hp⟩,h2,h3,h4⟩;have hno:∀b,¬Ze3 g Heap.nil b:=by rintro b ⟨id,ab,x,e,_⟩;simp[Heap.get,HL.get,Heap.nil]at e
 refine⟨v,p,(frz g' w' h').m,rfl,hS,hp _ _ (h1 g' w' v h3 h2),⟨fun b o v e=>Zcl (h4.le.1 _ _ _ e),fun b o v e=>?_,fun b o v e=>?_,fun b e he=>Zet (h4.le.2.2 _ _ he),fun b e he=>(Zgc h3).mmem b e he,fun b e he=>?_⟩,⟨h4.os,h4.tape,h4.output,h4.size,fun k hk=>h4.block k hk (hno k)⟩⟩
 ·exact(Zgc h3).mem b o v e
 ·rcases Zjk e with e1|⟨e1,_⟩
  ·rcases h4.mem b o v e1 with e2|e2|e2
   ·exact .inl e2
   ·exact .inr e2
   ·exact(hno _ e2).elim
  ·rcases h4.own b e1 with e2|e2
   ·exact(hno _ e2).elim
   ·exact .inr e2
 ·rcases Zg5 he with e1|⟨e1,_⟩
  ·rcases h4.mmem b e e1 with e2|e2|e2
   ·exact .inl e2
   ·exact .inr e2
   ·exact(hno _ e2).elim
  ·rcases h4.own b e1 with e2|e2
   ·exact(hno _ e2).elim
   ·exact .inr e2
theorem Zki{P:Program}{f:FuncId}{args:List PV}{h:Heap}{S:PV→Prop}{K:PV→Heap→Prop}(H:Zvv P f args S)(hk:∀p,S p→K p h):Zam P f args h K:=by
 refine⟨H.1,fun g w vals r ha=>(H.2.2 g.bare w vals r.bare (H.2.1.args ha)).mono ?_⟩;rintro x w' ⟨v,p,m',rfl,hS,h1,h2,h3⟩;obtain⟨R,E⟩:=r.below (m':=m') (w':=w') ⟨h2.old,h2.ok,h2.new,h2.oldM,h2.okM,h2.newM⟩ h3;have hle:Gh.le ⟨m',fun _=>none⟩ ⟨m',g.β⟩:=⟨fun _ _ _ e=>e,(fun _ _ e=>by cases e),fun _ _ e=>e⟩;exact⟨v,p,⟨m',g.β⟩,h,rfl,hk p hS,h1.mono hle,R,E⟩
end Go.VM
