import Derived.Test.YtcgdjembdjdlhaaGreatDoorVmZ
import Derived.Test.YtcgdjembdjdlhaaGreatDoorRows
import Derived.Test.YtcgdjembdjdlhaaGreatDoorChecked
import Derived.Lib.LaidTab
import Derived.LaidSub
import Derived.KernelRfl
import Derived.Test.YtcgdjembdjdlhaaGreatDoorY4
import Derived.OpenShut
import Derived.Test.YtcgdjembdjdlhaaGreatDoorVmC
set_option linter.all false
namespace Go.Proofs.YtcgdjembdjdlhaaGreatDoor.w
open Go Go.VM
theorem trod_str {H : Type} {enc : TypeId × Value → H} {P : Program} {W : World} {base : Nat} {sp : Nat → Bool} {held : Bool} {m : Nat} {e : TypeId} {cs : List Value} {bs : List UInt8} {q : List MemPlace} (he : P.underlying e = some .string)
  (h:DataW.trod enc P W base sp held m e cs=some (.lit (.string bs),q)):cs=[.string ⟨bs.toArray⟩]:=by
 cases m with
 | zero=>simp [DataW.trod] at h
 | succ m =>
  unfold DataW.trod at h;rw [he] at h;split at h<;>try (simp_all;done)
  rename_i s heq;split at h
  ·simp only [Option.some.injEq,Prod.mk.injEq,DataW.lit.injEq,Lit.string.injEq] at h;obtain ⟨rfl,_⟩:=h;rfl
  ·cases h
abbrev cW (W:World) (b o:Nat):Option Value:=match W.cell? ⟨b,o,none⟩ with
 | some v=>if v.oneCell'=true then some v else none
 | none=>none
theorem trod_ints {H : Type} {enc : TypeId × Value → H} {P : Program} {W : World} {base : Nat} {sp : Nat → Bool} {held : Bool} {m : Nat} {t e : TypeId} {cs : List Value} {zs : List Int} {rest : List (DataW H)} {q : List MemPlace} (ht : P.underlying t = some (.slice e)) (he : P.underlying e = some (.int .i64)) (hc : P.cellsOf e = 1) (hz : zs ≠ [])
    (h:DataW.trod enc P W base sp held m t cs=some (.slice (zs.map fun z=>.lit (.int .i64 z)) rest,q)):∃ v,cs=[v]∧v.oneCell'=true∧SlIs (cW W) v zs:=by
  rcases DataW.trod_slice ht h with ⟨_,h2⟩|⟨a,len,cap,elems,rs,m',hm,rfl,hx,hb,hlc,hcap,hel,hread,_,_⟩
  · simp at h2
  simp only [Prod.mk.injEq,DataW.slice.injEq] at hx;obtain ⟨⟨hx,_⟩,_⟩:=hx;have hzl:zs.length=len:=by
    have:=congrArg List.length hx;simp at this;omega
  have hlen:0<len:=by rw [← hzl];exact List.length_pos_iff.2 hz
  have each:∀ i,i<len→W.cell? (a.add i)=some (.int .i64 (zs.getD i 0)):=by
    intro i hi;have hr:=hread i hi;rw [List.getElem?_eq_getElem (by omega),hc,Nat.mul_one] at hr;obtain ⟨ci,hc1,hc2⟩:=Option.bind_eq_some_iff.1 hr;obtain ⟨_,hcl,hcells⟩:=World.cells?_some hc1;obtain ⟨n,rfl,hn,_⟩:=DataW.trod_int he hc2;have h1:=hcells 0 (by omega);have e0:∀ b:Addr,b.add 0=b:=fun b=>by simp [Addr.add]
    rw [e0] at h1;rw [h1];have h2:(elems.map (·.1))[i]?=some (DataW.lit (.int .i64 n)):=by
      rw [List.getElem?_map,List.getElem?_eq_getElem (by omega),Option.map_some,hn]
    rw [← hx,List.getElem?_map,List.getElem?_eq_getElem (by omega),Option.map_some] at h2;simp only [Option.some.injEq,DataW.lit.injEq,Lit.int.injEq,true_and] at h2;have e3:zs.getD i 0=n:=by rw [← h2];simp [List.getD,show i<zs.length by omega]
    rw [e3];rfl
  have hspot:a.spot=none:=by
    have hv:=each 0 hlen;have e0:a.add 0=a:=by simp [Addr.add]
    rw [e0] at hv;unfold World.cell? at hv;split at hv
    · split at hv
      · cases hv
      · rename_i hs;simpa using hs
    · cases hv
  have hadd:∀ i,a.add i=⟨a.block,a.off+i,none⟩:=by
    intro i;obtain ⟨b,o,s⟩:=a;simp only at hspot;subst hspot;by_cases hi:i=0<;>simp [Addr.add,hi]
  refine ⟨_,rfl,rfl,.inr ⟨a.block,a.off,cap,by omega,?_,fun i hi=>?_⟩⟩
  · obtain ⟨b,o,s⟩:=a
    simp only at hspot;subst hspot;rw [hzl]
  · have:=each i (by omega)
    rw [hadd] at this;simp only [cW];rw [this];rfl
theorem known_tab (b:Nat) (l:List Value) (h:known.lookup b=some l):b=0∧l=Za3.map fun s=>Value.string ⟨s.toArray⟩:=by
 have e:known=[(0,Za3.map fun s=>Value.string ⟨s.toArray⟩)]:=by kernel_rfl
 rw [e] at h;simp only [List.lookup] at h;split at h
 ·rename_i hb;simp only [Option.some.injEq] at h;exact ⟨by simpa using hb,h.symm⟩
 ·cases h
def namesD {H:Type}:DataW H:=.agg (Za3.map fun s=>.lit (.string s))
def slD {H:Type} (zs:List Int):DataW H:=if zs=[] then .nil else .slice (zs.map fun z=>.lit (.int .i64 z)) []
def belowD {H:Type}:DataW H:=.agg (belowT.map slD)
theorem knownW_of {W : World} {rest : List (String × DataW Unit)} (h : laidMetH Tryz.prog rest W) (hf : (rest.filter (fun x => x.1 == "pandect/unit.names"), rest.filter (fun x => x.1 == "pandect/unit.below")) = ([("pandect/unit.names", namesD)], [("pandect/unit.below", belowD)])) (hn : (rest.filter fun x => x.2.handleName?.isNone) = rest) : Zcx W := by
  obtain ⟨f1,f2⟩:=Prod.mk.inj hf
  have h1:=(laidMetH_iff.1 h).1
  rw [hn] at h1
  have h2 := h1.filter (fun x => x.1 == "pandect/unit.names")
  rw [f1] at h2
  have h3 := h1.filter (fun x => x.1 == "pandect/unit.below")
  rw [f2] at h3
  have g1 : Tryz.prog.globalNamed "pandect/unit.names" = some 0 := by kernel_rfl
  have g2 : Tryz.prog.globalNamed "pandect/unit.below" = some 3 := by kernel_rfl
  have t1:(Tryz.prog.globals[0]?).map (·.type)=some 110:=by kernel_rfl
  have t2:(Tryz.prog.globals[3]?).map (·.type)=some 273:=by kernel_rfl
  have cs1:Tryz.prog.cellsOf 9=1:=by kernel_rfl
  have cs2:Tryz.prog.cellsOf 110=8:=by kernel_rfl
  have cs3:Tryz.prog.cellsOf 60=1:=by kernel_rfl
  have cs4:Tryz.prog.cellsOf 273=8:=by kernel_rfl
  have cs5:Tryz.prog.cellsOf 3=1:=by kernel_rfl
  have var_heap:∀ {name:String} {b:Nat} {cs:Array Value},Tryz.prog.globalNamed name=some b→W.var? Tryz.prog name=some cs→∃ t fr,W.heap[b]?=some (.cells cs t fr):=by
    intro name b cs hg hv
    unfold World.var? at hv
    rw [hg] at hv
    simp only [Option.bind_some] at hv
    split at hv
    · rename_i c t fr hh
      simp only [Option.some.injEq] at hv
      exact ⟨t,fr,by rw [hh,hv]⟩
    · cases hv
  refine ⟨⟨fun b l hl=>?_,fun b k hb=>?_⟩,fun b ls hb j hj=>?_⟩
  · obtain ⟨rfl,rfl⟩:=known_tab b l hl
    refine ⟨?_,fun v hv=>by obtain ⟨s,_,rfl⟩:=List.mem_map.1 hv;rfl⟩
    obtain ⟨ps,⟨g',t',cs,fuel,p,q,hg',ht',hvar,hd,_,_⟩,_⟩:=h2
    obtain rfl:=Option.some.inj (g1.symm.trans hg')
    obtain rfl:=Option.some.inj (t1.symm.trans ht')
    obtain ⟨t,fr,hh⟩:=var_heap g1 hvar
    refine ⟨t,fr,?_⟩
    suffices hcs:cs=(Za3.map fun s=>Value.string ⟨s.toArray⟩).toArray by rw [hh,hcs]
    obtain ⟨xs,m,_,hx,hlen,hxs,hread⟩:=DataW.trod_array Tryz.underlying110 hd
    rw [cs2] at hlen
    simp only [Prod.mk.injEq] at hx
    have hx1:Za3.map (fun s=>(DataW.lit (.string s):DataW _))=xs.map (·.1):=by
      have:=hx.1
      unfold namesD at this
      simpa using this
    apply Array.ext'
    apply List.ext_getElem?
    intro i
    by_cases hi:i<8
    · have hr:=hread i hi
      rw [cs1,Nat.mul_one,List.getElem?_eq_getElem (by omega)] at hr
      have hk:i<Za3.length:=hi
      have h5:(xs.map (·.1))[i]?=some xs[i].1:=by rw [List.getElem?_map,List.getElem?_eq_getElem (by omega)];rfl
      rw [← hx1,List.getElem?_map,List.getElem?_eq_getElem hk] at h5
      simp only [Option.map_some,Option.some.injEq] at h5
      have h6:xs[i]=(.lit (.string Za3[i]),xs[i].2):=Prod.ext h5.symm rfl
      rw [h6] at hr
      have h7:=trod_str Tryz.underlying9 hr
      have h8:=congrArg (·[0]?) h7
      simp only [List.getElem?_take,List.getElem?_drop] at h8
      simp only [List.getElem?_map,List.getElem?_eq_getElem hk,Option.map_some]
      simpa using h8
    · rw [List.getElem?_eq_none (by omega)]
      symm
      apply List.getElem?_eq_none
      show (List.map _ Za3).length≤i
      rw [List.length_map]
      show 8≤i
      omega
  · exfalso
    have:knownG=[]:=by kernel_rfl
    rw [this] at hb;cases hb
  · have hS:knownS=[(3,belowT)]:=by kernel_rfl
    rw [hS] at hb
    simp only [List.lookup] at hb
    split at hb
    · rename_i hbb
      simp only [Option.some.injEq] at hb
      subst hb
      have hb':b=3:=by simpa using hbb
      subst hb'
      obtain ⟨ps,⟨g',t',cs,fuel,p,q,hg',ht',hvar,hd,_,_⟩,_⟩:=h3
      obtain rfl:=Option.some.inj (g2.symm.trans hg')
      obtain rfl:=Option.some.inj (t2.symm.trans ht')
      obtain ⟨t,fr,hh⟩:=var_heap g2 hvar
      obtain ⟨xs,m,_,hx,hlen,hxs,hread⟩:=DataW.trod_array Tryz.underlying273 hd
      rw [cs4] at hlen
      simp only [Prod.mk.injEq] at hx
      have hx1:belowT.map slD=xs.map (·.1):=by
        have:=hx.1
        unfold belowD at this
        simpa using this
      have hj8:j<8:=hj
      have hr:=hread j hj8
      rw [cs3,Nat.mul_one,List.getElem?_eq_getElem (by omega)] at hr
      have h5:(xs.map (·.1))[j]?=some xs[j].1:=by rw [List.getElem?_map,List.getElem?_eq_getElem (by omega)];rfl
      rw [← hx1,List.getElem?_map,List.getElem?_eq_getElem hj] at h5
      simp only [Option.map_some,Option.some.injEq] at h5
      have h6:xs[j]=(slD belowT[j],xs[j].2):=Prod.ext h5.symm rfl
      rw [h6] at hr
      have hgD:belowT.getD j []=belowT[j]:=by rw [List.getD_eq_getElem?_getD,List.getElem?_eq_getElem hj];rfl
      have hcell:∀ v,(cs.toList.drop j).take 1=[v]→W.cell? ⟨3,j,none⟩=some v:=by
        intro v hv
        have h8:=congrArg (·[0]?) hv
        simp only [List.getElem?_take,List.getElem?_drop] at h8
        unfold World.cell?
        rw [hh]
        simpa using h8
      rw [hgD]
      generalize belowT[j]=zs at hr
      unfold slD at hr
      by_cases hz:zs=[]
      · rw [if_pos hz] at hr
        rcases DataW.trod_slice Tryz.underlying60 hr with ⟨h7,_⟩|⟨a,len,cap,elems,rs,m',_,_,h8,_⟩
        · refine ⟨.slice none 0 0,?_,.inl ⟨hz,rfl⟩⟩
          simp only []
          rw [hcell _ h7];rfl
        · simp at h8
      · rw [if_neg hz] at hr
        obtain ⟨v,h7,h8,h9⟩:=trod_ints (W:=W) Tryz.underlying60 Tryz.underlying3 cs5 hz hr
        refine ⟨v,?_,h9⟩
        simp only []
        rw [hcell _ h7]
        simp only []
        rw [if_pos h8]
    · cases hb
end Go.Proofs.YtcgdjembdjdlhaaGreatDoor.w
namespace Go.Proofs.YtcgdjembdjdlhaaGreatDoor.rd
open Go Go.VM
variable {W : World}
theorem k3:Tryz.prog.cellsOf 3=1:=by kernel_rfl
theorem k9:Tryz.prog.cellsOf 9=1:=by kernel_rfl
theorem k114:Tryz.prog.cellsOf 114=3:=by kernel_rfl
theorem k116:Tryz.prog.cellsOf 116=4:=by kernel_rfl
theorem k23:Tryz.prog.cellsOf 23=3:=by kernel_rfl
theorem k24:Tryz.prog.cellsOf 24=1:=by kernel_rfl
theorem k25:Tryz.prog.cellsOf 25=1:=by kernel_rfl
theorem k27:Tryz.prog.cellsOf 27=8:=by kernel_rfl
theorem rI (n:Nat):Reads Tryz.prog W n 3 i64 (fun a=>[pI a]):=reads_int Tryz.underlying3
def enc3 (x:Int×Int×Int×Unit):List PV:=[pI x.1,pI x.2.1,pI x.2.2.1]
def ok3 (x:Int×Int×Int×Unit):Prop:=i64 x.1∧i64 x.2.1∧i64 x.2.2.1∧True
theorem r114 (n:Nat):Reads Tryz.prog W n 114 ok3 enc3:=by
 cases n with
 | zero=>exact reads_zero
 | succ n=>exact Reads.map (fun x:Int×Int×Int×Unit=>x) (reads_struct Tryz.underlying114 rfl k114 (freads_cons (by exact (rI n)) (by exact k3) (by exact (fun _=>rfl)) (by rfl) (freads_cons (by exact (rI n)) (by exact k3) (by exact (fun _=>rfl)) (by rfl) (freads_cons (by exact (rI n)) (by exact k3) (by exact (fun _=>rfl)) (by rfl) freads_nil))) (by exact fun _=>rfl)) (fun _ h=>h) (fun _=>rfl)
theorem r23 (n:Nat):Reads Tryz.prog W n 23 ok3 enc3:=by
 cases n with
 | zero=>exact reads_zero
 | succ n=>exact Reads.map (fun x:Int×Int×Int×Unit=>x) (reads_struct Tryz.underlying23 rfl k23 (freads_cons (by exact (rI n)) (by exact k3) (by exact (fun _=>rfl)) (by rfl) (freads_cons (by exact (rI n)) (by exact k3) (by exact (fun _=>rfl)) (by rfl) (freads_cons (by exact (rI n)) (by exact k3) (by exact (fun _=>rfl)) (by rfl) freads_nil))) (by exact fun _=>rfl)) (fun _ h=>h) (fun _=>rfl)
theorem un_len (u:Un):u.enc.length=8:=by rw [Un.Zaf];rfl
end Go.Proofs.YtcgdjembdjdlhaaGreatDoor.rd
