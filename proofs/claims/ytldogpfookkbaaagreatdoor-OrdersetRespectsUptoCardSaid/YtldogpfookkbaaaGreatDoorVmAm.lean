import Derived.Test.YtldogpfookkbaaaGreatDoorVmAg
import Derived.Test.YtldogpfookkbaaaGreatDoorVmZ
import Derived.Laws.IdiomRangeMap
set_option linter.all false
namespace Go.VM
open Go
variable {P : Program} {o : Oper} {e : Env} {h : Heap} {K : PV → Heap → Prop}
theorem next_run (w : World) (ty : TypeId) (r0 bm clock : Nat) (seen : Array Nat) (es : Array MapEntry) (hr : w.heap[r0]? = some (.mapIter (some bm) clock seen clock)) (hb : w.heap[bm]? = some (.map es clock)) (hold : ∀ x ∈ es.toList, x.born < clock) :
  ((leftOf es seen).size=0∧(Instr.next (.pointer (some ⟨r0,0,none⟩)) false ty).run P w=.ok (.tuple #[.bool false]) w) ∨
  ∃ e∈(leftOf es seen).toList,∃ k,(Instr.next (.pointer (some ⟨r0,0,none⟩)) false ty).run P w=.ok (.tuple #[.bool true,e.key,e.val]) { w with drawn:=k,heap:=w.heap.setIfInBounds r0 (.mapIter (some bm) clock (seen.push e.born) clock) }:=by
 simp only [Instr.next,getObj,Sem.run_bind,Sem.run,hr,hb,Result.andThen,next_test_false seen es clock clock hold (Nat.le_refl _),Bool.false_eq_true,if_false];unfold leftOf;have hmem:∀ x∈(Array.filter (fun e=>!seen.contains e.born) es).toList,x.born<clock:=fun x hx=>hold x (by simp at hx ⊢;exact hx.1);generalize Array.filter (fun e=>!seen.contains e.born) es=L at hmem ⊢;have e1:L.filter (fun x=>decide (x.born<clock))=L:=Array.filter_eq_self.2 (fun x hx=>by simpa using hmem x (by simpa using hx));have e2:L.filter (fun x=>decide (x.born≥clock))=#[]:=by
  rw [Array.filter_eq_empty_iff];intro x hx;have:=hmem x (by simpa using hx);simp;omega
 simp only [e1,e2,Array.append_empty];by_cases h0:L.size=0
 ·left
  have:L=#[]:=Array.eq_empty_of_size_eq_zero h0;subst this;refine ⟨rfl,?_⟩;simp [choose,Sem.run,Question.forced]
 ·right
  have hne:L.isEmpty=false:=by simp [Array.isEmpty,h0]
  simp only [hne,Bool.false_eq_true,if_false,Array.empty_append,Array.size_map];have hch:∃ (j k:Nat),j<L.size∧(choose (Question.mapNext L.size)).run P w=.ok j { w with drawn:=k }:=by
   by_cases hf:L.size≤1
   ·exact ⟨0,w.drawn,by omega,by simp [choose,Sem.run,Question.forced,hf]⟩
   ·exact ⟨_, w.drawn + 1, Nat.mod_lt _ (by omega), by
     simp only [choose,Sem.run,Question.forced,decide_eq_true_eq,hf,if_false,Question.cut];rfl⟩
  obtain ⟨j,k,hj,hrun⟩:=hch;refine ⟨L[j],by simp,k,?_⟩;have hset:∀ (o':Obj),(setObj r0 o').run P { w with drawn:=k }=.ok () { w with drawn:=k,heap:=w.heap.setIfInBounds r0 o' }:=fun o'=>by
   simp only [setObj,Sem.run,hr]
  simp only [hrun,Array.getElem?_map,Array.getElem?_eq_getElem hj,Option.map_some,Sem.run_bind,hset,Result.andThen];rfl
theorem iter_at {g : Gh} {w : World} (r : Rel g w h) {id : Nat} {es : List (PV × PV)} {seen : List Nat} (hg : h.get id = some (.miter es seen)) :
  ∃ b n z,g.β id=some (b,0,n,z)∧b<w.heap.size∧AB.ok g w b 0 n z (.miter es seen):=by
 rcases r.blk id _ hg with ⟨_,fz,z,hh⟩|⟨b,o,n,z,hb,hlt,hlive,hok⟩
 ·cases hh
 ·obtain ⟨rfl,hrest⟩:=hok;exact ⟨b,n,z,hb,hlt,rfl,hrest⟩
theorem OpS_next {x : Operand} {va : VA} {id : Nat} {es : List (PV × PV)} {seen : List Nat} (ho : o.op = .next x false) (hx : cA x = some va) (hv : va.ev e = .loc id 0 0) (hg : h.get id = some (.miter es seen))
    (H0:(∀ i,i<es.length→i∈seen)→K (.tup [.bool false]) h) (H1:∀ i (hi:i<es.length),i ∉ seen→K (.tup [.bool true,es[i].1,es[i].2]) (h.set id (.miter es (seen++[i])))):OpS P o e h K:=by
  refine OpS.of_value fun g w a r he=>?_;have h1:=Zaf he hx;rw [hv] at h1;generalize hax:a.eval x=ax at h1;obtain ⟨b,n,z,hb,hlt,_,m,ents,clock,stamps,e1,e2,e3,e4,e5,e6,e7⟩:=iter_at r hg;have hm:=r.mmem _ _ e2;cases h1 with
  | loc _ _ _ b' oo n' z' ad hb' ha =>
    rw [hb] at hb';simp only [Option.some.injEq,Prod.mk.injEq] at hb';obtain ⟨rfl,rfl,rfl,rfl⟩:=hb';have ha':ad=⟨b,0,none⟩:=by simpa using ha
    subst ha';have hmap:∀ i,(hi:i<ents.size)→(ents.getD i default).born=ents[i].born:=fun i hi=>by simp [Array.getD_eq_getD_getElem?,hi]
    have hseen:∀ i,(hi:i<ents.size)→(stamps.contains ents[i].born=true↔i∈seen):=by
      intro i hi;rw [Array.contains_iff_mem,← Array.mem_toList_iff,e6,List.mem_map];constructor
      · rintro ⟨j,hj,hjb⟩
        have hj':=e7 j hj;rw [hmap j (by omega)] at hjb;have hn:=e5.2.1;have:i=j:=by
          have h2:(ents.toList.map (·.born))[i]'(by simpa using hi)=(ents.toList.map (·.born))[j]'(by simp;omega):=by simpa using hjb.symm
          exact (List.getElem_inj hn).1 h2
        exact this▸hj
      · exact fun h=>⟨i,h,hmap i hi⟩
    rcases next_run (P:=P) w o.type b m clock stamps ents e1 hm e5.1 with ⟨z0,hrun⟩|⟨en,hen,k,hrun⟩
    · refine ⟨.tuple #[.bool false],_,g,w,h,?_,H0 (fun i hi=>?_),.tup _ _ rfl (fun j hj=>?_),r,Evo.refl _ _ _⟩
      · simp only [execOp,ho,hax]
        simp only [Sem.run_bind,hrun,Result.andThen_ok];rfl
      · have hi':i<ents.size:=by omega
        exact (hseen i hi').1 (all_seen ents stamps z0 ents[i] (by simp))
      · obtain rfl:j=0:=by simp at hj;omega
        exact .bool false
    · obtain ⟨hm1,hm2⟩:=mem_left hen
      obtain ⟨i,hi,rfl⟩:=List.mem_iff_getElem.1 hm1;have hi':i<ents.size:=by simpa using hi
      have hie:i<es.length:=by omega
      have hei:ents.toList[i]=ents[i]:=by simp
      rw [hei] at hrun hm2;have hns:i ∉ seen:=fun h=>by rw [(hseen i hi').2 h] at hm2;cases hm2
      have hr0:=e4 i ents[i] es[i] (Array.getElem?_eq_getElem hi') (List.getElem?_eq_getElem hie);have hset:=MapKept.heap_set (w:=w) (o':=.mapIter (some m) clock (stamps.push ents[i].born) clock) e1;obtain ⟨R,E⟩:=r.set (ab:=.miter es (seen++[i])) hg rfl hb { w with drawn:=k,heap:=w.heap.setIfInBounds b (.mapIter (some m) clock (stamps.push ents[i].born) clock) } (fun j _ hj=>hset.2 j hj) (by simp) rfl rfl rfl rfl
        ⟨rfl,m,ents,clock,_,hset.1,e2,e3,e4,e5,by rw [Array.toList_push,e6,List.map_append,List.map_cons,List.map_nil,hmap i hi'],fun j hj=>by
          rcases List.mem_append.1 hj with hj|hj
          · exact e7 j hj
          · rw [List.mem_singleton] at hj;omega⟩
      refine ⟨.tuple #[.bool true,ents[i].key,ents[i].val],_,g,_,_,?_,H1 i hie hns,.tup _ _ rfl (fun j hj=>?_),R,E⟩
      · simp only [execOp,ho,hax]
        simp only [Sem.run_bind,hrun,Result.andThen_ok];rfl
      · match j with
        | 0=>exact .bool true
        | 1=>exact hr0.1
        | 2=>exact hr0.2
        | j+3=>simp at hj;omega
theorem OpS_entry {x : Operand} {va : VA} {id i : Nat} {es : List (PV × PV)} {seen : List Nat} (ho : o.op = .entry x) (hx : cA x = some va) (hv : va.ev e = .loc id 0 0) (hg : h.get id = some (.miter es (seen ++ [i]))) (hi : i < es.length)
    (H:K (.tup [es[i].1,es[i].2]) h):OpS P o e h K:=by
  refine OpS.of_value fun g w a r he=>?_;have h1:=Zaf he hx;rw [hv] at h1;generalize hax:a.eval x=ax at h1;obtain ⟨b,n,z,hb,hlt,_,m,ents,clock,stamps,e1,e2,e3,e4,e5,e6,e7⟩:=iter_at r hg;have hm:=r.mmem _ _ e2;cases h1 with
  | loc _ _ _ b' oo n' z' ad hb' ha =>
    rw [hb] at hb';simp only [Option.some.injEq,Prod.mk.injEq] at hb';obtain ⟨rfl,rfl,rfl,rfl⟩:=hb';have ha':ad=⟨b,0,none⟩:=by simpa using ha
    subst ha';have hi':i<ents.size:=by omega
    have hback:stamps.back?=some ents[i].born:=by
      have:stamps=(seen.map fun i=>(ents.getD i default).born).toArray.push ents[i].born:=by
        apply Array.toList_inj.1
        rw [e6];simp [Array.getD_eq_getD_getElem?,hi']
      rw [this,Array.back?_push]
    have hfind:ents.find? (·.born==ents[i].born)=some ents[i]:=by
      rw [← Array.find?_toList];exact find_born ents[i] ents.toList e5.2.1 (by simp)
    have hr0:=e4 i ents[i] es[i] (Array.getElem?_eq_getElem hi') (List.getElem?_eq_getElem hi);have hrun:(Instr.entry (.pointer (some ⟨b,0,none⟩))).run P w=.ok (.tuple #[ents[i].key,ents[i].val]) w:=by
      have hm':w.heap[m]?=some (.map ents clock):=hm;simp only [Instr.entry,getObj,Sem.run_bind,Sem.run,e1,hm',Result.andThen,hback,bne_self_eq_false,Bool.false_eq_true,if_false,hfind];rfl
    refine ⟨.tuple #[ents[i].key,ents[i].val],_,g,w,h,?_,H,.tup _ _ rfl (fun j hj=>?_),r,Evo.refl _ _ _⟩
    · simp only [execOp,ho,hax]
      simp only [Sem.run_bind,hrun,Result.andThen_ok];rfl
    · match j with
      | 0=>exact hr0.1
      | 1=>exact hr0.2
      | j+2=>simp at hj;omega
end Go.VM
namespace Go.VM
open Go
variable {P : Program} {o : Oper} {e : Env} {h : Heap} {K : PV → Heap → Prop}
theorem OpS_rangeR {t kt et : TypeId} {x : Operand} {va : VA} {es : List (PV × PV)} (ho : o.op = .range t x) (ht : P.underlying t = some (.map kt et)) (hx : cA x = some va) (hv : va.ev e = .rmp es) (hf : keysFlat es)
  (H:K (.loc h.top 0 0) (h.push (.miter es []))):OpS P o e h K:=by
 refine OpS.of_value fun g w a r he=>?_;have h1:=Zaf he hx;rw [hv] at h1;generalize hax:a.eval x=ax at h1;cases h1 with
 | @rmp clock b ents _ hm hl hk hvv hs =>
  have e1:=r.mmem b _ hm;have hrun:=run_range_map (P:=P) w t kt et b ents clock ht e1;obtain ⟨g2,l2,_,b2,R2,E2⟩:=r.put none w.heap.size 0 0 0 (.miter es []) (w.alloc (.mapIter (some b) clock #[] clock)) (.inl (Nat.le_refl _)) (fun k hk _=>heap_alloc_old w _ hk) (by show _≤(w.heap.push _).size;simp) (by show _<(w.heap.push _).size;simp) rfl rfl rfl rfl
   (fun g3 h3=>⟨rfl,b,ents,clock,#[],heap_alloc_new w _,h3.2.2 _ _ hm,hl,fun i x p hx hp=>⟨(hk i x p hx hp).mono h3,(hvv i x p hx hp).mono h3⟩,hs hf,rfl,fun i hi=>by cases hi⟩)
  refine ⟨.pointer (some ⟨w.heap.size,0,none⟩),_,g2,_,_,?_,H,.loc _ _ _ w.heap.size 0 0 0 _ b2 (by simp),R2,E2⟩;simp only [execOp,ho,hax];simp only [Sem.run_bind,hrun,Result.andThen_ok];rfl
end Go.VM
