import Derived.Test.YtldogpfookkbaaaGreatDoorVmZ
import Derived.RangeFuncRecord
import Derived.RangeFuncIn
set_option linter.all false
namespace Go.VM
open Go
variable {P : Program}
def AY (P:Program) (l:Nat) (args:List PV) (h:Heap) (K:PV→Heap→Prop):Prop :=
 ∀ g w (vals:Array Value),Rel g w h→Args g vals args →
  ∃ fn tmps assign body,(Instr.yield l vals).run P w=.ok (.round l fn tmps assign body) w ∧
   RoundIn (fw none) 8 P l fn tmps assign body w (fun x w'=>∃ v p g' h',x=.returned v∧K p h'∧Rep g' v p∧Rel g' w' h'∧Evo g w h g' w' h')
theorem AY.mono {l:Nat} {args:List PV} {h:Heap} {K K':PV→Heap→Prop} (H:AY P l args h K) (hk:∀ p h',K p h'→K' p h'):AY P l args h K':=by
 intro g w vals r ha;obtain ⟨fn,tmps,asg,body,h1,h2⟩:=H g w vals r ha;exact ⟨fn,tmps,asg,body,h1,h2.mono fun x w' ⟨v,p,g',h',k1,k2,k⟩=>⟨v,p,g',h',k1,hk _ _ k2,k⟩⟩
theorem AY.weakenL {l:Nat} {args:List PV} {h h0:Heap} {K:PV→Heap→Prop} (hl:h0.le h) (H:AY P l args h0 K):AY P l args h K:=by
 intro g w vals r ha;obtain ⟨fn,tmps,asg,body,h1,h2⟩:=H g w vals (r.weaken hl) ha;exact ⟨fn,tmps,asg,body,h1,h2.mono fun x w' ⟨v,p,g',h',k1,k2,k3,k4,k5⟩=>⟨v,p,g',h',k1,k2,k3,k4,k5.weakenL hl⟩⟩
theorem OpS_yield {o : Oper} {e : Env} {h : Heap} {K : PV → Heap → Prop} {x : Operand} {va : VA} {as : Array Operand} {ats : Array TypeId} {vas : List VA} {l : Nat} (ho : o.op = .call { callee := .value x, args := as, argTypes := ats }) (hx : cA x = some va) (hv : va.ev e = .fn (.yield l) [] []) (has : cAs as.toList = some vas)
    (H:AY P l (vas.map (·.ev e)) h K):OpS P o e h K:=by
  intro g w a next Q r he hn
  have hf:=Zai he hx;rw [hv] at hf;obtain ⟨fs,cs,hval,a1,a2⟩:=hf.fn_inv;have hfs:fs=#[]:=Array.size_eq_zero_iff.1 (by simpa using a1.1);have hcs:cs=#[]:=Array.size_eq_zero_iff.1 (by simpa using a2.1);subst hfs hcs;have ha:=args_of he has;obtain ⟨fn,tmps,asg,body,hrun,hR⟩:=H g w _ r ha;have hr2:(execOp a.eval o).run P w=.ok (.round l fn tmps asg body) w:=by
    simp [execOp,ho,resolve,hval,Deferred.ofValue,invoke,Sem.run_bind,Result.andThen,hrun]
  rw [hr2];refine ⟨fun k=>by simp [fw] at k,hR.mono ?_⟩;rintro x w' ⟨v,p,g',h',rfl,h1,h2,h3,h4⟩;exact hn v p g' w' h' h1 h2 h3 h4
def putPs:List Nat→List PV→Env→Env
 | p::ps,v::vs,e=>putPs ps vs ((p,v)::e)
 | _,_,e=>e
theorem putPs_rep {g : Gh} : ∀ (ps : List Nat) (vals : List Value) (args : List PV) (tm : Array Value) (e : Env), (∀ t, Rep g (tm.getD t Go.undef) (e.get t)) → vals.length = args.length → (∀ j, j < args.length → Rep g (vals.getD j Go.undef) (PV.nth args j)) → ps.length = args.length → (∀ p ∈ ps, p < tm.size) →
  (∀ t,Rep g (((ps.zip vals).foldl (fun t (p,v)=>t.setIfInBounds p v) tm).getD t Go.undef) ((putPs ps args e).get t))∧((ps.zip vals).foldl (fun t (p,v)=>t.setIfInBounds p v) tm).size=tm.size
 | [],vals,args,tm,e,he,hl,hr,hp,hb=>by
  cases args with
  | nil=>exact ⟨by simpa [putPs] using he,by simp⟩
  | cons _ _=>simp at hp
 | p::ps,vals,args,tm,e,he,hl,hr,hp,hb=>by
  cases args with
  | nil=>simp at hp
  | cons x args =>
   cases vals with
   | nil=>simp at hl
   | cons v vals =>
    have hpl:=hb p List.mem_cons_self;obtain ⟨h1,h2⟩:=putPs_rep ps vals args (tm.setIfInBounds p v) ((p,x)::e) (fun t=>by
     simp only [Env.get];by_cases e1:p=t
     ·subst e1;rw [if_pos rfl];have:=hr 0 (by simp)
      simpa [Array.getD_eq_getD_getElem?,hpl,PV.nth] using this
     ·rw [if_neg e1]
      simpa [Array.getD_eq_getD_getElem?,Array.getElem?_setIfInBounds_ne e1] using he t) (by simpa using hl) (fun j hj=>by simpa [PV.nth] using hr (j+1) (by simpa using hj)) (by simpa using hp) (fun q hq=>by rw [Array.size_setIfInBounds];exact hb q (List.mem_cons_of_mem _ hq))
    refine ⟨fun t=>?_,?_⟩
    ·simpa [putPs] using h1 t
    ·simpa using h2
abbrev lpR (l:Nat) (st:LoopState) (pe:Option Code) (ps:Array Tmp) (asg body:Code) (D n:Nat) (e:Env):AB:=.loopR l st pe ps asg body D n e
def roundQ (lid l:Nat) (ps:Array Tmp) (asg body:Code) (D n:Nat) (e0:Env) (K:PV→Heap→Prop):Exit→Env→Heap→Prop
 | .normal,_,h=>h.get lid=some (lpR l .busy none ps asg body D n e0)∧K (.bool true) (h.set lid (lpR l .ready none ps asg body D n e0))
 | .ret,_,h=>h.get lid=some (lpR l .busy none ps asg body D n e0)∧K (.bool false) (h.set lid (lpR l .done (some .ret) ps asg body D n e0))
 | .exit id,_,h=>h.get lid=some (lpR l .busy none ps asg body D n e0)∧K (.bool false) (h.set lid (lpR l .done (some (.exit id)) ps asg body D n e0))
 | _,_,_=>False
theorem loop_at {g : Gh} {w : World} {h : Heap} (r : Rel g w h) {lid l : Nat} {st : LoopState} {pe : Option Code} {ps : Array Tmp} {asg body : Code} {D n : Nat} {e0 : Env} (hg : h.get lid = some (lpR l st pe ps asg body D n e0)) :
  ∃ n2 z fn tmps,g.β lid=some (l,0,n2,z)∧l<w.heap.size∧w.heap[l]?=some (.loop { state:=st,pending:=pe,fn,tmps,params:=ps,assign:=asg,body,defers:=D })∧tmps.size=n∧∀ t,Rep g (tmps.getD t Go.undef) (e0.get t):=by
 rcases r.blk lid _ hg with ⟨_,fz,z,hh⟩|⟨b,o,n',z,hb,hlt,_,h0,h1,fn,tmps,h2,h3,h4⟩
 ·cases hh
 ·subst h0 h1;exact ⟨n',z,fn,tmps,hb,hlt,h2,h3,h4⟩
theorem loop_set {g : Gh} {w : World} {h : Heap} (r : Rel g w h) {lid l : Nat} {st : LoopState} {pe : Option Code} {ps : Array Tmp} {asg body : Code} {D n : Nat} {e0 : Env} (hg : h.get lid = some (lpR l st pe ps asg body D n e0)) {n2 z : Nat} {fn : FuncId} {tmps : Array Value} (hb : g.β lid = some (l, 0, n2, z)) (hlt : l < w.heap.size) (hn : tmps.size = n) (ht : ∀ t, Rep g (tmps.getD t Go.undef) (e0.get t)) (st' : LoopState) (pe' : Option Code) :
  Rel g (w.putObj l (.loop { state:=st',pending:=pe',fn,tmps,params:=ps,assign:=asg,body,defers:=D })) (h.set lid (lpR l st' pe' ps asg body D n e0))∧Evo g w h g (w.putObj l (.loop { state:=st',pending:=pe',fn,tmps,params:=ps,assign:=asg,body,defers:=D })) (h.set lid (lpR l st' pe' ps asg body D n e0)) :=
 r.set hg rfl hb _ (fun k _ hk=>World.putObj_heap_other hk) (by simp) rfl rfl rfl rfl ⟨rfl,rfl,fn,tmps,World.putObj_heap_same hlt,hn,ht⟩
theorem AY_round {lid l : Nat} {ps : Array Tmp} {asg body : Code} {D n : Nat} {e0 : Env} {args : List PV} {h : Heap} {K : PV → Heap → Prop} (hg : h.get lid = some (lpR l .ready none ps asg body D n e0)) (hps : ps.size = args.length) (hpb : ∀ p ∈ ps.toList, p < n)
  (H:AW P ⟨n,some l,[],fun _ _=>False⟩ asg (fun x e' h'=>x=.normal∧h'.get lid=some (lpR l .ready none ps asg body D n e0)∧AW P ⟨n,some l,[],fun _ _=>False⟩ body (roundQ lid l ps asg body D n e0 K) e' (h'.set lid (lpR l .busy none ps asg body D n e0))) (putPs ps.toList args e0) h) :
  AY P l args h K:=by
 intro g w vals r ha;obtain ⟨n2,z,fn,tmps,hb,hlt,hw,hsz,hrep⟩:=loop_at r hg;have hvl:vals.toList.length=args.length:=by rw [Array.length_toList];exact ha.1
 have hy:=run_yield (P:=P) (args:=vals) hw (by rw [hps];exact ha.1);obtain ⟨k1,k2⟩:=putPs_rep ps.toList vals.toList args tmps e0 hrep hvl (fun j hj=>by
  have:=ha.2 j hj
  simpa [Array.getD_eq_getD_getElem?] using this) (by rw [Array.length_toList];exact hps) (fun p hp=>by rw [hsz];exact hpb p hp)
 have hfold:(ps.zip vals).foldl (fun t (p,v)=>t.setIfInBounds p v) tmps=(ps.toList.zip vals.toList).foldl (fun t (p,v)=>t.setIfInBounds p v) tmps:=by
  rw [← Array.foldl_toList,Array.toList_zip]
 refine ⟨fn,_,asg,body,hy,roundIn_of_wpIn trivial ?_⟩;show asg.wpIn (fw (some l)) 8 P _ _ w;have key:=H g w { tmps:=(ps.zip vals).foldl (fun t (p,v)=>t.setIfInBounds p v) tmps,defers:=[] } r (fun t=>by rw [hfold];exact k1 t) rfl (by rw [hfold];exact k2.trans hsz);have up:∀ {c:Code} {Q:Exit→Act→World→Prop} {a:Act} {w:World},c.wpIn (fw (some l)) 9 P Q a w→c.wpIn (fw (some l)) 8 P Q a w:=fun {c Q a w} hh b k cs hro hb _=>hh b k cs hro hb (room_fw _);refine up (wpIn_mono key ?_);rintro x a1 w1 ⟨g1,e1,h1,⟨rfl,j1,j2⟩,j3,j4,j5,j6,j7⟩;obtain ⟨n3,z3,fn3,tm3,hb3,hlt3,hw3,hsz3,hrep3⟩:=loop_at j3 j1;refine ⟨_,run_beginRound hw3 rfl,?_⟩;obtain ⟨R1,E1⟩:=loop_set j3 j1 (fn:=fn3) hb3 hlt3 hsz3 hrep3 .busy none;refine up (wpIn_mono (j2 g1 _ a1 R1 j4 j5 j6) ?_);rintro x a2 w2 ⟨g2,e2,h2,m1,m2,m3,m4,m5,m6⟩;have ev:=(j7.trans E1).trans m6;have fin : ∀ (jump : Option Code), h2.get lid = some (lpR l .busy none ps asg body D n e0) → K (.bool jump.isNone) (h2.set lid (lpR l (if jump.isNone then .ready else .done) jump ps asg body D n e0)) →
   ∃ v w',(Instr.endRound l jump).run P w2=.ok v w'∧∃ v' p g' h',Ending.returned v=.returned v'∧K p h'∧Rep g' v' p∧Rel g' w' h'∧Evo g w h g' w' h':=by
  intro jump q1 q2;obtain ⟨n4,z4,fn4,tm4,hb4,hlt4,hw4,hsz4,hrep4⟩:=loop_at m2 q1;obtain ⟨R2,E2⟩:=loop_set m2 q1 (fn:=fn4) hb4 hlt4 hsz4 hrep4 (if jump.isNone then .ready else .done) jump;exact ⟨_,_,run_endRound jump hw4,_,_,g2,_,rfl,q2,.bool _,R2,ev.trans E2⟩
 cases x with
 | normal=>exact fin none m1.1 m1.2
 | ret=>exact fin (some .ret) m1.1 m1.2
 | exit id=>exact fin (some (.exit id)) m1.1 m1.2
 | goto t=>exact m1.elim
 | panic c=>exact m1.elim
 | outgrown=>exact m1.elim
theorem get_none_ne:∀ {l:List (Nat×AB)} {k:Nat},HL.get l k=none→∀ x∈l,x.1≠k
 | (i,v)::r,k,h,x,hx=>by
  rw [HL.get] at h;split at h
  ·cases h
  ·rename_i hne;rcases List.mem_cons.1 hx with rfl|hx
   ·exact hne
   ·exact get_none_ne h x hx
theorem le_setN {h0 h:Heap} {k:Nat} {x:AB} (hl:h0.le h) (hn:h0.get k=none):h0.le (h.set k x):=by
 refine ⟨hl.1,?_⟩;have h1:=get_none_ne hn;have h2:=hl.2;clear hn;obtain ⟨l,t⟩:=h0;simp only at h1 h2 ⊢
 induction l with
 | nil=>trivial
 | cons y r ih =>
  obtain ⟨i,v⟩:=y;have hne:i≠k:=h1 (i,v) List.mem_cons_self;refine ⟨?_,ih ⟨hl.1,h2.2⟩ (fun z hz=>h1 z (List.mem_cons_of_mem _ hz)) h2.2⟩;rw [Heap.get_set,if_neg (Ne.symm hne)];exact h2.1
theorem range_core {n : Nat} {gx : Operand} {ps : Array Tmp} {asg body : Code} {va : VA} {gf : FuncId} {cap : List PV} {e : Env} {h : Heap} {C : Exit → Act → World → Prop} {g : Gh} {w : World} {a : Act} (r : Rel g w h) (he : Zah g a e) (hs : a.tmps.size = n) (hg : cA gx = some va) (hv : va.ev e = .fn (.func gf) [] cap)
  (H:∀ l D,Zan P gf (.fn (.yield l) [] []::cap) ((h.push (.dfr D true)).push (lpR l .ready none ps asg body D n e)) (fun _ h' =>
   ∃ st pe h0,st≠.busy∧h'.get (h.top+1)=some (lpR l st pe ps asg body D n e)∧h0.le h'∧h0.get (h.top+1)=none∧match (pe:Option Code) with
    | none=>∀ g3 w5,Rel g3 w5 h0→Zah g3 a e→Evo g w h g3 w5 h0→C .normal { tmps:=a.tmps,defers:={ target:=.collected D,args:=#[] }::a.defers } w5
    | some .ret=>∀ g3 w5,Rel g3 w5 h0→Zah g3 a e→Evo g w h g3 w5 h0→C .ret { tmps:=a.tmps,defers:={ target:=.collected D,args:=#[] }::a.defers } w5
    | some _=>False)) :
  (Code.rangeFunc gx ps asg body).wpIn (fw none) 9 P C a w:=by
 refine wpIn_rangeFunc ?_;intro fn _;have hf:=Zai he hg;rw [hv] at hf;obtain ⟨fs,cs,hval,a1,a2⟩:=hf.fn_inv;have hfs:fs=#[]:=Array.size_eq_zero_iff.1 (by simpa using a1.1);subst hfs;obtain ⟨g1,le1,_,hb1,R1,E1⟩:=r.put none w.heap.size 0 0 0 (.dfr w.heap.size true) (w.alloc (.deferred (some []))) (.inl (Nat.le_refl _)) (fun k hk _=>RowKit.Below.heap_alloc w _ k hk) (by simp) (by simp) rfl rfl rfl rfl (fun g' _=>⟨rfl,rfl,World.alloc_heap_new w _⟩);have hsz1:(w.alloc (.deferred (some []))).heap.size=w.heap.size+1:=by simp
 obtain ⟨g2,le2,_,hb2,R2,E2⟩:=R1.put none (w.heap.size+1) 0 0 0 (lpR (w.heap.size+1) .ready none ps asg body w.heap.size n e) ((w.alloc (.deferred (some []))).alloc (.loop { state:=.ready,pending:=none,fn,tmps:=a.tmps,params:=ps,assign:=asg,body,defers:=w.heap.size })) (.inl (by omega))
  (fun k hk _=>RowKit.Below.heap_alloc _ _ k hk) (by simp) (by simp) rfl rfl rfl rfl (fun g' hl=>⟨rfl,rfl,fn,a.tmps,by have:=World.alloc_heap_new (w.alloc (.deferred (some []))) (.loop { state:=.ready,pending:=none,fn,tmps:=a.tmps,params:=ps,assign:=asg,body,defers:=w.heap.size });rwa [hsz1] at this,hs,fun t=>((he t).mono le1).mono hl⟩)
 have HC:=H (w.heap.size+1) w.heap.size;obtain ⟨W2,hW2⟩:∃ W2,(w.alloc (.deferred (some []))).alloc (.loop { state:=.ready,pending:=none,fn,tmps:=a.tmps,params:=ps,assign:=asg,body,defers:=w.heap.size })=W2:=⟨_,rfl⟩;have hent:(Instr.enterLoop fn a.tmps ps asg body none).run P w=.ok (w.heap.size+1,[{ target:=.collected w.heap.size,args:=#[] }]) W2:=by rw [← hW2];exact run_enterLoop_outer _ _ _ _ _
 rw [hW2] at R2 E2;refine ⟨w.heap.size+1,_,W2,{ target:=.fn (.func gf) cs,args:=#[.func (.yield (w.heap.size+1)) #[] #[]] },W2,gf,#[.func (.yield (w.heap.size+1)) #[] #[]]++cs,W2,hent,?_,fun _ _=>trivial,?_,fun k=>by simp [fw] at k,?_⟩
 ·have heq:a.eval gx=.func (.func gf) #[] cs:=hval;simp only [resolve,heq];simp [go_sem]
 ·simp only [invoke];exact enter_run HC.1 _ _
 ·have hargs : Args g2 (#[.func (.yield (w.heap.size + 1)) #[] #[]] ++ cs) (.fn (.yield (w.heap.size + 1)) [] [] :: cap) := by
   have hA:Args g2 #[Value.func (.yield (w.heap.size+1)) #[] #[]] [.fn (.yield (w.heap.size+1)) [] []]:=⟨rfl,fun j hj=>by
    obtain rfl:j=0:=by simp at hj;omega
    exact .fn _ _ _ _ _ rfl rfl (fun j hj=>by simp at hj) (fun j hj=>by simp at hj)⟩
   exact hA.append ⟨a2.1,fun j hj=>((a2.2 j hj).mono le1).mono le2⟩
  refine callsIn_fw.2 ((HC.2 g2 _ _ R2 hargs).mono ?_);rintro x w3 ⟨v,p,g3,h3,rfl,⟨st,pe,h0,hst,hg3,hle0,hno,hpe⟩,_,R3,E3⟩;obtain ⟨n3,z3,fn3,tm3,hb3,hlt3,hw3,hsz3,hrep3⟩:=loop_at R3 hg3;refine ⟨pe,_,run_endLoop hw3 hst,?_⟩;obtain ⟨R4,E4⟩:=loop_set R3 hg3 (fn:=fn3) hb3 hlt3 hsz3 hrep3 .exhausted pe;have hle4:=le_setN (x:=lpR (w.heap.size+1) .exhausted pe ps asg body w.heap.size n e) hle0 hno;have R5:=R4.weaken hle4;have E5:=((((E1.trans E2).trans E3).trans E4).weakenR hle4);have he5:Zah g3 a e:=he.mono E5.le;cases pe with
  | none=>exact hpe g3 _ R5 he5 E5
  | some c =>
   cases c with
   | ret=>exact wpIn_ret (hpe g3 _ R5 he5 E5)
   | _=>exact hpe.elim
theorem AW_rangeB {N : FK} (hro : N.ro = none) {x y : Code} {id : Nat} {gx : Operand} {ps : Array Tmp} {asg body : Code} {e : Env} {h : Heap} {Q : Exit → Env → Heap → Prop}
  (H:AW P N x (fun ex e h=>ex=.normal∧∃ va gf cap,cA gx=some va∧va.ev e=.fn (.func gf) [] cap∧∀ l D,Zan P gf (.fn (.yield l) [] []::cap) ((h.push (.dfr D true)).push (lpR l .ready none ps asg body D N.n e)) (fun _ h' =>
   ∃ st pe h0,st≠.busy∧h'.get (h.top+1)=some (lpR l st pe ps asg body D N.n e)∧h0.le h'∧h0.get (h.top+1)=none∧match (pe:Option Code) with
    | none=>AW P { N with D:={ target:=.collected D,args:=#[] }::N.D } y (fun x e2 h2=>Q x e2 h2∧x=.ret∧N.X ({ target:=.collected D,args:=#[] }::N.D) h2) e h0
    | some .ret=>Q .ret e h0∧N.X ({ target:=.collected D,args:=#[] }::N.D) h0
    | some _=>False)) e h) :
  AW P N (.seq (.seq x (.block id (.rangeFunc gx ps asg body))) y) Q e h:=by
 intro g w a r he hd hs
 apply wpIn_seq
 apply wpIn_seq
 refine wpIn_mono (H g w a r he hd hs) ?_;rintro ex a1 w1 ⟨g1,e1,h1,⟨rfl,va,gf,cap,hg,hv,HC⟩,r1,he1,hd1,hs1,ev1⟩;have hd1':a1.defers=N.D:=hd1;show (Code.block id _).wpIn _ _ _ _ _ _
 apply wpIn_block
 have hrn:fw N.ro=fw none:=by rw [hro]
 rw [hrn];refine range_core r1 he1 hs1 hg hv fun l D=>(HC l D).mono ?_;rintro p h' ⟨st,pe,h0,q1,q2,q3,q4,q5⟩;refine ⟨st,pe,h0,q1,q2,q3,q4,?_⟩;cases pe with
 | none =>
  intro g3 w5 R3 E3 V3;have:=q5 g3 w5 { tmps:=a1.tmps,defers:={ target:=.collected D,args:=#[] }::a1.defers } R3 E3 (by rw [hd1']) hs1;rw [show ({ N with D:={ target:=.collected D,args:=#[] }::N.D }:FK).ro=N.ro from rfl,hro] at this;show y.wpIn _ _ _ _ _ _;refine wpIn_mono this ?_;rintro x a6 w6 ⟨g6,e6,h6,⟨k1,rfl,k2⟩,k3,k4,k5,k6,k7⟩;refine ⟨g6,e6,h6,k1,k3,k4,.inr ?_,k6,(ev1.trans V3).trans k7⟩;rcases k5 with k5|k5
  ·rw [k5];exact k2
  ·exact k5
 | some c =>
  cases c with
  | ret =>
   intro g3 w5 R3 E3 V3;exact ⟨g3,e1,h0,q5.1,R3,E3,.inr (by show N.X ({ target:=.collected D,args:=#[] }::a1.defers) h0;rw [hd1'];exact q5.2),hs1,ev1.trans V3⟩
  | _=>exact q5.elim
theorem VW_rangeB {N : FK} (hro : N.ro = none) {x y : VC} {id : Nat} {rf : Code} {gx : Operand} {ps : Array Tmp} {asg body : Code} {e : Env} {h : Heap} {Q : Exit → Env → Heap → Prop} (hrf : rf = .rangeFunc gx ps asg body)
  (H:VW P N x (fun ex e h=>ex=.normal∧∃ va gf cap,cA gx=some va∧va.ev e=.fn (.func gf) [] cap∧∀ l D,Zan P gf (.fn (.yield l) [] []::cap) ((h.push (.dfr D true)).push (lpR l .ready none ps asg body D N.n e)) (fun _ h' =>
   ∃ st pe h0,st≠.busy∧h'.get (h.top+1)=some (lpR l st pe ps asg body D N.n e)∧h0.le h'∧h0.get (h.top+1)=none∧match (pe:Option Code) with
    | none=>VW P { N with D:={ target:=.collected D,args:=#[] }::N.D } y (fun x e2 h2=>Q x e2 h2∧x=.ret∧N.X ({ target:=.collected D,args:=#[] }::N.D) h2) e h0
    | some .ret=>Q .ret e h0∧N.X ({ target:=.collected D,args:=#[] }::N.D) h0
    | some _=>False)) e h) :
  VW P N (.seq (.seq x (.block id (.other rf))) y) Q e h:=by
 subst hrf;intro c hc;obtain ⟨x',y',rfl,hx,hy⟩:∃ x' y',c=.seq (.seq x' (.block id (.rangeFunc gx ps asg body))) y'∧Za7 P N.n x'=some x∧Za7 P N.n y'=some y:=by
  have sq:∀ {c:Code} {p q:VC},Za7 P N.n c=some (.seq p q)→∃ p' q',c=.seq p' q'∧Za7 P N.n p'=some p∧Za7 P N.n q'=some q:=by
   intro c p q hc;cases c<;>simp only [Za7,Option.map_eq_some_iff] at hc
   case seq a b =>
    split at hc
    ·rename_i h1 h2;simp only [Option.some.injEq,VC.seq.injEq] at hc;obtain ⟨rfl,rfl⟩:=hc;exact ⟨a,b,rfl,h1,h2⟩
    ·cases hc
   case cond=>split at hc<;>simp at hc
   case region=>(repeat' (split at hc))<;>simp at hc
   all_goals simp at hc
  obtain ⟨p,q,rfl,h1,h2⟩:=sq hc;obtain ⟨p1,q1,rfl,h3,h4⟩:=sq h1;obtain ⟨b,rfl,h5⟩:∃ b,q1=.block id b∧Za7 P N.n b=some (.other (.rangeFunc gx ps asg body)):=by
   cases q1<;>simp only [Za7,Option.map_eq_some_iff] at h4
   case block id' a =>
    obtain ⟨z,k1,k2⟩:=h4;simp only [VC.block.injEq] at k2;obtain ⟨rfl,rfl⟩:=k2;exact ⟨a,rfl,k1⟩
   case seq=>split at h4<;>simp at h4
   case cond=>split at h4<;>simp at h4
   case region=>(repeat' (split at h4))<;>simp at h4
   all_goals simp at h4
  have hb:b=.rangeFunc gx ps asg body:=by
   cases b<;>simp only [Za7,Option.map_eq_some_iff] at h5
   case seq=>split at h5<;>simp at h5
   case cond=>split at h5<;>simp at h5
   case region=>(repeat' (split at h5))<;>simp at h5
   case rangeFunc=>simpa using h5
   all_goals simp at h5
  subst hb;exact ⟨p1,q,rfl,h3,h2⟩
 refine AW_rangeB hro ((H x' hx).mono ?_);rintro ex e1 h1 ⟨rfl,va,gf,cap,k1,k2,k3⟩;refine ⟨rfl,va,gf,cap,k1,k2,fun l D=>(k3 l D).mono ?_⟩;rintro p h' ⟨st,pe,h0,q1,q2,q3,q4,q5⟩;refine ⟨st,pe,h0,q1,q2,q3,q4,?_⟩;cases pe with
 | none=>exact q5 y' hy
 | some c=>cases c with
  | ret=>exact q5
  | _=>exact q5.elim
def findR:Code→Option Code
 | .rangeFunc f ps a b=>some (.rangeFunc f ps a b)
 | .seq a b=>match findR a with
  | some c=>some c
  | none=>findR b
 | .cond _ a b=>match findR a with
  | some c=>some c
  | none=>findR b
 | .block _ c=>findR c
 | .loop c=>findR c
 | .scope c=>findR c
 | _=>none
def rfIn (f:Func):Code:=match f.body with
 | some c=>(findR c).getD .skip
 | none=>.skip
def rfAsg:Code→Code
 | .rangeFunc _ _ a _=>a
 | c=>c
def rfBody:Code→Code
 | .rangeFunc _ _ _ b=>b
 | c=>c
def markX (d:List Deferred) (h:Heap):Prop:=∃ id D,h.get id=some (.dfr D true)∧d=[{ target:=.collected D,args:=#[] }]
def FK.mark (n:Nat):FK:=⟨n,none,[],markX⟩
theorem env_args {g:Gh} {vals:Array Value} {args:List PV} (ha:Args g vals args) (n:Nat):Zah g { tmps:=vals++Array.replicate (n-vals.size) Go.undef,defers:=[] } (argEnv 0 args):=by
 intro t;rw [argEnv_get];by_cases h1:0≤t∧t<0+args.length
 ·rw [if_pos h1];have hlt:t<vals.size:=by rw [ha.1];omega
  have e1:(vals++Array.replicate (n-vals.size) Go.undef).getD t Go.undef=vals.getD t Go.undef:=by
   simp [Array.getD_eq_getD_getElem?,Array.getElem?_append_left hlt]
  show Rep g ((vals++Array.replicate (n-vals.size) Go.undef).getD t Go.undef) _;rw [e1];exact ha.2 t (by omega)
 ·rw [if_neg h1];exact .any _
theorem cells_dfr {h:Heap} {id D:Nat} {o o':Bool} (hg:h.get id=some (.dfr D o)) (p:PV):Za2 (h.set id (.dfr D o')) p=Za2 h p:=by
 cases p with
 | loc i k q =>
  simp only [Za2];by_cases e:id=i
  ·subst e;rw [Heap.get_set,if_pos rfl,hg];rfl
  ·rw [Heap.get_set,if_neg e]
 | _=>rfl
theorem lok_dfr {h:Heap} {id D:Nat} {o o':Bool} (hg:h.get id=some (.dfr D o)) {p:PV} (ho:locOk h p):locOk (h.set id (.dfr D o')) p:=by
 cases p with
 | loc i k q =>
  simp only [locOk] at ho ⊢;by_cases e:id=i
  ·subst e;rw [hg] at ho;exact ho.elim
  ·rw [Heap.get_set,if_neg e];exact ho
 | _=>exact ho
theorem resOk_d {e:Env} {h:Heap} {id D:Nat} {o o':Bool} (hg:h.get id=some (.dfr D o)):∀ {ts:List RS},resOk e h ts→resOk e (h.set id (.dfr D o')) ts
 | [],_=>trivial
 | .t _::r,H=>⟨trivial,resOk_d hg H.2⟩
 | .c n g s::r,H=>⟨⟨lok_dfr hg H.1.1,by rw [cells_dfr hg];exact H.1.2.1,H.1.2.2⟩,resOk_d hg H.2⟩
theorem rsEv_d {e:Env} {h:Heap} {id D:Nat} {o o':Bool} (hg:h.get id=some (.dfr D o)):∀ x:RS,x.ev e (h.set id (.dfr D o'))=x.ev e h
 | .t _=>rfl
 | .c n g s=>by unfold RS.ev;simp only [];rw [cells_dfr hg]
theorem resV_d {e:Env} {h:Heap} {id D:Nat} {o o':Bool} (hg:h.get id=some (.dfr D o)) (ts:List RS):resV e (h.set id (.dfr D o')) ts=resV e h ts:=by
 have hm:∀ ts:List RS,ts.map (RS.ev e (h.set id (.dfr D o')))=ts.map (RS.ev e h):=fun ts=>List.map_congr_left fun x _=>rsEv_d hg x;unfold resV;split
 ·exact rsEv_d hg _
 ·rw [hm]
def unmark (K:PV→Heap→Prop) (p:PV) (h:Heap):Prop:=∃ h0:Heap,h0.le h∧(∀ id D o,h.get id=some (.dfr D o)→h0.get id=none)∧K p h0
theorem ACall_fnR {f : FuncId} {fn : Func} {c : Code} {vc : VC} {ts : List RS} {args : List PV} {h : Heap} {K : PV → Heap → Prop} (hf : P.funcs[f]? = some fn) (hok : fnOk P f = true) (hb : fn.body = some c) (hr : rsOf P fn.results.toList = some ts)
  (hn:args.length≤fn.ntmps) (hc:Za7 P fn.ntmps c=some vc) (H:VW P (FK.mark fn.ntmps) vc (retQ ts (unmark K)) (argEnv 0 args) h):Zan P f args h K:=by
 refine ⟨hok,fun g w vals r ha=>?_⟩;refine (callsIn_fw (ro:=none) (n:=9)).1 (callsIn_of_wp_marks hf hb trivial ?_ rfl);refine wpIn_mono (H c hc g w _ r (env_args ha _) rfl (by simp [ha.1,FK.mark];omega)) fun x a' w' ⟨g',e',h',k1,k2,k3,k4,k5,k6⟩=>?_;have fin:∀ d,a'.defers=d→(d=[]∨markX d h')→resOk e' h' ts∧unmark K (resV e' h' ts) h'→LeavesInM (fw none) 9 P fn a'.tmps (fun x w'=>∃ v p g' h',x=.returned v∧K p h'∧Rep g' v p∧Rel g' w' h'∧Evo g w h g' w' h') d .returning w':=by
  rintro d hd hk ⟨ho,h0,hl,hm,hK⟩;have key:∀ w2 h2,Rel g' w2 h2→Evo g w h g' w2 h2→resOk e' h2 ts→resV e' h2 ts=resV e' h' ts→h0.le h2→∃ v,(results fn a'.tmps).run P w2=.ok v w2∧∃ v' p g' h',Ending.returned v=.returned v'∧K p h'∧Rep g' v' p∧Rel g' w2 h'∧Evo g w h g' w2 h':=by
   intro w2 h2 q1 q2 q3 q4 q5;obtain ⟨v,hv,hrep⟩:=results_run (P:=P) (w:=w2) hr q1 k3 q3;exact ⟨v,hv,v,_,g',h0,rfl,hK,by rw [← q4];exact hrep,q1.weaken q5,q2.weakenR q5⟩
  rcases hk with rfl|⟨id,D,hg,rfl⟩
  ·exact key w' h' k2 k6 ho rfl hl
  ·refine ⟨by simp,.inl ?_⟩;rcases k2.blk id _ hg with ⟨_,fz,z,hh⟩|⟨b,o,n',z,hb',hlt,_,q1,q2,q3⟩
   ·cases hh
   ·subst q1 q2;have q3':w'.heap[b]?=some (.deferred (some [])):=q3;obtain ⟨R2,E2⟩:=k2.set (ab:=.dfr b false) hg rfl hb' (w'.putObj b (.deferred none)) (fun k _ hk=>World.putObj_heap_other hk) (by simp) rfl rfl rfl rfl ⟨rfl,rfl,World.putObj_heap_same hlt⟩;refine ⟨b,_,rfl,run_takeDeferred q3',?_⟩;refine key _ _ R2 (k6.trans E2) ?_ ?_ (le_setN hl (hm _ _ _ hg))
    ·exact resOk_d hg ho
    ·exact resV_d hg ts
 cases x with
 | normal=>exact fin _ rfl (.inl k4) k1
 | ret=>exact fin _ rfl k4 k1
 | exit id=>exact k1.elim
 | goto l=>exact k1.elim
 | panic ch=>exact k1.elim
 | outgrown=>exact k1.elim
end Go.VM
namespace Go.VM
open Go
section
variable {P : Program} {N : FK} {o : Oper} {e : Env} {h : Heap} {K : PV → Heap → Prop}
theorem VW.weakenH {c:VC} {Q:Exit→Env→Heap→Prop} {h':Heap} (hh:h'.le h) (H:VW P N c Q e h'):VW P N c Q e h :=
 fun x hx g w a r er hd hs=>wpIn_mono (H x hx g w a (r.weaken hh) er hd hs) fun _ _ _ ⟨g',e2,h2,k1,k2,k3,k4,k5,k6⟩=>⟨g',e2,h2,k1,k2,k3,k4,k5,k6.weakenL hh⟩
theorem AY.drop {l:Nat} {args:List PV} (H:AY P l args h (fun p h'=>∃ h0:Heap,h0.le h'∧K p h0)):AY P l args h K:=by
 intro g w vals r ha;obtain ⟨fn,tmps,asg,body,h1,h2⟩:=H g w vals r ha;exact ⟨fn,tmps,asg,body,h1,h2.mono fun x w' ⟨v,p,g',h',k1,⟨h0,hl,hk⟩,k3,k4,k5⟩=>⟨v,p,g',h0,k1,hk,k3,k4.weaken hl,k5.weakenR hl⟩⟩
theorem cX_ncv {va:VA} {l:List VA}:cX P o≠some (.callv va l):=by
 intro h;have:=cX_ext h;simp [VOp.isX] at this
theorem callv_src {va:VA} {vas:List VA} (hc:cOp P o=some (.callv va vas)):∃ x as ats,o.op=.call { callee:=.value x,args:=as,argTypes:=ats }∧cA x=some va∧cAs as.toList=some vas:=by
 unfold cOp at hc;split at hc
 ·simp at hc
 split at hc
 ·simp at hc
 split at hc
 ·rename_i vo hx;simp only [Option.some.injEq] at hc;subst hc;exact absurd hx cX_ncv
 rename_i hno;clear hno;split at hc
 ·rename_i v hv;simp only [Option.some.injEq] at hc;subst hc;obtain ⟨dst,op,type,pos,after,guard⟩:=o;cases op
  case call c =>
   obtain ⟨callee,as,ats⟩:=c;simp only [cOp0,cCall] at hv;split at hv
   case h_7 x _ _ hcal =>
    split at hv
    ·rename_i a l h1 h2;simp only [Option.some.injEq,VOp.callv.injEq] at hv;obtain ⟨rfl,rfl⟩:=hv;exact ⟨x,_,_,congrArg Op.call (by rw [← hcal]),h1,h2⟩
    ·cases hv
   all_goals first
    |(cases hv;done)
    |((repeat' (split at hv))<;>first|(cases hv;done)|(obtain ⟨_,_,hq⟩:=Zad hv;cases hq;done)|trace_state)
  all_goals (simp only [cOp0] at hv;first
   |(cases hv;done)
   |(simp at hv;done)
   |((repeat' (split at hv))<;>first|(cases hv;done)|(obtain ⟨_,_,hq⟩:=Zad hv;cases hq;done)|contradiction))
 ·simp at hc
def StepY (P:Program) (e:Env) (h:Heap) (op:VOp) (K:PV→Heap→Prop):Prop :=
 match op with
 | .callv f args=>(match f.ev e with
  | .fn (.func f) first cap=>Zan P f (first++args.map (VA.ev e)++cap) h K
  | .fn (.yield l) [] []=>AY P l (args.map (VA.ev e)) h K
  | _=>False)
 | op=>Zam P e h op K
def OpsY (P:Program):List VOper→(Env→Heap→Prop)→Env→Heap→Prop
 | [],K,e,h=>K e h
 | o::r,K,e,h=>match o.guard with
  | none=>StepY P e h o.op (fun v h'=>OpsY P r K (e.put o.dst v) h')
  | some _=>False
theorem stepY_sound {vop:VOp} (hc:cOp P o=some vop) (hs:StepY P e h vop K):OpS P o e h K:=by
 by_cases hv:∃ f args,vop=.callv f args
 ·obtain ⟨f,args,rfl⟩:=hv;simp only [StepY] at hs;split at hs
  ·rename_i g first cap hf
   exact stepW_sound hc (by simp only [Zam];rw [hf];exact hs)
  ·rename_i l hf;obtain ⟨x,as,ats,h1,h2,h3⟩:=callv_src hc;exact OpS_yield h1 h2 hf h3 hs
  ·exact hs.elim
 ·have : Zam P e h vop K := by
   cases vop<;>first|exact hs|exact absurd ⟨_,_,rfl⟩ hv
  exact stepW_sound hc this
theorem ops_soundY {ops : Array Oper} {Q : Exit → Act → World → Prop} {K : Env → Heap → Prop} {g0 : Gh} {w0 : World} {h0 : Heap}
    (hQ:∀ g w h a e,K e h→Rel g w h→Zah g a e→a.defers=N.D→a.tmps.size=N.n→Evo g0 w0 h0 g w h→Q .normal a w) :
    ∀ (l:List Oper) (q:List VOper) (k:Nat) (e:Env) (h:Heap),(∀ j,l[j]?=ops[k+j]?)→cOpers P N.n ops l=some q→OpsY P q K e h →
      ∀ g w a,Rel g w h→Zah g a e→a.defers=N.D→a.tmps.size=N.n→Evo g0 w0 h0 g w h→wpOpsIn (fw N.ro) 9 P ops Q ((List.range l.length).map (k+·)) a w
  | [],q,k,e,h,_,hc,hw,g,w,a,r,he,hd,hs,hev=>by
    simp only [cOpers,Option.some.injEq] at hc;subst hc;exact hQ g w h a e hw r he hd hs hev
  | o::l,q,k,e,h,hl,hc,hw,g,w,a,r,he,hd,hs,hev=>by
    have h0:ops[k]?=some o:=by simpa using (hl 0).symm
    have hl':∀ j,l[j]?=ops[(k+1)+j]?:=fun j=>by have:=hl (j+1);simpa [Nat.add_assoc,Nat.add_comm 1 j] using this
    simp only [cOpers] at hc;split at hc
    case h_2=>cases hc
    rename_i op gu qs h1 h2 h3;have hdn:(dstB N.n o.dst&&ndB o.op)=true:=by
      by_cases hh:(dstB N.n o.dst&&ndB o.op)=true
      · exact hh
      · rw [if_neg hh] at hc;cases hc
    rw [if_pos hdn] at hc;obtain ⟨hdst,hnd⟩:=Bool.and_eq_true_iff.1 hdn;simp only [Option.some.injEq] at hc;subst hc;have hdlt:∀ t,o.dst=some t→t<a.tmps.size:=by
      intro t ht;rw [ht] at hdst;rw [hs];simpa [dstB] using hdst
    have hlist:(List.range (o::l).length).map (k+·)=k::(List.range l.length).map ((k+1)+·):=by
      simp only [List.length_cons,List.range_succ_eq_map,List.map_cons,Nat.add_zero,List.map_map]
      congr 1
      apply List.map_congr_left
      intro x _;simp only [Function.comp];omega
    rw [hlist,wpOpsIn_cons];unfold wpOpIn;simp only [h0];have next : ∀ (v : Value) (pv : PV) (g' : Gh) (w' : World) (h' : Heap), OpsY P qs K (e.put o.dst pv) h' → Rep g' v pv → Rel g' w' h' → Evo g w h g' w' h' →
        wpOpsIn (fw N.ro) 9 P ops Q ((List.range l.length).map ((k+1)+·)) (a.put o.dst v) w':=by
      intro v pv g' w' h' hk hv hr hev';exact ops_soundY hQ l qs (k+1) _ _ hl' h3 hk g' w' _ hr ((he.mono hev'.le).put hv hdlt) (by rw [(put_size a o.dst v).2];exact hd) (by rw [(put_size a o.dst v).1];exact hs) (hev.trans hev')
    have run:StepY P e h op (fun v h'=>OpsY P qs K (e.put o.dst v) h')→o.wpIn (fw N.ro) 9 P a w (wpOpsIn (fw N.ro) 9 P ops Q ((List.range l.length).map ((k+1)+·))) Q :=
      fun hsw=>op_in hnd (stepY_sound h1 hsw g w a _ Q r he next)
    simp only [OpsY] at hw;unfold Region.wanted;cases hog:o.guard with
    | none =>
      rw [hog] at h2;simp only [cGuard,Option.some.injEq] at h2;subst h2;simp only [if_true];exact run hw
    | some jw =>
      obtain ⟨j,want⟩:=jw;rw [hog] at h2;simp only [cGuard] at h2;split at h2
      case h_2=>cases h2
      simp only [Option.some.injEq] at h2;subst h2;exact hw.elim
theorem VW_regionY {Q:Exit→Env→Heap→Prop} {q:List VOper} (l:List Nat) (H:OpsY P q (fun e' h'=>Q .normal (Env.keep l e') h') e h):VW P N (.region q false) Q e h:=by
 intro c hc;cases c
 case region id ops draw =>
  obtain ⟨p,h3,h|h|h⟩:=Zbd hc
  ·obtain ⟨rfl,h⟩:=h;simp only [VC.region.injEq,and_true] at h;subst h;intro g w a r he hd hs
   apply wpIn_region
   have:=ops_soundY (P:=P) (N:=N) (ops:=ops) (Q:=fun x a' w'=>∃ g' e' h',Q x e' h'∧Rel g' w' h'∧Zah g' a' e'∧N.dok x a'.defers h'∧a'.tmps.size=N.n∧Evo g w h g' w' h') (K:=fun e' h'=>Q .normal (Env.keep l e') h') (g0:=g) (w0:=w) (h0:=h)
    (fun g' w' h' a' e' k1 k2 k3 k4 k5 k6=>⟨g',_,h',k1,k2,k3.keep l,k4,k5,k6⟩) ops.toList q 0 e h (fun j=>by simp) h3 H g w a r he hd hs (Evo.refl _ _ _)
   simpa using this
  ·rcases h.2.2 with ⟨_,h⟩|h<;>simp at h
  ·obtain ⟨c,h⟩:=h;cases h
 all_goals
  simp only [Za7,Option.map_eq_some_iff] at hc
  first
  |(simp at hc;done)
  |(split at hc<;>simp at hc)
end
end Go.VM
