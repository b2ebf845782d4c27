import Derived.Test.YtjmekckcffckoaaDoorVm8
import Derived.Lib.Builder
import Derived.Lib.AppendStr
import Derived.Lib.UnsafeStr
import Derived.Test.YtjmekckcffckoaaDoorVmQ
set_option linter.all false
namespace Go.VM
open Go Go.RowKit
variable {P : Program} {o : Oper} {e : Env} {h : Heap} {K : PV → Heap → Prop}
theorem Rel.kill {g : Gh} {w : World} {h : Heap} (r : Rel g w h) {id b0 o n z : Nat} {ab0 : AB} (hg : h.get id = some ab0) (hl0 : ab0.live = true) (hβ : g.β id = some (b0, o, n, z)) (w' : World)
    (hw:∀ k,k < w.heap.size → k ≠ b0 → w'.heap[k]? = w.heap[k]?) (hsz:w.heap.size ≤ w'.heap.size) (ho:w'.os = w.os) (ht:w'.tape = w.tape) (hout:w'.output = w.output):Rel g w' (h.del id) ∧ Evo g w h g w' (h.del id):=by
  have hno:g.free b0:=by
    rcases r.blk id ab0 hg with ⟨hn,_⟩ | ⟨b,o',n',z',hb,_,hm,_⟩
    · rw [hβ] at hn; cases hn
    · rw [hβ] at hb; simp only [Option.some.injEq,Prod.mk.injEq] at hb; obtain ⟨rfl,_⟩:=hb; exact hm hl0
  have hget:∀ i ab',(h.del id).get i = some ab' → i ≠ id ∧ h.get i = some ab':=by
    intro i ab' e
    rw [Heap.get_del] at e
    split at e
    · cases e
    · rename_i hi; exact ⟨fun h=>hi h.symm,e⟩
  refine ⟨⟨fun b x v e=>r.cell_move (.inr hno) hw b x v e,fun b e he=>r.map_move (.inr hno) hw b e he,fun i hi=>⟨(r.fin i hi).1,?_⟩,?_,?_⟩,⟨g.le_refl,ho,ht,hout,hsz,?_,fun b o v e=>.inl e,fun b e he=>.inl he,?_⟩⟩
  · rw [Heap.get_del]
    split
    · rfl
    · exact (r.fin i hi).2
  · intro i ab' e
    obtain ⟨hi,e1⟩:=hget i ab' e
    rcases r.blk i ab' e1 with h1 | ⟨b,o',n',z',hb,hlt',hm,hokk⟩
    · exact .inl h1
    · refine .inr ⟨b,o',n',z',hb,by omega,hm,AB.ok_move hokk g.le_refl (hw b hlt' (fun heq=>?_))⟩
      exact r.apart id i _ _ ab0 ab' (Ne.symm hi) hg e1 (by simp [hl0]) hβ hb (by rw [heq])
  · intro i i' x x' abi abi' hne e e' hl hx hx'
    exact r.apart i i' x x' abi abi' hne (hget i abi e).2 (hget i' abi' e').2 hl hx hx'
  · intro b hb hnot
    exact hw b hb (fun heq=>hnot ⟨id,ab0,_,hg,hl0,hβ,by rw [heq]⟩)
  · rintro b ⟨i,ab',x,e,hl,hx,rfl⟩
    exact .inl ⟨i,ab',x,(hget i ab' e).2,hl,hx,rfl⟩
def Zay (s:List UInt8):List Value:=s.map fun c=>Value.int .u8 c.toNat
theorem OpS_newB {t:TypeId} (ho:o.op = .alloc t) (hz:(P.info? t).bind (·.zero) = some (.agg #[.pointer none,.slice none 0 0])) (H:K (.loc h.top 0 0) (h.push (.bld t 0 none))):OpS P o e h K:=by
  refine OpS.of_value fun g w a r he=>?_
  obtain ⟨i,hi,hv⟩:=Option.bind_eq_some_iff.1 hz
  obtain ⟨g',f2,_,f3,f4,f5⟩:=r.put none w.heap.size 0 2 2 (.bld t 0 none) { w with heap:=w.heap.push (.cells #[.pointer none,.slice none 0 0] t (0,0)) }
    (.inl (Nat.le_refl _)) (fun k hk _=>new_old _ _ hk) (by rw [new_size]; omega) (by rw [new_size]; omega) rfl rfl rfl rfl (fun g' hg'=>⟨rfl,_,_,new_new _ _,.inl rfl,rfl,rfl⟩)
  refine ⟨_,_,g',_,_,?_,H,.loc h.top 0 0 w.heap.size 0 2 2 ⟨w.heap.size,0,none⟩ f3 (by simp),f4,f5⟩
  simp [execOp,ho,Instr.alloc,run_zero hi hv,newVar,newRow,Value.cells]
theorem builder_at {g : Gh} {w : World} (r : Rel g w h) {id k : Nat} {T el : TypeId} {bf : Option Nat} {s : List UInt8} (hg : h.get id = some (.bld T k bf)) (hk : k = s.length) (hs : ∀ i2, bf = some i2 → h.get i2 = some (.buf el s)) (hne : ∀ i2, bf = some i2 → i2 ≠ id) :
    ∃ b n z p v,g.β id = some (b,0,n,z) ∧ b < w.heap.size ∧ w.heap[b]? = some (.cells #[p,v] T (0,0)) ∧ (p = .pointer none ∨ p = .pointer (some ⟨b,0,none⟩)) ∧ w.ownsRow 0 el 1 v s.length (Zay s) ∧ v.ownBlock ≠ some b ∧
      (bf = none ↔ v = .slice none 0 0) ∧ ∀ i2,bf = some i2 → ∃ gb cap,g.β i2 = some (gb,0,cap,1) ∧ v.ownBlock = some gb:=by
  subst hk
  rcases r.blk id _ hg with ⟨_,fz,z,hh⟩ | ⟨b,o,n,z,hb,hlt,hlive,hok⟩
  · cases hh
  obtain ⟨rfl,p,v,h1,h2,h3⟩:=hok
  refine ⟨b,n,z,p,v,hb,hlt,h1,h2,?_⟩
  cases bf with
  | none =>
    obtain ⟨rfl,h4⟩:=h3
    refine ⟨⟨by simp [Zay],.inl ⟨rfl,h4⟩⟩,by simp [Value.ownBlock],by simp,fun i2 h=>by cases h⟩
  | some i2 =>
    obtain ⟨gb,cap,e1,rfl,e2,e3⟩:=h3
    have hb2:=hs i2 rfl
    rcases r.blk i2 _ hb2 with ⟨_,fz,z',hh⟩ | ⟨b',o',n',z',hb',hlt',hlive',hok'⟩
    · cases hh
    rw [e1] at hb'
    simp only [Option.some.injEq,Prod.mk.injEq] at hb'
    obtain ⟨rfl,rfl,rfl,rfl⟩:=hb'
    obtain ⟨_,k1,k2,cur,k3,k4,k5⟩:=hok'
    refine ⟨⟨by simp [Zay],.inr ⟨gb,cap,cur,rfl,Nat.zero_le _,k3,e2,e3,by omega,by simpa [Zay] using k5⟩⟩,?_,by simp,fun i2' h=>?_⟩
    · simp only [Value.ownBlock,ne_eq,Option.some.injEq]
      exact fun hh=>r.apart i2 id _ _ _ _ (hne i2 rfl) hb2 hg rfl e1 hb hh
    · cases h; exact ⟨gb,cap,e1,rfl⟩
structure Wrote (T el : TypeId) (b : Nat) (p v : Value) (bs news : List Value) (w w' : World) : Prop where
  ex : ∃ v2 w1 w2, (w1 = w ∨ w1 = w.setCell ⟨b, 0, none⟩ (.pointer (some ⟨b, 0, none⟩))) ∧ w1.heap[b]? = some (.cells #[.pointer (some ⟨b, 0, none⟩), v] T (0, 0)) ∧ w1.grownBy w2 v.ownBlock ∧ w2.ownsRow 0 el 1 v2 (bs.length + news.length) (bs ++ news) ∧
    (v2 = .slice none 0 0 ↔ v = .slice none 0 0 ∧ news.length = 0) ∧ (∀ k, v2.ownBlock = some k → v.ownBlock = some k ∨ w1.heap.size ≤ k) ∧ w' = w2.setCell ⟨b, 1, none⟩ v2
theorem run_append_own_string2 (w : World) (t u ty e : TypeId) (i : TypeInfo) (ht : P.underlying t = some (.slice e)) (hu : P.underlying u = some .string) (hi : P.info? e = some i) (hz : i.zero = some (.int .u8 0))
    (hsize:i.size = 1) (hby:i.bytes = 1) (v:Value) (n:Nat) (xs:List Value) (hown:w.ownsRow 0 e 1 v n xs) (s:ByteArray) (h63:n + s.size ≤ maxLen) (hbytes:n + s.size ≤ 140737488355328) :
    ∃ v' w',(Builtin.append_ #[t,u] ty #[v,.string s]).run P w = .ok v' w' ∧ w'.ownsRow 0 e 1 v' (n + s.size) (xs ++ Lib.strCells s) ∧ w.grownBy w' v.ownBlock ∧
      (v' = .slice none 0 0 ↔ v = .slice none 0 0 ∧ s.size = 0) ∧ ∀ k,v'.ownBlock = some k → v.ownBlock = some k ∨ w.heap.size ≤ k:=by
  obtain ⟨v',w',hr,h1,h2,h3⟩:=Lib.run_append_own_string (P:=P) w 0 t u ty e i ht hu hi hz hsize hby v n xs hown s h63 hbytes (Nat.zero_le _)
  refine ⟨v',w',hr,h1,h2,h3,fun k hk=>?_⟩
  have hxl:xs.length = n:=by simpa using hown.1
  rcases hown.2 with ⟨rfl,rfl⟩ | ⟨g,cap,cur,rfl,hbg,hg,hnc,hcm,hcs,htake⟩
  · have hx:xs = []:=List.eq_nil_of_length_eq_zero hxl
    subst hx
    obtain ⟨v3,w3,hr3,k1,k2,k3⟩:=Lib.run_append_own_string (P:=P) w w.heap.size t u ty e i ht hu hi hz hsize hby (.slice none 0 0) 0 [] (World.ownsRow_nil _ _ _ _) s h63 hbytes (Nat.le_refl _)
    rw [hr] at hr3
    simp only [Result.ok.injEq] at hr3
    obtain ⟨rfl,rfl⟩:=hr3
    exact .inr (k1.lt k hk).1
  · by_cases hroom:n + s.size ≤ cap
    · have hcs':cur.size = cap:=by simpa using hcs
      have hr3:=Lib.run_append_room_string (P:=P) w t u ty e i ht hu hi hsize g n cap cur hg s hroom (by omega)
      rw [hr] at hr3
      simp only [Result.ok.injEq] at hr3
      obtain ⟨rfl,rfl⟩:=hr3
      exact .inl hk
    · have holds:∀ j u,xs[j]? = some u → w.cell? ((⟨g,0,none⟩:Addr).add j) = some u:=hown.cells (g:=g) rfl
      have hr3:=Lib.run_append_grow_string (P:=P) w t u ty e i (.int .u8 0) ht hu hi hz ⟨g,0,none⟩ n cap xs (by rw [hsize]; simpa using hxl) holds s (by omega) (by omega) (by rw [hby]; exact growslice_fits (by omega) (by omega))
      rw [hr] at hr3
      simp only [Result.ok.injEq] at hr3
      obtain ⟨rfl,rfl⟩:=hr3
      simp only [Value.ownBlock,Option.some.injEq] at hk
      exact .inr (by omega)
theorem wpList_append_own_string2 {ops : Array Oper} {rest : List Oper} {o : Oper} {a : Act} {w : World} {Q : Exit → Act → World → Prop} (hgd : o.guard = none) (sl x : Operand) (t u : TypeId)
    (ho:o.op = .call { callee:=.builtin .append,args:=#[sl,x],argTypes:=#[t,u] })
    (e:TypeId) (i:TypeInfo) (ht:P.underlying t = some (.slice e)) (hu:P.underlying u = some .string) (hi:P.info? e = some i) (hz:i.zero = some (.int .u8 0))
    (hsize:i.size = 1) (hby:i.bytes = 1)
    (v:Value) (n:Nat) (xs:List Value) (hs:a.eval sl = v) (hown:w.ownsRow 0 e 1 v n xs) (s:ByteArray) (hx:a.eval x = .string s)
    (h63:n + s.size ≤ maxLen) (hbytes:n + s.size ≤ 140737488355328)
    (h:∀ v' w',w'.ownsRow 0 e 1 v' (n + s.size) (xs ++ Lib.strCells s) → w.grownBy w' v.ownBlock → (v' = .slice none 0 0 ↔ v = .slice none 0 0 ∧ s.size = 0) → (∀ k,v'.ownBlock = some k → v.ownBlock = some k ∨ w.heap.size ≤ k) → wpList P ops Q rest (a.put o.dst v') w'):wpList P ops Q (o :: rest) a w:=by
  refine wpList_plain hgd fun K hK=>?_
  obtain ⟨v',w',hr,h2,h3,h4,h5⟩:=run_append_own_string2 (P:=P) w t u o.type e i ht hu hi hz hsize hby v n xs hown s h63 hbytes
  unfold Oper.wp execOp
  simp only [ho,resolve,invoke,builtin,Sem.run_bind,Sem.run_pure,Result.andThen_ok,List.map_toArray,List.map_cons,List.map_nil,hs,hx,hr]
  exact hK _ _ (h v' w' h2 h3 h4 h5)
end Go.VM
namespace Go.VM
open Go Go.RowKit
variable {P : Program} {o : Oper} {e : Env} {h : Heap} {K : PV → Heap → Prop}
def bufL (el:TypeId) (bf:Option Nat) (s:List UInt8):List (Nat × AB) :=
  match bf with
  | none=>[]
  | some i=>[(i,.buf el s)]
def bldH (id:Nat) (T el:TypeId) (bf:Option Nat) (s:List UInt8) (top:Nat):Heap:=⟨bufL el bf s ++ [(id,.bld T s.length bf)],top⟩
structure BldOk (id : Nat) (bf : Option Nat) (s : List UInt8) (top : Nat) : Prop where
  lt : id < top
  buf : ∀ i, bf = some i → i ≠ id ∧ i < top
  nil : bf = none ↔ s = []
theorem BldOk.mono {id:Nat} {bf:Option Nat} {s:List UInt8} {t t':Nat} (h:BldOk id bf s t) (ht:t ≤ t'):BldOk id bf s t' :=
  ⟨Nat.lt_of_lt_of_le h.lt ht,fun i e=>⟨(h.buf i e).1,Nat.lt_of_lt_of_le (h.buf i e).2 ht⟩,h.nil⟩
theorem bldH_get {id:Nat} {T el:TypeId} {bf:Option Nat} {s:List UInt8} {top:Nat} (ok:BldOk id bf s top):(bldH id T el bf s top).get id = some (.bld T s.length bf):=by
  cases bf with
  | none=>simp [bldH,bufL,Heap.get,HL.get]
  | some i=>simp [bldH,bufL,Heap.get,HL.get,(ok.buf i rfl).1]
theorem bldH_buf {id:Nat} {T el:TypeId} {s:List UInt8} {top i:Nat}:(bldH id T el (some i) s top).get i = some (.buf el s):=by
  simp [bldH,bufL,Heap.get,HL.get]
theorem BldOk.new (id top:Nat) (h:id < top):BldOk id none [] top:=⟨h,fun i e=>(by cases e),by simp⟩
theorem Rep.locB_inv {g:Gh} {v:Value} {id i off:Nat} (h:Rep g v (.loc id i off)):∃ b o n z,g.β id = some (b,o,n,z) ∧ v = .pointer (some ⟨b,o + i * z + off,none⟩):=by
  cases h with
  | loc _ _ _ b o n z a hb ha=>exact ⟨b,o,n,z,hb,by rw [ha]⟩
theorem Rep.strB_inv {g:Gh} {v:Value} {l:List UInt8} (h:Rep g v (.str l)):∃ s:ByteArray,v = .string s ∧ s.data.toList = l:=by
  cases h with
  | str s _ h=>exact ⟨s,rfl,h⟩
theorem strCells_byteVals (s:ByteArray):Lib.strCells s = Zay s.data.toList:=rfl
theorem args_one {g:Gh} {vals:Array Value} {p:PV} (h:Args g vals [p]):∃ v,vals = #[v] ∧ Rep g v p:=by
  obtain ⟨h1,h2⟩:=h
  obtain ⟨v,rfl⟩:∃ v,vals = #[v]:=by
    rcases vals with ⟨l⟩
    match l,h1 with
    | [v],_=>exact ⟨v,rfl⟩
  exact ⟨v,rfl,h2 0 (by simp)⟩
theorem args_two {g:Gh} {vals:Array Value} {p q:PV} (h:Args g vals [p,q]):∃ v u,vals = #[v,u] ∧ Rep g v p ∧ Rep g u q:=by
  obtain ⟨h1,h2⟩:=h
  obtain ⟨v,u,rfl⟩:∃ v u,vals = #[v,u]:=by
    rcases vals with ⟨l⟩
    match l,h1 with
    | [v,u],_=>exact ⟨v,u,rfl⟩
  exact ⟨v,u,rfl,h2 0 (by simp),h2 1 (by simp)⟩
theorem Wrote.rel {g : Gh} {w w' : World} {T el : TypeId} {id top b : Nat} {n z : Nat} {bf : Option Nat} {s0 s : List UInt8} {p v : Value} (ok : BldOk id bf s0 top) (r : Rel g w (bldH id T el bf s0 top)) (hb : g.β id = some (b, 0, n, z)) (hlt : b < w.heap.size)
    (hbk:w.heap[b]? = some (.cells #[p,v] T (0,0))) (hown:w.ownsRow 0 el 1 v s0.length (Zay s0)) (hne:v.ownBlock ≠ some b) (hnil:bf = none ↔ v = .slice none 0 0) (hbuf:∀ i2,bf = some i2 → ∃ gb cap,g.β i2 = some (gb,0,cap,1) ∧ v.ownBlock = some gb)
    (hp:p = .pointer none ∨ p = .pointer (some ⟨b,0,none⟩)) (W:Wrote T el b p v (Zay s0) (Zay s) w w'):∃ g' bf' top',top ≤ top' ∧ BldOk id bf' (s0 ++ s) top' ∧ (top' ≤ top + 1 ∧ ∀ i,bf' = some i → top ≤ i) ∧ Rel g' w' (bldH id T el bf' (s0 ++ s) top') ∧ Evo g w (bldH id T el bf s0 top) g' w' (bldH id T el bf' (s0 ++ s) top'):=by
  obtain ⟨v2,w1,w2,hw1,hb1,hgrow,hown2,hnil2,hnew,rfl⟩:=W.ex
  have hget:=bldH_get (T:=T) (el:=el) ok
  have hset:∀ x:AB,(bldH id T el bf s0 top).set id x = ⟨bufL el bf s0 ++ [(id,x)],top⟩:=fun x=>by
    cases bf with
    | none=>simp [bldH,bufL,Heap.set,HL.set,HL.del]
    | some i=>simp [bldH,bufL,Heap.set,HL.set,HL.del,(ok.buf i rfl).1]
  have hself:(bldH id T el bf s0 top).set id (.bld T s0.length bf) = bldH id T el bf s0 top:=by rw [hset]; rfl
  have R1:Rel g w1 (bldH id T el bf s0 top) ∧ Evo g w (bldH id T el bf s0 top) g w1 (bldH id T el bf s0 top):=by
    rcases hw1 with rfl | rfl
    · exact ⟨r,Evo.refl _ _ _⟩
    · have := r.set (id := id) (ab := .bld T s0.length bf) hget rfl hb (w.setCell ⟨b, 0, none⟩ (.pointer (some ⟨b, 0, none⟩)))
        (fun k _ hk=>Below.heap_setCell _ _ _ _ (fun e=>hk e)) (by simp [World.setCell]) rfl rfl rfl rfl (by
          refine ⟨rfl,.pointer (some ⟨b,0,none⟩),v,hb1,.inr rfl,?_⟩
          cases bf with
          | none=>exact ⟨hnil.1 rfl,by rw [ok.nil.1 rfl]; rfl⟩
          | some i2 =>
            obtain ⟨gb,cap,k1,k2⟩:=hbuf i2 rfl
            refine ⟨gb,cap,k1,?_⟩
            rcases hown.2 with ⟨rfl,_⟩ | ⟨g2,cap2,cur,rfl,_,hg2,h1,h2,h3,h4⟩
            · cases k2
            · simp only [Value.ownBlock,Option.some.injEq] at k2
              subst k2
              obtain ⟨b',n',z',p',v',q1,q2,q3,q4,q5,q6,q7,q8⟩:=builder_at r hget rfl (fun i2 e=>by cases e; exact bldH_buf) (fun i2 e=>(ok.buf i2 e).1)
              rw [q1] at hb
              simp only [Option.some.injEq,Prod.mk.injEq] at hb
              obtain ⟨rfl,_⟩:=hb
              obtain ⟨gb',cap',q9,q10⟩:=q8 i2 rfl
              rw [k1] at q9
              simp only [Option.some.injEq,Prod.mk.injEq] at q9
              obtain ⟨rfl,_,rfl,_⟩:=q9
              rcases r.blk i2 _ bldH_buf with ⟨_,fz,z',hh⟩ | ⟨b2,o2,n2,z2,hb2,_,_,hok2⟩
              · cases hh
              rw [k1] at hb2
              simp only [Option.some.injEq,Prod.mk.injEq] at hb2
              obtain ⟨rfl,rfl,rfl,rfl⟩:=hb2
              obtain ⟨_,_,_,cur',c1,c2,_⟩:=hok2
              rw [hg2] at c1
              simp only [Option.some.injEq,Obj.cells.injEq,and_true] at c1
              obtain ⟨rfl,_⟩:=c1
              have:cap2 = cap:=by simpa using h3.symm.trans c2
              subst this
              exact ⟨rfl,h1,h2⟩)
      rw [hself] at this
      exact this
  obtain ⟨r1,e1⟩:=R1
  have hlt1:b < w1.heap.size:=(Array.getElem?_eq_some_iff.1 hb1).1
  have hb2:w2.heap[b]? = some (.cells #[.pointer (some ⟨b,0,none⟩),v] T (0,0)):=by
    rw [hgrow.block b hlt1 (fun e=>hne e.symm)]; exact hb1
  have hlt2:b < w2.heap.size:=(Array.getElem?_eq_some_iff.1 hb2).1
  have hset2:∀ k,k < w2.heap.size → k ≠ b → (w2.setCell ⟨b,1,none⟩ v2).heap[k]? = w2.heap[k]?:=fun k _ hk=>Below.heap_setCell _ _ _ _ (fun e=>hk e)
  have hblk':(w2.setCell ⟨b,1,none⟩ v2).heap[b]? = some (.cells #[.pointer (some ⟨b,0,none⟩),v2] T (0,0)):=by
    simp [World.setCell,Array.getElem?_modify,hb2]
  rcases hown2.2 with ⟨hv2,hlen0⟩ | ⟨gb2,cap2,cur2,hv2,_,hg2,hnc2,hcm2,hcs2,htake2⟩
  · -- nothing was written into nothing
    obtain ⟨hvn,hs0⟩:=hnil2.1 hv2
    have hbf:bf = none:=hnil.2 hvn
    subst hbf
    subst hvn
    have hs:s = []:=List.eq_nil_of_length_eq_zero (by simpa [Zay] using hs0)
    subst hs
    subst hv2
    have h0:s0 = []:=ok.nil.1 rfl
    subst h0
    have hk:∀ k,k < w1.heap.size → w2.heap[k]? = w1.heap[k]?:=fun k hk=>hgrow.block k hk (by simp [Value.ownBlock])
    have:=r1.set (id:=id) (ab:=.bld T 0 none) hget rfl hb (w2.setCell ⟨b,1,none⟩ (.slice none 0 0)) (fun k h1 h2=>by rw [hset2 k (Nat.lt_of_lt_of_le h1 hgrow.size) h2]; exact hk k h1) (by simp [World.setCell]; exact hgrow.size) hgrow.os hgrow.tape hgrow.output rfl
      ⟨rfl,_,_,hblk',.inr rfl,rfl,rfl⟩
    rw [hset] at this
    exact ⟨g,none,top,Nat.le_refl _,by simpa using ok,⟨Nat.le_succ _,fun i e=>by cases e⟩,this.1,e1.trans this.2⟩
  · subst hv2
    have htop:∀ bf':Option Nat,(Zbe (bldH id T el bf s0 top) bf').top = top:=fun bf'=>killed_top _ _
    have key:∃ g',g.le g' ∧ g'.β top = some (gb2,0,cap2,1) ∧ Rel g' w2 ((Zbe (bldH id T el bf s0 top) bf).push (.buf el (s0 ++ s))) ∧ Evo g w1 (bldH id T el bf s0 top) g' w2 ((Zbe (bldH id T el bf s0 top) bf).push (.buf el (s0 ++ s))):=by
      have hbok:∀ (g':Gh),AB.ok g' w2 gb2 0 cap2 1 (.buf el (s0 ++ s)):=fun g'=>by
        refine ⟨rfl,hcm2,by simpa [Zay] using hnc2,cur2,hg2,by simpa using hcs2,?_⟩
        have:(Zay s0 ++ Zay s) = (s0 ++ s).map fun c=>Value.int .u8 c.toNat:=by simp [Zay]
        rw [← this,← htake2]
        simp [Zay]
      have hlt2':gb2 < w2.heap.size:=(Array.getElem?_eq_some_iff.1 hg2).1
      rcases hnew gb2 (by simp [Value.ownBlock]) with hold | hnw
      · -- in its place
        cases bf with
        | none=>rw [hnil.1 rfl] at hold; cases hold
        | some i2 =>
          obtain ⟨gb,cap,k1,k2⟩:=hbuf i2 rfl
          rw [hold] at k2
          simp only [Option.some.injEq] at k2
          subst k2
          obtain ⟨g',l1,_,l2,l3,l4⟩:=r1.put (some i2) gb2 0 cap2 1 (.buf el (s0 ++ s)) w2 (.inr ⟨i2,_,_,rfl,bldH_buf,rfl,k1,rfl⟩) (fun k h1 h2=>hgrow.block k h1 (by rw [hold]; simpa using h2)) hgrow.size hlt2' hgrow.os hgrow.tape hgrow.output rfl (fun g' _=>hbok g')
          exact ⟨g',l1,l2,l3,l4⟩
      · cases bf with
        | none =>
          have hv0:=hnil.1 rfl
          obtain ⟨g',l1,_,l2,l3,l4⟩:=r1.put none gb2 0 cap2 1 (.buf el (s0 ++ s)) w2 (.inl hnw) (fun k h1 h2=>hgrow.block k h1 (by rw [hv0]; simp [Value.ownBlock])) hgrow.size hlt2' hgrow.os hgrow.tape hgrow.output rfl (fun g' _=>hbok g')
          exact ⟨g',l1,l2,l3,l4⟩
        | some i2 =>
          obtain ⟨gb,cap,k1,k2⟩:=hbuf i2 rfl
          have hgbl:gb < w1.heap.size:=by
            rcases r1.blk i2 _ bldH_buf with ⟨_,fz,z',hh⟩ | ⟨b2,o2,n2,z2,hb2',hlt',_,_⟩
            · cases hh
            · rw [k1] at hb2'
              simp only [Option.some.injEq,Prod.mk.injEq] at hb2'
              obtain ⟨rfl,_⟩:=hb2'
              exact hlt'
          have hgbl2:gb < w2.heap.size:=Nat.lt_of_lt_of_le hgbl hgrow.size
          let wm:World:={ w1 with heap:=w1.heap.setIfInBounds gb w2.heap[gb] }
          have hwm:∀ k,k ≠ gb → wm.heap[k]? = w1.heap[k]?:=fun k hk=>Array.getElem?_setIfInBounds_ne (fun e=>hk e.symm)
          have hwmg:wm.heap[gb]? = w2.heap[gb]?:=by
            show (w1.heap.setIfInBounds gb w2.heap[gb])[gb]? = _
            rw [Array.getElem?_setIfInBounds_self_of_lt hgbl,Array.getElem?_eq_getElem hgbl2]
          have hwms:wm.heap.size = w1.heap.size:=by simp [wm]
          obtain ⟨ra,ea⟩:=r1.kill (id:=i2) bldH_buf rfl k1 wm (fun k _ hk=>hwm k hk) (by rw [hwms]; exact Nat.le_refl _) rfl rfl rfl
          obtain ⟨g',l1,_,l2,l3,l4⟩:=ra.put none gb2 0 cap2 1 (.buf el (s0 ++ s)) w2 (.inl (by rw [hwms]; exact hnw)) (fun k h1 h2=>by
            by_cases hk:k = gb
            · subst hk; exact hwmg.symm
            · rw [hwm k hk]
              exact hgrow.block k (by rw [← hwms]; exact h1) (by rw [k2]; simpa using hk)) (by rw [hwms]; exact hgrow.size) hlt2' hgrow.os hgrow.tape hgrow.output rfl (fun g' _=>hbok g')
          exact ⟨g',l1,l2,l3,ea.trans l4⟩
    obtain ⟨g',l1,l2,l3,l4⟩:=key
    have hpush:(Zbe (bldH id T el bf s0 top) bf).push (.buf el (s0 ++ s)) = ⟨[(top,.buf el (s0 ++ s)),(id,.bld T s0.length bf)],top + 1⟩:=by
      cases bf with
      | none=>rfl
      | some i=>simp [Zbe,bldH,bufL,Heap.del,HL.del,Heap.push,Ne.symm (ok.buf i rfl).1]
    rw [hpush] at l3 l4
    have htid:top ≠ id:=Nat.ne_of_gt ok.lt
    have hgid:(⟨[(top,.buf el (s0 ++ s)),(id,.bld T s0.length bf)],top + 1⟩:Heap).get id = some (.bld T s0.length bf):=by simp [Heap.get,HL.get,htid]
    obtain ⟨rf,ef⟩:=l3.set (id:=id) (ab:=.bld T (s0 ++ s).length (some top)) hgid rfl (l1.2.1 _ _ hb) (w2.setCell ⟨b,1,none⟩ (.slice (some ⟨gb2,0,none⟩) ((Zay s0).length + (Zay s).length) cap2)) hset2 (by simp [World.setCell]) rfl rfl rfl rfl
      ⟨rfl,_,_,hblk',.inr rfl,gb2,cap2,l2,by simp [Zay],by simpa [Zay] using hnc2,hcm2⟩
    have hfin:(⟨[(top,.buf el (s0 ++ s)),(id,.bld T s0.length bf)],top + 1⟩:Heap).set id (.bld T (s0 ++ s).length (some top)) = bldH id T el (some top) (s0 ++ s) (top + 1):=by
      simp [Heap.set,HL.set,HL.del,bldH,bufL,htid]
    rw [hfin] at rf ef
    refine ⟨g',some top,top + 1,by omega,⟨by have:=ok.lt; omega,fun i e=>by cases e; exact ⟨htid,by omega⟩,?_⟩,⟨Nat.le_refl _,fun i e=>by cases e; exact Nat.le_refl _⟩,rf,(e1.trans l4).trans ef⟩
    constructor
    · intro e; cases e
    · intro e
      exfalso
      simp only [List.append_eq_nil_iff] at e
      obtain ⟨rfl,rfl⟩:=e
      have:(Value.slice (some ⟨gb2,0,none⟩) ((Zay []).length + (Zay []).length) cap2) = .slice none 0 0:=hnil2.2 ⟨hnil.1 (ok.nil.2 rfl),rfl⟩
      cases this
theorem ACall_bwrite {f : FuncId} {T el : TypeId} {id top : Nat} {bf : Option Nat} {s0 s : List UInt8} (hf : fnOk P f = true)
    (W:∀ (w:World) (b:Nat) (p v:Value) (bs:List Value) (x:ByteArray),w.heap[b]? = some (.cells #[p,v] T (0,0)) → (p = .pointer none ∨ p = .pointer (some ⟨b,0,none⟩)) → w.ownsRow 0 el 1 v bs.length bs → v.ownBlock ≠ some b → bs.length + x.size ≤ 1000000000 →
      Calls P f #[.pointer (some ⟨b,0,none⟩),.string x] w fun e w'=>e = .returned (.tuple #[.int .i64 x.size,.nilIface]) ∧ Wrote T el b p v bs (Lib.strCells x) w w')
    (ok:BldOk id bf s0 top) (hlen:s0.length + s.length ≤ 1000000000)
    (H:∀ bf' top',top ≤ top' → BldOk id bf' (s0 ++ s) top' → (top' ≤ top + 1 ∧ ∀ i,bf' = some i → top ≤ i) → K (.tup [.int .i64 s.length,.nilif]) (bldH id T el bf' (s0 ++ s) top')):Zbb P f [.loc id 0 0,.str s] (bldH id T el bf s0 top) K:=by
  refine ⟨hf,fun g w vals r ha=>?_⟩
  obtain ⟨v0,v1,rfl,hv0,hv1⟩:=args_two ha
  obtain ⟨b,n,z,p,v,hb,hlt,hbk,hp,hown,hne,hnil,hbuf⟩:=builder_at r (bldH_get ok) rfl (fun i2 e=>by subst e; exact bldH_buf) (fun i2 e=>(ok.buf i2 e).1)
  obtain ⟨b',o',n',z',hb',rfl⟩:=hv0.locB_inv
  rw [hb] at hb'
  simp only [Option.some.injEq,Prod.mk.injEq] at hb'
  obtain ⟨rfl,rfl,rfl,rfl⟩:=hb'
  obtain ⟨x,rfl,hx⟩:=hv1.strB_inv
  have hxs:x.size = s.length:=by rw [← hx]; rfl
  have hz:(⟨b,0 + 0 * z + 0,none⟩:Addr) = ⟨b,0,none⟩:=by rw [Nat.zero_mul]
  rw [hz]
  refine (W w b p v (Zay s0) x hbk hp (by simpa [Zay] using hown) hne (by simpa [Zay,hxs] using hlen)).mono ?_
  rintro e w' ⟨rfl,hw⟩
  rw [strCells_byteVals,hx] at hw
  obtain ⟨g',bf',top',h1,h2,h5,h3,h4⟩:=hw.rel ok r hb hlt hbk hown hne hnil hbuf hp
  refine ⟨_,.tup [.int .i64 s.length,.nilif],g',_,rfl,H bf' top' h1 h2 h5,?_,h3,h4⟩
  refine .tup _ _ rfl fun j hj=>?_
  match j,hj with
  | 0,_=>rw [hxs]; exact .int _ _
  | 1,_=>exact .nilif
theorem bldH_names {id:Nat} {T el:TypeId} {bf:Option Nat} {s:List UInt8} {top:Nat}:∀ q ∈ (bldH id T el bf s top).l,(q.1 = id ∨ bf = some q.1) ∧ q.2.live = true:=by
  intro q hq
  cases bf with
  | none=>simp only [bldH,bufL,List.nil_append,List.mem_singleton] at hq; subst hq; exact ⟨.inl rfl,rfl⟩
  | some i =>
    simp only [bldH,bufL,List.cons_append,List.nil_append,List.mem_cons,List.not_mem_nil,or_false] at hq
    rcases hq with rfl | rfl
    · exact ⟨.inr rfl,rfl⟩
    · exact ⟨.inl rfl,rfl⟩
theorem ACall_beside {f : FuncId} {args : List PV} {T el : TypeId} {id top : Nat} {bf : Option Nat} {s0 s : List UInt8} {l2 : List (Nat × AB)} {p : PV} (ok : BldOk id bf s0 top) (h2 : ∀ q ∈ l2, q.1 < top ∧ q.1 ≠ id ∧ bf ≠ some q.1) (hc : ∀ q ∈ l2, ∀ fz z, q.2 ≠ .arr fz z [])
    (A:Zbb P f args (bldH id T el bf s0 top) (fun v h'=>v = p ∧ ∃ bf' top',top ≤ top' ∧ BldOk id bf' s top' ∧ (top' ≤ top + 1 ∧ ∀ i,bf' = some i → top ≤ i) ∧ h' = bldH id T el bf' s top'))
    (H:∀ bf' top',top ≤ top' → BldOk id bf' s top' → (top' ≤ top + 1 ∧ ∀ i,bf' = some i → top ≤ i) → K p ⟨(bldH id T el bf' s top').l ++ l2,top'⟩):Zbb P f args ⟨(bldH id T el bf s0 top).l ++ l2,top⟩ K:=by
  refine Zbb.frameL (fun q hq r hr=>?_) hc ((A:Zbb P f args ⟨(bldH id T el bf s0 top).l,top⟩ _).mono ?_)
  · have:=h2 q hq
    rcases (bldH_names r hr).1 with e | e
    · rw [e]; exact this.2.1
    · exact fun e2=>this.2.2 (by rw [e2]; exact e)
  · rintro v h' ⟨rfl,bf',top',h3,h4,h5,rfl⟩
    refine ⟨h3,fun q hq r hr=>?_,fun q hq=>(bldH_names q hq).2,H bf' top' h3 h4 h5⟩
    have:=h2 q hq
    rcases (bldH_names r hr).1 with e | e
    · rw [e]; exact this.2.1
    · have:=h5.2 _ e; omega
theorem ACall_bstring {f : FuncId} {T el : TypeId} {id top : Nat} {bf : Option Nat} {s : List UInt8} (hf : fnOk P f = true)
    (S:∀ (w:World) (b:Nat) (p v:Value) (l:List UInt8),w.heap[b]? = some (.cells #[p,v] T (0,0)) → w.ownsRow 0 el 1 v l.length (Zay l) → (v = .slice none 0 0 ↔ l = []) →
      Calls P f #[.pointer (some ⟨b,0,none⟩)] w fun e w'=>e = .returned (.string ⟨l.toArray⟩) ∧ w.grownBy w' v.ownBlock)
    (ok:BldOk id bf s top) (H:K (.str s) ⟨[],top⟩):Zbb P f [.loc id 0 0] (bldH id T el bf s top) K:=by
  refine ⟨hf,fun g w vals r ha=>?_⟩
  obtain ⟨v0,rfl,hv0⟩:=args_one ha
  obtain ⟨b,n,z,p,v,hb,hlt,hbk,hp,hown,hne,hnil,hbuf⟩:=builder_at r (bldH_get ok) rfl (fun i2 e=>by subst e; exact bldH_buf) (fun i2 e=>(ok.buf i2 e).1)
  obtain ⟨b',o',n',z',hb',rfl⟩:=hv0.locB_inv
  rw [hb] at hb'
  simp only [Option.some.injEq,Prod.mk.injEq] at hb'
  obtain ⟨rfl,rfl,rfl,rfl⟩:=hb'
  have hz:(⟨b,0 + 0 * z + 0,none⟩:Addr) = ⟨b,0,none⟩:=by rw [Nat.zero_mul]
  rw [hz]
  refine (S w b p v s hbk hown (hnil.symm.trans ok.nil)).mono ?_
  rintro e w' ⟨rfl,hgrow⟩
  have hrep:∀ g',Rep g' (.string ⟨s.toArray⟩) (.str s):=fun g'=>.str _ _ (by simp)
  cases bf with
  | none =>
    have hv:=hnil.1 rfl
    subst hv
    have hk:∀ k,k < w.heap.size → k ≠ b → w'.heap[k]? = w.heap[k]?:=fun k hk _=>hgrow.block k hk (by simp [Value.ownBlock])
    obtain ⟨ra,ea⟩:=r.kill (id:=id) (bldH_get ok) rfl hb w' hk hgrow.size hgrow.os hgrow.tape hgrow.output
    have hh:(bldH id T el none s top).del id = ⟨[],top⟩:=by simp [bldH,bufL,Heap.del,HL.del]
    rw [hh] at ra ea
    exact ⟨_,_,g,_,rfl,H,hrep g,ra,ea⟩
  | some i2 =>
    obtain ⟨gb,cap,k1,k2⟩:=hbuf i2 rfl
    obtain ⟨ra,ea⟩:=r.kill (id:=i2) bldH_buf rfl k1 w' (fun k h1 h2=>hgrow.block k h1 (by rw [k2]; simpa using h2)) hgrow.size hgrow.os hgrow.tape hgrow.output
    have hid:((bldH id T el (some i2) s top).del i2).get id = some (.bld T s.length (some i2)):=by
      rw [Heap.get_del,if_neg (ok.buf i2 rfl).1]; exact bldH_get ok
    obtain ⟨rb,eb⟩:=ra.kill (id:=id) hid rfl hb w' (fun _ _ _=>rfl) (Nat.le_refl _) rfl rfl rfl
    have hh:((bldH id T el (some i2) s top).del i2).del id = ⟨[],top⟩:=by simp [bldH,bufL,Heap.del,HL.del,Ne.symm (ok.buf i2 rfl).1]
    rw [hh] at rb eb
    exact ⟨_,_,g,_,rfl,H,hrep g,rb,ea.trans eb⟩
end Go.VM
