import Derived.Test.YtihfbefagcdpmaaDoorVmA
import Derived.Sort.Grow
import Derived.Shelf.GgSortFunc.RowK
import Derived.RunT
import Derived.Calls
import Derived.LoopN
set_option linter.all false
namespace Go.VM
open Go Go.Sort
structure Plain (α : Type) (k : Nat) (enc : α → List Value) (encP : α → List PV) : Prop where
  len : ∀ x, (enc x).length = k
  lenP : ∀ x, (encP x).length = k
  one : ∀ x, ∀ v ∈ enc x, v.oneCell' = true
  rep : ∀ g x j, j < k → Rep g ((enc x).getD j Go.undef) (PV.nth (encP x) j)
  inv : ∀ g v x j, j < k → Rep g v (PV.nth (encP x) j) → v = (enc x).getD j Go.undef
section
variable {α : Type} [Inhabited α] {k : Nat} {enc : α → List Value} {encP : α → List PV} {g : Gh} {w : World} {h : Heap}
theorem flat_get (hp:Plain α k enc encP) (d:Array α) (i j:Nat) (hi:i < d.size) (hj:j < k):(Sort.flatK enc k d).getD (i * k + j) Go.undef = (enc d[i]!).getD j Go.undef:=by
  have hlt:i * k + j < d.size * k:=Zax hi hj
  have h1:=Sort.get_flatK enc k d (i * k + j) hlt
  have e1:(i * k + j) / k = i:=by
    rw [Nat.mul_comm,Nat.mul_add_div (by omega),Nat.div_eq_of_lt hj,Nat.add_zero]
  have e2:(i * k + j) % k = j:=by rw [Nat.add_comm,Nat.add_mul_mod_self_right,Nat.mod_eq_of_lt hj]
  rw [e1,e2] at h1
  have hs:i * k + j < (Sort.flatK enc k d).size:=by simp; exact hlt
  rw [getElem!_pos (Sort.flatK enc k d) (i * k + j) hs] at h1
  have hl:j < (enc d[i]!).length:=by rw [hp.len]; exact hj
  rw [getElem!_pos (enc d[i]!) j hl] at h1
  rw [Array.getD_eq_getD_getElem?,Array.getElem?_eq_getElem hs,Option.getD_some,h1,List.getD_eq_getElem?_getD,List.getElem?_eq_getElem hl,Option.getD_some]
theorem rows_in (hp:Plain α k enc encP) (d:Array α):RowsIn g (Sort.flatK enc k d).toList k (d.toList.map encP):=by
  refine ⟨by simp,fun i j hi hj=>?_⟩
  simp only [List.length_map,Array.length_toList] at hi
  have e1:(Sort.flatK enc k d).toList.getD (i * k + j) Go.undef = (Sort.flatK enc k d).getD (i * k + j) Go.undef:=by simp [Array.getD_eq_getD_getElem?]
  have e2:PV.row (d.toList.map encP) i = encP d[i]!:=by simp [PV.row,List.getD_eq_getElem?_getD,hi]
  rw [e1,e2,flat_get hp d i j hi hj]
  refine ⟨hp.one d[i]! _ ?_,hp.rep g _ j hj⟩
  have hl:j < (enc d[i]!).length:=by rw [hp.len]; exact hj
  simp [List.getD_eq_getElem?_getD,hl]
theorem holds_own (hp : Plain α k enc encP) (hk : k ≠ 0) (r : Rel g w h) {id off len : Nat} {es : List (List PV)} {v : Value} (hv : Rep g v (.own id off len)) (hg : h.get id = some (.arr false k es)) (hle : off + len ≤ es.length) (d : Array α) (hd : (es.drop off).take len = d.toList.map encP) :
    (len = 0 ∧ ∃ ao cap,v = .slice ao 0 cap) ∨ ∃ cap b o n c tt,v = .slice (some ⟨b,o + off * k,none⟩) len cap ∧ d.size = len ∧ g.β id = some (b,o,n,k) ∧ b < w.heap.size ∧ w.heap[b]? = some (.cells c tt (0,0)) ∧ o + off * k + len * k ≤ c.size ∧
      HoldsK enc k w b (o + off * k) d:=by
  have hsz:d.size = len:=by
    have:=congrArg List.length hd
    simp at this
    omega
  rcases own_seen r hv hg hle with ⟨h0,ao,rfl⟩ | ⟨cap,b,o,n,c,tt,rfl,hb,hc,hn,hlt,h1,h2,hra⟩
  · exact .inl ⟨h0,ao,0,rfl⟩
  · have hck:len * k ≤ cap * k:=Nat.mul_le_mul_right _ hc
    refine .inr ⟨cap,b,o,n,c,tt,rfl,hsz,hb,hlt,h1,by omega,fun t ht=>?_⟩
    simp only [Sort.size_flatK] at ht
    obtain ⟨s1,s2,s3⟩:=rows_split ht
    obtain ⟨v,e1,e2,e3⟩:=hra (t / k) (t % k) (by rw [hd]; simpa using s1) s2
    have hrow:PV.row ((es.drop off).take len) (t / k) = encP d[t / k]!:=by rw [hd]; simp [PV.row,List.getD_eq_getElem?_getD,s1]
    rw [hrow] at e3
    have hv:=hp.inv g v d[t / k]! (t % k) s2 e3
    have hadd:o + off * k + t / k * k + t % k = o + off * k + t:=by omega
    rw [hadd] at e1
    refine ⟨?_,by simp [World.frozen?,h1]⟩
    rw [e1]
    have hg:=flat_get hp d (t / k) (t % k) s1 s2
    rw [s3] at hg
    have hs:t < (Sort.flatK enc k d).size:=by simp; exact ht
    rw [getElem!_pos (Sort.flatK enc k d) t hs]
    show some v = some (Sort.flatK enc k d)[t]
    rw [hv,← hg,Array.getD_eq_getD_getElem?,Array.getElem?_eq_getElem hs,Option.getD_some]
theorem sorted_back (hp : Plain α k enc encP) (r : Rel g w h) {id off len b o n : Nat} {c : Array Value} {tt : TypeId} {es : List (List PV)} (hg : h.get id = some (.arr false k es)) (hle : off + len ≤ es.length) (hβ : g.β id = some (b, o, n, k)) (hc : w.heap[b]? = some (.cells c tt (0, 0)))
    (hfit:o + off * k + len * k ≤ c.size) (d':Array α) (hd:d'.size = len) (m:Nat) (os:Array Obj) :
    Rel g (grow (putRowK enc k (Sort.ahead w m) b (o + off * k) d') os) (h.set id (.arr false k (es.take off ++ d'.toList.map encP ++ es.drop (off + len)))) ∧
      Evo g w h g (grow (putRowK enc k (Sort.ahead w m) b (o + off * k) d') os) (h.set id (.arr false k (es.take off ++ d'.toList.map encP ++ es.drop (off + len)))):=by
  have hblk:b < w.heap.size:=(Array.getElem?_eq_some_iff.1 hc).1
  have hheap:(grow (putRowK enc k (Sort.ahead w m) b (o + off * k) d') os).heap[b]? = some (.cells (putCells (fun v:Value=>v) (o + off * k) (Sort.flatK enc k d') c) tt (0,0)):=by
    show ((Sort.putRowK enc k (Sort.ahead w m) b (o + off * k) d').heap ++ os)[b]? = _
    have h1:(Sort.putRowK enc k (Sort.ahead w m) b (o + off * k) d').heap = w.heap.modify b (onCells (putCells (fun v:Value=>v) (o + off * k) (Sort.flatK enc k d'))):=rfl
    rw [h1,Array.getElem?_append_left (by simpa using hblk),Array.getElem?_modify,if_pos rfl,hc]
    rfl
  have hsame:∀ j,j < w.heap.size → j ≠ b → (grow (putRowK enc k (Sort.ahead w m) b (o + off * k) d') os).heap[j]? = w.heap[j]?:=by
    intro j hj hne
    show ((Sort.putRowK enc k (Sort.ahead w m) b (o + off * k) d').heap ++ os)[j]? = _
    have h1:(Sort.putRowK enc k (Sort.ahead w m) b (o + off * k) d').heap = w.heap.modify b (onCells (putCells (fun v:Value=>v) (o + off * k) (Sort.flatK enc k d'))):=rfl
    rw [h1,Array.getElem?_append_left (by simpa using hj),Array.getElem?_modify,if_neg (Ne.symm hne)]
  have hlen:(d'.toList.map encP).length = len:=by simp [hd]
  have:=rows_write r (off:=off) (news:=d'.toList.map encP) (cs:=(Sort.flatK enc k d').toList) hg hβ (rows_in hp d') (fun i hi=>by simp at hi; simp [PV.row,List.getD_eq_getElem?_getD,hi,hp.lenP]) (by rw [hlen]; exact hle) (grow (putRowK enc k (Sort.ahead w m) b (o + off * k) d') os) c (putCells (fun v:Value=>v) (o + off * k) (Sort.flatK enc k d') c) tt hc hheap
    (by simp [putCells]) (fun t ht=>by
      simp only [Array.length_toList,Sort.size_flatK,hd] at ht
      have hlt:o + off * k + t < c.size:=by omega
      have hfl:t < (Sort.flatK enc k d').size:=by simp [hd]; exact ht
      have hcond:o + off * k ≤ o + off * k + t ∧ o + off * k + t < o + off * k + (Sort.flatK enc k d').size:=⟨by omega,by omega⟩
      have hsub:o + off * k + t - (o + off * k) = t:=by omega
      simp only [putCells,Array.getD_eq_getD_getElem?,Array.getElem?_mapIdx,Array.getElem?_eq_getElem hlt,Option.map_some,if_pos hcond,hsub,Option.getD_some]
      rw [getElem!_pos (Sort.flatK enc k d') t hfl]
      rw [List.getD_eq_getElem?_getD,Array.getElem?_toList,Array.getElem?_eq_getElem hfl,Option.getD_some]) (fun t ht=>by
      simp only [Array.length_toList,Sort.size_flatK,hd] at ht
      have hcond:¬ (o + off * k ≤ t ∧ t < o + off * k + (Sort.flatK enc k d').size):=by simp [hd]; omega
      simp only [putCells,Array.getD_eq_getD_getElem?,Array.getElem?_mapIdx,if_neg hcond]
      cases c[t]? <;> rfl) hsame (by
      show w.heap.size ≤ ((Sort.putRowK enc k (Sort.ahead w m) b (o + off * k) d').heap ++ os).size
      have h1:(Sort.putRowK enc k (Sort.ahead w m) b (o + off * k) d').heap = w.heap.modify b (onCells (putCells (fun v:Value=>v) (o + off * k) (Sort.flatK enc k d'))):=rfl
      rw [h1]; simp) rfl rfl rfl
  rw [hlen] at this
  exact this
end
end Go.VM
namespace Go.VM
open Go
theorem ask_drawn {α:Type}:∀ (a:Ask α) (w:World),w.drawn ≤ (w.ask a).2.drawn
  | .done a,w=>Nat.le_refl _
  | .ask what range k,w=>by
    unfold World.ask
    simp only
    split
    · exact ask_drawn (k 0) w
    · exact Nat.le_trans (Nat.le_succ _) (ask_drawn (k _) { w with drawn:=w.drawn + 1 })
theorem sys_drawn (w:World) (c:Sys):w.drawn ≤ (w.sys c).2.drawn:=by
  unfold World.sys
  have:=ask_drawn (Kernel.perform c w.os) w
  split
  · exact Nat.le_refl _
  · rename_i h; rw [h] at this; exact this
def Rwd {α:Type}:Result α → Nat
  | .ok _ w=>w.drawn
  | .halt _ w=>w.drawn
theorem viewStore_drawn {p:Program} {w w':World} {at_:Addr} {u:TypeId} {k:Addr} {v:Value} {b:Bool} {l:List Addr} (h:w.viewStore p at_ u k v b = .ok (w',l)):w'.drawn = w.drawn:=by
  unfold World.viewStore at h
  simp only [bind,Except.bind,pure,Except.pure,throw,throwThe,MonadExceptOf.throw] at h
  repeat' split at h
  all_goals first
    | (cases h; done)
    | (simp only [Except.ok.injEq,Prod.mk.injEq] at h; obtain ⟨rfl,_⟩:=h; rfl)
theorem farStore_drawn {p:Program} {w w':World} {a:Addr} {v:Value} {b:Bool} {l:List Addr} (h:w.farStore p a v b = .ok (w',l)):w'.drawn = w.drawn:=by
  unfold World.farStore at h
  split at h
  · split at h
    · rename_i r hr; simp only [Except.ok.injEq] at h; subst h; exact viewStore_drawn hr
    · cases h
  · cases h
theorem freeze_drawn (w:World) (a:Addr) (n:Nat):(w.freeze a n).drawn = w.drawn:=by unfold World.freeze; split <;> rfl
theorem Zav {α:Type} {p:Program}:∀ (m:Sem α) (w:World),w.drawn ≤ Rwd (m.run p w)
  | .pure a,w=>Nat.le_refl _
  | .load m a k,w=>by
    simp only [Sem.run]
    split
    · exact Zav _ w
    · split
      · exact Zav _ w
      · exact Nat.le_refl _
  | .store m a v k,w=>by
    have key : w.drawn ≤ Rwd (match w.cell? a with
        | some _ => if w.frozen? a then .halt (.unsupported (.unsafePointer "a write to bytes that a string shares")) w else k.run p (w.setCell a v)
        | none=>match w.farStore p a v (m == .atomic) with
          | .ok (w,_)=>k.run p w
          | .error h=>.halt h w:Result α):=by
      split
      · split
        · exact Nat.le_refl _
        · exact Zav k (w.setCell a v)
      · split
        · rename_i h; rw [← farStore_drawn h]; exact Zav k _
        · exact Nat.le_refl _
    cases v <;> first | exact key | exact Nat.le_refl _
  | .new o k,w=>Zav (k _) { w with heap:=w.heap.push o }
  | .shape r k,w=>Zav (k _) w
  | .freeze a n k,w=>by rw [← freeze_drawn w a n]; exact Zav k _
  | .frozen a k,w=>Zav (k _) w
  | .getObj r k,w=>by
    simp only [Sem.run]
    split
    · exact Nat.le_refl _
    · exact Zav _ w
    · exact Nat.le_refl _
  | .setObj r o k,w=>by
    simp only [Sem.run]
    split
    · exact Nat.le_refl _
    · exact Zav k { w with heap:=w.heap.setIfInBounds r o }
    · exact Nat.le_refl _
  | .choose q k,w=>by
    simp only [Sem.run]
    split
    · exact Zav _ w
    · exact Nat.le_trans (Nat.le_succ _) (Zav (k _) { w with drawn:=w.drawn + 1 })
  | .sys c k,w=>Nat.le_trans (sys_drawn w c) (Zav (k _) _)
  | .program k,w=>Zav (k p) w
  | .mark _ k,w=>Zav k w
  | .halt h,w=>Nat.le_refl _
theorem Zap {α:Type} {p:Program} {m:Sem α} {w w':World} {v:α} (h:m.run p w = .ok v w'):w.drawn ≤ w'.drawn:=by have:=Zav (p:=p) m w; rw [h] at this; exact this
theorem run_halt_drawn {α:Type} {p:Program} {m:Sem α} {w w':World} {v:Halt} (h:m.run p w = .halt v w'):w.drawn ≤ w'.drawn:=by have:=Zav (p:=p) m w; rw [h] at this; exact this
theorem runT_drawn {α:Type} {p:Program} (m:Sem α) (w:World) (es:Array Event):w.drawn ≤ Rwd (m.runT p w es).1:=by
  rw [Sem.runT_fst]; exact Zav m w
theorem runT_ok_drawn' {α:Type} {p:Program} {m:Sem α} {w w':World} {es:Array Event} {v:α} (h:(m.runT p w es).1 = .ok v w'):w.drawn ≤ w'.drawn:=by have:=runT_drawn (p:=p) m w es; rw [h] at this; exact this
theorem runT_halt_drawn' {α:Type} {p:Program} {m:Sem α} {w w':World} {es:Array Event} {v:Halt} (h:(m.runT p w es).1 = .halt v w'):w.drawn ≤ w'.drawn:=by have:=runT_drawn (p:=p) m w es; rw [h] at this; exact this
theorem runT_ok_drawn {α:Type} {p:Program} {m:Sem α} {w w':World} {es es':Array Event} {v:α} (h:m.runT p w es = (.ok v w',es')):w.drawn ≤ w'.drawn:=runT_ok_drawn' (by rw [h])
theorem runT_halt_drawn {α:Type} {p:Program} {m:Sem α} {w w':World} {es es':Array Event} {v:Halt} (h:m.runT p w es = (.halt v w',es')):w.drawn ≤ w'.drawn:=runT_halt_drawn' (by rw [h])
def GUp (d:Nat):GStep → Prop
  | .go _ w _ | .comm _ _ _ _ w _ | .spawn _ _ w _ | .count _ w _ | .timer _ _ w _ | .alone _ _ w _ | .newcoro _ _ _ w _ | .coroswitch _ _ _ w _ | .collect _ w _ | .watch _ w _=>d ≤ w.drawn
  | .ended ..=>True
theorem GUp.after {d:Nat} {s:GStep} (es:Array Event) (h:GUp d s):GUp d (GStep.after es s):=by cases s <;> exact h
theorem GUp.le {d d':Nat} {s:GStep} (h:GUp d' s) (hd:d ≤ d'):GUp d s:=by cases s <;> first | exact Nat.le_trans hd h | trivial
theorem GUp.ite {d:Nat} {c:Prop} [Decidable c] {a b:GStep} (h1:c → GUp d a) (h2:¬ c → GUp d b):GUp d (if c then a else b):=by
  split
  · exact h1 ‹_›
  · exact h2 ‹_›
theorem gup_doReturn (p:Program) (main:Bool) (fr:Frame) (callers:List Frame) (dying:Option Dying) (v:Value) (w:World):GUp w.drawn (doReturn p main fr callers dying v w):=by
  unfold doReturn
  repeat' split
  all_goals first | trivial | exact Nat.le_refl _
theorem gup_endThrow (fr:Frame) (m:String) (w:World):GUp w.drawn (endThrow fr m w):=Nat.le_refl _
theorem gup_endPrinting (p:Program) (fr:Frame) (v:Value) (w:World):GUp w.drawn (endPrinting p fr v w):=by
  unfold endPrinting
  simp only
  split
  · exact gup_endThrow _ _ _
  · trivial
theorem gup_endWith (w:World) (fd:Nat) (text:ByteArray) (o:Outcome):GUp w.drawn (endWith w fd text o):=by
  unfold endWith
  simp only
  repeat' split
  all_goals trivial
theorem gup_endFatal (p:Program) (fr:Frame) (callers:List Frame) (dying:Option Dying) (m:String) (w:World):GUp w.drawn (endFatal p fr callers dying m w):=by
  unfold endFatal
  simp only
  split
  · rename_i h; exact Zap h
  · trivial
  · trivial
theorem gup_writeOn (p:Program) (fr:Frame) (d:Dying) (f:Fatal) (w:World):GUp w.drawn (writeOn p fr d f w):=by
  unfold writeOn
  simp only
  split
  · trivial
  · split
    · rename_i h; exact runT_ok_drawn h
    · rename_i h; exact runT_halt_drawn h
    · trivial
    · trivial
theorem gup_die (p:Program) (fr:Frame) (d:Dying) (w:World):GUp w.drawn (die p fr d w):=by
  unfold die
  split
  · exact gup_writeOn _ _ _ _ _
  · split
    · split
      · exact Nat.le_refl _
      · exact gup_endWith _ _ _ _
    · simp only
      split
      · exact Nat.le_refl _
      · split
        · rename_i h; exact Zap h
        · trivial
      · refine GUp.after _ ?_
        split
        · rename_i h; exact runT_ok_drawn' h
        · rename_i h; exact runT_ok_drawn' h
        · trivial
        · rename_i h; exact (gup_endPrinting _ _ _ _).le (runT_halt_drawn' h)
        · trivial
      · trivial
theorem gup_callDeferred (p:Program) (fr:Frame) (callers:List Frame) (dying:Option Dying) (d:Deferred) (w:World):GUp w.drawn (callDeferred p fr callers dying d w):=by
  unfold callDeferred
  refine GUp.ite (fun _=>trivial) (fun _=>?_)
  · refine GUp.after _ ?_
    split
    all_goals first
      | trivial
      | (rename_i h; exact runT_ok_drawn' h)
      | (rename_i h; exact runT_halt_drawn' h)
      | (rename_i h; exact (gup_endFatal _ _ _ _ _ _).le (runT_halt_drawn' h))
      | (rename_i h; exact (gup_endThrow _ _ _).le (runT_halt_drawn' h))
      | (rename_i h; split <;> exact runT_ok_drawn' h)
theorem gup_unwind (p:Program) (main:Bool) (fr:Frame) (callers:List Frame) (dying:Option Dying) (w:World):GUp w.drawn (unwind p main fr callers dying w):=by
  unfold unwind
  split
  · simp only
    refine GUp.after _ ?_
    split
    · rename_i h; exact runT_ok_drawn' h
    · trivial
  · exact gup_callDeferred _ _ _ _ _ _
  · split
    · trivial
    · split
      · trivial
      · split
        · exact Nat.le_refl _
        · split
          · split
            · exact Nat.le_refl _
            · split
              · rename_i h; exact Zap h
              · trivial
              · trivial
          · split
            · exact gup_endPrinting _ _ _ _
            · trivial
    · split
      · exact gup_doReturn _ _ _ _ _ _ _
      · simp only
        refine GUp.after _ ?_
        split
        · rename_i h; exact (gup_doReturn _ _ _ _ _ _ _).le (runT_ok_drawn' h)
        · trivial
        · trivial
theorem gup_early (p:Program) (fr:Frame) (callers:List Frame) (dying:Option Dying) (g:Nat) (w:World):GUp w.drawn (early p fr callers dying g w):=by
  have ny:∀ w1:World,w.drawn ≤ w1.drawn → GUp w.drawn (match w1.heap[g]? with
    | some (.pending c elem)=>GStep.go { frame:=fr,callers,status:=.running,dying } { w1 with heap:=w1.heap.setIfInBounds g (.cells c elem) } #[]
    | _ => .ended (.stuck "early: the variable does not wait" (fr.pos p)) w1 #[]) := fun w1 h => by
    split
    · exact h
    · trivial
  unfold early
  simp only
  repeat' split
  all_goals first
    | trivial
    | exact ny _ (Nat.le_refl _)
    | exact Nat.le_refl _
    | (rename_i h; exact Zap h)
    | (rename_i wx h1 x c e h2; exact (Zap h1:w.drawn ≤ wx.drawn))
theorem gup_apply (p:Program) (listen:Bool) (fr:Frame) (callers:List Frame) (dying:Option Dying) (s:Sem Next) (w:World):GUp w.drawn (stepG.apply p listen fr callers dying s w):=by
  unfold stepG.apply
  simp only
  refine GUp.after _ ?_
  have hr:w.drawn ≤ Rwd (if listen = true then s.runT p w #[] else (s.run p w,#[])).1:=by
    split
    · exact runT_drawn _ _ _
    · exact Zav _ _
  generalize (if listen = true then s.runT p w #[] else (s.run p w,#[])).1 = r at hr ⊢
  have hok:∀ v w',r = .ok v w' → w.drawn ≤ w'.drawn:=fun v w' e=>by rw [e] at hr; exact hr
  have hh:∀ v w',r = .halt v w' → w.drawn ≤ w'.drawn:=fun v w' e=>by rw [e] at hr; exact hr
  clear hr
  split
  all_goals first
    | trivial
    | exact hok _ _ rfl
    | exact hh _ _ rfl
    | exact (gup_endFatal _ _ _ _ _ _).le (hh _ _ rfl)
    | exact (gup_endThrow _ _ _).le (hh _ _ rfl)
    | exact (gup_early _ _ _ _ _ _).le (hh _ _ rfl)
    | (split <;> exact hok _ _ rfl)
    | (refine GUp.ite (fun _=>(gup_endThrow _ _ _).le (hok _ _ rfl)) (fun _=>hok _ _ rfl))
theorem gup_oper (p:Program) (listen:Bool) (fr:Frame) (callers:List Frame) (dying:Option Dying) (w:World):GUp w.drawn (stepG.oper p listen fr callers dying w):=by
  unfold stepG.oper
  split
  · trivial
  · split <;> exact gup_apply _ _ _ _ _ _ _
theorem gup_exec (p:Program) (main listen:Bool) (fr:Frame) (callers:List Frame) (dying:Option Dying) (w:World):GUp w.drawn (stepG.exec p main listen fr callers dying w):=by
  have leave : ∀ (c : Prop) [Decidable c] (jump : Option Code), GUp w.drawn (match fr.roundOf with
      | none => if c then GStep.go { frame := { fr with mode := .returning }, callers, status := .running, dying } w #[] else .ended (.stuck "exit, goto: no such block or label" (fr.pos p)) w #[]
      | some l =>
        GStep.after (seen p fr.fn ((Instr.endRound l jump).runT p w #[]).2) <| match ((Instr.endRound l jump).runT p w #[]).1 with
        | .ok v w=>doReturn p main fr callers dying v w
        | .halt _ w => .ended (.stuck "range over a function: no such loop" (fr.pos p)) w #[]) := fun c _ jump => by
    split
    · refine GUp.ite (fun _=>Nat.le_refl _) (fun _=>trivial)
    · refine GUp.after _ ?_
      split
      · rename_i h; exact (gup_doReturn _ _ _ _ _ _ _).le (runT_ok_drawn' h)
      · trivial
  unfold stepG.exec
  simp only
  split
  all_goals first
    | exact Nat.le_refl _
    | trivial
    | exact leave _ _
    | exact gup_apply _ _ _ _ _ _ _
    | skip
  · split
    · exact Nat.le_refl _
    · trivial
  · generalize exitTo _ _ = x
    cases x with
    | none=>exact leave _ _
    | some k=>exact Nat.le_refl _
  · generalize gotoIn _ _ = x
    cases x with
    | none=>exact leave _ _
    | some k=>exact Nat.le_refl _
  · refine GUp.after _ ?_
    split
    · rename_i h; exact (gup_apply _ _ _ _ _ _ _).le (runT_ok_drawn' h)
    · trivial
  · refine GUp.after _ ?_
    split
    · rename_i h; exact runT_ok_drawn' h
    · rename_i h; exact runT_halt_drawn' h
    · trivial
  · generalize Extern.next _ = x
    cases x with
    | none=>trivial
    | some e=>exact gup_apply _ _ _ _ _ _ _
  · refine GUp.ite (fun _=>Nat.le_refl _) (fun _=>?_)
    split
    · rename_i h; exact Zap h
    · trivial
  · exact GUp.ite (fun _=>gup_oper _ _ _ _ _ _) (fun _=>Nat.le_refl _)
theorem gup_stepG (p:Program) (main:Bool) (g:Goroutine) (w:World) (listen:Bool):GUp w.drawn (stepG p main g w listen):=by
  unfold stepG
  simp only
  split
  · exact gup_die _ _ _ _
  · exact gup_exec _ _ _ _ _ _ _
  · exact gup_unwind _ _ _ _ _ _
def MUp (d:Nat):Stepped → Prop
  | .next m=>d ≤ m.world.drawn
  | .ended ..=>True
theorem MUp.le {d d':Nat} {s:Stepped} (h:MUp d' s) (hd:d ≤ d'):MUp d s:=by cases s <;> first | exact Nat.le_trans hd h | trivial
theorem MUp.ite {d:Nat} {c:Prop} [Decidable c] {a b:Stepped} (h1:c → MUp d a) (h2:¬ c → MUp d b):MUp d (if c then a else b):=by
  split
  · exact h1 ‹_›
  · exact h2 ‹_›
theorem mup_look (p:Program) (gs:Array Goroutine) (rest:Rest) (w:World):MUp w.drawn (look p gs rest w):=by
  unfold look
  split
  · simp only
    refine MUp.ite (fun _=>trivial) (fun _=>?_)
    split
    · trivial
    · split
      · rename_i h; exact (Zap h:_)
      · trivial
      · trivial
  · trivial
theorem waiting_drawn {rest:Rest} {cases:Array CommCase} {w w':World} (h:waitingAt rest cases w = some w'):w.drawn ≤ w'.drawn:=by
  unfold waitingAt at h
  split at h
  · split at h
    · simp only [Option.some.injEq] at h; subst h; exact Nat.le_refl _
    · cases h
  · simp only [Option.some.injEq] at h; subst h; exact Nat.le_refl _
theorem mup_communicate (p:Program) (rest:Rest) (gs:Array Goroutine) (i:Nat) (g:Goroutine) (cases:Array CommCase) (blocking:Bool) (shape:CommShape) (w:World):MUp w.drawn (communicate p rest gs i g cases blocking shape w).1:=by
  unfold communicate
  simp only
  repeat' split
  all_goals first
    | trivial
    | exact Nat.le_refl _
    | exact waiting_drawn ‹_›
    | (have h1 := Zap ‹Sem.run p _ w = Result.ok _ _›
       first
         | exact h1
         | (have h2:=run_halt_drawn ‹Sem.run p (runtimePanic _) _ = Result.halt _ _›; exact Nat.le_trans h1 h2)
         | (have h2:=Zap ‹Sem.run p (choose _) _ = Result.ok _ _›; exact Nat.le_trans h1 h2))
theorem mup_timerOp (m m':Machine) (op:TimerOp) (v:Value) (h:timerOp m op = .ok (v,m')):m'.world.drawn = m.world.drawn:=by
  have hdr:∀ w c,(drain w c).2.drawn = w.drawn:=fun w c=>by unfold drain; split <;> rfl
  have hre:∀ (m:Machine) k t a b,(retime m k t a b).2.world.drawn = m.world.drawn:=fun m k t a b=>by
    unfold retime
    cases t.chan with
    | none=>rfl
    | some c=>exact hdr _ _
  have hnm:∀ (m0:Machine) var (f:Nat → Timer → Value × Machine),(∀ k t,(f k t).2.world.drawn = m.world.drawn) → timerOp.named m0 var f = .ok (v,m') → m'.world.drawn = m.world.drawn:=fun m0 var f hf h=>by
    unfold timerOp.named at h
    split at h
    · simp only [Except.ok.injEq] at h
      have:=congrArg (fun x=>x.2.world.drawn) h
      exact this.symm.trans (hf _ _)
    · cases h
  cases op with
  | new t =>
    simp only [timerOp] at h
    repeat' split at h
    all_goals first
      | (cases h; done)
      | (simp only [Except.ok.injEq,Prod.mk.injEq] at h; obtain ⟨_,rfl⟩:=h; rfl)
  | stop var=>exact hnm _ _ _ (fun k t=>hre _ _ _ _ _) h
  | reset var when_ period =>
    simp only [timerOp] at h
    split at h
    · rename_i m1 h1
      refine hnm _ _ _ (fun k t=>(hre _ _ _ _ _).trans ?_) h
      unfold timerOp.opened at h1
      split at h1
      · split at h1
        · simp only [Option.some.injEq] at h1; subst h1; rfl
        · cases h1
      · simp only [Option.some.injEq] at h1; subst h1; rfl
    · cases h
  | deadline ctx read write when_ =>
    simp only [timerOp,Except.ok.injEq,Prod.mk.injEq] at h
    obtain ⟨_,rfl⟩:=h
    rfl
theorem mup_runT (p:Program) (m:Machine) (i:Nat) (listen:Bool):MUp m.world.drawn (runT p m i listen).1:=by
  unfold runT
  simp only
  generalize hg:m.gs.swapAt! i { (default:Goroutine) with status:=.finished } = gg
  obtain ⟨g,gs⟩:=gg
  simp only
  have hs:=gup_stepG p (i == 0) g m.world listen
  generalize stepG p (i == 0) g m.world listen = s at hs ⊢
  cases s <;> simp only
  all_goals first
    | exact hs
    | trivial
    | exact (mup_communicate _ _ _ _ _ _ _ _ _).le hs
    | exact (mup_look _ _ _ _).le hs
    | exact MUp.ite (fun _=>trivial) (fun _=>hs)
    | skip
  · rename_i w1 _
    have hs':m.world.drawn ≤ w1.drawn:=hs
    split
    · rename_i h; exact Nat.le_trans hs' (Nat.le_of_eq (mup_timerOp _ _ _ _ h).symm)
    · simp only [endThrow,dieOf]; exact hs'
    · trivial
    · trivial
  · rename_i w1 _
    have hs':m.world.drawn ≤ w1.drawn:=hs
    split
    · exact hs'
    · simp only [endThrow,dieOf]; exact hs'
    · trivial
def VUp (d:Nat):Move → Prop
  | .goroutine m _=>d ≤ m.world.drawn
  | .machine s _=>MUp d s
theorem VUp.le {d d':Nat} {s:Move} (h:VUp d' s) (hd:d ≤ d'):VUp d s:=by
  cases s with
  | goroutine m i=>exact Nat.le_trans hd h
  | machine s o=>exact MUp.le h hd
theorem mup_serve (p:Program) (m:Machine) (k:Nat):MUp m.world.drawn (serve p m k):=by
  unfold serve
  split
  · trivial
  · exact Nat.le_refl _
  · simp only
    split
    · trivial
    · exact Nat.le_refl _
theorem vup_askOn (p:Program) (m:Machine):VUp m.world.drawn (askOn p m):=by
  have pick : ∀ m1 : Machine, m.world.drawn ≤ m1.world.drawn → VUp m.world.drawn (match (choose (.sched (runnable m.gs m.world.os.mono).length)).run p m1.world with
      | .halt _ w => Move.machine (.ended (.stuck "sched" "") w) #[]
      | .ok k world =>
        if (runnable m.gs m.world.os.mono).length ≤ 1 then .goroutine { m1 with world } ((runnable m.gs m.world.os.mono).getD k 0) else
        match (choose (.extern "sched.slice" 65536)).run p world with
        | .halt _ w => .machine (.ended (.stuck "sched.slice" "") w) #[]
        | .ok n world=>.goroutine { m1 with world,rest:={ m1.rest with slice:=if n = 0 then none else some ((runnable m.gs m.world.os.mono).getD k 0,n) } } ((runnable m.gs m.world.os.mono).getD k 0)):=fun m1 h1=>by
    split
    · trivial
    · have h2:=Zap ‹Sem.run p _ m1.world = Result.ok _ _›
      split
      · exact Nat.le_trans h1 h2
      · split
        · trivial
        · have h3 := Zap ‹Sem.run p (choose (.extern "sched.slice" 65536)) _ = Result.ok _ _›
          exact Nat.le_trans h1 (Nat.le_trans h2 h3)
  unfold askOn
  simp only
  split
  · trivial
  · have h0:=Zap ‹Sem.run p _ m.world = Result.ok _ _›
    split
    · exact (mup_serve _ _ _).le h0
    · split
      · split
        · exact h0
        · split
          · exact h0
          · split <;> trivial
      · split
        · exact pick { m with world:=_ } h0
        · split
          · trivial
          · have h1 := Zap ‹Sem.run p (choose (.extern "clock.wait" _)) _ = Result.ok _ _›
            exact pick { m with world:=_ } (Nat.le_trans h0 h1)
          · have h1 := Zap ‹Sem.run p (choose (.extern "clock.wait" _)) _ = Result.ok _ _›
            exact Nat.le_trans h0 h1
          · have h1 := Zap ‹Sem.run p (choose (.extern "clock.wait" _)) _ = Result.ok _ _›
            exact pick (Machine.advanceTo { m with world:=_ } _) (Nat.le_trans h0 h1)
theorem vup_ask (p:Program) (m:Machine):VUp m.world.drawn (ask p m):=by
  unfold ask
  split
  · split
    · trivial
    · have h0 := Zap ‹Sem.run p (choose (.extern "collector.look" 2)) m.world = Result.ok _ _›
      have h1:=(mup_look p m.gs m.rest _).le h0
      split
      · rename_i h2; rw [h2] at h1; exact (vup_askOn _ _).le h1
      · exact h1
    · have h0 := Zap ‹Sem.run p (choose (.extern "collector.look" 2)) m.world = Result.ok _ _›
      exact (vup_askOn _ _).le h0
  · exact vup_askOn _ _
theorem vup_move (p:Program) (m:Machine):VUp m.world.drawn (move p m):=by
  unfold move
  split
  · split
    · exact Nat.le_refl _
    · trivial
  · split
    · split
      · exact Nat.le_refl _
      · exact vup_ask _ _
    · exact vup_ask _ _
theorem mup_step (p:Program) (m:Machine):MUp m.world.drawn (step p m):=by
  unfold step stepT
  have h:=vup_move p m
  split
  · rename_i h1; rw [h1] at h; exact (mup_runT _ _ _ _).le h
  · rename_i h1; rw [h1] at h; exact h
theorem runN_drawn {p:Program}:∀ (n:Nat) (m m':Machine),runN p n m = .next m' → m.world.drawn ≤ m'.world.drawn
  | 0,m,m',h=>by simp only [runN,Stepped.next.injEq] at h; rw [h]; exact Nat.le_refl _
  | n + 1,m,m',h=>by
    have h1:=mup_step p m
    simp only [runN] at h
    split at h
    · rename_i m1 h2; rw [h2] at h1; exact Nat.le_trans h1 (runN_drawn n m1 m' h)
    · rename_i h2; rw [h] at h1; exact h1
theorem calls_drawn {P:Program} {f:FuncId} {args:Array Value} {w:World} {R:Ending → World → Prop} (h:Calls P f args w R):Calls P f args w fun e w'=>R e w' ∧ (e = .outgrown ∨ w.drawn ≤ w'.drawn):=by
  intro cs
  obtain ⟨e,w',fr,h1,h2,h3,h4⟩:=h cs
  refine ⟨e,w',fr,⟨h1,?_⟩,h2,h3,h4⟩
  cases e with
  | outgrown=>exact .inl rfl
  | returned v=>obtain ⟨n,hn⟩:=h2; exact .inr (runN_drawn n _ _ hn)
  | panicked c=>obtain ⟨n,hn⟩:=h2; exact .inr (runN_drawn n _ _ hn)
end Go.VM
namespace Go.VM
open Go
inductive Tr where
  | lf
  | nd (l : Tr) (v : PV) (r : Tr)
  deriving Inhabited
def Tr.get:Tr → Nat → PV
  | .lf,_=>.any
  | .nd l v r,n=>bif n == 0 then v else bif n % 2 == 1 then Tr.get l (n / 2) else Tr.get r (n / 2 - 1)
def Tr.put:Nat → Tr → Nat → PV → Tr
  | 0,t,_,_=>t
  | f + 1,.lf,n,x=>bif n == 0 then .nd .lf x .lf else bif n % 2 == 1 then .nd (Tr.put f .lf (n / 2) x) .any .lf else .nd .lf .any (Tr.put f .lf (n / 2 - 1) x)
  | f + 1,.nd l v r,n,x=>bif n == 0 then .nd l x r else bif n % 2 == 1 then .nd (Tr.put f l (n / 2) x) v r else .nd l v (Tr.put f r (n / 2 - 1) x)
theorem Tr.get_put:∀ (f:Nat) (t:Tr) (n m:Nat) (x:PV),n + 1 < 2 ^ f → (Tr.put f t n x).get m = if n = m then x else t.get m:=by
  intro f
  induction f with
  | zero=>intro t n m x h; simp at h
  | succ f ih =>
    intro t n m x h
    have h2:2 ^ (f + 1) = 2 ^ f + 2 ^ f:=by rw [Nat.pow_succ]; omega
    cases t with
    | lf =>
      by_cases h0:n = 0
      · subst h0
        cases m with
        | zero=>simp [Tr.put,Tr.get]
        | succ m =>
          simp only [Tr.put,Tr.get,beq_self_eq_true,cond_true,Nat.add_eq_zero_iff,Nat.succ_ne_zero,and_false,if_false]
          have:¬ (0 = m + 1):=by omega
          simp [this]
      · have hb:(n == 0) = false:=by simp [h0]
        by_cases h1:n % 2 = 1
        · have hb1:(n % 2 == 1) = true:=by simp [h1]
          simp only [Tr.put,hb,hb1,cond_true,cond_false,Tr.get]
          by_cases m0:m = 0
          · subst m0; simp [h0]
          · have mb:(m == 0) = false:=by simp [m0]
            by_cases m1:m % 2 = 1
            · have mb1:(m % 2 == 1) = true:=by simp [m1]
              simp only [mb,mb1,cond_true,cond_false]
              rw [ih .lf (n / 2) (m / 2) x (by omega)]
              by_cases e:n = m
              · subst e; simp
              · rw [if_neg e,if_neg (by omega)]; rfl
            · have mb1:(m % 2 == 1) = false:=by simp [m1]
              simp only [mb,mb1,cond_false]
              rw [if_neg (by rintro rfl; exact m1 h1)]
        · have hb1:(n % 2 == 1) = false:=by simp [h1]
          simp only [Tr.put,hb,hb1,cond_false,Tr.get]
          by_cases m0:m = 0
          · subst m0; simp [h0]
          · have mb:(m == 0) = false:=by simp [m0]
            by_cases m1:m % 2 = 1
            · have mb1:(m % 2 == 1) = true:=by simp [m1]
              simp only [mb,mb1,cond_true,cond_false]
              rw [if_neg (by rintro rfl; exact h1 m1)]
            · have mb1:(m % 2 == 1) = false:=by simp [m1]
              simp only [mb,mb1,cond_false]
              rw [ih .lf (n / 2 - 1) (m / 2 - 1) x (by omega)]
              by_cases e:n = m
              · subst e; simp
              · rw [if_neg e,if_neg (by omega)]; rfl
    | nd l v r =>
      by_cases h0:n = 0
      · subst h0
        cases m with
        | zero=>simp [Tr.put,Tr.get]
        | succ m =>
          have:¬ (0 = m + 1):=by omega
          simp [Tr.put,Tr.get,this]
      · have hb:(n == 0) = false:=by simp [h0]
        by_cases h1:n % 2 = 1
        · have hb1:(n % 2 == 1) = true:=by simp [h1]
          simp only [Tr.put,hb,hb1,cond_true,cond_false,Tr.get]
          by_cases m0:m = 0
          · subst m0; simp [h0]
          · have mb:(m == 0) = false:=by simp [m0]
            by_cases m1:m % 2 = 1
            · have mb1:(m % 2 == 1) = true:=by simp [m1]
              simp only [mb,mb1,cond_true,cond_false]
              rw [ih l (n / 2) (m / 2) x (by omega)]
              by_cases e:n = m
              · subst e; simp
              · rw [if_neg e,if_neg (by omega)]
            · have mb1:(m % 2 == 1) = false:=by simp [m1]
              simp only [mb,mb1,cond_false]
              rw [if_neg (by rintro rfl; exact m1 h1)]
        · have hb1:(n % 2 == 1) = false:=by simp [h1]
          simp only [Tr.put,hb,hb1,cond_false,Tr.get]
          by_cases m0:m = 0
          · subst m0; simp [h0]
          · have mb:(m == 0) = false:=by simp [m0]
            by_cases m1:m % 2 = 1
            · have mb1:(m % 2 == 1) = true:=by simp [m1]
              simp only [mb,mb1,cond_true,cond_false]
              rw [if_neg (by rintro rfl; exact h1 m1)]
            · have mb1:(m % 2 == 1) = false:=by simp [m1]
              simp only [mb,mb1,cond_false]
              rw [ih r (n / 2 - 1) (m / 2 - 1) x (by omega)]
              by_cases e:n = m
              · subst e; simp
              · rw [if_neg e,if_neg (by omega)]
def isBoolB:PV → Bool | .bool _=>true | _=>false
def isStrB:PV → Bool | .str _=>true | _=>false
def isIntB:PV → Bool | .int _ _=>true | _=>false
def isAggB:PV → Bool | .agg _=>true | _=>false
def isAddrB:PV → Bool | .loc _ _ _ | .ro _=>true | _=>false
def binbOkB (op:BinOp):PV → PV → Bool
  | .bool _,.bool _=>(match op with | .eql | .neq=>true | _=>false)
  | _,_=>false
def binOkB (op:BinOp):PV → PV → Bool
  | .int k a,.int k' b=>(match op with
    | .shl | .shr=>decide (0 ≤ b)
    | .quo | .rem=>decide (k = k') && !decide (b = 0)
    | _=>decide (k = k'))
  | .str a,.str b=>(match op with
    | .add=>Nat.ble (a.length + b.length) 9223372036854775807
    | .eql | .neq | .lss | .leq | .gtr | .geq=>true
    | _=>false)
  | _,_=>false
def ekOkB:EK → PV → PV → Bool
  | .i,.int k _,.int k' _=>decide (k = k')
  | .s,.str _,.str _=>true
  | .b,.bool _,.bool _=>true
  | _,_,_=>false
def eqOkB:List EK → List PV → List PV → Bool
  | k :: ks,x :: r,y :: q=>ekOkB k x y && eqOkB ks r q
  | [],[],[]=>true
  | _,_,_=>false
def keyOkB:KK → PV → PV → Bool
  | .one k,a,b=>ekOkB k a b
  | .st ks,.agg a,.agg b=>eqOkB ks a b
  | _,_,_=>false
def keysOkB (kk:KK) (k:PV) (es:List (PV × PV)):Bool:=keyOkB kk k k && es.all fun p=>keyOkB kk k p.1
def mapOkB (h:Heap):PV → Bool
  | .mp id=>(match h.get id with | some (.map _)=>true | _=>false)
  | .rmp _=>true
  | .nilmp=>true
  | _=>false
def mapHasB (h:Heap):PV → Bool
  | .mp id=>(match h.get id with | some (.map _)=>true | _=>false)
  | _=>false
def unOkB (op:UnOp):PV → Bool
  | .int _ _=>(match op with | .neg=>true | _=>false)
  | .bool _=>(match op with | .not=>true | _=>false)
  | _=>false
def boundOkB:Option PV → Bool
  | some (.int _ n)=>decide (0 ≤ n)
  | some _=>false
  | none=>true
def sliceOkB (st:Bool) (z:Nat) (h:Heap) (a:PV) (lo hi:Option PV):Bool :=
  boundOkB lo && boundOkB hi && Nat.ble (loV lo) (hiV (lenV a) hi) && Nat.ble (hiV (lenV a) hi) (lenV a) &&
  match a with
  | .str _=>st
  | .sl z' _=>!st && Nat.beq z' z
  | .own id _ _=>!st && (match h.get id with | some (.arr _ z' _)=>Nat.beq z' z | _=>false)
  | .nilsl=>!st
  | _=>false
def locOkB (h:Heap):PV → Bool
  | .loc id i _=>(match h.get id with | some (.arr _ _ es)=>Nat.blt i es.length | _=>false)
  | .ro _=>true
  | _=>false
def iaddrOkB (z:Nat) (h:Heap) (a i:PV):Bool :=
  isIntB i && decide (0 ≤ numOf i) && decide (numOf i < lenV a) &&
  match a with
  | .sl z' _=>Nat.beq z' z
  | .own id _ _=>(match h.get id with | some (.arr _ z' _)=>Nat.beq z' z | _=>false)
  | _=>false
def idxOkB (a i:PV):Bool:=isIntB i && decide (0 ≤ numOf i) && decide (numOf i < lenV a) && isStrB a
def lenOkB (st:Bool):PV → Bool
  | .str _=>st
  | .sl _ _ | .own _ _ _ | .nilsl=>!st
  | _=>false
def extOkB (i:Nat):PV → Bool
  | .tup l=>Nat.blt i l.length
  | _=>false
def fillOkB (e:Env) (n:Nat):List (Nat × Nat × VA) → Bool
  | []=>true
  | (o,s,a) :: r=>(a.ev e).fits s && Nat.ble (o + s) n && fillOkB e n r
def elemsOkB (e:Env) (z n:Nat):List (Nat × VA) → Bool
  | []=>true
  | (i,a) :: r=>(a.ev e).fits z && Nat.blt i n && elemsOkB e z n r
def srcOkB (h:Heap) (str:Bool) (z:Nat):PV → Bool
  | .sl z' _=>!str && Nat.beq z' z
  | .own id off len=>!str && (match h.get id with
    | some (.arr _ z' es)=>Nat.beq z' z && Nat.ble (off + len) es.length
    | _=>false)
  | .nilsl=>!str
  | .str _=>str && Nat.beq z 1
  | _=>false
def oldOkB (h:Heap) (z:Nat):PV → Bool
  | .nilsl=>true
  | .own id off len=>(match h.get id with
    | some (.arr fz z' es)=>!fz && Nat.beq z' z && Nat.ble (off + len) es.length
    | _=>false)
  | _=>false
def storeOkB (h:Heap) (s:Nat) (p v:PV):Bool :=
  v.fits s && match p with
  | .loc id i off=>(match h.get id with
    | some (.arr fz z es)=>!fz && Nat.blt i es.length && Nat.ble (off + s) z
    | _=>false)
  | _=>false
def VA.res (t:Tr):VA → VA
  | .t n=>.c (t.get n)
  | .c p=>.c p
def Sim (t:Tr) (e:Env):Prop:=∀ n,t.get n = e.get n
theorem Sim.ev {t:Tr} {e:Env} (h:Sim t e) (a:VA):(a.res t).ev [] = a.ev e:=by
  cases a with
  | t n=>exact h n
  | c p=>rfl
def VOp.res (t:Tr):VOp → VOp
  | .mv a=>.mv (a.res t)
  | .pick c a b=>.pick (c.res t) (a.res t) (b.res t)
  | .alloc z=>.alloc z
  | .box n a=>.box n (a.res t)
  | .build z ps=>.build z (ps.map fun p=>(p.1,p.2.1,p.2.2.res t))
  | .bslice z n zr ps=>.bslice z n zr (ps.map fun p=>(p.1,p.2.res t))
  | .load g s a=>.load g s (a.res t)
  | .store s a v=>.store s (a.res t) (v.res t)
  | .bin op a b=>.bin op (a.res t) (b.res t)
  | .binb op a b=>.binb op (a.res t) (b.res t)
  | .strid a=>.strid (a.res t)
  | .eqs n ks a b=>.eqs n ks (a.res t) (b.res t)
  | .isnil n a=>.isnil n (a.res t)
  | .un op a=>.un op (a.res t)
  | .conv k a=>.conv k (a.res t)
  | .b2s a=>.b2s (a.res t)
  | .s2b a=>.s2b (a.res t)
  | .mkfn f x y=>.mkfn f (x.map (VA.res t)) (y.map (VA.res t))
  | .slice st z a lo hi=>.slice st z (a.res t) (lo.map (VA.res t)) (hi.map (VA.res t))
  | .faddr o a=>.faddr o (a.res t)
  | .fld g o s a=>.fld g o s (a.res t)
  | .iaddr z a i=>.iaddr z (a.res t) (i.res t)
  | .idx a i=>.idx (a.res t) (i.res t)
  | .ext a i=>.ext (a.res t) i
  | .len st a=>.len st (a.res t)
  | .app z b zr st x y=>.app z b zr st (x.res t) (y.res t)
  | .mm mx l=>.mm mx (l.map (VA.res t))
  | .mkmap=>.mkmap
  | .lookup kk z ok m k=>.lookup kk z ok (m.res t) (k.res t)
  | .mapset kk m k v=>.mapset kk (m.res t) (k.res t) (v.res t)
  | .mlen m=>.mlen (m.res t)
  | .call f l=>.call f (l.map (VA.res t))
  | .callv f l=>.callv (f.res t) (l.map (VA.res t))
  | .px k l=>.px k (l.map (VA.res t))
  | .fx k l=>.fx k (l.map (VA.res t))
  | .nd neg a=>.nd neg (a.res t)
  | .other o=>.other o
section
variable {t : Tr} {e : Env} (hs : Sim t e)
include hs
end
end Go.VM
namespace Go.VM
open Go
mutual
def PV.clB : PV → Bool
  | .any | .undef | .bool _ | .int _ _ | .str _ | .nilp | .nilsl | .nilmp | .nilfn | .nilif => true
  | .ro cs => PV.clsB cs
  | .sl _ es => PV.clssB es
  | .agg cs => PV.clsB cs
  | .tup cs => PV.clsB cs
  | .fn _ a b => PV.clsB a && PV.clsB b
  | .ifc _ v => PV.clB v
  | .rmp es => PV.clpB es
  | .loc _ _ _ | .own _ _ _ | .mp _ | .fnb _ _ => false
def PV.clsB : List PV → Bool
  | [] => true
  | p :: r => PV.clB p && PV.clsB r
def PV.clssB : List (List PV) → Bool
  | [] => true
  | p :: r => PV.clsB p && PV.clssB r
def PV.clpB : List (PV × PV) → Bool
  | [] => true
  | (a, b) :: r => PV.clB a && PV.clB b && PV.clpB r
end
theorem closed_fn {f:Fn} {a b:List PV} (h1:∀ x ∈ a,Closed x) (h2:∀ x ∈ b,Closed x):Closed (.fn f a b):=by
  intro g v hv
  cases hv with
  | fn _ fs cs _ _ s1 s2 r1 r2 =>
    refine .fn f fs cs a b s1 s2 (fun j hj=>h1 _ ?_ g _ (r1 j hj)) (fun j hj=>h2 _ ?_ g _ (r2 j hj))
    · simp only [PV.nth,List.getD_eq_getElem?_getD,List.getElem?_eq_getElem hj,Option.getD_some]; exact List.getElem_mem hj
    · simp only [PV.nth,List.getD_eq_getElem?_getD,List.getElem?_eq_getElem hj,Option.getD_some]; exact List.getElem_mem hj
mutual
theorem PV.clB_ok : ∀ (p : PV), p.clB = true → Closed p
  | .any, _ => fun _ v _ => .any v
  | .undef, _ => fun _ v h => by cases h; exact .undef
  | .bool b, _ => cB b
  | .int k n, _ => Closed.of_scalar (scalar_int _ _)
  | .str s, _ => cS s
  | .nilp, _ => fun _ v h => by cases h; exact .nilp
  | .nilsl, _ => closed_nilsl
  | .nilmp, _ => fun _ v h => by cases h; exact .nilmp
  | .nilfn, _ => fun _ v h => by cases h; exact .nilfn
  | .nilif, _ => fun _ v h => by cases h; exact .nilif
  | .ro cs, h => Zbb (PV.clsB_ok cs h)
  | .sl z es, h => closed_sl (PV.clssB_ok es h)
  | .agg cs, h => closed_agg (PV.clsB_ok cs h)
  | .tup cs, h => closed_tup (PV.clsB_ok cs h)
  | .fn f a b, h => by
    simp only [PV.clB,Bool.and_eq_true] at h
    exact closed_fn (PV.clsB_ok a h.1) (PV.clsB_ok b h.2)
  | .ifc t v, h => fun g x hx => by
    cases hx with
    | ifc _ y _ hy => exact .ifc t y v (PV.clB_ok v h g y hy)
  | .rmp es, h => closed_rmp (PV.clpB_ok es h)
  | .fnb _ _, h => by cases h
  | .loc _ _ _, h => by cases h
  | .own _ _ _, h => by cases h
  | .mp _, h => by cases h
theorem PV.clsB_ok : ∀ (l : List PV), PV.clsB l = true → ∀ x ∈ l, Closed x
  | [], _ => fun x hx => by cases hx
  | p :: r, h => by
    simp only [PV.clsB,Bool.and_eq_true] at h
    intro x hx
    rcases List.mem_cons.1 hx with hp | hx
    · rw [hp]; exact PV.clB_ok p h.1
    · exact PV.clsB_ok r h.2 x hx
theorem PV.clssB_ok : ∀ (l : List (List PV)), PV.clssB l = true → ∀ e ∈ l, ∀ x ∈ e, Closed x
  | [], _ => fun x hx => by cases hx
  | p :: r, h => by
    simp only [PV.clssB,Bool.and_eq_true] at h
    intro x hx
    rcases List.mem_cons.1 hx with hp | hx
    · rw [hp]; exact PV.clsB_ok p h.1
    · exact PV.clssB_ok r h.2 x hx
theorem PV.clpB_ok : ∀ (l : List (PV × PV)), PV.clpB l = true → ∀ e ∈ l, Closed e.1 ∧ Closed e.2
  | [], _ => fun x hx => by cases hx
  | (a, b) :: r, h => by
    simp only [PV.clpB,Bool.and_eq_true] at h
    intro x hx
    rcases List.mem_cons.1 hx with hp | hx
    · rw [hp]; exact ⟨PV.clB_ok a h.1.1, PV.clB_ok b h.1.2⟩
    · exact PV.clpB_ok r h.2 x hx
end
mutual
def PV.scB : PV → Bool
  | .any | .undef | .bool _ | .int _ _ | .str _ | .nilp | .nilsl | .nilmp | .nilfn | .nilif => true
  | .sl _ es => es.isEmpty
  | .agg cs => PV.scsB cs
  | .tup cs => PV.scsB cs
  | .ro _ | .fn _ _ _ | .ifc _ _ | .loc _ _ _ | .own _ _ _ | .mp _ | .rmp _ | .fnb _ _ => false
def PV.scsB : List PV → Bool
  | [] => true
  | p :: r => PV.scB p && PV.scsB r
end
mutual
theorem PV.scB_ok : ∀ (p : PV), p.scB = true → Scalar p
  | .any, _ => fun _ v _ _ => .any v
  | .undef, _ => fun _ v h _ => by cases h; exact .undef
  | .bool b, _ => scalar_bool _
  | .int k n, _ => scalar_int _ _
  | .str s, _ => scalar_str _
  | .nilp, _ => fun _ v h _ => by cases h; exact .nilp
  | .nilsl, _ => fun _ v h _ => by cases h; exact .nilsl
  | .nilmp, _ => fun _ v h _ => by cases h; exact .nilmp
  | .nilfn, _ => fun _ v h _ => by cases h; exact .nilfn
  | .nilif, _ => fun _ v h _ => by cases h; exact .nilif
  | .fnb _ _, h => by cases h
  | .ro cs, h => by cases h
  | .sl z es, h => by
    obtain rfl : es = [] := by simpa [PV.scB] using h
    intro g v hv g'
    cases hv with
    | slE => exact .slE _ _ _
    | sl b o len cap z a es vs ha hl hc hz hm hr => 
      obtain rfl : len = 0 := by simpa using hl.symm
      exact .slE _ _ _
  | .agg cs, h => scalar_agg (PV.scsB_ok cs h)
  | .tup cs, h => scalar_tup (PV.scsB_ok cs h)
  | .fn f a b, h => by cases h
  | .ifc t v, h => by cases h
  | .loc _ _ _, h => by cases h
  | .own _ _ _, h => by cases h
  | .mp _, h => by cases h
  | .rmp _, h => by cases h
theorem PV.scsB_ok : ∀ (l : List PV), PV.scsB l = true → ∀ x ∈ l, Scalar x
  | [], _ => fun x hx => by cases hx
  | p :: r, h => by
    simp only [PV.scsB,Bool.and_eq_true] at h
    intro x hx
    rcases List.mem_cons.1 hx with hp | hx
    · rw [hp]; exact PV.scB_ok p h.1
    · exact PV.scsB_ok r h.2 x hx
end
def optL (f:PV → Option PV):List PV → Option (List PV)
  | []=>some []
  | p :: r=>match f p with
    | some q=>match optL f r with
      | some s=>some (q :: s)
      | none=>none
    | none=>none
def optLL (f:PV → Option PV):List (List PV) → Option (List (List PV))
  | []=>some []
  | p :: r=>match optL f p with
    | some q=>match optLL f r with
      | some s=>some (q :: s)
      | none=>none
    | none=>none
def optP (f:PV → Option PV):List (PV × PV) → Option (List (PV × PV))
  | []=>some []
  | p :: r=>match f p.1,f p.2 with
    | some a,some b=>match optP f r with
      | some s=>some ((a,b) :: s)
      | none=>none
    | _,_=>none
def viewD (h:Heap):Nat → PV → Option PV
  | 0,_=>none
  | n + 1,p=>bif p.clB then some p else match p with
    | .own id off len=>(match h.get id with
      | some (.arr _ z es)=>bif Nat.ble (off + len) es.length then (match optLL (viewD h n) ((es.drop off).take len) with
        | some q=>some (.sl z q)
        | none=>none) else none
      | _=>none)
    | .sl z es => (match optLL (viewD h n) es with
        | some q=>some (.sl z q)
        | none=>none)
    | .agg cs => (match optL (viewD h n) cs with
        | some q=>some (.agg q)
        | none=>none)
    | .tup cs => (match optL (viewD h n) cs with
        | some q=>some (.tup q)
        | none=>none)
    | .loc id i off=>(match h.get id with
      | some (.arr _ _ es)=>bif Nat.blt i es.length then (match optL (viewD h n) ((PV.row es i).drop off) with
        | some q=>some (.ro q)
        | none=>none) else none
      | _=>none)
    | .mp id=>(match h.get id with
      | some (.map es)=>(match optP (viewD h n) es with
        | some q=>some (.rmp q)
        | none=>none)
      | _=>none)
    | _=>none
end Go.VM
namespace Go.VM
open Go
def isByteB:List PV → Bool
  | [.int .u8 _]=>true
  | _=>false
def bytesOkB (h:Heap):PV → Bool
  | .nilsl=>true
  | .sl z es=>Nat.beq z 1 && es.all isByteB
  | .own id off len=>(match h.get id with
    | some (.arr _ z es)=>Nat.beq z 1 && Nat.ble (off + len) es.length && ((es.drop off).take len).all isByteB
    | _=>false)
  | _=>false
def pxOkB (h:Heap):PX → List PV → Bool
  | .b2s,[a]=>bytesOkB h a
  | .nck,[a]=>isPtr a
  | .unx,[a]=>isIntB a
  | .isnil _,[a]=>isNil a || notNil a
  | _,_=>false
def fxOkB (h:Heap):FX → List PV → Bool
  | .slice0 z,[a]=>(match a with
    | .nilsl | .sl _ _=>true
    | .own _ _ _=>true
    | _=>false)
  | .mk0 _,[]=>true
  | .clear z zr,[a]=>(match a with
    | .nilsl=>true
    | .own id off len=>(match h.get id with
      | some (.arr fz z' es)=>!fz && Nat.beq z' z && Nat.ble (off + len) es.length && Nat.beq zr.length z
      | _=>false)
    | _=>false)
  | _,_=>false
def pokB (h:Heap):VOp → Bool
  | .mv _=>true
  | .pick c _ _=>isBoolB (c.ev [])
  | .build zr ps=>fillOkB [] zr.length ps
  | .load g s a=>locOkB h (a.ev []) && Nat.ble s (Za3 h (a.ev [])).length && (g || Nat.beq s 1)
  | .bin op a b=>binOkB op (a.ev []) (b.ev [])
  | .binb op a b=>binbOkB op (a.ev []) (b.ev [])
  | .strid a=>isStrB (a.ev [])
  | .eqs _ ks a b=>isAggB (a.ev []) && isAggB (b.ev []) && eqOkB ks (Zaw (a.ev [])) (Zaw (b.ev []))
  | .un op a=>unOkB op (a.ev [])
  | .conv _ a=>isIntB (a.ev [])
  | .mkfn _ _ _=>true
  | .slice st z a lo hi=>sliceOkB st z h (a.ev []) (lo.map (VA.ev [])) (hi.map (VA.ev []))
  | .faddr _ a=>isAddrB (a.ev [])
  | .fld g off s a=>isAggB (a.ev []) && Nat.ble (off + s) (Zaw (a.ev [])).length && (g || Nat.beq s 1)
  | .iaddr z a i=>iaddrOkB z h (a.ev []) (i.ev [])
  | .idx a i=>idxOkB (a.ev []) (i.ev [])
  | .ext a i=>extOkB i (a.ev [])
  | .len st a=>lenOkB st (a.ev [])
  | .lookup kk _ _ m k=>mapOkB h (m.ev []) && keysOkB kk (k.ev []) (Zbe h (m.ev []))
  | .mlen m=>mapOkB h (m.ev [])
  | .mm _ [a,b]=>isIntB (a.ev []) && isIntB (b.ev [])
  | .px k l=>pxOkB h k (l.map (VA.ev []))
  | _=>false
abbrev RX:=Option (PV × Heap)
def stepX (h:Heap) (op:VOp):RX :=
  match op with
  | .alloc zr=>some (.loc h.top 0 0,h.push (.arr false zr.length [zr]))
  | .box n a=>bif (a.ev []).fits n then some (.loc h.top 0 0,h.push (.arr false n [(a.ev []).cells])) else none
  | .bslice z n zr ps=>bif elemsOkB [] z n ps then some (.own h.top 0 n,h.push (.arr false z (Za6 [] (List.replicate n zr) ps))) else none
  | .store s a v=>bif storeOkB h s (a.ev []) (v.ev []) then some (.undef,storeV h (a.ev []) (v.ev [])) else none
  | .app z bytes _ str a b => bif oldOkB h z (a.ev []) && srcOkB h str z (b.ev []) && Nat.ble ((Za7 h (a.ev [])).length + (Zau h (b.ev [])).length) 4611686018427387904 &&
      Nat.ble (((Za7 h (a.ev [])).length + (Zau h (b.ev [])).length) * bytes) 140737488355328 then
        some (.own h.top 0 ((Za7 h (a.ev [])).length + (Zau h (b.ev [])).length),(Zba h (oldId (a.ev []))).push (.arr false z (Za7 h (a.ev []) ++ Zau h (b.ev []))))
      else none
  | .mkmap=>some (.mp h.top,h.push (.map []))
  | .mapset kk m k v=>bif mapHasB h (m.ev []) && keysOkB kk (k.ev []) (Zbe h (m.ev [])) then some (.undef,mapsetV h (m.ev []) (k.ev []) (v.ev [])) else none
  | .fx k l=>bif fxOkB h k (l.map (VA.ev [])) then some (fxV h k (l.map (VA.ev []))) else none
  | .nd neg a=>bif slLike (a.ev []) then (bif isNil (a.ev []) then some (.bool (true != neg),h) else bif notNil (a.ev []) then some (.bool (false != neg),h) else none) else none
  | .other _ | .call _ _ | .callv _ _=>none
  | op=>bif pokB h op then some (pval [] h op,h) else none
theorem storeV_top (h:Heap) (a v:PV):(storeV h a v).top = h.top:=by
  unfold storeV
  split
  · split <;> rfl
  · rfl
theorem mapsetV_top (h:Heap) (m k v:PV):(mapsetV h m k v).top = h.top:=by
  unfold mapsetV
  split <;> rfl
abbrev CX:=Nat → List PV → Heap → RX
def opX (call:CX) (h:Heap) (op:VOp):RX :=
  match op with
  | .call f l=>call f (l.map (VA.ev [])) h
  | .callv f l=>(match f.ev [] with
    | .fn (.func f) a b=>call f (a ++ l.map (VA.ev []) ++ b) h
    | _=>none)
  | op=>stepX h op
def CallOk (P:Program) (call:CX):Prop:=∀ f args h v h',call f args h = some (v,h') → HOk h → (∀ K:PV → Heap → Prop,K v h' → ACall P f args h K) ∧ HOk h' ∧ h.top ≤ h'.top
def putO (t:Tr) (d:Option Nat) (v:PV):Tr:=match d with | some d=>Tr.put 10 t d v | none=>t
def guardX (t:Tr):Option (Nat × Bool) → Option Bool
  | none=>some true
  | some (d,want)=>guardOf want (t.get d)
def opsX (call:CX):List VOper → Tr → Heap → Option (Tr × Heap)
  | [],t,h=>some (t,h)
  | o :: r,t,h=>match guardX t o.guard with
    | some true=>(match opX call h (o.op.res t) with
      | some (v,h')=>opsX call r (putO t o.dst v) h'
      | none=>none)
    | some false=>opsX call r (putO t o.dst .undef) h
    | none=>none
def SimN (N:Nat) (t:Tr) (e:Env):Prop:=Sim t e ∧ ∀ k,N ≤ k → e.get k = .any
theorem SimN.put {N:Nat} (hN:N ≤ 1000) {t:Tr} {e:Env} (hs:SimN N t e) {d:Option Nat} (hd:∀ k,d = some k → k < N) (v:PV):SimN N (putO t d v) (e.put d v):=by
  cases d with
  | none=>exact hs
  | some d =>
    have hlt:=hd d rfl
    refine ⟨fun n=>?_,fun k hk=>?_⟩
    · simp only [putO,Env.put,Env.get]
      rw [Tr.get_put 10 t d n v (by have : (2 : Nat) ^ 10 = 1024 := by decide
                                    omega),hs.1 n]
    · simp only [Env.put,Env.get]
      rw [if_neg (by omega)]; exact hs.2 k hk
end Go.VM
namespace Go.VM
open Go
theorem keep_mem (e:Env):∀ (l:List Nat) (t:Nat),(Env.keep l e).get t = if t ∈ l then e.get t else .any
  | [],t=>by simp [Env.keep,Env.get]
  | k :: l,t=>by
    simp only [Env.keep,Env.get,List.mem_cons]
    by_cases h:k = t
    · subst h; simp
    · rw [if_neg h,keep_mem e l t]
      have:¬ t = k:=fun h'=>h h'.symm
      simp [this]
theorem SimN.keep {N:Nat} {t:Tr} {e:Env} (h:SimN N t e):SimN N t (Env.keep (List.range N) e):=by
  refine ⟨fun n=>?_,fun k hk=>?_⟩
  · rw [keep_mem,h.1 n]
    by_cases hn:n < N
    · simp [hn]
    · rw [h.2 n (by omega)]; simp
  · rw [keep_mem,if_neg (by simpa using hk)]
def effB (hq:Heap) (op:VOp):Bool :=
  match op with
  | .store _ a _=>(match a.ev [] with | .loc id _ _=>(hq.get id).isNone | _=>false)
  | .mapset _ m _ _=>(match m.ev [] with | .mp id=>(hq.get id).isNone | _=>false)
  | .app _ _ _ _ a _=>(match a.ev [] with | .own id _ _=>(hq.get id).isNone | .nilsl=>true | _=>false)
  | .fx (.clear _ _) _=>false
  | _=>true
def viewFin (h':Heap) (r:PV):Option PV :=
  match viewD h' 30 r with
  | some p=>bif p.clB then some p else none
  | none=>none
def pcallX (call:CX) (hq:Heap) (f:Nat) (args:List PV):Option PV :=
  bif PV.clsB args then (match call f args Heap.nil with
    | some (r,h')=>viewFin h' r
    | none=>none)
  else match optL (viewD hq 30) args with
    | some q=>bif PV.clsB q then (match call f q Heap.nil with
      | some (r,h')=>(match viewFin h' r with
        | some p=>bif p.scB then some p else none
        | none=>none)
      | none=>none) else none
    | none=>none
def quietX (call:CX) (hq:Heap) (op:VOp):Option PV :=
  match op with
  | .call f l=>pcallX call hq f (l.map (VA.ev []))
  | .callv f l=>(match f.ev [] with
    | .fn (.func f) a b=>pcallX call hq f (a ++ l.map (VA.ev []) ++ b)
    | _=>none)
  | .bslice z n zr ps=>bif elemsOkB [] z n ps then some (.sl z (Za6 [] (List.replicate n zr) ps)) else none
  | op=>bif op.pure && pokB hq op then some (pval [] hq op) else none
def drawX (call:CX) (hq:Heap):List VOper → Tr → Heap → Option (Tr × Heap)
  | [],t,h=>some (t,h)
  | o :: r,t,h=>match o.op.simple,o.guard with
    | true,none=>bif effB hq (o.op.res t) then (match stepX h (o.op.res t) with
      | some (v,h')=>bif Nat.ble h'.top hq.top then drawX call hq r (putO t o.dst v) h' else none
      | none=>none) else none
    | true,some _=>none
    | false,g=>match guardX t g with
      | some true=>(match quietX call hq (o.op.res t) with
        | some v=>drawX call hq r (putO t o.dst v) h
        | none=>none)
      | some false=>drawX call hq r (putO t o.dst .undef) h
      | none=>none
def midB (mid:Heap) (op:VOp):Bool :=
  match op with
  | .app _ _ _ _ a _=>(match a.ev [] with | .own id _ _=>(mid.get id).isNone | _=>true)
  | _=>true
def draw2X (call:CX) (big mid small:Heap) (late:List Bool):Nat → List VOper → Tr → Heap → Option (Tr × Heap)
  | _,[],t,h=>some (t,h)
  | k,o :: r,t,h=>match o.op.simple,o.guard with
    | true,none=>bif effB small (o.op.res t) && midB mid (o.op.res t) then (match stepX h (o.op.res t) with
      | some (v,h')=>bif Nat.ble h'.top small.top then draw2X call big mid small late (k + 1) r (putO t o.dst v) h' else none
      | none=>none) else none
    | true,some _=>none
    | false,g=>match guardX t g with
      | some true=>(match quietX call (bif late.getD k false then big else bif o.op.isIaddr then mid else small) (o.op.res t) with
        | some v=>draw2X call big mid small late (k + 1) r (putO t o.dst v) h
        | none=>none)
      | some false=>draw2X call big mid small late (k + 1) r (putO t o.dst .undef) h
      | none=>none
theorem shp_set {mid h:Heap} (hm:Shp mid h) {id:Nat} {ab ab0:AB} (hg:h.get id = some ab0) (ha:∀ fz z es,ab0 = .arr fz z es → ∃ fz' es',ab = .arr fz' z es'):Shp mid (h.set id ab):=by
  intro i fz z es e
  obtain ⟨fz',es',e'⟩:=hm i fz z es e
  rw [Heap.get_set]
  by_cases hi:id = i
  · subst hi
    rw [if_pos rfl,hg]
    rw [hg] at e'
    simp only [Option.some.injEq] at e'
    obtain ⟨f2,e2,rfl⟩:=ha _ _ _ e'
    exact ⟨f2,e2,by simp⟩
  · rw [if_neg hi]; exact ⟨fz',es',e'⟩
end Go.VM
namespace Go.VM
open Go
structure FnD where
  n : Nat
  rs : List RS
  vc : VC
abbrev EX:=VC → Tr → Heap → Option (Exit × Tr × Heap)
def tgt:VOp → Option Nat
  | .store _ a _=>(match a.ev [] with | .loc id _ _=>some id | _=>none)
  | .mapset _ m _ _=>(match m.ev [] with | .mp id=>some id | _=>none)
  | .app _ _ _ _ a _=>(match a.ev [] with | .own id _ _=>some id | _=>none)
  | _=>none
def touchX (call:CX):List VOper → Tr → Heap → List Nat
  | [],_,_=>[]
  | o :: r,t,h=>match guardX t o.guard with
    | some true=>(match opX call h (o.op.res t) with
      | some (v,h')=>(match tgt (o.op.res t) with
        | some id=>id :: touchX call r (putO t o.dst v) h'
        | none=>touchX call r (putO t o.dst v) h')
      | none=>[])
    | some false=>touchX call r (putO t o.dst .undef) h
    | none=>[]
def quietHeap (q:List VOper) (h:Heap):Heap:=⟨h.l,h.top + q.length⟩
def goneX (call:CX):List VOper → Tr → Heap → List Nat
  | [],_,_=>[]
  | o :: r,t,h=>match guardX t o.guard with
    | some true=>(match opX call h (o.op.res t) with
      | some (v,h')=>(match o.op.res t with
        | .app _ _ _ _ (.c (.own id _ _)) _=>id :: goneX call r (putO t o.dst v) h'
        | _=>goneX call r (putO t o.dst v) h')
      | none=>[])
    | some false=>goneX call r (putO t o.dst .undef) h
    | none=>[]
def midHeap (call:CX) (q:List VOper) (t:Tr) (h:Heap):Heap :=
  bif q.any (fun o=>match o.op with | .app ..=>true | _=>false) then (match goneX call q t h with
    | ids=>⟨HL.only (fun k=>!ids.any (Nat.beq k)) h.l,h.top⟩) else h
def smallHeap (call:CX) (q:List VOper) (t:Tr) (h:Heap):Heap :=
  match touchX call q t h with
  | ids=>⟨HL.only (fun k=>!ids.any (Nat.beq k)) h.l,h.top + q.length⟩
def stepVC (ex:EX) (call:CX):EX
  | .skip,t,h=>some (.normal,t,h)
  | .region q false,t,h=>(match opsX call q t h with
    | some (t',h')=>some (.normal,t',h')
    | none=>none)
  | .region q true,t,h=>(match drawX call (quietHeap q h) q t h with
    | some (t',h')=>some (.normal,t',h')
    | none=>none)
  | .draw2 q late,t,h=>(match draw2X call (quietHeap q h) (midHeap call q t h) (smallHeap call q t h) late 0 q t h with
    | some (t',h')=>some (.normal,t',h')
    | none=>none)
  | .seq a b,t,h=>(match ex a t h with
    | some (.normal,t',h')=>ex b t' h'
    | r=>r)
  | .cond c a b,t,h=>(match (c.res t).ev [] with
    | .bool true=>ex a t h
    | .bool false=>ex b t h
    | _=>none)
  | .block id b,t,h=>(match ex b t h with
    | some (.exit j,t',h')=>some (bif Nat.beq j id then .normal else .exit j,t',h')
    | r=>r)
  | .loop b,t,h=>(match ex b t h with
    | some (.normal,t',h')=>ex (.loop b) t' h'
    | r=>r)
  | .scope b,t,h=>(match ex b t h with
    | some (.goto _,_,_)=>none
    | r=>r)
  | .exit id,t,h=>some (.exit id,t,h)
  | .ret,t,h=>some (.ret,t,h)
  | .other _,_,_=>none
def argTr:Nat → List PV → Tr → Tr
  | _,[],t=>t
  | k,a :: r,t=>argTr (k + 1) r (Tr.put 10 t k a)
def rsV (t:Tr) (h:Heap):RS → PV
  | .t n=>t.get n
  | .c n g s=>aggV g ((Za3 h (t.get n)).take s)
def rsB (t:Tr) (h:Heap):RS → Bool
  | .t _=>true
  | .c n g s=>locOkB h (t.get n) && Nat.ble s (Za3 h (t.get n)).length && (g || Nat.beq s 1)
def rssV (t:Tr) (h:Heap):List RS → PV
  | [x]=>rsV t h x
  | l=>.tup (l.map (rsV t h))
def letGo (h:Heap) (args:List PV) (v:PV) (h':Heap):Heap :=
  bif PV.clsB args && v.clB then ⟨HL.only (fun k=>Nat.blt k h.top) h'.l,h'.top⟩ else h'
def callX (ex:EX) (T:Nat → Option FnD):CX:=fun f args h =>
  match T f with
  | some d=>bif Nat.ble args.length d.n && Nat.ble d.n 1000 then (match ex d.vc (argTr 0 args .lf) h with
    | some (.normal,t',h')=>bif d.rs.all (rsB t' h') then some (rssV t' h' d.rs,letGo h args (rssV t' h' d.rs) h') else none
    | some (.ret,t',h')=>bif d.rs.all (rsB t' h') then some (rssV t' h' d.rs,letGo h args (rssV t' h' d.rs) h') else none
    | _=>none) else none
  | none=>none
def exec (T:Nat → Option FnD):Nat → EX
  | 0=>fun _ _ _=>none
  | n + 1=>stepVC (exec T n) (callX (exec T n) T)
def HCallOk (call:CX):Prop:=∀ f args h v h',call f args h = some (v,h') → HOk h → HOk h' ∧ h.top ≤ h'.top
theorem CallOk.heap {P:Program} {call:CX} (h:CallOk P call):HCallOk call:=fun f args hh v h' H ok=>(h f args hh v h' H ok).2
def tab:List (Nat × FnD) → Nat → Option FnD
  | [],_=>none
  | (k,d) :: r,f=>bif Nat.beq f k then some d else tab r f
end Go.VM
namespace Go.VM
open Go
def DrawH (P:Program) (h0:Heap) (late:List Bool):Nat → List VOper → (Env → Heap → Prop) → Env → Heap → Prop
  | _,[],K,e,h=>K e h
  | k,o :: r,K,e,h=>match o.op with
    | .store s a v=>o.guard = none ∧ Zaf P e h (.store s a v) (fun v h'=>DrawH P h0 late (k + 1) r K (e.put o.dst v) h')
    | .mapset kk m a v=>o.guard = none ∧ Zaf P e h (.mapset kk m a v) (fun v h'=>DrawH P h0 late (k + 1) r K (e.put o.dst v) h')
    | op=>match op.simple,o.guard with
      | true,_=>False
      | false,none=>QW P (if late.getD k false then h0 else if op.isIaddr then h0 else ⟨[],h0.top⟩) e op true (fun v=>DrawH P h0 late (k + 1) r K (e.put o.dst v) h)
      | false,some (d,want)=>(match (generalizing:=false) guardOf want (e.get d) with
        | some c=>QW P (if late.getD k false then h0 else if op.isIaddr then h0 else ⟨[],h0.top⟩) e op c (fun v=>DrawH P h0 late (k + 1) r K (e.put o.dst v) h)
        | none=>False)
theorem QW.mono {P:Program} {hq:Heap} {e:Env} {op:VOp} {c:Bool} {K1 K2:PV → Prop} (hk:∀ v,K1 v → K2 v) (H:QW P hq e op c K1):QW P hq e op c K2:=by
  unfold QW at H ⊢
  split at H
  · exact ⟨H.1,hk _ H.2⟩
  · obtain ⟨v,v1,v2⟩:=H
    exact ⟨v,v1,hk _ v2⟩
theorem shp_storeV {mid h:Heap} (hm:Shp mid h) (a v:PV):Shp mid (storeV h a v):=by
  unfold storeV
  split
  · split
    · rename_i id i off _ fz z es hg
      exact shp_set hm hg (fun fz' z' es' hh=>by simp only [AB.arr.injEq] at hh; obtain ⟨_,rfl,_⟩:=hh; exact ⟨_,_,rfl⟩)
    · exact hm
  · exact hm
theorem shp_mapsetV {mid h:Heap} {m:PV} (hm:Shp mid h) (hh:mapHas h m) (a v:PV):Shp mid (mapsetV h m a v):=by
  unfold mapsetV
  split
  · rename_i id
    simp only [mapHas] at hh
    split at hh
    · rename_i es hg
      exact shp_set hm hg (fun fz z es' hh=>by cases hh)
    · exact hh.elim
  · exact hm
theorem DrawH.quiet {P : Program} {h0 : Heap} {late : List Bool} {k : Nat} {r : List VOper} {K : Env → Heap → Prop} {e : Env} {h : Heap} {dst : Option Nat} {op : VOp} {gd' : Option (Nat × Bool)} {hqf : Nat → Heap} {Z : Nat → Heap → Heap → Prop}
    (hqk:hqf k = if late.getD k false then h0 else if op.isIaddr then h0 else ⟨[],h0.top⟩) (ih:∀ e,DrawH P h0 late (k + 1) r K e h → DrawG P hqf Z (k + 1) r K e h)
    (hs:op.simple = false) (H:match (generalizing:=false) op.simple,gd' with
      | true,_=>False
      | false,none=>QW P (if late.getD k false then h0 else if op.isIaddr then h0 else ⟨[],h0.top⟩) e op true (fun v=>DrawH P h0 late (k + 1) r K (e.put dst v) h)
      | false,some (d,want)=>(match (generalizing:=false) guardOf want (e.get d) with
        | some c=>QW P (if late.getD k false then h0 else if op.isIaddr then h0 else ⟨[],h0.top⟩) e op c (fun v=>DrawH P h0 late (k + 1) r K (e.put dst v) h)
        | none=>False)):DrawG P hqf Z k (⟨dst,op,gd'⟩ :: r) K e h:=by
  rw [hs] at H
  simp only [DrawG,hs,hqk]
  cases gd' with
  | none=>exact H.mono fun v hv=>ih _ hv
  | some dw =>
    obtain ⟨d,want⟩:=dw
    simp only at H ⊢
    cases hg:guardOf want (e.get d) with
    | none=>rw [hg] at H; exact H.elim
    | some c=>rw [hg] at H; exact QW.mono (fun v hv=>ih _ hv) H
theorem DrawH.toG {P : Program} {q0 : List VOper} {h0 : Heap} {late : List Bool} {K : Env → Heap → Prop} : ∀ {q : List VOper} {k : Nat} {e : Env} {h : Heap}, (∀ j, q[j]? = q0[k + j]?) → h.top ≤ h0.top → DrawH P h0 late k q K e h →
    DrawG P (hq3 q0 late h0 h0 ⟨[],h0.top⟩) (zed3 q0 h0 h0 ⟨[],h0.top⟩) k q K e h
  | [],_,_,_,_,_,H=>H
  | ⟨dst,op,gd'⟩ :: r,k,e,h,hq,ht,H=>by
    have h0':q0[k]? = some ⟨dst,op,gd'⟩:=by simpa using (hq 0).symm
    have hq1:∀ j,r[j]? = q0[(k + 1) + j]?:=fun j=>by have:=hq (j + 1); simpa [Nat.add_assoc,Nat.add_comm 1 j] using this
    have hwk:Zbg q0 k = op.writes:=by simp [Zbg,h0']
    have hqk:hq3 q0 late h0 h0 ⟨[],h0.top⟩ k = if late.getD k false then h0 else if op.isIaddr then h0 else ⟨[],h0.top⟩:=by simp only [hq3,h0']
    cases op
    case store s a v =>
      obtain ⟨hg,hok,hk⟩:=H
      have hg':gd' = none:=hg
      subst hg'
      have htop:(storeV h (a.ev e) (v.ev e)).top ≤ h0.top:=by rw [storeV_top]; exact ht
      exact ⟨hok,⟨⟨htop,trivial⟩,(fun hw=>by rw [hwk] at hw; cases hw),fun hm=>shp_storeV hm _ _⟩,DrawH.toG hq1 htop hk⟩
    case mapset kk m a v =>
      obtain ⟨hg,hok,hok2,hk⟩:=H
      have hg':gd' = none:=hg
      subst hg'
      have htop:(mapsetV h (m.ev e) (a.ev e) (v.ev e)).top ≤ h0.top:=by rw [mapsetV_top]; exact ht
      exact ⟨hok,hok2,⟨⟨htop,trivial⟩,(fun hw=>by rw [hwk] at hw; cases hw),fun hm=>shp_mapsetV hm hok _ _⟩,DrawH.toG hq1 htop hk⟩
    case mv a=>unfold DrawH at H; exact DrawH.quiet hqk (fun e H=>DrawH.toG hq1 ht H) rfl H
    all_goals
      unfold DrawH at H
      first
      | exact DrawH.quiet hqk (fun e H=>DrawH.toG hq1 ht H) rfl H
      | (exfalso; clear hqk hwk h0' hq; revert H; cases gd' <;> exact id)
end Go.VM
namespace Go.VM
open Go
section
variable {P : Program} {f : FuncId} {args : List PV} {h : Heap} {K : PV → Heap → Prop}
theorem frz_evo {g:Gh} {w:World} {h:Heap}:Evo g w h (frz g w h) w ⟨[],h.top⟩ :=
  ⟨frz_le g w h,rfl,rfl,rfl,Nat.le_refl _,fun _ _ _=>rfl,
   fun b o v e => by rcases frzM_inv e with h1 | ⟨h1, _⟩
                     · exact .inl h1
                     · exact .inr (.inr h1),
   fun b e he => by rcases frzMM_inv he with h1 | ⟨h1, _⟩
                    · exact .inl h1
                    · exact .inr (.inr h1),
   fun b ⟨id,ab,x,h1,_⟩=>by simp [Heap.get,HL.get] at h1⟩
theorem ACall_f (q:List PV) (hv:Views h args q) (H:ACall P f q ⟨[],h.top⟩ K):ACall P f args h K:=by
  refine ⟨H.1,fun g w vals r ha=>(H.2 (frz g w h) w vals (frz_rel r) (hv.args r ha)).mono ?_⟩
  rintro x w' ⟨v,p,g',h',h1,h2,h3,h4,h5⟩
  exact ⟨v,p,g',h',h1,h2,h3,h4,frz_evo.trans h5⟩
theorem ACall.weakenL {h0:Heap} (hl:h0.le h) (H:ACall P f args h0 K):ACall P f args h K :=
  ⟨H.1,fun g w vals r ha=>(H.2 g w vals (r.weaken hl) ha).mono fun x w' ⟨v,p,g',h',h1,h2,h3,h4,h5⟩=>⟨v,p,g',h',h1,h2,h3,h4,h5.weakenL hl⟩⟩
end
end Go.VM
