import Derived.Test.YtjmekckcffckoabGreatDoorVmA
import Derived.LoopN
import Derived.SizedLaws
set_option linter.all false
namespace Go.VM
open Go
def HL.dec:List (Nat × AB) → Nat → Prop
  | [],_=>True
  | (k,_) :: r,b=>k < b ∧ HL.dec r k
def HOk (h:Heap):Prop:=HL.dec h.l h.top
theorem HL.dec_mono:∀ {l:List (Nat × AB)} {b b':Nat},HL.dec l b → b ≤ b' → HL.dec l b'
  | [],_,_,_,_=>trivial
  | (k,_) :: r,b,b',h,hb=>⟨Nat.lt_of_lt_of_le h.1 hb,h.2⟩
theorem HL.le_self:∀ {l:List (Nat × AB)} {b:Nat} {f:Nat → Option AB},HL.dec l b → (∀ t,t < b → HL.get l t = f t ∨ HL.get l t = none) → HL.le l f
  | [],_,_,_,_=>trivial
  | (k,v) :: r,b,f,h,hf=>by
    refine ⟨?_,HL.le_self h.2 (fun t ht=>?_)⟩
    · have:=hf k h.1
      simpa [HL.get,eq_comm] using this
    · have h1:=hf t (by have:=h.1; omega)
      have:k ≠ t:=by omega
      simpa [HL.get,this] using h1
theorem HOk.le_refl {h:Heap} (ok:HOk h):h.le h:=⟨Nat.le_refl _,HL.le_self ok fun _ _=>.inl rfl⟩
theorem HOk.push {h:Heap} (ok:HOk h) (x:AB):HOk (h.push x):=⟨Nat.lt_succ_self _,ok⟩
theorem HL.dec_del:∀ {l:List (Nat × AB)} {b:Nat} (k:Nat),HL.dec l b → HL.dec (HL.del l k) b
  | [],_,_,_=>trivial
  | (j,v) :: r,b,k,h=>by
    simp only [HL.del]
    split
    · exact HL.dec_del k (HL.dec_mono h.2 (Nat.le_of_lt h.1))
    · exact ⟨h.1,HL.dec_del k h.2⟩
theorem HL.dec_set:∀ {l:List (Nat × AB)} {b:Nat} (k:Nat) (x:AB),HL.dec l b → HL.dec (HL.set l k x) b
  | [],_,_,_,_=>trivial
  | (j,v) :: r,b,k,x,h=>by
    simp only [HL.set]
    split
    · exact ⟨h.1,HL.dec_del k h.2⟩
    · exact ⟨h.1,HL.dec_set k x h.2⟩
theorem HOk.del {h:Heap} (ok:HOk h) (k:Nat):HOk (h.del k):=HL.dec_del k ok
theorem HOk.set {h:Heap} (ok:HOk h) (k:Nat) (x:AB):HOk (h.set k x):=HL.dec_set k x ok
theorem HOk.Za3 {h:Heap} (ok:HOk h) (k:Option Nat):HOk (Go.VM.Za3 h k):=by cases k <;> first | exact ok | exact ok.del _
def HL.only (p:Nat → Bool):List (Nat × AB) → List (Nat × AB)
  | []=>[]
  | (k,v) :: r=>bif p k then (k,v) :: HL.only p r else HL.only p r
end Go.VM
namespace Go.VM
open Go
inductive Tr where
  | lf
  | nd (l : Tr) (v : PV) (r : Tr)
  deriving Inhabited
def Tr.get:Tr → Nat → PV
  | .lf,_=>.any
  | .nd l v r,n=>bif n == 0 then v else bif n % 2 == 1 then Tr.get l (n / 2) else Tr.get r (n / 2 - 1)
def Tr.put:Nat → Tr → Nat → PV → Tr
  | 0,t,_,_=>t
  | f + 1,.lf,n,x=>bif n == 0 then .nd .lf x .lf else bif n % 2 == 1 then .nd (Tr.put f .lf (n / 2) x) .any .lf else .nd .lf .any (Tr.put f .lf (n / 2 - 1) x)
  | f + 1,.nd l v r,n,x=>bif n == 0 then .nd l x r else bif n % 2 == 1 then .nd (Tr.put f l (n / 2) x) v r else .nd l v (Tr.put f r (n / 2 - 1) x)
theorem Tr.get_put:∀ (f:Nat) (t:Tr) (n m:Nat) (x:PV),n + 1 < 2 ^ f → (Tr.put f t n x).get m = if n = m then x else t.get m:=by
  intro f
  induction f with
  | zero=>intro t n m x h; simp at h
  | succ f ih =>
    intro t n m x h
    have h2:2 ^ (f + 1) = 2 ^ f + 2 ^ f:=by rw [Nat.pow_succ]; omega
    cases t with
    | lf =>
      by_cases h0:n = 0
      · subst h0
        cases m with
        | zero=>simp [Tr.put,Tr.get]
        | succ m =>
          simp only [Tr.put,Tr.get,beq_self_eq_true,cond_true,Nat.add_eq_zero_iff,Nat.succ_ne_zero,and_false,if_false]
          have:¬ (0 = m + 1):=by omega
          simp [this]
      · have hb:(n == 0) = false:=by simp [h0]
        by_cases h1:n % 2 = 1
        · have hb1:(n % 2 == 1) = true:=by simp [h1]
          simp only [Tr.put,hb,hb1,cond_true,cond_false,Tr.get]
          by_cases m0:m = 0
          · subst m0; simp [h0]
          · have mb:(m == 0) = false:=by simp [m0]
            by_cases m1:m % 2 = 1
            · have mb1:(m % 2 == 1) = true:=by simp [m1]
              simp only [mb,mb1,cond_true,cond_false]
              rw [ih .lf (n / 2) (m / 2) x (by omega)]
              by_cases e:n = m
              · subst e; simp
              · rw [if_neg e,if_neg (by omega)]; rfl
            · have mb1:(m % 2 == 1) = false:=by simp [m1]
              simp only [mb,mb1,cond_false]
              rw [if_neg (by rintro rfl; exact m1 h1)]
        · have hb1:(n % 2 == 1) = false:=by simp [h1]
          simp only [Tr.put,hb,hb1,cond_false,Tr.get]
          by_cases m0:m = 0
          · subst m0; simp [h0]
          · have mb:(m == 0) = false:=by simp [m0]
            by_cases m1:m % 2 = 1
            · have mb1:(m % 2 == 1) = true:=by simp [m1]
              simp only [mb,mb1,cond_true,cond_false]
              rw [if_neg (by rintro rfl; exact h1 m1)]
            · have mb1:(m % 2 == 1) = false:=by simp [m1]
              simp only [mb,mb1,cond_false]
              rw [ih .lf (n / 2 - 1) (m / 2 - 1) x (by omega)]
              by_cases e:n = m
              · subst e; simp
              · rw [if_neg e,if_neg (by omega)]; rfl
    | nd l v r =>
      by_cases h0:n = 0
      · subst h0
        cases m with
        | zero=>simp [Tr.put,Tr.get]
        | succ m =>
          have:¬ (0 = m + 1):=by omega
          simp [Tr.put,Tr.get,this]
      · have hb:(n == 0) = false:=by simp [h0]
        by_cases h1:n % 2 = 1
        · have hb1:(n % 2 == 1) = true:=by simp [h1]
          simp only [Tr.put,hb,hb1,cond_true,cond_false,Tr.get]
          by_cases m0:m = 0
          · subst m0; simp [h0]
          · have mb:(m == 0) = false:=by simp [m0]
            by_cases m1:m % 2 = 1
            · have mb1:(m % 2 == 1) = true:=by simp [m1]
              simp only [mb,mb1,cond_true,cond_false]
              rw [ih l (n / 2) (m / 2) x (by omega)]
              by_cases e:n = m
              · subst e; simp
              · rw [if_neg e,if_neg (by omega)]
            · have mb1:(m % 2 == 1) = false:=by simp [m1]
              simp only [mb,mb1,cond_false]
              rw [if_neg (by rintro rfl; exact m1 h1)]
        · have hb1:(n % 2 == 1) = false:=by simp [h1]
          simp only [Tr.put,hb,hb1,cond_false,Tr.get]
          by_cases m0:m = 0
          · subst m0; simp [h0]
          · have mb:(m == 0) = false:=by simp [m0]
            by_cases m1:m % 2 = 1
            · have mb1:(m % 2 == 1) = true:=by simp [m1]
              simp only [mb,mb1,cond_true,cond_false]
              rw [if_neg (by rintro rfl; exact h1 m1)]
            · have mb1:(m % 2 == 1) = false:=by simp [m1]
              simp only [mb,mb1,cond_false]
              rw [ih r (n / 2 - 1) (m / 2 - 1) x (by omega)]
              by_cases e:n = m
              · subst e; simp
              · rw [if_neg e,if_neg (by omega)]
def VA.res (t:Tr):VA → VA
  | .t n=>.c (t.get n)
  | .c p=>.c p
def Sim (t:Tr) (e:Env):Prop:=∀ n,t.get n = e.get n
theorem Sim.ev {t:Tr} {e:Env} (h:Sim t e) (a:VA):(a.res t).ev [] = a.ev e:=by
  cases a with
  | t n=>exact h n
  | c p=>rfl
def VOp.res (t:Tr):VOp → VOp
  | .mv a=>.mv (a.res t)
  | .pick c a b=>.pick (c.res t) (a.res t) (b.res t)
  | .alloc z=>.alloc z
  | .box n a=>.box n (a.res t)
  | .build z ps=>.build z (ps.map fun p=>(p.1,p.2.1,p.2.2.res t))
  | .bslice z n zr ps=>.bslice z n zr (ps.map fun p=>(p.1,p.2.res t))
  | .load g s a=>.load g s (a.res t)
  | .store s a v=>.store s (a.res t) (v.res t)
  | .bin op a b=>.bin op (a.res t) (b.res t)
  | .binb op a b=>.binb op (a.res t) (b.res t)
  | .strid a=>.strid (a.res t)
  | .eqs n ks a b=>.eqs n ks (a.res t) (b.res t)
  | .isnil n a=>.isnil n (a.res t)
  | .un op a=>.un op (a.res t)
  | .conv k a=>.conv k (a.res t)
  | .b2s a=>.b2s (a.res t)
  | .s2b a=>.s2b (a.res t)
  | .mkfn f x y=>.mkfn f (x.map (VA.res t)) (y.map (VA.res t))
  | .slice st z a lo hi=>.slice st z (a.res t) (lo.map (VA.res t)) (hi.map (VA.res t))
  | .faddr o a=>.faddr o (a.res t)
  | .fld g o s a=>.fld g o s (a.res t)
  | .iaddr z a i=>.iaddr z (a.res t) (i.res t)
  | .idx a i=>.idx (a.res t) (i.res t)
  | .ext a i=>.ext (a.res t) i
  | .len st a=>.len st (a.res t)
  | .app z b zr st x y=>.app z b zr st (x.res t) (y.res t)
  | .mm mx l=>.mm mx (l.map (VA.res t))
  | .mkmap=>.mkmap
  | .lookup kk z ok m k=>.lookup kk z ok (m.res t) (k.res t)
  | .mapset kk m k v=>.mapset kk (m.res t) (k.res t) (v.res t)
  | .mlen m=>.mlen (m.res t)
  | .call f l=>.call f (l.map (VA.res t))
  | .callv f l=>.callv (f.res t) (l.map (VA.res t))
  | .px k l=>.px k (l.map (VA.res t))
  | .fx k l=>.fx k (l.map (VA.res t))
  | .nd neg a=>.nd neg (a.res t)
  | .other o=>.other o
section
variable {t : Tr} {e : Env} (hs : Sim t e)
include hs
end
end Go.VM
namespace Go.VM
open Go
mutual
def PV.clB : PV → Bool
  | .any | .undef | .bool _ | .int _ _ | .str _ | .nilp | .nilsl | .nilmp | .nilfn | .nilif => true
  | .ro cs => PV.clsB cs
  | .sl _ es => PV.clssB es
  | .agg cs => PV.clsB cs
  | .tup cs => PV.clsB cs
  | .fn _ a b => PV.clsB a && PV.clsB b
  | .ifc _ v => PV.clB v
  | .rmp es => PV.clpB es
  | .loc _ _ _ | .own _ _ _ | .mp _ | .fnb _ _ => false
def PV.clsB : List PV → Bool
  | [] => true
  | p :: r => PV.clB p && PV.clsB r
def PV.clssB : List (List PV) → Bool
  | [] => true
  | p :: r => PV.clsB p && PV.clssB r
def PV.clpB : List (PV × PV) → Bool
  | [] => true
  | (a, b) :: r => PV.clB a && PV.clB b && PV.clpB r
end
theorem closed_fn {f:Fn} {a b:List PV} (h1:∀ x ∈ a,Closed x) (h2:∀ x ∈ b,Closed x):Closed (.fn f a b):=by
  intro g v hv
  cases hv with
  | fn _ fs cs _ _ s1 s2 r1 r2 =>
    refine .fn f fs cs a b s1 s2 (fun j hj=>h1 _ ?_ g _ (r1 j hj)) (fun j hj=>h2 _ ?_ g _ (r2 j hj))
    · simp only [PV.nth,List.getD_eq_getElem?_getD,List.getElem?_eq_getElem hj,Option.getD_some]; exact List.getElem_mem hj
    · simp only [PV.nth,List.getD_eq_getElem?_getD,List.getElem?_eq_getElem hj,Option.getD_some]; exact List.getElem_mem hj
mutual
theorem PV.clB_ok : ∀ (p : PV), p.clB = true → Closed p
  | .any, _ => fun _ v _ => .any v
  | .undef, _ => fun _ v h => by cases h; exact .undef
  | .bool b, _ => cB b
  | .int k n, _ => Closed.of_scalar (scalar_int _ _)
  | .str s, _ => cS s
  | .nilp, _ => fun _ v h => by cases h; exact .nilp
  | .nilsl, _ => closed_nilsl
  | .nilmp, _ => fun _ v h => by cases h; exact .nilmp
  | .nilfn, _ => fun _ v h => by cases h; exact .nilfn
  | .nilif, _ => fun _ v h => by cases h; exact .nilif
  | .ro cs, h => closed_ro (PV.clsB_ok cs h)
  | .sl z es, h => closed_sl (PV.clssB_ok es h)
  | .agg cs, h => closed_agg (PV.clsB_ok cs h)
  | .tup cs, h => closed_tup (PV.clsB_ok cs h)
  | .fn f a b, h => by
    simp only [PV.clB,Bool.and_eq_true] at h
    exact closed_fn (PV.clsB_ok a h.1) (PV.clsB_ok b h.2)
  | .ifc t v, h => fun g x hx => by
    cases hx with
    | ifc _ y _ hy => exact .ifc t y v (PV.clB_ok v h g y hy)
  | .rmp es, h => closed_rmp (PV.clpB_ok es h)
  | .fnb _ _, h => by cases h
  | .loc _ _ _, h => by cases h
  | .own _ _ _, h => by cases h
  | .mp _, h => by cases h
theorem PV.clsB_ok : ∀ (l : List PV), PV.clsB l = true → ∀ x ∈ l, Closed x
  | [], _ => fun x hx => by cases hx
  | p :: r, h => by
    simp only [PV.clsB,Bool.and_eq_true] at h
    intro x hx
    rcases List.mem_cons.1 hx with hp | hx
    · rw [hp]; exact PV.clB_ok p h.1
    · exact PV.clsB_ok r h.2 x hx
theorem PV.clssB_ok : ∀ (l : List (List PV)), PV.clssB l = true → ∀ e ∈ l, ∀ x ∈ e, Closed x
  | [], _ => fun x hx => by cases hx
  | p :: r, h => by
    simp only [PV.clssB,Bool.and_eq_true] at h
    intro x hx
    rcases List.mem_cons.1 hx with hp | hx
    · rw [hp]; exact PV.clsB_ok p h.1
    · exact PV.clssB_ok r h.2 x hx
theorem PV.clpB_ok : ∀ (l : List (PV × PV)), PV.clpB l = true → ∀ e ∈ l, Closed e.1 ∧ Closed e.2
  | [], _ => fun x hx => by cases hx
  | (a, b) :: r, h => by
    simp only [PV.clpB,Bool.and_eq_true] at h
    intro x hx
    rcases List.mem_cons.1 hx with hp | hx
    · rw [hp]; exact ⟨PV.clB_ok a h.1.1, PV.clB_ok b h.1.2⟩
    · exact PV.clpB_ok r h.2 x hx
end
mutual
def PV.scB : PV → Bool
  | .any | .undef | .bool _ | .int _ _ | .str _ | .nilp | .nilsl | .nilmp | .nilfn | .nilif => true
  | .sl _ es => es.isEmpty
  | .agg cs => PV.scsB cs
  | .tup cs => PV.scsB cs
  | .ro _ | .fn _ _ _ | .ifc _ _ | .loc _ _ _ | .own _ _ _ | .mp _ | .rmp _ | .fnb _ _ => false
def PV.scsB : List PV → Bool
  | [] => true
  | p :: r => PV.scB p && PV.scsB r
end
mutual
theorem PV.scB_ok : ∀ (p : PV), p.scB = true → Scalar p
  | .any, _ => fun _ v _ _ => .any v
  | .undef, _ => fun _ v h _ => by cases h; exact .undef
  | .bool b, _ => scalar_bool _
  | .int k n, _ => scalar_int _ _
  | .str s, _ => scalar_str _
  | .nilp, _ => fun _ v h _ => by cases h; exact .nilp
  | .nilsl, _ => fun _ v h _ => by cases h; exact .nilsl
  | .nilmp, _ => fun _ v h _ => by cases h; exact .nilmp
  | .nilfn, _ => fun _ v h _ => by cases h; exact .nilfn
  | .nilif, _ => fun _ v h _ => by cases h; exact .nilif
  | .fnb _ _, h => by cases h
  | .ro cs, h => by cases h
  | .sl z es, h => by
    obtain rfl : es = [] := by simpa [PV.scB] using h
    intro g v hv g'
    cases hv with
    | slE => exact .slE _ _ _
    | sl b o len cap z a es vs ha hl hc hz hm hr => 
      obtain rfl : len = 0 := by simpa using hl.symm
      exact .slE _ _ _
  | .agg cs, h => scalar_agg (PV.scsB_ok cs h)
  | .tup cs, h => scalar_tup (PV.scsB_ok cs h)
  | .fn f a b, h => by cases h
  | .ifc t v, h => by cases h
  | .loc _ _ _, h => by cases h
  | .own _ _ _, h => by cases h
  | .mp _, h => by cases h
  | .rmp _, h => by cases h
theorem PV.scsB_ok : ∀ (l : List PV), PV.scsB l = true → ∀ x ∈ l, Scalar x
  | [], _ => fun x hx => by cases hx
  | p :: r, h => by
    simp only [PV.scsB,Bool.and_eq_true] at h
    intro x hx
    rcases List.mem_cons.1 hx with hp | hx
    · rw [hp]; exact PV.scB_ok p h.1
    · exact PV.scsB_ok r h.2 x hx
end
end Go.VM
namespace Go.VM
open Go
abbrev RX:=Option (PV × Heap)
theorem storeV_top (h:Heap) (a v:PV):(Zba h a v).top = h.top:=by
  unfold Zba
  split
  · split <;> rfl
  · rfl
theorem mapsetV_top (h:Heap) (m k v:PV):(Zap h m k v).top = h.top:=by
  unfold Zap
  split <;> rfl
abbrev CX:=Nat → List PV → Heap → RX
def CallOk (P:Program) (call:CX):Prop:=∀ f args h v h',call f args h = some (v,h') → HOk h → (∀ K:PV → Heap → Prop,K v h' → Zce P f args h K) ∧ HOk h' ∧ h.top ≤ h'.top
def putO (t:Tr) (d:Option Nat) (v:PV):Tr:=match d with | some d=>Tr.put 10 t d v | none=>t
def SimN (N:Nat) (t:Tr) (e:Env):Prop:=Sim t e ∧ ∀ k,N ≤ k → e.get k = .any
theorem SimN.put {N:Nat} (hN:N ≤ 1000) {t:Tr} {e:Env} (hs:SimN N t e) {d:Option Nat} (hd:∀ k,d = some k → k < N) (v:PV):SimN N (putO t d v) (e.put d v):=by
  cases d with
  | none=>exact hs
  | some d =>
    have hlt:=hd d rfl
    refine ⟨fun n=>?_,fun k hk=>?_⟩
    · simp only [putO,Env.put,Env.get]
      rw [Tr.get_put 10 t d n v (by have : (2 : Nat) ^ 10 = 1024 := by decide
                                    omega),hs.1 n]
    · simp only [Env.put,Env.get]
      rw [if_neg (by omega)]; exact hs.2 k hk
end Go.VM
namespace Go.VM
open Go
theorem keep_mem (e:Env):∀ (l:List Nat) (t:Nat),(Env.keep l e).get t = if t ∈ l then e.get t else .any
  | [],t=>by simp [Env.keep,Env.get]
  | k :: l,t=>by
    simp only [Env.keep,Env.get,List.mem_cons]
    by_cases h:k = t
    · subst h; simp
    · rw [if_neg h,keep_mem e l t]
      have:¬ t = k:=fun h'=>h h'.symm
      simp [this]
theorem SimN.keep {N:Nat} {t:Tr} {e:Env} (h:SimN N t e):SimN N t (Env.keep (List.range N) e):=by
  refine ⟨fun n=>?_,fun k hk=>?_⟩
  · rw [keep_mem,h.1 n]
    by_cases hn:n < N
    · simp [hn]
    · rw [h.2 n (by omega)]; simp
  · rw [keep_mem,if_neg (by simpa using hk)]
theorem shp_set {mid h:Heap} (hm:Shp mid h) {id:Nat} {ab ab0:AB} (hg:h.get id = some ab0) (ha:∀ fz z es,ab0 = .arr fz z es → ∃ fz' es',ab = .arr fz' z es'):Shp mid (h.set id ab):=by
  intro i fz z es e
  obtain ⟨fz',es',e'⟩:=hm i fz z es e
  rw [Heap.get_set]
  by_cases hi:id = i
  · subst hi
    rw [if_pos rfl,hg]
    rw [hg] at e'
    simp only [Option.some.injEq] at e'
    obtain ⟨f2,e2,rfl⟩:=ha _ _ _ e'
    exact ⟨f2,e2,by simp⟩
  · rw [if_neg hi]; exact ⟨fz',es',e'⟩
end Go.VM
namespace Go.VM
open Go
structure FnD where
  n : Nat
  rs : List RS
  vc : VC
def HCallOk (call:CX):Prop:=∀ f args h v h',call f args h = some (v,h') → HOk h → HOk h' ∧ h.top ≤ h'.top
theorem CallOk.heap {P:Program} {call:CX} (h:CallOk P call):HCallOk call:=fun f args hh v h' H ok=>(h f args hh v h' H ok).2
def tab:List (Nat × FnD) → Nat → Option FnD
  | [],_=>none
  | (k,d) :: r,f=>bif Nat.beq f k then some d else tab r f
end Go.VM
namespace Go.VM
open Go
def Zbp (P:Program) (h0:Heap) (late:List Bool):Nat → List VOper → (Env → Heap → Prop) → Env → Heap → Prop
  | _,[],K,e,h=>K e h
  | k,o :: r,K,e,h=>match o.op with
    | .store s a v=>o.guard = none ∧ Zay P e h (.store s a v) (fun v h'=>Zbp P h0 late (k + 1) r K (e.put o.dst v) h')
    | .mapset kk m a v=>o.guard = none ∧ Zay P e h (.mapset kk m a v) (fun v h'=>Zbp P h0 late (k + 1) r K (e.put o.dst v) h')
    | op=>match op.simple,o.guard with
      | true,_=>False
      | false,none=>QW P (if late.getD k false then h0 else if op.isIaddr then h0 else ⟨[],h0.top⟩) e op true (fun v=>Zbp P h0 late (k + 1) r K (e.put o.dst v) h)
      | false,some (d,want)=>(match (generalizing:=false) guardOf want (e.get d) with
        | some c=>QW P (if late.getD k false then h0 else if op.isIaddr then h0 else ⟨[],h0.top⟩) e op c (fun v=>Zbp P h0 late (k + 1) r K (e.put o.dst v) h)
        | none=>False)
theorem QW.mono {P:Program} {hq:Heap} {e:Env} {op:VOp} {c:Bool} {K1 K2:PV → Prop} (hk:∀ v,K1 v → K2 v) (H:QW P hq e op c K1):QW P hq e op c K2:=by
  unfold QW at H ⊢
  split at H
  · exact ⟨H.1,hk _ H.2⟩
  · obtain ⟨v,v1,v2⟩:=H
    exact ⟨v,v1,hk _ v2⟩
theorem shp_storeV {mid h:Heap} (hm:Shp mid h) (a v:PV):Shp mid (Zba h a v):=by
  unfold Zba
  split
  · split
    · rename_i id i off _ fz z es hg
      exact shp_set hm hg (fun fz' z' es' hh=>by simp only [AB.arr.injEq] at hh; obtain ⟨_,rfl,_⟩:=hh; exact ⟨_,_,rfl⟩)
    · exact hm
  · exact hm
theorem shp_mapsetV {mid h:Heap} {m:PV} (hm:Shp mid h) (hh:Zbe h m) (a v:PV):Shp mid (Zap h m a v):=by
  unfold Zap
  split
  · rename_i id
    simp only [Zbe] at hh
    split at hh
    · rename_i es hg
      exact shp_set hm hg (fun fz z es' hh=>by cases hh)
    · exact hh.elim
  · exact hm
theorem Zbp.quiet {P : Program} {h0 : Heap} {late : List Bool} {k : Nat} {r : List VOper} {K : Env → Heap → Prop} {e : Env} {h : Heap} {dst : Option Nat} {op : VOp} {gd' : Option (Nat × Bool)} {hqf : Nat → Heap} {Z : Nat → Heap → Heap → Prop}
    (hqk:hqf k = if late.getD k false then h0 else if op.isIaddr then h0 else ⟨[],h0.top⟩) (ih:∀ e,Zbp P h0 late (k + 1) r K e h → DrawG P hqf Z (k + 1) r K e h)
    (hs:op.simple = false) (H:match (generalizing:=false) op.simple,gd' with
      | true,_=>False
      | false,none=>QW P (if late.getD k false then h0 else if op.isIaddr then h0 else ⟨[],h0.top⟩) e op true (fun v=>Zbp P h0 late (k + 1) r K (e.put dst v) h)
      | false,some (d,want)=>(match (generalizing:=false) guardOf want (e.get d) with
        | some c=>QW P (if late.getD k false then h0 else if op.isIaddr then h0 else ⟨[],h0.top⟩) e op c (fun v=>Zbp P h0 late (k + 1) r K (e.put dst v) h)
        | none=>False)):DrawG P hqf Z k (⟨dst,op,gd'⟩ :: r) K e h:=by
  rw [hs] at H
  simp only [DrawG,hs,hqk]
  cases gd' with
  | none=>exact H.mono fun v hv=>ih _ hv
  | some dw =>
    obtain ⟨d,want⟩:=dw
    simp only at H ⊢
    cases hg:guardOf want (e.get d) with
    | none=>rw [hg] at H; exact H.elim
    | some c=>rw [hg] at H; exact QW.mono (fun v hv=>ih _ hv) H
theorem Zbp.toG {P : Program} {q0 : List VOper} {h0 : Heap} {late : List Bool} {K : Env → Heap → Prop} : ∀ {q : List VOper} {k : Nat} {e : Env} {h : Heap}, (∀ j, q[j]? = q0[k + j]?) → h.top ≤ h0.top → Zbp P h0 late k q K e h →
    DrawG P (hq3 q0 late h0 h0 ⟨[],h0.top⟩) (zed3 q0 h0 h0 ⟨[],h0.top⟩) k q K e h
  | [],_,_,_,_,_,H=>H
  | ⟨dst,op,gd'⟩ :: r,k,e,h,hq,ht,H=>by
    have h0':q0[k]? = some ⟨dst,op,gd'⟩:=by simpa using (hq 0).symm
    have hq1:∀ j,r[j]? = q0[(k + 1) + j]?:=fun j=>by have:=hq (j + 1); simpa [Nat.add_assoc,Nat.add_comm 1 j] using this
    have hwk:Zc0 q0 k = op.writes:=by simp [Zc0,h0']
    have hqk:hq3 q0 late h0 h0 ⟨[],h0.top⟩ k = if late.getD k false then h0 else if op.isIaddr then h0 else ⟨[],h0.top⟩:=by simp only [hq3,h0']
    cases op
    case store s a v =>
      obtain ⟨hg,hok,hk⟩:=H
      have hg':gd' = none:=hg
      subst hg'
      have htop:(Zba h (a.ev e) (v.ev e)).top ≤ h0.top:=by rw [storeV_top]; exact ht
      exact ⟨hok,⟨⟨htop,trivial⟩,(fun hw=>by rw [hwk] at hw; cases hw),fun hm=>shp_storeV hm _ _⟩,Zbp.toG hq1 htop hk⟩
    case mapset kk m a v =>
      obtain ⟨hg,hok,hok2,hk⟩:=H
      have hg':gd' = none:=hg
      subst hg'
      have htop:(Zap h (m.ev e) (a.ev e) (v.ev e)).top ≤ h0.top:=by rw [mapsetV_top]; exact ht
      exact ⟨hok,hok2,⟨⟨htop,trivial⟩,(fun hw=>by rw [hwk] at hw; cases hw),fun hm=>shp_mapsetV hm hok _ _⟩,Zbp.toG hq1 htop hk⟩
    case mv a=>unfold Zbp at H; exact Zbp.quiet hqk (fun e H=>Zbp.toG hq1 ht H) rfl H
    all_goals
      unfold Zbp at H
      first
      | exact Zbp.quiet hqk (fun e H=>Zbp.toG hq1 ht H) rfl H
      | (exfalso; clear hqk hwk h0' hq; revert H; cases gd' <;> exact id)
end Go.VM
namespace Go.VM
open Go
section
variable {P : Program} {f : FuncId} {args : List PV} {h : Heap} {K : PV → Heap → Prop}
theorem frz_evo {g:Gh} {w:World} {h:Heap}:Evo g w h (frz g w h) w ⟨[],h.top⟩ :=
  ⟨frz_le g w h,rfl,rfl,rfl,Nat.le_refl _,fun _ _ _=>rfl,
   fun b o v e => by rcases frzM_inv e with h1 | ⟨h1, _⟩
                     · exact .inl h1
                     · exact .inr (.inr h1),
   fun b e he => by rcases frzMM_inv he with h1 | ⟨h1, _⟩
                    · exact .inl h1
                    · exact .inr (.inr h1),
   fun b ⟨id,ab,x,h1,_⟩=>by simp [Heap.get,HL.get] at h1⟩
theorem ACall_f (q:List PV) (hv:Views h args q) (H:Zce P f q ⟨[],h.top⟩ K):Zce P f args h K:=by
  refine ⟨H.1,fun g w vals r ha=>(H.2 (frz g w h) w vals (frz_rel r) (hv.args r ha)).mono ?_⟩
  rintro x w' ⟨v,p,g',h',h1,h2,h3,h4,h5⟩
  exact ⟨v,p,g',h',h1,h2,h3,h4,frz_evo.trans h5⟩
theorem Zce.weakenL {h0:Heap} (hl:h0.le h) (H:Zce P f args h0 K):Zce P f args h K :=
  ⟨H.1,fun g w vals r ha=>(H.2 g w vals (r.weaken hl) ha).mono fun x w' ⟨v,p,g',h',h1,h2,h3,h4,h5⟩=>⟨v,p,g',h',h1,h2,h3,h4,h5.weakenL hl⟩⟩
end
end Go.VM
namespace Go.VM
open Go
theorem View.locV {h:Heap} {id i off z:Nat} {fz:Bool} {es:List (List PV)} {q:List PV} (hg:h.get id = some (.arr fz z es)) (hi:i < es.length) (hl:q.length + off ≤ z) (hv:∀ j,j < q.length → View h (PV.nth (PV.row es i) (off + j)) (PV.nth q j)):View h (.loc id i off) (.ro q):=by
  intro g w v r hr
  cases hr with
  | loc _ _ _ b o n z' a hb ha =>
    subst ha
    rcases r.blk id _ hg with ⟨hb0,_⟩ | ⟨b',o',n',z'',hb',hlt,hlive,hok⟩
    · rw [hb] at hb0; cases hb0
    · rw [hb] at hb'
      simp only [Option.some.injEq,Prod.mk.injEq] at hb'
      obtain ⟨rfl,rfl,rfl,rfl⟩:=hb'
      obtain ⟨rfl,hz,hle',c,ty,h1,h2,h3⟩:=hok
      refine .ro b (o + i * z + off) _ _ (fun j=>c.getD (o + i * z + (off + j)) Go.undef) rfl (fun j hj=>?_) (fun j hj=>?_)
      · obtain ⟨e1,e2,e3⟩:=h3 i (off + j) hi (by omega)
        rw [show o + i * z + off + j = o + i * z + (off + j) by omega]
        cases fz
        · have hin : o + i * z + (off + j) < c.size := by
            have:=Zcc (n:=es.length) (z:=z) hi (show off + j < z by omega)
            omega
          exact frzM_new ((hlive rfl).1 _) hg hb rfl (by simp [World.cell?,h1,hin,Array.getD]) e1
        · exact frzM_old (e3 rfl)
      · obtain ⟨e1,e2,e3⟩:=h3 i (off + j) hi (by omega)
        exact hv j hj g w _ r e2
theorem View.loc {h:Heap} {id i z:Nat} {fz:Bool} {es:List (List PV)} {q:List PV} (hg:h.get id = some (.arr fz z es)) (hi:i < es.length) (hq:PV.row es i = q) (hl:q.length ≤ z):View h (.loc id i 0) (.ro q) :=
  View.locV hg hi (by omega) (fun j hj=>by rw [hq,Nat.zero_add]; exact View.refl _ _)
theorem View.ownV {h : Heap} {id off len z : Nat} {fz : Bool} {es q : List (List PV)} (hg : h.get id = some (.arr fz z es)) (hle : off + len ≤ es.length) (hq : q.length = len) (hqz : ∀ i, i < len → (PV.row q i).length = z)
    (hv:∀ i j,i < len → j < z → View h (PV.nth (PV.row es (off + i)) j) (PV.nth (PV.row q i) j)):View h (.own id off len) (.sl z q):=by
  intro g w v r hv'
  cases hv' with
  | ownE ao =>
    have:q = []:=List.eq_nil_of_length_eq_zero hq
    subst this; exact .slE _ _ _
  | own _ _ _ cap b o n z' a hb ha hc hn =>
    subst ha
    rcases r.blk id _ hg with ⟨hb0,_⟩ | ⟨b',o',n',z'',hb',hlt,hlive,hok⟩
    · rw [hb] at hb0; cases hb0
    · rw [hb] at hb'
      simp only [Option.some.injEq,Prod.mk.injEq] at hb'
      obtain ⟨rfl,rfl,rfl,rfl⟩:=hb'
      obtain ⟨rfl,hz,hle',c,ty,h1,h2,h3⟩:=hok
      refine .sl b (o + off * z) len cap z _ _ (fun i j=>c.getD (o + (off + i) * z + j) Go.undef) rfl hq hc hqz (fun i j hi hj=>?_) (fun i j hi hj=>?_)
      · obtain ⟨e1,e2,e3⟩:=h3 (off + i) j (by omega) hj
        have e4:o + off * z + i * z + j = o + (off + i) * z + j:=by rw [Nat.add_mul]; omega
        rw [e4]
        cases fz
        · have hin : o + (off + i) * z + j < c.size := by
            have:=Zcc (n:=es.length) (z:=z) (show off + i < es.length by omega) hj
            omega
          exact frzM_new ((hlive rfl).1 _) hg hb rfl (by simp [World.cell?,h1,hin,Array.getD]) e1
        · exact frzM_old (e3 rfl)
      · obtain ⟨e1,e2,e3⟩:=h3 (off + i) j (by omega) hj
        exact hv i j hi hj g w _ r e2
theorem View.own_all {h:Heap} {id z n:Nat} {fz:Bool} {es:List (List PV)} (hg:h.get id = some (.arr fz z es)) (hn:n = es.length):View h (.own id 0 n) (.sl z es):=by
  have hv:=View.own (off:=0) (len:=n) hg (by omega)
  rw [List.drop_zero,hn,List.take_length] at hv
  rw [hn]; exact hv
theorem View.fn {h:Heap} {f:Fn} {pf pc qf qc:List PV} (h1:pf.length = qf.length) (h2:pc.length = qc.length) (hf:∀ j,j < qf.length → View h (PV.nth pf j) (PV.nth qf j)) (hc:∀ j,j < qc.length → View h (PV.nth pc j) (PV.nth qc j)):View h (.fn f pf pc) (.fn f qf qc):=by
  intro g w v r hr
  cases hr with
  | fn _ fs cs _ _ s1 s2 r1 r2=>exact .fn f fs cs qf qc (by omega) (by omega) (fun j hj=>hf j hj g w _ r (r1 j (by omega))) (fun j hj=>hc j hj g w _ r (r2 j (by omega)))
theorem View.agg {h:Heap} {l q:List PV} (hl:l.length = q.length) (hv:∀ j,j < q.length → View h (PV.nth l j) (PV.nth q j)):View h (.agg l) (.agg q):=by
  intro g w v r hr
  obtain ⟨vs,rfl,hs,h1,hrr⟩:=hr.agg_inv
  exact .agg _ _ (by omega) (fun j hj=>h1 j (by omega)) (fun j hj=>hv j hj g w _ r (hrr j (by omega)))
theorem View.any (h:Heap) (r:PV):View h r .any:=fun _ _ v _ _=>.any v
def EView (h:Heap) (e:Env):Env → Prop
  | []=>True
  | (k,p) :: r=>View h (e.get k) p ∧ EView h e r
theorem EView.rep {g:Gh} {w:World} {h:Heap} (r:Rel g w h) {a:Act} {e:Env} (he:Zb7 g a e):∀ {e':Env},EView h e e' → Zb7 (frz g w h) a e'
  | [],_=>fun _=>.any _
  | (k,p) :: q,hv=>fun t=>by
    by_cases e1:k = t
    · subst e1
      simp only [Env.get,if_true]
      exact hv.1 g w _ r (he k)
    · simp only [Env.get,if_neg e1]
      exact EView.rep r he hv.2 t
section
variable {P : Program} {N : Nat} {Q : Exit → Env → Heap → Prop} {e : Env} {h : Heap}
theorem VW_freeze {c:VC} (e':Env) (hv:EView h e e') (H:VW P N c Q e' ⟨[],h.top⟩):VW P N c Q e h:=by
  intro x hx g w a r hr hd hs
  refine wp_mono (H x hx (frz g w h) w a (frz_rel r) (hv.rep r hr) hd hs) fun ex a' w' ⟨g',e1,h',k1,k2,k3,k4,k5,k6⟩=>⟨g',e1,h',k1,k2,k3,k4,k5,frz_evo.trans k6⟩
end
end Go.VM
namespace Go.VM
open Go
theorem DrawG.monoZ {P:Program} {hqf hqf':Nat → Heap} {Z Z':Nat → Heap → Heap → Prop} (hh:hqf = hqf') (hZ:∀ k h h',Z k h h' → Z' k h h') {K:Env → Heap → Prop}:∀ {q:List VOper} {k:Nat} {e:Env} {h:Heap},DrawG P hqf Z k q K e h → DrawG P hqf' Z' k q K e h
  | [],_,_,_,H=>H
  | o :: r,k,e,h,H=>by
    subst hh
    simp only [DrawG] at H ⊢
    split at H
    · exact H.mono fun v h' kk=>⟨hZ _ _ _ kk.1,DrawG.monoZ rfl hZ kk.2⟩
    · exact H.elim
    · exact QW.mono (fun v hv=>DrawG.monoZ rfl hZ hv) H
    · split at H
      · exact QW.mono (fun v hv=>DrawG.monoZ rfl hZ hv) H
      · exact H.elim
def midQ {σ:Type} (st:σ → Env × Heap) (Q:Exit → Env → Heap → Prop):Exit → Env → Heap → Prop
  | .normal,e,h=>∃ s,(st s).1.le e ∧ (st s).2.le h
  | x,e,h=>Q x e h
theorem VW_mid {P:Program} {N:Nat} {Q Q1:Exit → Env → Heap → Prop} {e:Env} {h:Heap} {c y:VC} {σ:Type} (st:σ → Env × Heap) (H1:VW P N c (midQ st Q) e h) (H2:∀ s,VW P N y Q1 (st s).1 (st s).2):VW P N c (Zaz (VW P N y Q1) Q) e h :=
  H1.mono fun x e h hx=>by
    cases x with
    | normal =>
      obtain ⟨s,a,b⟩:=hx
      exact VW.weaken a b (H2 s)
    | _=>exact hx
end Go.VM
namespace Go.VM
open Go
theorem Zc2 {g:Gh} {w w':World} {h:Heap} (r:Rel g w h) (hb:RowKit.Below w.heap.size w w'):MemExt g w g.m w':=by
  have hin:∀ {b:Nat} {x:Obj},w.heap[b]? = some x → w'.heap[b]? = w.heap[b]?:=fun {b x} e=>hb.block b (by
    by_cases hlt:b < w.heap.size
    · exact hlt
    · rw [Array.getElem?_eq_none (by omega)] at e; cases e)
  refine ⟨fun _ _ _ e=>e,fun b o v e=>?_,fun _ _ _ e=>.inl e,fun _ _ e=>e,fun b e he=>?_,fun _ _ e=>.inl e⟩
  · obtain ⟨h1,h2⟩:=r.mem b o v e
    refine ⟨?_,h2⟩
    unfold World.cell? at h1 ⊢
    cases hh:w.heap[b]? with
    | none=>rw [hh] at h1; cases h1
    | some x=>rw [hin hh]; exact h1
  · have h1:=r.mmem b e he
    obtain ⟨o,h2⟩:=h1.there
    rw [hin h2]; exact h1
theorem PCall_of {P : Program} {f : FuncId} {args : List PV} {p : PV} (hf : fnOk P f = true) (hc : ClosedL args)
    (H:∀ (g:Gh) (w:World) (vals:Array Value),Rel g w Heap.nil → Args g vals args → Calls P f vals w fun e w'=>∃ v,e = .returned v ∧ (∀ g,Rep g v p) ∧ RowKit.Below w.heap.size w w'):PCall P f args p :=
  ⟨hf,hc,fun g w vals r ha=>(H g w vals r ha).mono fun x w' ⟨v,h1,h2,h3⟩=>⟨v,g.m,h1,h2 _,Zc2 r h3,h3⟩⟩
theorem var_known {P:Program} {g:Gh} {w:World} {h:Heap} (r:Rel g w h) {b:Nat} {l:List Value} (hl:known.lookup b = some l) {n:String} (hn:P.globalNamed n = some b):w.var? P n = some l.toArray:=by
  obtain ⟨t,fr,h1⟩:=r.mmem b _ (g.m.kn b l hl).1
  simp only [World.var?,hn,Option.bind_some,h1]
theorem args_1 {g:Gh} {vals:Array Value} {p:PV} (h:Args g vals [p]):∃ v,vals = #[v] ∧ Rep g v p:=by
  obtain ⟨h1,h2⟩:=h
  have:=h2 0 (by simp)
  refine ⟨vals[0]'(by simp [h1]),?_,?_⟩
  · apply Array.ext
    · simp [h1]
    · intro i hi hj
      have:i = 0:=by simp at hj; omega
      subst this; rfl
  · simpa [Array.getD_eq_getD_getElem?,h1,PV.nth] using this
theorem args_2 {g:Gh} {vals:Array Value} {p q:PV} (h:Args g vals [p,q]):∃ v u,vals = #[v,u] ∧ Rep g v p ∧ Rep g u q:=by
  obtain ⟨h1,h2⟩:=h
  have a0:=h2 0 (by simp)
  have a1:=h2 1 (by simp)
  refine ⟨vals[0]'(by simp [h1]),vals[1]'(by simp [h1]),?_,?_,?_⟩
  · apply Array.ext
    · simp [h1]
    · intro i hi hj
      have:i = 0 ∨ i = 1:=by simp at hj; omega
      rcases this with rfl | rfl <;> rfl
  · simpa [Array.getD_eq_getD_getElem?,h1,PV.nth] using a0
  · simpa [Array.getD_eq_getD_getElem?,h1,PV.nth] using a1
theorem str_eq {s:ByteArray} {l:List UInt8} (h:s.data.toList = l):s = ⟨l.toArray⟩:=by
  subst h
  cases s; simp
theorem strs_cells {g : Gh} {w : World} {h : Heap} (r : Rel g w h) {v : Value} {l : List Str} (hv : Rep g v (It.strs l)) :
    (∃ a cap,v = .slice a 0 cap ∧ l = []) ∨ ∃ b o cap,v = .slice (some ⟨b,o,none⟩) (l.map fun s=>(⟨s.toArray⟩:ByteArray)).length cap ∧ l.length ≤ cap ∧ b < w.heap.size ∧ ∀ (j:Nat) (x:ByteArray),(l.map fun s=>(⟨s.toArray⟩:ByteArray))[j]? = some x → w.cell? ⟨b,o + j,none⟩ = some (.string x):=by
  unfold It.strs at hv
  generalize hes:l.map (fun s=>[PV.str s]) = es at hv
  cases hv with
  | slE a cap z=>exact .inl ⟨a,cap,rfl,by simpa using hes⟩
  | sl b o len cap z a es vs ha hl hc hz hm hr =>
    subst hes
    subst ha
    have hlen:l.length = len:=by simpa using hl
    by_cases h0:l = []
    · subst h0
      simp at hlen
      subst hlen
      exact .inl ⟨_,_,rfl,rfl⟩
    right
    have cell:∀ i (hi:i < l.length),w.cell? ⟨b,o + i,none⟩ = some (.string ⟨(l[i]).toArray⟩):=by
      intro i hi
      have h1:=r.mem _ _ _ (hm i 0 (by omega) (by omega))
      have h2:=hr i 0 (by omega) (by omega)
      have e:PV.nth (PV.row (l.map fun s=>[PV.str s]) i) 0 = .str l[i]:=by simp [PV.row,PV.nth,List.getD_eq_getElem?_getD,hi]
      rw [e] at h2
      obtain ⟨s,hs,hsl⟩:=h2.str_inv
      rw [hs,str_eq hsl] at h1
      simpa using h1.1
    refine ⟨b,o,cap,by simp [hlen],by omega,?_,fun j x hx=>?_⟩
    · have hpos:0 < l.length:=List.length_pos_iff.2 h0
      have:=cell 0 hpos
      unfold World.cell? at this
      by_cases hlt:b < w.heap.size
      · exact hlt
      · simp only [] at this
        rw [Array.getElem?_eq_none (by omega)] at this; cases this
    · rw [List.getElem?_map,Option.map_eq_some_iff] at hx
      obtain ⟨s,hs,rfl⟩:=hx
      obtain ⟨hj,rfl⟩:=List.getElem?_eq_some_iff.1 hs
      exact cell j hj
end Go.VM
namespace Go.VM
open Go
section
variable {P : Program} {N : Nat} {ops : Array Oper} {q : List VOper} {hqf : Nat → Heap} {Z : Nat → Heap → Heap → Prop}
end
end Go.VM
namespace Go.VM
open Go
section
variable {P : Program} {N : Nat} {q : List VOper}
end
end Go.VM
