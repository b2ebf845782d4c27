import Derived.Test.YtjmekckcffckoaaDoorVmD
import Derived.LoopN
set_option linter.all false
namespace Go.VM
open Go
theorem rowm {α:Type} {l:List α} {enc:α → List PV} {k:Nat} (h:k < l.length):(l.map enc).getD k [] = enc l[k]:=by
  simp [List.getD_eq_getElem?_getD,h]
theorem w64 {n:Int} (h1:-9223372036854775808 ≤ n) (h2:n ≤ 9223372036854775807):IntKind.i64.wrap n = n:=by
  simp only [IntKind.wrap,IntKind.signed,IntKind.bits]
  simp
  omega
theorem i64_iff {n:Int}:i64 n ↔ -9223372036854775808 ≤ n ∧ n ≤ 9223372036854775807:=by
  simp [i64,Lit.wf,IntKind.min,IntKind.max,IntKind.signed,IntKind.bits]
section
variable {P : Program} {f : FuncId} {args : List PV} {h : Heap} {K : PV → Heap → Prop}
end
section
variable {P : Program} {N : Nat} {Q : Exit → Env → Heap → Prop} {K : Env → Heap → Prop} {e : Env} {h : Heap} {dst : Option Nat} {op : VOp} {d : Nat} {w : Bool} {r : List VOper}
theorem Zab:OpsW P [] K e h = K e h:=rfl
theorem Zad:OpsW P (⟨dst,op,none⟩ :: r) K e h = Zaf P e h op (fun v h'=>OpsW P r K (e.put dst v) h'):=rfl
theorem GuardW_true {K:PV → Heap → Prop}:GuardW P e h op true K = Zaf P e h op K:=by
  unfold GuardW
  cases hp:op.pure
  · simp
  · simp only [gd,if_true,true_implies]
    cases op <;> first | rfl | simp [VOp.pure] at hp
theorem GuardW_false {K:PV → Heap → Prop}:GuardW P e h op false K = K .undef h:=by
  unfold GuardW
  cases hp:op.pure
  · simp
  · simp [gd]
theorem OpsW_y (hd:e.get d = .bool w):OpsW P (⟨dst,op,some (d,w)⟩ :: r) K e h = Zaf P e h op (fun v h'=>OpsW P r K (e.put dst v) h'):=by
  simp only [OpsW,hd,guardOf,beq_self_eq_true,GuardW_true]
theorem OpsW_x (hd:e.get d = .bool (!w)):OpsW P (⟨dst,op,some (d,w)⟩ :: r) K e h = OpsW P r K (e.put dst .undef) h:=by
  have:((!w) == w) = false:=by cases w <;> rfl
  simp only [OpsW,hd,guardOf,this,GuardW_false]
theorem OpsW_xt (hd:e.get d = .bool false):OpsW P (⟨dst,op,some (d,true)⟩ :: r) K e h = OpsW P r K (e.put dst .undef) h:=OpsW_x hd
theorem OpsW_xf (hd:e.get d = .bool true):OpsW P (⟨dst,op,some (d,false)⟩ :: r) K e h = OpsW P r K (e.put dst .undef) h:=OpsW_x hd
theorem OpsW.mono {K':Env → Heap → Prop} (hk:∀ e h,K e h → K' e h):∀ {q:List VOper} {e:Env} {h:Heap},OpsW P q K e h → OpsW P q K' e h
  | [],_,_,H=>hk _ _ H
  | ⟨dst,op,none⟩ :: r,e,h,H=>by
    rw [Zad] at H ⊢
    exact Zaf.mono (fun _ _ H'=>OpsW.mono hk H') H
  | ⟨dst,op,some (d,w)⟩ :: r,e,h,H=>by
    simp only [OpsW] at H ⊢
    split at H
    · rename_i c hc
      cases c
      · rw [GuardW_false] at H ⊢; exact OpsW.mono hk H
      · rw [GuardW_true] at H ⊢; exact Zaf.mono (fun _ _ H'=>OpsW.mono hk H') H
    · exact H.elim
theorem DrawW_nil {hq:Heap}:DrawW P hq [] K e h = K e h:=rfl
theorem DrawW_n {hq : Heap} : DrawW P hq (⟨dst, op, none⟩ :: r) K e h = (match op.simple with
    | true=>Zaf P e h op (fun v h'=>hq.le h' ∧ DrawW P hq r K (e.put dst v) h')
    | false=>QW P hq e op true (fun v=>DrawW P hq r K (e.put dst v) h)):=by
  cases hs:op.simple <;> simp only [DrawW,hs]
end
section
variable {P : Program} {N : Nat} {Q : Exit → Env → Heap → Prop} {e : Env} {h : Heap}
theorem VW_own0 {c:VC} (t z:Nat) (he:e.get t = .nilsl) (H:VW P N c Q (e.put (some t) (.own h.top 0 0)) (h.push (.arr false z []))):VW P N c Q e h:=by
  intro x hx g w a r hr hd hs
  obtain ⟨r1,r2⟩:=r.none none z w rfl rfl rfl rfl
  have hr':Zar g a (e.put (some t) (.own h.top 0 0)):=by
    intro k
    simp only [Env.put,Env.get]
    split
    · rename_i hk; subst hk
      have:=hr t
      rw [he] at this
      generalize a.tmps.getD t Go.undef = v at this
      cases this
      exact .ownE _ _ _
    · exact hr k
  refine wp_mono (H x hx g w a r1 hr' hd hs) fun ex a' w' ⟨g',e',h',k1,k2,k3,k4,k5,k6⟩=>⟨g',e',h',k1,k2,k3,k4,k5,r2.trans k6⟩
end
section
variable {P : Program} {f : FuncId} {args : List PV} {h : Heap} {K : PV → Heap → Prop}
theorem Zbb.drop (H:Zbb P f args h (fun p h'=>∃ h0,h0.le h' ∧ K p h0)):Zbb P f args h K :=
  ⟨H.1,fun g w vals r ha=>(H.2 g w vals r ha).mono fun x w' ⟨v,p,g',h',h1,⟨h0,hl,hk⟩,h3,h4,h5⟩=>⟨v,p,g',h0,h1,hk,h3,h4.weaken hl,h5.weakenR hl⟩⟩
end
end Go.VM
namespace Go.VM
open Go
theorem cI (n:Int):Closed (pI n):=Closed.of_scalar (Zbt _ _)
theorem cS (s:Str):Closed (.str s):=Closed.of_scalar (scalar_str _)
theorem cB (b:Bool):Closed (.bool b):=Closed.of_scalar (scalar_bool _)
theorem closed_fn0 (f:Fn):Closed (.fn f [] []):=fun g v hv=>by
  cases hv with
  | fn _ fs cs _ _ s1 s2 r1 r2=>exact .fn f fs cs [] [] s1 s2 (fun j hj=>by simp at hj) (fun j hj=>by simp at hj)
theorem Zau {α:Type} {z:Nat} {enc:α → List PV} {l:List α} (h:∀ a ∈ l,∀ x ∈ enc a,Closed x):Closed (.sl z (l.map enc)) :=
  closed_sl (fun e he x hx=>by obtain ⟨a,ha,rfl⟩:=List.mem_map.1 he; exact h a ha x hx)
theorem Wd.closed (w:Wd):∀ x ∈ w.enc,Closed x:=by
  intro x hx; simp only [Wd.enc,List.mem_cons,List.not_mem_nil,or_false] at hx
  rcases hx with rfl | rfl | rfl | rfl <;> first | exact cS _ | exact cI _
theorem St.closed (w:St):∀ x ∈ w.enc,Closed x:=by
  intro x hx; simp only [St.enc,List.mem_cons,List.not_mem_nil,or_false] at hx
  rcases hx with rfl | rfl <;> first | exact cS _ | exact cI _
theorem closed_sc (l:List Int):Closed (.sl 1 (l.map fun x=>[pI x])):=Zau (fun a _ x hx=>by simp only [List.mem_cons,List.not_mem_nil,or_false] at hx; subst hx; exact cI _)
theorem Sp.closed (w:Sp):∀ x ∈ w.enc,Closed x:=by
  intro x hx; simp only [Sp.enc,List.mem_cons,List.not_mem_nil,or_false] at hx
  rcases hx with rfl | rfl <;> exact cI _
theorem closed_sps (l:List Sp):Closed (.sl 2 (l.map Sp.enc)):=Zau (fun w _=>w.closed)
theorem closed_strs (l:List Str):Closed (It.strs l):=Zau (fun a _ x hx=>by simp only [List.mem_cons,List.not_mem_nil,or_false] at hx; subst hx; exact cS _)
theorem Un.closed (u:Un):∀ x ∈ u.enc,Closed x:=by
  rw [Un.Za1]
  intro x hx; simp only [List.mem_cons,List.not_mem_nil,or_false] at hx
  rcases hx with rfl | rfl | rfl | rfl | rfl | rfl | rfl | rfl
  · exact cI _
  · exact cI _
  · exact cI _
  · exact cI _
  · exact cS _
  · exact Zau (fun w _=>w.closed)
  · exact Zau (fun w _=>w.closed)
  · exact Zau (fun k hk=>Un.closed k)
termination_by SizeOf.sizeOf u
decreasing_by
  match u,hk with
  | .mk _ _ _ _ _ _ _ ks,hk =>
    have h1:SizeOf.sizeOf k < SizeOf.sizeOf ks:=List.sizeOf_lt_of_mem hk
    rw [Un.mk.sizeOf_spec]; omega
theorem It.closed (u:It):∀ x ∈ u.enc,Closed x:=by
  rw [It.Za1]
  intro x hx; simp only [List.mem_cons,List.not_mem_nil,or_false] at hx
  rcases hx with rfl | rfl | rfl | rfl | rfl | rfl | rfl | rfl | rfl | rfl | rfl | rfl | rfl | rfl | rfl | rfl | rfl | rfl | rfl | rfl | rfl | rfl | rfl | rfl | rfl
  all_goals first | exact cI _ | exact cS _ | exact closed_strs _ | exact Zau (fun w _=>Wd.closed w) | exact Zau (fun w _=>St.closed w) | exact Zau (fun w _=>Un.closed w) | skip
  exact Zau (fun k hk=>It.closed k)
termination_by SizeOf.sizeOf u
decreasing_by
  match u,hk with
  | .mk _ _ _ _ _ _ _ _ _ _ _ _ _ _ _ ks,hk =>
    have h1:SizeOf.sizeOf k < SizeOf.sizeOf ks:=List.sizeOf_lt_of_mem hk
    rw [It.mk.sizeOf_spec]; omega
theorem EI.closed (e:EI):∀ x ∈ e.enc,Closed x:=by
  intro x hx; simp only [EI.enc,List.mem_cons] at hx
  rcases hx with rfl | rfl | rfl | hx
  · exact cI _
  · exact cI _
  · exact cI _
  · exact It.closed _ x hx
theorem Ac.closed (a:Ac):∀ x ∈ a.enc,Closed x:=by
  intro x hx; simp only [Ac.enc,List.mem_cons,List.not_mem_nil,or_false] at hx
  rcases hx with rfl | rfl | rfl | rfl | rfl | rfl | rfl
  all_goals first | exact cI _ | exact cS _ | exact Zau (fun w _=>It.closed w)
theorem Za9 (l:List EI):Closed (.sl 28 (l.map EI.enc)):=Zau (fun w _=>w.closed)
theorem closed_acs (l:List Ac):Closed (.sl 7 (l.map Ac.enc)):=Zau (fun w _=>w.closed)
end Go.VM
namespace Go.VM
open Go
def HL.dec:List (Nat × AB) → Nat → Prop
  | [],_=>True
  | (k,_) :: r,b=>k < b ∧ HL.dec r k
def HOk (h:Heap):Prop:=HL.dec h.l h.top
theorem HL.dec_mono:∀ {l:List (Nat × AB)} {b b':Nat},HL.dec l b → b ≤ b' → HL.dec l b'
  | [],_,_,_,_=>trivial
  | (k,_) :: r,b,b',h,hb=>⟨Nat.lt_of_lt_of_le h.1 hb,h.2⟩
theorem HL.le_self:∀ {l:List (Nat × AB)} {b:Nat} {f:Nat → Option AB},HL.dec l b → (∀ t,t < b → HL.get l t = f t ∨ HL.get l t = none) → HL.le l f
  | [],_,_,_,_=>trivial
  | (k,v) :: r,b,f,h,hf=>by
    refine ⟨?_,HL.le_self h.2 (fun t ht=>?_)⟩
    · have:=hf k h.1
      simpa [HL.get,eq_comm] using this
    · have h1:=hf t (by have:=h.1; omega)
      have:k ≠ t:=by omega
      simpa [HL.get,this] using h1
theorem HOk.le_refl {h:Heap} (ok:HOk h):h.le h:=⟨Nat.le_refl _,HL.le_self ok fun _ _=>.inl rfl⟩
theorem HOk.push {h:Heap} (ok:HOk h) (x:AB):HOk (h.push x):=⟨Nat.lt_succ_self _,ok⟩
theorem HL.dec_del:∀ {l:List (Nat × AB)} {b:Nat} (k:Nat),HL.dec l b → HL.dec (HL.del l k) b
  | [],_,_,_=>trivial
  | (j,v) :: r,b,k,h=>by
    simp only [HL.del]
    split
    · exact HL.dec_del k (HL.dec_mono h.2 (Nat.le_of_lt h.1))
    · exact ⟨h.1,HL.dec_del k h.2⟩
theorem HL.dec_set:∀ {l:List (Nat × AB)} {b:Nat} (k:Nat) (x:AB),HL.dec l b → HL.dec (HL.set l k x) b
  | [],_,_,_,_=>trivial
  | (j,v) :: r,b,k,x,h=>by
    simp only [HL.set]
    split
    · exact ⟨h.1,HL.dec_del k h.2⟩
    · exact ⟨h.1,HL.dec_set k x h.2⟩
theorem HOk.del {h:Heap} (ok:HOk h) (k:Nat):HOk (h.del k):=HL.dec_del k ok
theorem HOk.set {h:Heap} (ok:HOk h) (k:Nat) (x:AB):HOk (h.set k x):=HL.dec_set k x ok
theorem HOk.Zbe {h:Heap} (ok:HOk h) (k:Option Nat):HOk (Go.VM.Zbe h k):=by cases k <;> first | exact ok | exact ok.del _
def HL.only (p:Nat → Bool):List (Nat × AB) → List (Nat × AB)
  | []=>[]
  | (k,v) :: r=>bif p k then (k,v) :: HL.only p r else HL.only p r
end Go.VM
namespace Go.VM
open Go
inductive Tr where
  | lf
  | nd (l : Tr) (v : PV) (r : Tr)
  deriving Inhabited
def Tr.get:Tr → Nat → PV
  | .lf,_=>.any
  | .nd l v r,n=>bif n == 0 then v else bif n % 2 == 1 then Tr.get l (n / 2) else Tr.get r (n / 2 - 1)
def Tr.put:Nat → Tr → Nat → PV → Tr
  | 0,t,_,_=>t
  | f + 1,.lf,n,x=>bif n == 0 then .nd .lf x .lf else bif n % 2 == 1 then .nd (Tr.put f .lf (n / 2) x) .any .lf else .nd .lf .any (Tr.put f .lf (n / 2 - 1) x)
  | f + 1,.nd l v r,n,x=>bif n == 0 then .nd l x r else bif n % 2 == 1 then .nd (Tr.put f l (n / 2) x) v r else .nd l v (Tr.put f r (n / 2 - 1) x)
theorem Tr.get_put:∀ (f:Nat) (t:Tr) (n m:Nat) (x:PV),n + 1 < 2 ^ f → (Tr.put f t n x).get m = if n = m then x else t.get m:=by
  intro f
  induction f with
  | zero=>intro t n m x h; simp at h
  | succ f ih =>
    intro t n m x h
    have h2:2 ^ (f + 1) = 2 ^ f + 2 ^ f:=by rw [Nat.pow_succ]; omega
    cases t with
    | lf =>
      by_cases h0:n = 0
      · subst h0
        cases m with
        | zero=>simp [Tr.put,Tr.get]
        | succ m =>
          simp only [Tr.put,Tr.get,beq_self_eq_true,cond_true,Nat.add_eq_zero_iff,Nat.succ_ne_zero,and_false,if_false]
          have:¬ (0 = m + 1):=by omega
          simp [this]
      · have hb:(n == 0) = false:=by simp [h0]
        by_cases h1:n % 2 = 1
        · have hb1:(n % 2 == 1) = true:=by simp [h1]
          simp only [Tr.put,hb,hb1,cond_true,cond_false,Tr.get]
          by_cases m0:m = 0
          · subst m0; simp [h0]
          · have mb:(m == 0) = false:=by simp [m0]
            by_cases m1:m % 2 = 1
            · have mb1:(m % 2 == 1) = true:=by simp [m1]
              simp only [mb,mb1,cond_true,cond_false]
              rw [ih .lf (n / 2) (m / 2) x (by omega)]
              by_cases e:n = m
              · subst e; simp
              · rw [if_neg e,if_neg (by omega)]; rfl
            · have mb1:(m % 2 == 1) = false:=by simp [m1]
              simp only [mb,mb1,cond_false]
              rw [if_neg (by rintro rfl; exact m1 h1)]
        · have hb1:(n % 2 == 1) = false:=by simp [h1]
          simp only [Tr.put,hb,hb1,cond_false,Tr.get]
          by_cases m0:m = 0
          · subst m0; simp [h0]
          · have mb:(m == 0) = false:=by simp [m0]
            by_cases m1:m % 2 = 1
            · have mb1:(m % 2 == 1) = true:=by simp [m1]
              simp only [mb,mb1,cond_true,cond_false]
              rw [if_neg (by rintro rfl; exact h1 m1)]
            · have mb1:(m % 2 == 1) = false:=by simp [m1]
              simp only [mb,mb1,cond_false]
              rw [ih .lf (n / 2 - 1) (m / 2 - 1) x (by omega)]
              by_cases e:n = m
              · subst e; simp
              · rw [if_neg e,if_neg (by omega)]; rfl
    | nd l v r =>
      by_cases h0:n = 0
      · subst h0
        cases m with
        | zero=>simp [Tr.put,Tr.get]
        | succ m =>
          have:¬ (0 = m + 1):=by omega
          simp [Tr.put,Tr.get,this]
      · have hb:(n == 0) = false:=by simp [h0]
        by_cases h1:n % 2 = 1
        · have hb1:(n % 2 == 1) = true:=by simp [h1]
          simp only [Tr.put,hb,hb1,cond_true,cond_false,Tr.get]
          by_cases m0:m = 0
          · subst m0; simp [h0]
          · have mb:(m == 0) = false:=by simp [m0]
            by_cases m1:m % 2 = 1
            · have mb1:(m % 2 == 1) = true:=by simp [m1]
              simp only [mb,mb1,cond_true,cond_false]
              rw [ih l (n / 2) (m / 2) x (by omega)]
              by_cases e:n = m
              · subst e; simp
              · rw [if_neg e,if_neg (by omega)]
            · have mb1:(m % 2 == 1) = false:=by simp [m1]
              simp only [mb,mb1,cond_false]
              rw [if_neg (by rintro rfl; exact m1 h1)]
        · have hb1:(n % 2 == 1) = false:=by simp [h1]
          simp only [Tr.put,hb,hb1,cond_false,Tr.get]
          by_cases m0:m = 0
          · subst m0; simp [h0]
          · have mb:(m == 0) = false:=by simp [m0]
            by_cases m1:m % 2 = 1
            · have mb1:(m % 2 == 1) = true:=by simp [m1]
              simp only [mb,mb1,cond_true,cond_false]
              rw [if_neg (by rintro rfl; exact h1 m1)]
            · have mb1:(m % 2 == 1) = false:=by simp [m1]
              simp only [mb,mb1,cond_false]
              rw [ih r (n / 2 - 1) (m / 2 - 1) x (by omega)]
              by_cases e:n = m
              · subst e; simp
              · rw [if_neg e,if_neg (by omega)]
def isBoolB:PV → Bool | .bool _=>true | _=>false
def isStrB:PV → Bool | .str _=>true | _=>false
def isIntB:PV → Bool | .int _ _=>true | _=>false
def isAggB:PV → Bool | .agg _=>true | _=>false
def isAddrB:PV → Bool | .loc _ _ _ | .ro _=>true | _=>false
def binbOkB (op:BinOp):PV → PV → Bool
  | .bool _,.bool _=>(match op with | .eql | .neq=>true | _=>false)
  | _,_=>false
def binOkB (op:BinOp):PV → PV → Bool
  | .int k a,.int k' b=>(match op with
    | .shl | .shr=>decide (0 ≤ b)
    | .quo | .rem=>decide (k = k') && !decide (b = 0)
    | _=>decide (k = k'))
  | .str a,.str b=>(match op with
    | .add=>Nat.ble (a.length + b.length) 9223372036854775807
    | .eql | .neq | .lss | .leq | .gtr | .geq=>true
    | _=>false)
  | _,_=>false
def ekOkB:EK → PV → PV → Bool
  | .i,.int k _,.int k' _=>decide (k = k')
  | .s,.str _,.str _=>true
  | .b,.bool _,.bool _=>true
  | _,_,_=>false
def eqOkB:List EK → List PV → List PV → Bool
  | k :: ks,x :: r,y :: q=>ekOkB k x y && eqOkB ks r q
  | [],[],[]=>true
  | _,_,_=>false
def keyOkB:KK → PV → PV → Bool
  | .one k,a,b=>ekOkB k a b
  | .st ks,.agg a,.agg b=>eqOkB ks a b
  | _,_,_=>false
def keysOkB (kk:KK) (k:PV) (es:List (PV × PV)):Bool:=keyOkB kk k k && es.all fun p=>keyOkB kk k p.1
def mapOkB (h:Heap):PV → Bool
  | .mp id=>(match h.get id with | some (.map _)=>true | _=>false)
  | .rmp _=>true
  | .nilmp=>true
  | _=>false
def mapHasB (h:Heap):PV → Bool
  | .mp id=>(match h.get id with | some (.map _)=>true | _=>false)
  | _=>false
def unOkB (op:UnOp):PV → Bool
  | .int _ _=>(match op with | .neg=>true | _=>false)
  | .bool _=>(match op with | .not=>true | _=>false)
  | _=>false
def boundOkB:Option PV → Bool
  | some (.int _ n)=>decide (0 ≤ n)
  | some _=>false
  | none=>true
def sliceOkB (st:Bool) (z:Nat) (h:Heap) (a:PV) (lo hi:Option PV):Bool :=
  boundOkB lo && boundOkB hi && Nat.ble (loV lo) (hiV (lenV a) hi) && Nat.ble (hiV (lenV a) hi) (lenV a) &&
  match a with
  | .str _=>st
  | .sl z' _=>!st && Nat.beq z' z
  | .own id _ _=>!st && (match h.get id with | some (.arr _ z' _)=>Nat.beq z' z | _=>false)
  | .nilsl=>!st
  | _=>false
def locOkB (h:Heap):PV → Bool
  | .loc id i _=>(match h.get id with | some (.arr _ _ es)=>Nat.blt i es.length | _=>false)
  | .ro _=>true
  | _=>false
def iaddrOkB (z:Nat) (h:Heap) (a i:PV):Bool :=
  isIntB i && decide (0 ≤ numOf i) && decide (numOf i < lenV a) &&
  match a with
  | .sl z' _=>Nat.beq z' z
  | .own id _ _=>(match h.get id with | some (.arr _ z' _)=>Nat.beq z' z | _=>false)
  | _=>false
def idxOkB (a i:PV):Bool:=isIntB i && decide (0 ≤ numOf i) && decide (numOf i < lenV a) && isStrB a
def lenOkB (st:Bool):PV → Bool
  | .str _=>st
  | .sl _ _ | .own _ _ _ | .nilsl=>!st
  | _=>false
def extOkB (i:Nat):PV → Bool
  | .tup l=>Nat.blt i l.length
  | _=>false
def fillOkB (e:Env) (n:Nat):List (Nat × Nat × VA) → Bool
  | []=>true
  | (o,s,a) :: r=>(a.ev e).fits s && Nat.ble (o + s) n && fillOkB e n r
def elemsOkB (e:Env) (z n:Nat):List (Nat × VA) → Bool
  | []=>true
  | (i,a) :: r=>(a.ev e).fits z && Nat.blt i n && elemsOkB e z n r
def srcOkB (h:Heap) (str:Bool) (z:Nat):PV → Bool
  | .sl z' _=>!str && Nat.beq z' z
  | .own id off len=>!str && (match h.get id with
    | some (.arr _ z' es)=>Nat.beq z' z && Nat.ble (off + len) es.length
    | _=>false)
  | .nilsl=>!str
  | .str _=>str && Nat.beq z 1
  | _=>false
def oldOkB (h:Heap) (z:Nat):PV → Bool
  | .nilsl=>true
  | .own id off len=>(match h.get id with
    | some (.arr fz z' es)=>!fz && Nat.beq z' z && Nat.ble (off + len) es.length
    | _=>false)
  | _=>false
def storeOkB (h:Heap) (s:Nat) (p v:PV):Bool :=
  v.fits s && match p with
  | .loc id i off=>(match h.get id with
    | some (.arr fz z es)=>!fz && Nat.blt i es.length && Nat.ble (off + s) z
    | _=>false)
  | _=>false
def VA.res (t:Tr):VA → VA
  | .t n=>.c (t.get n)
  | .c p=>.c p
def Sim (t:Tr) (e:Env):Prop:=∀ n,t.get n = e.get n
theorem Sim.ev {t:Tr} {e:Env} (h:Sim t e) (a:VA):(a.res t).ev [] = a.ev e:=by
  cases a with
  | t n=>exact h n
  | c p=>rfl
def VOp.res (t:Tr):VOp → VOp
  | .mv a=>.mv (a.res t)
  | .pick c a b=>.pick (c.res t) (a.res t) (b.res t)
  | .alloc z=>.alloc z
  | .box n a=>.box n (a.res t)
  | .build z ps=>.build z (ps.map fun p=>(p.1,p.2.1,p.2.2.res t))
  | .bslice z n zr ps=>.bslice z n zr (ps.map fun p=>(p.1,p.2.res t))
  | .load g s a=>.load g s (a.res t)
  | .store s a v=>.store s (a.res t) (v.res t)
  | .bin op a b=>.bin op (a.res t) (b.res t)
  | .binb op a b=>.binb op (a.res t) (b.res t)
  | .strid a=>.strid (a.res t)
  | .eqs n ks a b=>.eqs n ks (a.res t) (b.res t)
  | .isnil n a=>.isnil n (a.res t)
  | .un op a=>.un op (a.res t)
  | .conv k a=>.conv k (a.res t)
  | .b2s a=>.b2s (a.res t)
  | .s2b a=>.s2b (a.res t)
  | .mkfn f x y=>.mkfn f (x.map (VA.res t)) (y.map (VA.res t))
  | .slice st z a lo hi=>.slice st z (a.res t) (lo.map (VA.res t)) (hi.map (VA.res t))
  | .faddr o a=>.faddr o (a.res t)
  | .fld g o s a=>.fld g o s (a.res t)
  | .iaddr z a i=>.iaddr z (a.res t) (i.res t)
  | .idx a i=>.idx (a.res t) (i.res t)
  | .ext a i=>.ext (a.res t) i
  | .len st a=>.len st (a.res t)
  | .app z b zr st x y=>.app z b zr st (x.res t) (y.res t)
  | .mm mx l=>.mm mx (l.map (VA.res t))
  | .mkmap=>.mkmap
  | .lookup kk z ok m k=>.lookup kk z ok (m.res t) (k.res t)
  | .mapset kk m k v=>.mapset kk (m.res t) (k.res t) (v.res t)
  | .mlen m=>.mlen (m.res t)
  | .call f l=>.call f (l.map (VA.res t))
  | .callv f l=>.callv (f.res t) (l.map (VA.res t))
  | .px k l=>.px k (l.map (VA.res t))
  | .fx k l=>.fx k (l.map (VA.res t))
  | .nd neg a=>.nd neg (a.res t)
  | .other o=>.other o
section
variable {t : Tr} {e : Env} (hs : Sim t e)
include hs
end
end Go.VM
namespace Go.VM
open Go
mutual
def PV.clB : PV → Bool
  | .any | .undef | .bool _ | .int _ _ | .str _ | .nilp | .nilsl | .nilmp | .nilfn | .nilif => true
  | .ro cs => PV.clsB cs
  | .sl _ es => PV.clssB es
  | .agg cs => PV.clsB cs
  | .tup cs => PV.clsB cs
  | .fn _ a b => PV.clsB a && PV.clsB b
  | .ifc _ v => PV.clB v
  | .rmp es => PV.clpB es
  | .loc _ _ _ | .own _ _ _ | .mp _ | .fnb _ _ => false
def PV.clsB : List PV → Bool
  | [] => true
  | p :: r => PV.clB p && PV.clsB r
def PV.clssB : List (List PV) → Bool
  | [] => true
  | p :: r => PV.clsB p && PV.clssB r
def PV.clpB : List (PV × PV) → Bool
  | [] => true
  | (a, b) :: r => PV.clB a && PV.clB b && PV.clpB r
end
theorem closed_fn {f:Fn} {a b:List PV} (h1:∀ x ∈ a,Closed x) (h2:∀ x ∈ b,Closed x):Closed (.fn f a b):=by
  intro g v hv
  cases hv with
  | fn _ fs cs _ _ s1 s2 r1 r2 =>
    refine .fn f fs cs a b s1 s2 (fun j hj=>h1 _ ?_ g _ (r1 j hj)) (fun j hj=>h2 _ ?_ g _ (r2 j hj))
    · simp only [PV.nth,List.getD_eq_getElem?_getD,List.getElem?_eq_getElem hj,Option.getD_some]; exact List.getElem_mem hj
    · simp only [PV.nth,List.getD_eq_getElem?_getD,List.getElem?_eq_getElem hj,Option.getD_some]; exact List.getElem_mem hj
mutual
theorem PV.clB_ok : ∀ (p : PV), p.clB = true → Closed p
  | .any, _ => fun _ v _ => .any v
  | .undef, _ => fun _ v h => by cases h; exact .undef
  | .bool b, _ => cB b
  | .int k n, _ => Closed.of_scalar (Zbt _ _)
  | .str s, _ => cS s
  | .nilp, _ => fun _ v h => by cases h; exact .nilp
  | .nilsl, _ => closed_nilsl
  | .nilmp, _ => fun _ v h => by cases h; exact .nilmp
  | .nilfn, _ => fun _ v h => by cases h; exact .nilfn
  | .nilif, _ => fun _ v h => by cases h; exact .nilif
  | .ro cs, h => Zbd (PV.clsB_ok cs h)
  | .sl z es, h => closed_sl (PV.clssB_ok es h)
  | .agg cs, h => Zao (PV.clsB_ok cs h)
  | .tup cs, h => closed_tup (PV.clsB_ok cs h)
  | .fn f a b, h => by
    simp only [PV.clB,Bool.and_eq_true] at h
    exact closed_fn (PV.clsB_ok a h.1) (PV.clsB_ok b h.2)
  | .ifc t v, h => fun g x hx => by
    cases hx with
    | ifc _ y _ hy => exact .ifc t y v (PV.clB_ok v h g y hy)
  | .rmp es, h => closed_rmp (PV.clpB_ok es h)
  | .fnb _ _, h => by cases h
  | .loc _ _ _, h => by cases h
  | .own _ _ _, h => by cases h
  | .mp _, h => by cases h
theorem PV.clsB_ok : ∀ (l : List PV), PV.clsB l = true → ∀ x ∈ l, Closed x
  | [], _ => fun x hx => by cases hx
  | p :: r, h => by
    simp only [PV.clsB,Bool.and_eq_true] at h
    intro x hx
    rcases List.mem_cons.1 hx with hp | hx
    · rw [hp]; exact PV.clB_ok p h.1
    · exact PV.clsB_ok r h.2 x hx
theorem PV.clssB_ok : ∀ (l : List (List PV)), PV.clssB l = true → ∀ e ∈ l, ∀ x ∈ e, Closed x
  | [], _ => fun x hx => by cases hx
  | p :: r, h => by
    simp only [PV.clssB,Bool.and_eq_true] at h
    intro x hx
    rcases List.mem_cons.1 hx with hp | hx
    · rw [hp]; exact PV.clsB_ok p h.1
    · exact PV.clssB_ok r h.2 x hx
theorem PV.clpB_ok : ∀ (l : List (PV × PV)), PV.clpB l = true → ∀ e ∈ l, Closed e.1 ∧ Closed e.2
  | [], _ => fun x hx => by cases hx
  | (a, b) :: r, h => by
    simp only [PV.clpB,Bool.and_eq_true] at h
    intro x hx
    rcases List.mem_cons.1 hx with hp | hx
    · rw [hp]; exact ⟨PV.clB_ok a h.1.1, PV.clB_ok b h.1.2⟩
    · exact PV.clpB_ok r h.2 x hx
end
mutual
def PV.scB : PV → Bool
  | .any | .undef | .bool _ | .int _ _ | .str _ | .nilp | .nilsl | .nilmp | .nilfn | .nilif => true
  | .sl _ es => es.isEmpty
  | .agg cs => PV.scsB cs
  | .tup cs => PV.scsB cs
  | .ro _ | .fn _ _ _ | .ifc _ _ | .loc _ _ _ | .own _ _ _ | .mp _ | .rmp _ | .fnb _ _ => false
def PV.scsB : List PV → Bool
  | [] => true
  | p :: r => PV.scB p && PV.scsB r
end
mutual
theorem PV.scB_ok : ∀ (p : PV), p.scB = true → Scalar p
  | .any, _ => fun _ v _ _ => .any v
  | .undef, _ => fun _ v h _ => by cases h; exact .undef
  | .bool b, _ => scalar_bool _
  | .int k n, _ => Zbt _ _
  | .str s, _ => scalar_str _
  | .nilp, _ => fun _ v h _ => by cases h; exact .nilp
  | .nilsl, _ => fun _ v h _ => by cases h; exact .nilsl
  | .nilmp, _ => fun _ v h _ => by cases h; exact .nilmp
  | .nilfn, _ => fun _ v h _ => by cases h; exact .nilfn
  | .nilif, _ => fun _ v h _ => by cases h; exact .nilif
  | .fnb _ _, h => by cases h
  | .ro cs, h => by cases h
  | .sl z es, h => by
    obtain rfl : es = [] := by simpa [PV.scB] using h
    intro g v hv g'
    cases hv with
    | slE => exact .slE _ _ _
    | sl b o len cap z a es vs ha hl hc hz hm hr => 
      obtain rfl : len = 0 := by simpa using hl.symm
      exact .slE _ _ _
  | .agg cs, h => scalar_agg (PV.scsB_ok cs h)
  | .tup cs, h => scalar_tup (PV.scsB_ok cs h)
  | .fn f a b, h => by cases h
  | .ifc t v, h => by cases h
  | .loc _ _ _, h => by cases h
  | .own _ _ _, h => by cases h
  | .mp _, h => by cases h
  | .rmp _, h => by cases h
theorem PV.scsB_ok : ∀ (l : List PV), PV.scsB l = true → ∀ x ∈ l, Scalar x
  | [], _ => fun x hx => by cases hx
  | p :: r, h => by
    simp only [PV.scsB,Bool.and_eq_true] at h
    intro x hx
    rcases List.mem_cons.1 hx with hp | hx
    · rw [hp]; exact PV.scB_ok p h.1
    · exact PV.scsB_ok r h.2 x hx
end
def optL (f:PV → Option PV):List PV → Option (List PV)
  | []=>some []
  | p :: r=>match f p with
    | some q=>match optL f r with
      | some s=>some (q :: s)
      | none=>none
    | none=>none
def optLL (f:PV → Option PV):List (List PV) → Option (List (List PV))
  | []=>some []
  | p :: r=>match optL f p with
    | some q=>match optLL f r with
      | some s=>some (q :: s)
      | none=>none
    | none=>none
def optP (f:PV → Option PV):List (PV × PV) → Option (List (PV × PV))
  | []=>some []
  | p :: r=>match f p.1,f p.2 with
    | some a,some b=>match optP f r with
      | some s=>some ((a,b) :: s)
      | none=>none
    | _,_=>none
def viewD (h:Heap):Nat → PV → Option PV
  | 0,_=>none
  | n + 1,p=>bif p.clB then some p else match p with
    | .own id off len=>(match h.get id with
      | some (.arr _ z es)=>bif Nat.ble (off + len) es.length then (match optLL (viewD h n) ((es.drop off).take len) with
        | some q=>some (.sl z q)
        | none=>none) else none
      | _=>none)
    | .sl z es => (match optLL (viewD h n) es with
        | some q=>some (.sl z q)
        | none=>none)
    | .agg cs => (match optL (viewD h n) cs with
        | some q=>some (.agg q)
        | none=>none)
    | .tup cs => (match optL (viewD h n) cs with
        | some q=>some (.tup q)
        | none=>none)
    | .loc id i off=>(match h.get id with
      | some (.arr _ _ es)=>bif Nat.blt i es.length then (match optL (viewD h n) ((PV.row es i).drop off) with
        | some q=>some (.ro q)
        | none=>none) else none
      | _=>none)
    | .mp id=>(match h.get id with
      | some (.map es)=>(match optP (viewD h n) es with
        | some q=>some (.rmp q)
        | none=>none)
      | _=>none)
    | _=>none
end Go.VM
namespace Go.VM
open Go
def isByteB:List PV → Bool
  | [.int .u8 _]=>true
  | _=>false
def bytesOkB (h:Heap):PV → Bool
  | .nilsl=>true
  | .sl z es=>Nat.beq z 1 && es.all isByteB
  | .own id off len=>(match h.get id with
    | some (.arr _ z es)=>Nat.beq z 1 && Nat.ble (off + len) es.length && ((es.drop off).take len).all isByteB
    | _=>false)
  | _=>false
def pxOkB (h:Heap):PX → List PV → Bool
  | .b2s,[a]=>bytesOkB h a
  | .nck,[a]=>isPtr a
  | .unx,[a]=>isIntB a
  | .isnil _,[a]=>isNil a || notNil a
  | _,_=>false
def fxOkB (h:Heap):FX → List PV → Bool
  | .slice0 z,[a]=>(match a with
    | .nilsl | .sl _ _=>true
    | .own _ _ _=>true
    | _=>false)
  | .mk0 _,[]=>true
  | .clear z zr,[a]=>(match a with
    | .nilsl=>true
    | .own id off len=>(match h.get id with
      | some (.arr fz z' es)=>!fz && Nat.beq z' z && Nat.ble (off + len) es.length && Nat.beq zr.length z
      | _=>false)
    | _=>false)
  | _,_=>false
def pokB (h:Heap):VOp → Bool
  | .mv _=>true
  | .pick c _ _=>isBoolB (c.ev [])
  | .build zr ps=>fillOkB [] zr.length ps
  | .load g s a=>locOkB h (a.ev []) && Nat.ble s (Zag h (a.ev [])).length && (g || Nat.beq s 1)
  | .bin op a b=>binOkB op (a.ev []) (b.ev [])
  | .binb op a b=>binbOkB op (a.ev []) (b.ev [])
  | .strid a=>isStrB (a.ev [])
  | .eqs _ ks a b=>isAggB (a.ev []) && isAggB (b.ev []) && eqOkB ks (Za2 (a.ev [])) (Za2 (b.ev []))
  | .un op a=>unOkB op (a.ev [])
  | .conv _ a=>isIntB (a.ev [])
  | .mkfn _ _ _=>true
  | .slice st z a lo hi=>sliceOkB st z h (a.ev []) (lo.map (VA.ev [])) (hi.map (VA.ev []))
  | .faddr _ a=>isAddrB (a.ev [])
  | .fld g off s a=>isAggB (a.ev []) && Nat.ble (off + s) (Za2 (a.ev [])).length && (g || Nat.beq s 1)
  | .iaddr z a i=>iaddrOkB z h (a.ev []) (i.ev [])
  | .idx a i=>idxOkB (a.ev []) (i.ev [])
  | .ext a i=>extOkB i (a.ev [])
  | .len st a=>lenOkB st (a.ev [])
  | .lookup kk _ _ m k=>mapOkB h (m.ev []) && keysOkB kk (k.ev []) (Zba h (m.ev []))
  | .mlen m=>mapOkB h (m.ev [])
  | .mm _ [a,b]=>isIntB (a.ev []) && isIntB (b.ev [])
  | .px k l=>pxOkB h k (l.map (VA.ev []))
  | _=>false
abbrev RX:=Option (PV × Heap)
def stepX (h:Heap) (op:VOp):RX :=
  match op with
  | .alloc zr=>some (.loc h.top 0 0,h.push (.arr false zr.length [zr]))
  | .box n a=>bif (a.ev []).fits n then some (.loc h.top 0 0,h.push (.arr false n [(a.ev []).cells])) else none
  | .bslice z n zr ps=>bif elemsOkB [] z n ps then some (.own h.top 0 n,h.push (.arr false z (Zbg [] (List.replicate n zr) ps))) else none
  | .store s a v=>bif storeOkB h s (a.ev []) (v.ev []) then some (.undef,Zbj h (a.ev []) (v.ev [])) else none
  | .app z bytes _ str a b => bif oldOkB h z (a.ev []) && srcOkB h str z (b.ev []) && Nat.ble ((Zbn h (a.ev [])).length + (Za0 h (b.ev [])).length) 4611686018427387904 &&
      Nat.ble (((Zbn h (a.ev [])).length + (Za0 h (b.ev [])).length) * bytes) 140737488355328 then
        some (.own h.top 0 ((Zbn h (a.ev [])).length + (Za0 h (b.ev [])).length),(Zbe h (oldId (a.ev []))).push (.arr false z (Zbn h (a.ev []) ++ Za0 h (b.ev []))))
      else none
  | .mkmap=>some (.mp h.top,h.push (.map []))
  | .mapset kk m k v=>bif mapHasB h (m.ev []) && keysOkB kk (k.ev []) (Zba h (m.ev [])) then some (.undef,mapsetV h (m.ev []) (k.ev []) (v.ev [])) else none
  | .fx k l=>bif fxOkB h k (l.map (VA.ev [])) then some (fxV h k (l.map (VA.ev []))) else none
  | .nd neg a=>bif slLike (a.ev []) then (bif isNil (a.ev []) then some (.bool (true != neg),h) else bif notNil (a.ev []) then some (.bool (false != neg),h) else none) else none
  | .other _ | .call _ _ | .callv _ _=>none
  | op=>bif pokB h op then some (pval [] h op,h) else none
theorem storeV_top (h:Heap) (a v:PV):(Zbj h a v).top = h.top:=by
  unfold Zbj
  split
  · split <;> rfl
  · rfl
theorem mapsetV_top (h:Heap) (m k v:PV):(mapsetV h m k v).top = h.top:=by
  unfold mapsetV
  split <;> rfl
abbrev CX:=Nat → List PV → Heap → RX
def opX (call:CX) (h:Heap) (op:VOp):RX :=
  match op with
  | .call f l=>call f (l.map (VA.ev [])) h
  | .callv f l=>(match f.ev [] with
    | .fn (.func f) a b=>call f (a ++ l.map (VA.ev []) ++ b) h
    | _=>none)
  | op=>stepX h op
def CallOk (P:Program) (call:CX):Prop:=∀ f args h v h',call f args h = some (v,h') → HOk h → (∀ K:PV → Heap → Prop,K v h' → Zbb P f args h K) ∧ HOk h' ∧ h.top ≤ h'.top
def putO (t:Tr) (d:Option Nat) (v:PV):Tr:=match d with | some d=>Tr.put 10 t d v | none=>t
def guardX (t:Tr):Option (Nat × Bool) → Option Bool
  | none=>some true
  | some (d,want)=>guardOf want (t.get d)
def opsX (call:CX):List VOper → Tr → Heap → Option (Tr × Heap)
  | [],t,h=>some (t,h)
  | o :: r,t,h=>match guardX t o.guard with
    | some true=>(match opX call h (o.op.res t) with
      | some (v,h')=>opsX call r (putO t o.dst v) h'
      | none=>none)
    | some false=>opsX call r (putO t o.dst .undef) h
    | none=>none
def SimN (N:Nat) (t:Tr) (e:Env):Prop:=Sim t e ∧ ∀ k,N ≤ k → e.get k = .any
theorem SimN.put {N:Nat} (hN:N ≤ 1000) {t:Tr} {e:Env} (hs:SimN N t e) {d:Option Nat} (hd:∀ k,d = some k → k < N) (v:PV):SimN N (putO t d v) (e.put d v):=by
  cases d with
  | none=>exact hs
  | some d =>
    have hlt:=hd d rfl
    refine ⟨fun n=>?_,fun k hk=>?_⟩
    · simp only [putO,Env.put,Env.get]
      rw [Tr.get_put 10 t d n v (by have : (2 : Nat) ^ 10 = 1024 := by decide
                                    omega),hs.1 n]
    · simp only [Env.put,Env.get]
      rw [if_neg (by omega)]; exact hs.2 k hk
end Go.VM
namespace Go.VM
open Go
theorem keep_mem (e:Env):∀ (l:List Nat) (t:Nat),(Env.keep l e).get t = if t ∈ l then e.get t else .any
  | [],t=>by simp [Env.keep,Env.get]
  | k :: l,t=>by
    simp only [Env.keep,Env.get,List.mem_cons]
    by_cases h:k = t
    · subst h; simp
    · rw [if_neg h,keep_mem e l t]
      have:¬ t = k:=fun h'=>h h'.symm
      simp [this]
theorem SimN.keep {N:Nat} {t:Tr} {e:Env} (h:SimN N t e):SimN N t (Env.keep (List.range N) e):=by
  refine ⟨fun n=>?_,fun k hk=>?_⟩
  · rw [keep_mem,h.1 n]
    by_cases hn:n < N
    · simp [hn]
    · rw [h.2 n (by omega)]; simp
  · rw [keep_mem,if_neg (by simpa using hk)]
def effB (hq:Heap) (op:VOp):Bool :=
  match op with
  | .store _ a _=>(match a.ev [] with | .loc id _ _=>(hq.get id).isNone | _=>false)
  | .mapset _ m _ _=>(match m.ev [] with | .mp id=>(hq.get id).isNone | _=>false)
  | .app _ _ _ _ a _=>(match a.ev [] with | .own id _ _=>(hq.get id).isNone | .nilsl=>true | _=>false)
  | .fx (.clear _ _) _=>false
  | _=>true
def viewFin (h':Heap) (r:PV):Option PV :=
  match viewD h' 30 r with
  | some p=>bif p.clB then some p else none
  | none=>none
def pcallX (call:CX) (hq:Heap) (f:Nat) (args:List PV):Option PV :=
  bif PV.clsB args then (match call f args Heap.nil with
    | some (r,h')=>viewFin h' r
    | none=>none)
  else match optL (viewD hq 30) args with
    | some q=>bif PV.clsB q then (match call f q Heap.nil with
      | some (r,h')=>(match viewFin h' r with
        | some p=>bif p.scB then some p else none
        | none=>none)
      | none=>none) else none
    | none=>none
def quietX (call:CX) (hq:Heap) (op:VOp):Option PV :=
  match op with
  | .call f l=>pcallX call hq f (l.map (VA.ev []))
  | .callv f l=>(match f.ev [] with
    | .fn (.func f) a b=>pcallX call hq f (a ++ l.map (VA.ev []) ++ b)
    | _=>none)
  | .bslice z n zr ps=>bif elemsOkB [] z n ps then some (.sl z (Zbg [] (List.replicate n zr) ps)) else none
  | op=>bif op.pure && pokB hq op then some (pval [] hq op) else none
def drawX (call:CX) (hq:Heap):List VOper → Tr → Heap → Option (Tr × Heap)
  | [],t,h=>some (t,h)
  | o :: r,t,h=>match o.op.simple,o.guard with
    | true,none=>bif effB hq (o.op.res t) then (match stepX h (o.op.res t) with
      | some (v,h')=>bif Nat.ble h'.top hq.top then drawX call hq r (putO t o.dst v) h' else none
      | none=>none) else none
    | true,some _=>none
    | false,g=>match guardX t g with
      | some true=>(match quietX call hq (o.op.res t) with
        | some v=>drawX call hq r (putO t o.dst v) h
        | none=>none)
      | some false=>drawX call hq r (putO t o.dst .undef) h
      | none=>none
def midB (mid:Heap) (op:VOp):Bool :=
  match op with
  | .app _ _ _ _ a _=>(match a.ev [] with | .own id _ _=>(mid.get id).isNone | _=>true)
  | _=>true
def draw2X (call:CX) (big mid small:Heap) (late:List Bool):Nat → List VOper → Tr → Heap → Option (Tr × Heap)
  | _,[],t,h=>some (t,h)
  | k,o :: r,t,h=>match o.op.simple,o.guard with
    | true,none=>bif effB small (o.op.res t) && midB mid (o.op.res t) then (match stepX h (o.op.res t) with
      | some (v,h')=>bif Nat.ble h'.top small.top then draw2X call big mid small late (k + 1) r (putO t o.dst v) h' else none
      | none=>none) else none
    | true,some _=>none
    | false,g=>match guardX t g with
      | some true=>(match quietX call (bif late.getD k false then big else bif o.op.isIaddr then mid else small) (o.op.res t) with
        | some v=>draw2X call big mid small late (k + 1) r (putO t o.dst v) h
        | none=>none)
      | some false=>draw2X call big mid small late (k + 1) r (putO t o.dst .undef) h
      | none=>none
theorem shp_set {mid h:Heap} (hm:Shp mid h) {id:Nat} {ab ab0:AB} (hg:h.get id = some ab0) (ha:∀ fz z es,ab0 = .arr fz z es → ∃ fz' es',ab = .arr fz' z es'):Shp mid (h.set id ab):=by
  intro i fz z es e
  obtain ⟨fz',es',e'⟩:=hm i fz z es e
  rw [Heap.get_set]
  by_cases hi:id = i
  · subst hi
    rw [if_pos rfl,hg]
    rw [hg] at e'
    simp only [Option.some.injEq] at e'
    obtain ⟨f2,e2,rfl⟩:=ha _ _ _ e'
    exact ⟨f2,e2,by simp⟩
  · rw [if_neg hi]; exact ⟨fz',es',e'⟩
end Go.VM
namespace Go.VM
open Go
structure FnD where
  n : Nat
  rs : List RS
  vc : VC
abbrev EX:=VC → Tr → Heap → Option (Exit × Tr × Heap)
def tgt:VOp → Option Nat
  | .store _ a _=>(match a.ev [] with | .loc id _ _=>some id | _=>none)
  | .mapset _ m _ _=>(match m.ev [] with | .mp id=>some id | _=>none)
  | .app _ _ _ _ a _=>(match a.ev [] with | .own id _ _=>some id | _=>none)
  | _=>none
def touchX (call:CX):List VOper → Tr → Heap → List Nat
  | [],_,_=>[]
  | o :: r,t,h=>match guardX t o.guard with
    | some true=>(match opX call h (o.op.res t) with
      | some (v,h')=>(match tgt (o.op.res t) with
        | some id=>id :: touchX call r (putO t o.dst v) h'
        | none=>touchX call r (putO t o.dst v) h')
      | none=>[])
    | some false=>touchX call r (putO t o.dst .undef) h
    | none=>[]
def quietHeap (q:List VOper) (h:Heap):Heap:=⟨h.l,h.top + q.length⟩
def goneX (call:CX):List VOper → Tr → Heap → List Nat
  | [],_,_=>[]
  | o :: r,t,h=>match guardX t o.guard with
    | some true=>(match opX call h (o.op.res t) with
      | some (v,h')=>(match o.op.res t with
        | .app _ _ _ _ (.c (.own id _ _)) _=>id :: goneX call r (putO t o.dst v) h'
        | _=>goneX call r (putO t o.dst v) h')
      | none=>[])
    | some false=>goneX call r (putO t o.dst .undef) h
    | none=>[]
def midHeap (call:CX) (q:List VOper) (t:Tr) (h:Heap):Heap :=
  bif q.any (fun o=>match o.op with | .app ..=>true | _=>false) then (match goneX call q t h with
    | ids=>⟨HL.only (fun k=>!ids.any (Nat.beq k)) h.l,h.top⟩) else h
def smallHeap (call:CX) (q:List VOper) (t:Tr) (h:Heap):Heap :=
  match touchX call q t h with
  | ids=>⟨HL.only (fun k=>!ids.any (Nat.beq k)) h.l,h.top + q.length⟩
def stepVC (ex:EX) (call:CX):EX
  | .skip,t,h=>some (.normal,t,h)
  | .region q false,t,h=>(match opsX call q t h with
    | some (t',h')=>some (.normal,t',h')
    | none=>none)
  | .region q true,t,h=>(match drawX call (quietHeap q h) q t h with
    | some (t',h')=>some (.normal,t',h')
    | none=>none)
  | .draw2 q late,t,h=>(match draw2X call (quietHeap q h) (midHeap call q t h) (smallHeap call q t h) late 0 q t h with
    | some (t',h')=>some (.normal,t',h')
    | none=>none)
  | .seq a b,t,h=>(match ex a t h with
    | some (.normal,t',h')=>ex b t' h'
    | r=>r)
  | .cond c a b,t,h=>(match (c.res t).ev [] with
    | .bool true=>ex a t h
    | .bool false=>ex b t h
    | _=>none)
  | .block id b,t,h=>(match ex b t h with
    | some (.exit j,t',h')=>some (bif Nat.beq j id then .normal else .exit j,t',h')
    | r=>r)
  | .loop b,t,h=>(match ex b t h with
    | some (.normal,t',h')=>ex (.loop b) t' h'
    | r=>r)
  | .scope b,t,h=>(match ex b t h with
    | some (.goto _,_,_)=>none
    | r=>r)
  | .exit id,t,h=>some (.exit id,t,h)
  | .ret,t,h=>some (.ret,t,h)
  | .other _,_,_=>none
def argTr:Nat → List PV → Tr → Tr
  | _,[],t=>t
  | k,a :: r,t=>argTr (k + 1) r (Tr.put 10 t k a)
def rsV (t:Tr) (h:Heap):RS → PV
  | .t n=>t.get n
  | .c n g s=>aggV g ((Zag h (t.get n)).take s)
def rsB (t:Tr) (h:Heap):RS → Bool
  | .t _=>true
  | .c n g s=>locOkB h (t.get n) && Nat.ble s (Zag h (t.get n)).length && (g || Nat.beq s 1)
def rssV (t:Tr) (h:Heap):List RS → PV
  | [x]=>rsV t h x
  | l=>.tup (l.map (rsV t h))
def letGo (h:Heap) (args:List PV) (v:PV) (h':Heap):Heap :=
  bif PV.clsB args && v.clB then ⟨HL.only (fun k=>Nat.blt k h.top) h'.l,h'.top⟩ else h'
def callX (ex:EX) (T:Nat → Option FnD):CX:=fun f args h =>
  match T f with
  | some d=>bif Nat.ble args.length d.n && Nat.ble d.n 1000 then (match ex d.vc (argTr 0 args .lf) h with
    | some (.normal,t',h')=>bif d.rs.all (rsB t' h') then some (rssV t' h' d.rs,letGo h args (rssV t' h' d.rs) h') else none
    | some (.ret,t',h')=>bif d.rs.all (rsB t' h') then some (rssV t' h' d.rs,letGo h args (rssV t' h' d.rs) h') else none
    | _=>none) else none
  | none=>none
def exec (T:Nat → Option FnD):Nat → EX
  | 0=>fun _ _ _=>none
  | n + 1=>stepVC (exec T n) (callX (exec T n) T)
def HCallOk (call:CX):Prop:=∀ f args h v h',call f args h = some (v,h') → HOk h → HOk h' ∧ h.top ≤ h'.top
theorem CallOk.heap {P:Program} {call:CX} (h:CallOk P call):HCallOk call:=fun f args hh v h' H ok=>(h f args hh v h' H ok).2
def tab:List (Nat × FnD) → Nat → Option FnD
  | [],_=>none
  | (k,d) :: r,f=>bif Nat.beq f k then some d else tab r f
end Go.VM
namespace Go.VM
open Go
def DrawH (P:Program) (h0:Heap) (late:List Bool):Nat → List VOper → (Env → Heap → Prop) → Env → Heap → Prop
  | _,[],K,e,h=>K e h
  | k,o :: r,K,e,h=>match o.op with
    | .store s a v=>o.guard = none ∧ Zaf P e h (.store s a v) (fun v h'=>DrawH P h0 late (k + 1) r K (e.put o.dst v) h')
    | .mapset kk m a v=>o.guard = none ∧ Zaf P e h (.mapset kk m a v) (fun v h'=>DrawH P h0 late (k + 1) r K (e.put o.dst v) h')
    | op=>match op.simple,o.guard with
      | true,_=>False
      | false,none=>QW P (if late.getD k false then h0 else if op.isIaddr then h0 else ⟨[],h0.top⟩) e op true (fun v=>DrawH P h0 late (k + 1) r K (e.put o.dst v) h)
      | false,some (d,want)=>(match (generalizing:=false) guardOf want (e.get d) with
        | some c=>QW P (if late.getD k false then h0 else if op.isIaddr then h0 else ⟨[],h0.top⟩) e op c (fun v=>DrawH P h0 late (k + 1) r K (e.put o.dst v) h)
        | none=>False)
theorem QW.mono {P:Program} {hq:Heap} {e:Env} {op:VOp} {c:Bool} {K1 K2:PV → Prop} (hk:∀ v,K1 v → K2 v) (H:QW P hq e op c K1):QW P hq e op c K2:=by
  unfold QW at H ⊢
  split at H
  · exact ⟨H.1,hk _ H.2⟩
  · obtain ⟨v,v1,v2⟩:=H
    exact ⟨v,v1,hk _ v2⟩
theorem shp_storeV {mid h:Heap} (hm:Shp mid h) (a v:PV):Shp mid (Zbj h a v):=by
  unfold Zbj
  split
  · split
    · rename_i id i off _ fz z es hg
      exact shp_set hm hg (fun fz' z' es' hh=>by simp only [AB.arr.injEq] at hh; obtain ⟨_,rfl,_⟩:=hh; exact ⟨_,_,rfl⟩)
    · exact hm
  · exact hm
theorem shp_mapsetV {mid h:Heap} {m:PV} (hm:Shp mid h) (hh:mapHas h m) (a v:PV):Shp mid (mapsetV h m a v):=by
  unfold mapsetV
  split
  · rename_i id
    simp only [mapHas] at hh
    split at hh
    · rename_i es hg
      exact shp_set hm hg (fun fz z es' hh=>by cases hh)
    · exact hh.elim
  · exact hm
theorem DrawH.quiet {P : Program} {h0 : Heap} {late : List Bool} {k : Nat} {r : List VOper} {K : Env → Heap → Prop} {e : Env} {h : Heap} {dst : Option Nat} {op : VOp} {gd' : Option (Nat × Bool)} {hqf : Nat → Heap} {Z : Nat → Heap → Heap → Prop}
    (hqk:hqf k = if late.getD k false then h0 else if op.isIaddr then h0 else ⟨[],h0.top⟩) (ih:∀ e,DrawH P h0 late (k + 1) r K e h → DrawG P hqf Z (k + 1) r K e h)
    (hs:op.simple = false) (H:match (generalizing:=false) op.simple,gd' with
      | true,_=>False
      | false,none=>QW P (if late.getD k false then h0 else if op.isIaddr then h0 else ⟨[],h0.top⟩) e op true (fun v=>DrawH P h0 late (k + 1) r K (e.put dst v) h)
      | false,some (d,want)=>(match (generalizing:=false) guardOf want (e.get d) with
        | some c=>QW P (if late.getD k false then h0 else if op.isIaddr then h0 else ⟨[],h0.top⟩) e op c (fun v=>DrawH P h0 late (k + 1) r K (e.put dst v) h)
        | none=>False)):DrawG P hqf Z k (⟨dst,op,gd'⟩ :: r) K e h:=by
  rw [hs] at H
  simp only [DrawG,hs,hqk]
  cases gd' with
  | none=>exact H.mono fun v hv=>ih _ hv
  | some dw =>
    obtain ⟨d,want⟩:=dw
    simp only at H ⊢
    cases hg:guardOf want (e.get d) with
    | none=>rw [hg] at H; exact H.elim
    | some c=>rw [hg] at H; exact QW.mono (fun v hv=>ih _ hv) H
theorem DrawH.toG {P : Program} {q0 : List VOper} {h0 : Heap} {late : List Bool} {K : Env → Heap → Prop} : ∀ {q : List VOper} {k : Nat} {e : Env} {h : Heap}, (∀ j, q[j]? = q0[k + j]?) → h.top ≤ h0.top → DrawH P h0 late k q K e h →
    DrawG P (hq3 q0 late h0 h0 ⟨[],h0.top⟩) (zed3 q0 h0 h0 ⟨[],h0.top⟩) k q K e h
  | [],_,_,_,_,_,H=>H
  | ⟨dst,op,gd'⟩ :: r,k,e,h,hq,ht,H=>by
    have h0':q0[k]? = some ⟨dst,op,gd'⟩:=by simpa using (hq 0).symm
    have hq1:∀ j,r[j]? = q0[(k + 1) + j]?:=fun j=>by have:=hq (j + 1); simpa [Nat.add_assoc,Nat.add_comm 1 j] using this
    have hwk:Zcg q0 k = op.writes:=by simp [Zcg,h0']
    have hqk:hq3 q0 late h0 h0 ⟨[],h0.top⟩ k = if late.getD k false then h0 else if op.isIaddr then h0 else ⟨[],h0.top⟩:=by simp only [hq3,h0']
    cases op
    case store s a v =>
      obtain ⟨hg,hok,hk⟩:=H
      have hg':gd' = none:=hg
      subst hg'
      have htop:(Zbj h (a.ev e) (v.ev e)).top ≤ h0.top:=by rw [storeV_top]; exact ht
      exact ⟨hok,⟨⟨htop,trivial⟩,(fun hw=>by rw [hwk] at hw; cases hw),fun hm=>shp_storeV hm _ _⟩,DrawH.toG hq1 htop hk⟩
    case mapset kk m a v =>
      obtain ⟨hg,hok,hok2,hk⟩:=H
      have hg':gd' = none:=hg
      subst hg'
      have htop:(mapsetV h (m.ev e) (a.ev e) (v.ev e)).top ≤ h0.top:=by rw [mapsetV_top]; exact ht
      exact ⟨hok,hok2,⟨⟨htop,trivial⟩,(fun hw=>by rw [hwk] at hw; cases hw),fun hm=>shp_mapsetV hm hok _ _⟩,DrawH.toG hq1 htop hk⟩
    case mv a=>unfold DrawH at H; exact DrawH.quiet hqk (fun e H=>DrawH.toG hq1 ht H) rfl H
    all_goals
      unfold DrawH at H
      first
      | exact DrawH.quiet hqk (fun e H=>DrawH.toG hq1 ht H) rfl H
      | (exfalso; clear hqk hwk h0' hq; revert H; cases gd' <;> exact id)
end Go.VM
namespace Go.VM
open Go
section
variable {P : Program} {f : FuncId} {args : List PV} {h : Heap} {K : PV → Heap → Prop}
theorem frz_evo {g:Gh} {w:World} {h:Heap}:Evo g w h (frz g w h) w ⟨[],h.top⟩ :=
  ⟨frz_le g w h,rfl,rfl,rfl,Nat.le_refl _,fun _ _ _=>rfl,
   fun b o v e => by rcases frzM_inv e with h1 | ⟨h1, _⟩
                     · exact .inl h1
                     · exact .inr (.inr h1),
   fun b e he => by rcases frzMM_inv he with h1 | ⟨h1, _⟩
                    · exact .inl h1
                    · exact .inr (.inr h1),
   fun b ⟨id,ab,x,h1,_⟩=>by simp [Heap.get,HL.get] at h1⟩
theorem ACall_f (q:List PV) (hv:Views h args q) (H:Zbb P f q ⟨[],h.top⟩ K):Zbb P f args h K:=by
  refine ⟨H.1,fun g w vals r ha=>(H.2 (frz g w h) w vals (frz_rel r) (hv.args r ha)).mono ?_⟩
  rintro x w' ⟨v,p,g',h',h1,h2,h3,h4,h5⟩
  exact ⟨v,p,g',h',h1,h2,h3,h4,frz_evo.trans h5⟩
theorem Zbb.weakenL {h0:Heap} (hl:h0.le h) (H:Zbb P f args h0 K):Zbb P f args h K :=
  ⟨H.1,fun g w vals r ha=>(H.2 g w vals (r.weaken hl) ha).mono fun x w' ⟨v,p,g',h',h1,h2,h3,h4,h5⟩=>⟨v,p,g',h',h1,h2,h3,h4,h5.weakenL hl⟩⟩
end
end Go.VM
namespace Go.VM
open Go
theorem HL.get_append (l m:List (Nat × AB)) (t:Nat):HL.get (l ++ m) t = match HL.get l t with | some x=>some x | none=>HL.get m t:=by
  induction l with
  | nil=>rfl
  | cons x r ih =>
    obtain ⟨k,v⟩:=x
    simp only [List.cons_append,HL.get]
    split
    · rfl
    · exact ih
theorem HL.get_app_l {l m:List (Nat × AB)} {t:Nat} {x:AB} (h:HL.get l t = some x):HL.get (l ++ m) t = some x:=by rw [HL.get_append,h]
theorem HL.get_app_r {l m:List (Nat × AB)} {t:Nat} (h:HL.get l t = none):HL.get (l ++ m) t = HL.get m t:=by rw [HL.get_append,h]
structure Beside (l1 l2 : List (Nat × AB)) : Prop where
  apart : ∀ id ab, HL.get l2 id = some ab → HL.get l1 id = none
  cells : ∀ id fz z, HL.get l2 id ≠ some (.arr fz z [])
theorem frame_rel {g g' : Gh} {w w' : World} {l1 l2 : List (Nat × AB)} {t : Nat} {h' : Heap} (hb : Beside l1 l2) (r : Rel g w ⟨l1 ++ l2, t⟩) (r' : Rel g' w' h') (ev : Evo g w ⟨l1, t⟩ g' w' h')
    (ht:t ≤ h'.top) (hn:∀ id,(HL.get l2 id).isSome = true → h'.get id = none) (hl:∀ id ab,h'.get id = some ab → ab.live = true) :
    Rel g' w' ⟨h'.l ++ l2,h'.top⟩ ∧ Evo g w ⟨l1 ++ l2,t⟩ g' w' ⟨h'.l ++ l2,h'.top⟩:=by
  have hsub:∀ b,Owned g ⟨l1,t⟩ b → Owned g ⟨l1 ++ l2,t⟩ b:=fun b ⟨id,ab,x,e,k⟩=>⟨id,ab,x,HL.get_app_l e,k⟩
  have old:∀ id ab,HL.get l2 id = some ab → ∃ b o n z,g.β id = some (b,o,n,z) ∧ b < w.heap.size ∧ (ab.live = true → g.free b) ∧ ab.ok g w b o n z ∧ ¬ Owned g ⟨l1,t⟩ b:=by
    intro id ab e
    have e1:(⟨l1 ++ l2,t⟩:Heap).get id = some ab:=by
      show HL.get (l1 ++ l2) id = some ab
      rw [HL.get_app_r (hb.apart id ab e)]; exact e
    rcases r.blk id ab e1 with ⟨_,fz,z,h2⟩ | ⟨b,o,n,z,k1,k2,k3,k4⟩
    · subst h2; exact absurd e (hb.cells id fz z)
    · refine ⟨b,o,n,z,k1,k2,k3,k4,?_⟩
      rintro ⟨id2,ab2,x2,f1,f2,f3,f4⟩
      have hne:id2 ≠ id:=by
        intro h; subst h
        have:=hb.apart _ _ e
        simp only [Heap.get] at f1
        rw [this] at f1; cases f1
      exact r.apart id2 id x2 _ ab2 ab hne (HL.get_app_l f1) e1 (by simp [f2]) f3 k1 f4
  have get2:∀ id ab,(⟨h'.l ++ l2,h'.top⟩:Heap).get id = some ab → h'.get id = some ab ∨ (h'.get id = none ∧ HL.get l2 id = some ab):=by
    intro id ab e
    have e':HL.get (h'.l ++ l2) id = some ab:=e
    rw [HL.get_append] at e'
    cases hh:HL.get h'.l id with
    | some x=>rw [hh] at e'; left; simp only [Heap.get,hh]; exact e'
    | none=>rw [hh] at e'; right; exact ⟨hh,e'⟩
  refine ⟨⟨r'.mem,r'.mmem,fun id hid=>⟨(r'.fin id hid).1,?_⟩,fun id ab e=>?_,fun id id2 x x2 ab ab2 hne e e2 hlv hx hx2=>?_⟩,⟨ev.le,ev.os,ev.tape,ev.output,ev.size,fun b hb' hno=>ev.block b hb' (fun ho=>hno (hsub b ho)),fun b o v e=>(ev.mem b o v e).imp id (Or.imp id (hsub b)),fun b e he=>(ev.mmem b e he).imp id (Or.imp id (hsub b)),fun b ho=>?_⟩⟩
  · show HL.get (h'.l ++ l2) id = none
    have e1:HL.get h'.l id = none:=(r'.fin id hid).2
    rw [HL.get_app_r e1]
    cases e2:HL.get l2 id with
    | none=>rfl
    | some ab =>
      have e3:HL.get (l1 ++ l2) id = none:=(r.fin id (Nat.le_trans ht hid)).2
      rw [HL.get_app_r (hb.apart id ab e2),e2] at e3; cases e3
  · rcases get2 id ab e with e1 | ⟨_,e1⟩
    · exact r'.blk id ab e1
    · obtain ⟨b,o,n,z,k1,k2,k3,k4,k5⟩:=old id ab e1
      right
      refine ⟨b,o,n,z,ev.le.2.1 _ _ k1,Nat.lt_of_lt_of_le k2 ev.size,fun hlv=>⟨fun x=>?_,?_⟩,AB.ok_move k4 ev.le (ev.block b k2 k5)⟩
      · cases hm:g'.m b x with
        | none=>rfl
        | some v =>
          rcases ev.mem b x v hm with h1 | h1 | h1
          · rw [(k3 hlv).1 x] at h1; cases h1
          · omega
          · exact absurd h1 k5
      · cases hm:g'.m.mm b with
        | none=>rfl
        | some v =>
          rcases ev.mmem b v hm with h1 | h1 | h1
          · rw [(k3 hlv).2] at h1; cases h1
          · omega
          · exact absurd h1 k5
  · rcases get2 id ab e with e1 | ⟨n1,e1⟩ <;> rcases get2 id2 ab2 e2 with f1 | ⟨m1,f1⟩
    · exact r'.apart id id2 x x2 ab ab2 hne e1 f1 hlv hx hx2
    · obtain ⟨b,o,n,z,k1,k2,k3,k4,k5⟩:=old id2 ab2 f1
      have:=ev.le.2.1 _ _ k1
      rw [hx2] at this; cases this
      intro he
      rcases ev.own x.1 ⟨id,ab,x,e1,hl id ab e1,hx,rfl⟩ with h1 | h1
      · rw [he] at h1; exact k5 h1
      · rw [he] at h1; simp only at h1; omega
    · obtain ⟨b,o,n,z,k1,k2,k3,k4,k5⟩:=old id ab e1
      have:=ev.le.2.1 _ _ k1
      rw [hx] at this; cases this
      intro he
      rcases ev.own x2.1 ⟨id2,ab2,x2,f1,hl id2 ab2 f1,hx2,rfl⟩ with h1 | h1
      · rw [← he] at h1; exact k5 h1
      · rw [← he] at h1; simp only at h1; omega
    · obtain ⟨b,o,n,z,k1,k2,k3,k4,k5⟩:=old id ab e1
      obtain ⟨b2,o2,n2,z2,j1,j2,j3,j4,j5⟩:=old id2 ab2 f1
      have h1:=ev.le.2.1 _ _ k1
      rw [hx] at h1; cases h1
      have h2:=ev.le.2.1 _ _ j1
      rw [hx2] at h2; cases h2
      have e3:(⟨l1 ++ l2,t⟩:Heap).get id = some ab:=by show HL.get (l1 ++ l2) id = some ab; rw [HL.get_app_r (hb.apart id ab e1)]; exact e1
      have e4:(⟨l1 ++ l2,t⟩:Heap).get id2 = some ab2:=by show HL.get (l1 ++ l2) id2 = some ab2; rw [HL.get_app_r (hb.apart id2 ab2 f1)]; exact f1
      exact r.apart id id2 _ _ ab ab2 hne e3 e4 hlv k1 j1
  · obtain ⟨id,ab,x,e,hlv,hx,rfl⟩:=ho
    rcases get2 id ab e with e1 | ⟨n1,e1⟩
    · exact (ev.own x.1 ⟨id,ab,x,e1,hlv,hx,rfl⟩).imp (hsub _) (fun h=>h)
    · obtain ⟨b,o,n,z,k1,k2,k3,k4,k5⟩:=old id ab e1
      have h1:=ev.le.2.1 _ _ k1
      rw [hx] at h1; cases h1
      left
      refine ⟨id,ab,_,?_,hlv,k1,rfl⟩
      show HL.get (l1 ++ l2) id = some ab
      rw [HL.get_app_r (hb.apart id ab e1)]; exact e1
theorem Zbb.frame {P : Program} {f : FuncId} {args : List PV} {K : PV → Heap → Prop} {l1 l2 : List (Nat × AB)} {t : Nat} (hb : Beside l1 l2)
    (H:Zbb P f args ⟨l1,t⟩ (fun p h'=>t ≤ h'.top ∧ (∀ id,(HL.get l2 id).isSome = true → h'.get id = none) ∧ (∀ id ab,h'.get id = some ab → ab.live = true) ∧ K p ⟨h'.l ++ l2,h'.top⟩)):Zbb P f args ⟨l1 ++ l2,t⟩ K:=by
  refine ⟨H.1,fun g w vals r ha=>?_⟩
  have r1 : Rel g w ⟨l1, t⟩ := ⟨r.mem, r.mmem, fun id hid => ⟨(r.fin id hid).1, by
      have:=(r.fin id hid).2
      cases e:HL.get l1 id with
      | none=>exact e
      | some ab=>simp only [Heap.get,HL.get_app_l e] at this; cases this⟩,
    fun id ab e=>r.blk id ab (HL.get_app_l e),fun id id' x x' ab ab' hne e e'=>r.apart id id' x x' ab ab' hne (HL.get_app_l e) (HL.get_app_l e')⟩
  refine (H.2 g w vals r1 ha).mono ?_
  rintro x w' ⟨v,p,g',h',h1,⟨k1,k2,k3,k4⟩,h3,h4,h5⟩
  obtain ⟨R,E⟩:=frame_rel hb r h4 h5 k1 k2 k3
  exact ⟨v,p,g',_,h1,k4,h3,R,E⟩
theorem HL.get_mem:∀ {l:List (Nat × AB)} {id:Nat} {ab:AB},HL.get l id = some ab → (id,ab) ∈ l
  | [],_,_,h=>by simp [HL.get] at h
  | (k,v) :: r,id,ab,h=>by
    by_cases e:k = id
    · subst e; simp only [HL.get,if_true,Option.some.injEq] at h; subst h; exact List.mem_cons_self
    · simp only [HL.get,if_neg e] at h; exact List.mem_cons_of_mem _ (HL.get_mem h)
theorem HL.get_no:∀ {l:List (Nat × AB)} {id:Nat},(∀ q ∈ l,id ≠ q.1) → HL.get l id = none:=by
  intro l id h
  cases e:HL.get l id with
  | none=>rfl
  | some ab=>exact absurd rfl (h _ (HL.get_mem e))
theorem Zbb.frameL {P : Program} {f : FuncId} {args : List PV} {K : PV → Heap → Prop} {l1 l2 : List (Nat × AB)} {t : Nat} (h1 : ∀ p ∈ l2, ∀ q ∈ l1, p.1 ≠ q.1) (hc : ∀ p ∈ l2, ∀ fz z, p.2 ≠ .arr fz z [])
    (H:Zbb P f args ⟨l1,t⟩ (fun p h'=>t ≤ h'.top ∧ (∀ p ∈ l2,∀ q ∈ h'.l,p.1 ≠ q.1) ∧ (∀ q ∈ h'.l,q.2.live = true) ∧ K p ⟨h'.l ++ l2,h'.top⟩)):Zbb P f args ⟨l1 ++ l2,t⟩ K:=by
  refine Zbb.frame ⟨fun id ab e=>HL.get_no (h1 _ (HL.get_mem e)),fun id fz z e=>hc _ (HL.get_mem e) fz z rfl⟩ (H.mono ?_)
  rintro p h' ⟨k1,k2,k3,k4⟩
  refine ⟨k1,fun id hid=>?_,fun id ab e=>k3 _ (HL.get_mem e),k4⟩
  cases e:HL.get l2 id with
  | none=>rw [e] at hid; cases hid
  | some ab=>exact HL.get_no (k2 _ (HL.get_mem e))
end Go.VM
namespace Go.VM
open Go
theorem Gz.closed (a:Gz):∀ x ∈ a.enc,Closed x:=by
  intro x hx; simp only [Gz.enc,List.mem_cons,List.not_mem_nil,or_false] at hx
  rcases hx with rfl | rfl | rfl | rfl
  all_goals first | exact cI _ | exact cS _ | exact closed_acs _
theorem closed_gzs (l:List Gz):Closed (.sl 4 (l.map Gz.enc)):=Zau (fun w _=>w.closed)
end Go.VM
