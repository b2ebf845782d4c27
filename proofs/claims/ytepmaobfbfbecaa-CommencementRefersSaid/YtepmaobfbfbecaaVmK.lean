/-
  The document's own types (package api) as Lean data, and their cells as abstract values. No program in sight.
-/
import Derived.Test.YtepmaobfbfbecaaVmL
set_option linter.all false
namespace Go.VM
open Go

abbrev Str := List UInt8
def i64 (n : Int) : Prop := (Lit.int .i64 n).wf = true
def okS (s : Str) : Prop := s.length ≤ maxLen
def okL {α : Type} (ok : α → Prop) (l : List α) : Prop := l.length ≤ maxLen ∧ ∀ a ∈ l, ok a
abbrev pI (n : Int) : PV := .int .i64 n

/-- A word: its text, and the item's step that it came by. -/
structure Wd where
  text : Str
  act : Int
  item : Int
  at' : Int
  deriving DecidableEq, Inhabited
def Wd.enc (w : Wd) : List PV := [.str w.text, pI w.act, pI w.item, pI w.at']
def Wd.ok (w : Wd) : Prop := okS w.text ∧ i64 w.act ∧ i64 w.item ∧ i64 w.at'
/-- A unit. -/
inductive Un where
  | mk (act item n kind : Int) (label : Str) (head words : List Wd) (kids : List Un)
  deriving Inhabited
namespace Un
def act : Un → Int | .mk a _ _ _ _ _ _ _ => a
def item : Un → Int | .mk _ a _ _ _ _ _ _ => a
def n : Un → Int | .mk _ _ a _ _ _ _ _ => a
def kind : Un → Int | .mk _ _ _ a _ _ _ _ => a
def label : Un → Str | .mk _ _ _ _ a _ _ _ => a
def head : Un → List Wd | .mk _ _ _ _ _ a _ _ => a
def words : Un → List Wd | .mk _ _ _ _ _ _ a _ => a
def kids : Un → List Un | .mk _ _ _ _ _ _ _ a => a
mutual
def enc : Un → List PV
  | .mk a i n k l h w ks => [pI a, pI i, pI n, pI k, .str l, .sl 4 (h.map Wd.enc), .sl 4 (w.map Wd.enc), .sl 8 (encs ks)]
def encs : List Un → List (List PV)
  | [] => []
  | u :: r => enc u :: encs r
end
theorem encs_map : ∀ l : List Un, encs l = l.map enc
  | [] => rfl
  | u :: r => by simp only [encs, List.map_cons, encs_map r]
theorem enc_eq (u : Un) : u.enc = [pI u.act, pI u.item, pI u.n, pI u.kind, .str u.label, .sl 4 (u.head.map Wd.enc), .sl 4 (u.words.map Wd.enc), .sl 8 (u.kids.map Un.enc)] := by
  cases u; simp only [enc, encs_map]; rfl
inductive ok : Un → Prop
  | mk (u : Un) (h1 : i64 u.act) (h2 : i64 u.item) (h3 : i64 u.n) (h4 : i64 u.kind) (h5 : okS u.label) (h6 : okL Wd.ok u.head) (h7 : okL Wd.ok u.words) (h8 : u.kids.length ≤ maxLen) (h9 : ∀ k ∈ u.kids, ok k) : ok u
end Un
structure St where
  kind : Int
  label : Str
  deriving DecidableEq, Inhabited
def St.enc (s : St) : List PV := [pI s.kind, .str s.label]
def St.ok (s : St) : Prop := i64 s.kind ∧ okS s.label
structure Sta where
  kind : Int
  day : Int
  event : Str
  deriving DecidableEq, Inhabited
def Sta.enc (s : Sta) : List PV := [pI s.kind, pI s.day, .str s.event]
def Sta.ok (s : Sta) : Prop := i64 s.kind ∧ i64 s.day ∧ okS s.event
/-- An item. -/
inductive It where
  | mk (kind : Int) (at' to : List St) (wher nth : Int) (unit : Un) (old new : List Str) (label forr : Str) (start : Sta) (act item day : Int) (event : Str) (by' : List It)
  deriving Inhabited
namespace It
def kind : It → Int | .mk a _ _ _ _ _ _ _ _ _ _ _ _ _ _ _ => a
def at' : It → List St | .mk _ a _ _ _ _ _ _ _ _ _ _ _ _ _ _ => a
def to : It → List St | .mk _ _ a _ _ _ _ _ _ _ _ _ _ _ _ _ => a
def wher : It → Int | .mk _ _ _ a _ _ _ _ _ _ _ _ _ _ _ _ => a
def nth : It → Int | .mk _ _ _ _ a _ _ _ _ _ _ _ _ _ _ _ => a
def unit : It → Un | .mk _ _ _ _ _ a _ _ _ _ _ _ _ _ _ _ => a
def old : It → List Str | .mk _ _ _ _ _ _ a _ _ _ _ _ _ _ _ _ => a
def new : It → List Str | .mk _ _ _ _ _ _ _ a _ _ _ _ _ _ _ _ => a
def label : It → Str | .mk _ _ _ _ _ _ _ _ a _ _ _ _ _ _ _ => a
def forr : It → Str | .mk _ _ _ _ _ _ _ _ _ a _ _ _ _ _ _ => a
def start : It → Sta | .mk _ _ _ _ _ _ _ _ _ _ a _ _ _ _ _ => a
def act : It → Int | .mk _ _ _ _ _ _ _ _ _ _ _ a _ _ _ _ => a
def item : It → Int | .mk _ _ _ _ _ _ _ _ _ _ _ _ a _ _ _ => a
def day : It → Int | .mk _ _ _ _ _ _ _ _ _ _ _ _ _ a _ _ => a
def event : It → Str | .mk _ _ _ _ _ _ _ _ _ _ _ _ _ _ a _ => a
def by' : It → List It | .mk _ _ _ _ _ _ _ _ _ _ _ _ _ _ _ a => a
def strs (l : List Str) : PV := .sl 1 (l.map fun s => [.str s])
mutual
def enc : It → List PV
  | .mk k a t w n u o e l f s ac it d ev b => [pI k, .sl 2 (a.map St.enc), .sl 2 (t.map St.enc), pI w, pI n,
      pI u.act, pI u.item, pI u.n, pI u.kind, .str u.label, .sl 4 (u.head.map Wd.enc), .sl 4 (u.words.map Wd.enc), .sl 8 (u.kids.map Un.enc), strs o, strs e, .str l, .str f, pI s.kind, pI s.day, .str s.event, pI ac, pI it, pI d, .str ev, .sl 25 (encs b)]
def encs : List It → List (List PV)
  | [] => []
  | u :: r => enc u :: encs r
end
theorem encs_map : ∀ l : List It, encs l = l.map enc
  | [] => rfl
  | u :: r => by simp only [encs, List.map_cons, encs_map r]
theorem enc_eq (x : It) : x.enc = [pI x.kind, .sl 2 (x.at'.map St.enc), .sl 2 (x.to.map St.enc), pI x.wher, pI x.nth,
      pI x.unit.act, pI x.unit.item, pI x.unit.n, pI x.unit.kind, .str x.unit.label, .sl 4 (x.unit.head.map Wd.enc), .sl 4 (x.unit.words.map Wd.enc), .sl 8 (x.unit.kids.map Un.enc), strs x.old, strs x.new, .str x.label, .str x.forr,
      pI x.start.kind, pI x.start.day, .str x.start.event, pI x.act, pI x.item, pI x.day, .str x.event, .sl 25 (x.by'.map It.enc)] := by
  cases x; simp only [enc, encs_map]; rfl
theorem enc_len (x : It) : x.enc.length = 25 := by rw [enc_eq]; rfl
inductive ok : It → Prop
  | mk (x : It) (h1 : i64 x.kind) (h2 : okL St.ok x.at') (h3 : okL St.ok x.to) (h4 : i64 x.wher) (h5 : i64 x.nth) (h6 : x.unit.ok) (h7 : okL okS x.old) (h8 : okL okS x.new) (h9 : okS x.label) (h10 : okS x.forr) (h11 : x.start.ok)
      (h12 : i64 x.act) (h13 : i64 x.item) (h14 : i64 x.day) (h15 : okS x.event) (h16 : x.by'.length ≤ maxLen) (h17 : ∀ k ∈ x.by', ok k) : ok x
end It
structure EI where
  act : Int
  item : Int
  day : Int
  it : It
  deriving Inhabited
def EI.enc (e : EI) : List PV := pI e.act :: pI e.item :: pI e.day :: e.it.enc
def EI.ok (e : EI) : Prop := i64 e.act ∧ i64 e.item ∧ i64 e.day ∧ e.it.ok
structure Ac where
  number : Int
  title : Str
  day : Int
  start : Sta
  items : List It
  deriving Inhabited
def Ac.enc (a : Ac) : List PV := [pI a.number, .str a.title, pI a.day, pI a.start.kind, pI a.start.day, .str a.start.event, .sl 25 (a.items.map It.enc)]
def Ac.ok (a : Ac) : Prop := i64 a.number ∧ okS a.title ∧ i64 a.day ∧ a.start.ok ∧ okL It.ok a.items
structure Gz where
  number : Int
  day : Int
  prior : Str
  acts : List Ac
  deriving Inhabited
def Gz.enc (g : Gz) : List PV := [pI g.number, pI g.day, .str g.prior, .sl 7 (g.acts.map Ac.enc)]
def Gz.ok (g : Gz) : Prop := i64 g.number ∧ i64 g.day ∧ okS g.prior ∧ okL Ac.ok g.acts

/-- A span of days. -/
structure Sp where
  frm : Int
  to : Int
  deriving DecidableEq, Inhabited
def Sp.enc (s : Sp) : List PV := [pI s.frm, pI s.to]
def Sp.ok (s : Sp) : Prop := i64 s.frm ∧ i64 s.to

/-! ### how they are read: the numbers of the types are the seat's -/
section
variable {P : Program} {W : World}
theorem reads_sl {t e : TypeId} {z : Nat} {α : Type} {ok : α → Prop} {enc : α → List PV} (ht : P.underlying t = some (.slice e)) (hz : P.cellsOf e = z) (h0 : z ≠ 0) (hl : ∀ a, (enc a).length = z) (n : Nat) (h : ∀ m, m < n → Reads P W m e ok enc) :
    Reads P W n t (okL ok) (fun l => [.sl z (l.map enc)]) := by
  cases n with
  | zero => exact reads_zero
  | succ n => exact reads_slice ht hz h0 hl (h n (by omega))
/-- A struct's field. -/
def fd (nm : String) (ty off : Nat) (tag pkg : String) (bo : Nat) (emb : Bool) : Field := { name := nm, type := ty, offset := off, embedded := emb, tag := tag, pkgPath := pkg, byteOffset := bo }
end
end Go.VM

