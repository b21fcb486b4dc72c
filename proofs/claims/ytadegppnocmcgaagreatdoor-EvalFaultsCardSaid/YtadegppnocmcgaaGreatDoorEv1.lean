/- An evaluator for the model's Go code over values without memory: what it tells of single operations is what the model does; no condition. -/
import Derived.Calls
import Derived.Orders
import Derived.LoopN
import Derived.Scope
import Derived.Laws.Sem
import Derived.Laws.Cells
import Derived.Laws.StructEq
import Derived.Laws.Tables
import Derived.WalkSpells
import Derived.Lib.SliceRun
import Derived.RowKit3
import Derived.Laws.World
import Derived.Laws.AppendOwn
set_option linter.unusedSimpArgs false
set_option linter.unusedVariables false
namespace Go.Ev

/-- A place at which a row may be held: a leaf of a slot, a cell of a box of the frame that is k up. -/
inductive Pos where
  | slot (t i j : Nat)
  | box (k s j : Nat)
  deriving DecidableEq

/-- A value without memory. -/
inductive PV where
  | v (x : Value)
  | sl (s : Nat) (xs : List (List PV))

/-- own: nobody else sees the row; tip: its cells stay, it may grow. -/
inductive Mode where
  | own
  | tip
  deriving DecidableEq

inductive Leaf where
  | d (x : PV)
  | row (m : Mode) (s : Nat) (xs : List (List PV))
  | al (m : Mode) (p : Pos) (s : Nat) (xs : List (List PV))
  | nilS
  | emp
  | ptr (k s o : Nat)
  | eptr (p : Pos) (i o : Nat) (cs : List PV)
  | fptr (cs : List PV)
  | fn (f : FuncId) (fi caps : List (Nat × Nat × Nat))
  | it (s : ByteArray) (pos : Nat)
  | undef

structure Comp where
  agg : Bool
  ls : List Leaf

inductive SVal where
  | val (c : Comp)
  | tup (cs : List Comp)

abbrev Frm := List (Nat × List Leaf)

structure St where
  slots : List (Nat × SVal)
  boxes : List Frm

def look {α : Type} : List (Nat × α) → Nat → Option α
  | [], _ => none
  | (k, x) :: r, t => if k = t then some x else look r t
def putK {α : Type} (t : Nat) (x : α) : List (Nat × α) → List (Nat × α)
  | [] => [(t, x)]
  | (k, y) :: r => if k = t then (k, x) :: r else (k, y) :: putK t x r

def undefC : Comp := ⟨false, [.undef]⟩
def undefS : SVal := .val undefC

/-! ### Copies -/
def cpLeaf (p : Pos) : Leaf → Leaf
  | .row m s xs => .al m p s xs
  | .it _ _ => .undef
  | l => l
def cpLs (mk : Nat → Pos) : Nat → List Leaf → List Leaf
  | _, [] => []
  | j, l :: r => cpLeaf (mk j) l :: cpLs mk (j + 1) r
def cpComp (mk : Nat → Pos) (c : Comp) : Comp := ⟨c.agg, cpLs mk 0 c.ls⟩
def cpComps (t : Nat) : Nat → List Comp → List Comp
  | _, [] => []
  | i, c :: r => cpComp (.slot t i) c :: cpComps t (i + 1) r
def cpS (t : Nat) : SVal → SVal
  | .val c => .val (cpComp (.slot t 0) c)
  | .tup cs => .tup (cpComps t 0 cs)

/-- Values that hang on no memory. -/
def scal : Value → Bool
  | .int _ _ | .bool _ | .string _ | .pointer none | .map none | .nilFunc | .nilIface => true
  | _ => false
def ofCell (x : Value) : Leaf :=
  match x with
  | .slice none l c => if l = 0 ∧ c = 0 then .nilS else .undef
  | .func (.func f) fi ca => if fi.size = 0 ∧ ca.size = 0 then .fn f [] [] else .undef
  | x => if scal x then .d (.v x) else .undef
def compOf (x : Value) : Comp :=
  match x with
  | .agg cs => ⟨true, cs.toList.map ofCell⟩
  | x => ⟨false, [ofCell x]⟩

def fetch (st : St) : Operand → SVal
  | .tmp t => match look st.slots t with
    | some s => cpS t s
    | none => undefS
  | .const v => .val (compOf v)
  | .func f => .val ⟨false, [.fn f [] []]⟩
  | .global _ => undefS

def Leaf.toVal : Leaf → Option Value
  | .d (.v x) => if scal x then some x else none
  | _ => none
/-- A leaf as a value; a nil slice's elements have s cells. -/
def Leaf.toPV (s : Nat) : Leaf → Option PV
  | .d x => some x
  | .row _ n xs => some (.sl n xs)
  | .al _ _ n xs => some (.sl n xs)
  | .nilS => some (.sl s [])
  | .emp => some (.sl s [])
  | _ => none
def toPVs : List Leaf → List Nat → Option (List PV)
  | [], _ => some []
  | l :: r, ss => match l.toPV (ss.headD 0), toPVs r ss.tail with
    | some x, some y => some (x :: y)
    | _, _ => none
def toVals : List Leaf → Option (List Value)
  | [] => some []
  | l :: r => match l.toVal, toVals r with
    | some x, some y => some (x :: y)
    | _, _ => none
def valOf : SVal → Option Value
  | .val ⟨false, [l]⟩ => l.toVal
  | .val ⟨true, ls⟩ => (toVals ls).map fun vs => .agg vs.toArray
  | _ => none
def allScal : List Value → Bool
  | [] => true
  | x :: r => scal x && allScal r
def compOfV : Value → Option Comp
  | .agg cs => if allScal cs.toList then some ⟨true, cs.toList.map fun x => .d (.v x)⟩ else none
  | x => if scal x then some ⟨false, [.d (.v x)]⟩ else none

/-! ### Types -/
def sz (P : Program) (t : TypeId) : Nat := match P.info? t with | some i => i.size | none => 0
def isAggT (P : Program) (t : TypeId) : Bool :=
  match P.underlying t with
  | some (.struct _) | some (.array _ _) => true
  | _ => false
def elemT (P : Program) (t : TypeId) : Option TypeId :=
  match P.underlying t with
  | some (.slice e) => some e
  | _ => none
/-- Of each cell of a type: how many cells an element of the slice in it has. -/
def esz (P : Program) : Nat → TypeId → List Nat
  | 0, _ => []
  | n + 1, t => match P.underlying t with
    | some (.slice e) => [sz P e]
    | some (.struct fs) => fs.toList.flatMap fun f => esz P n f.type
    | some (.array k e) => (List.replicate k (esz P n e)).flatten
    | _ => [0]
def zeroOf (P : Program) (t : TypeId) : Option Value := (P.info? t).bind (·.zero)

/-- A leaf that comes to stand in a variable whose slice has elements of s cells. -/
def varLeaf : Leaf → Nat → Leaf
  | .nilS, s => .row .tip s []
  | l, _ => l
def varLeaves : List Leaf → List Nat → List Leaf
  | l :: r, s :: ss => varLeaf l s :: varLeaves r ss
  | ls, [] => ls
  | [], _ => []

/-- Has a leaf no row that would have to be let go elsewhere? -/
def Leaf.plain : Leaf → Bool
  | .d _ | .nilS | .emp | .ptr .. | .fptr _ | .fn .. => true
  | _ => false
def allPlain : List Leaf → Bool
  | [] => true
  | l :: r => l.plain && allPlain r

/-! ### What needs no memory -/
def pureRun (P : Program) {α : Type} : Sem α → Option α
  | .pure a => some a
  | .program k => pureRun P (k P)
  | .mark _ k => pureRun P k
  | _ => none

end Go.Ev

namespace Go.Ev

/-- Whose a block is. -/
inductive Own where
  | free
  | imm
  | row (m : Mode) (p : Pos)
  | box (k s : Nat)
  | other
  deriving DecidableEq

/-- own: whose each block is; fr: up to where a block's cells are seen. -/
structure Gh where
  own : Nat → Own
  fr : Nat → Nat
/-- Where a row that may grow begins. -/
def Gh.lo (_ : Gh) (_ : Nat) : Nat := 0

def Gh.rd (g : Gh) (b : Nat) : Prop := g.own b = .imm ∨ ∃ p, g.own b = .row .tip p

mutual
def RepPV (w : World) (g : Gh) : PV → Value → Prop
  | .v x, v => v = x ∧ scal x = true
  | .sl s xs, v => ∃ A c, v = .slice A xs.length c ∧ xs.length ≤ c ∧ (A = none → c = 0) ∧
      (xs = [] ∨ ∃ b o, A = some ⟨b, o, none⟩ ∧ g.rd b ∧ o + xs.length * s ≤ g.fr b ∧ RepRow w g s b o xs)
def RepRow (w : World) (g : Gh) (s b : Nat) : Nat → List (List PV) → Prop
  | _, [] => True
  | o, e :: r => e.length = s ∧ RepCells w g b o e ∧ RepRow w g s b (o + s) r
def RepCells (w : World) (g : Gh) (b : Nat) : Nat → List PV → Prop
  | _, [] => True
  | o, x :: r => (∃ v, w.cell? ⟨b, o, none⟩ = some v ∧ RepPV w g x v) ∧ RepCells w g b (o + 1) r
end

/-- What is seen stays. -/
structure Keeps (w : World) (g : Gh) (w' : World) (g' : Gh) : Prop where
  rd : ∀ b, g.rd b → g'.rd b
  fr : ∀ b, g.rd b → g.fr b ≤ g'.fr b
  cell : ∀ b o, g.rd b → o < g.fr b → w'.cell? ⟨b, o, none⟩ = w.cell? ⟨b, o, none⟩

theorem Keeps.refl (w : World) (g : Gh) : Keeps w g w g := ⟨fun _ h => h, fun _ _ => Nat.le_refl _, fun _ _ _ _ => rfl⟩
theorem Keeps.trans {w w1 w2 : World} {g g1 g2 : Gh} (h : Keeps w g w1 g1) (k : Keeps w1 g1 w2 g2) : Keeps w g w2 g2 :=
  ⟨fun b hb => k.rd b (h.rd b hb), fun b hb => Nat.le_trans (h.fr b hb) (k.fr b (h.rd b hb)),
    fun b o hb ho => (k.cell b o (h.rd b hb) (Nat.lt_of_lt_of_le ho (h.fr b hb))).trans (h.cell b o hb ho)⟩

section
variable {w w' : World} {g g' : Gh}
mutual
theorem RepPV.keep (K : Keeps w g w' g') : ∀ (x : PV) (v : Value), RepPV w g x v → RepPV w' g' x v
  | .v x, v, h => by simpa [RepPV] using h
  | .sl s xs, v, h => by
    rw [RepPV] at h ⊢
    obtain ⟨A, c, hv, hc, hc0, h⟩ := h
    refine ⟨A, c, hv, hc, hc0, ?_⟩
    rcases h with h | ⟨b, o, hA, hb, hf, hr⟩
    · exact .inl h
    · exact .inr ⟨b, o, hA, K.rd b hb, Nat.le_trans hf (K.fr b hb), RepRow.keep K s b xs o (fun o' _ h' => K.cell b o' hb (Nat.lt_of_lt_of_le h' hf)) hr⟩
theorem RepRow.keep (K : Keeps w g w' g') (s b : Nat) : ∀ (xs : List (List PV)) (o : Nat), (∀ o', o ≤ o' → o' < o + xs.length * s → w'.cell? ⟨b, o', none⟩ = w.cell? ⟨b, o', none⟩) →
    RepRow w g s b o xs → RepRow w' g' s b o xs
  | [], _, _, _ => by rw [RepRow]; trivial
  | e :: r, o, hc, h => by
    rw [RepRow] at h ⊢
    obtain ⟨h1, h2, h3⟩ := h
    have hl : (r.length + 1) * s = r.length * s + s := Nat.succ_mul _ _
    refine ⟨h1, RepCells.keep K b e o (fun o' ho ho' => hc o' ho (by rw [List.length_cons, hl]; omega)) h2, ?_⟩
    exact RepRow.keep K s b r (o + s) (fun o' ho ho' => hc o' (by omega) (by rw [List.length_cons, hl]; omega)) h3
theorem RepCells.keep (K : Keeps w g w' g') (b : Nat) : ∀ (xs : List PV) (o : Nat), (∀ o', o ≤ o' → o' < o + xs.length → w'.cell? ⟨b, o', none⟩ = w.cell? ⟨b, o', none⟩) →
    RepCells w g b o xs → RepCells w' g' b o xs
  | [], _, _, _ => by rw [RepCells]; trivial
  | x :: r, o, hc, h => by
    rw [RepCells] at h ⊢
    obtain ⟨⟨v, hv, hx⟩, h2⟩ := h
    refine ⟨⟨v, ?_, RepPV.keep K x v hx⟩, RepCells.keep K b r (o + 1) (fun o' ho ho' => hc o' (by omega) (by simp only [List.length_cons]; omega)) h2⟩
    rw [hc o (Nat.le_refl _) (by simp)]; exact hv
end
end

/-- A row that may grow. -/
def TokV (w : World) (g : Gh) (m : Mode) (p : Pos) (s : Nat) (xs : List (List PV)) (v : Value) : Prop :=
  (xs = [] ∧ v = .slice none 0 0) ∨
  ∃ b c cs T, v = .slice (some ⟨b, g.lo b, none⟩) xs.length c ∧ g.own b = .row m p ∧ w.heap[b]? = some (.cells cs T (0, 0)) ∧
    xs.length ≤ c ∧ g.lo b + c * s ≤ cs.size ∧ g.lo b + xs.length * s = g.fr b ∧ RepRow w g s b (g.lo b) xs

def RepPtr (g : Gh) (k s o : Nat) (v : Value) : Prop := ∃ b, g.own b = .box k s ∧ v = .pointer (some ⟨b, o, none⟩)

def RepCaps (g : Gh) : List (Nat × Nat × Nat) → List Value → Prop
  | [], [] => True
  | (k, s, o) :: r, v :: vs => RepPtr g k s o v ∧ RepCaps g r vs
  | _, _ => False

def RepLeaf (w : World) (g : Gh) (q : Pos) : Leaf → Value → Prop
  | .d x, v => RepPV w g x v
  | .row m s xs, v => TokV w g m q s xs v
  | .al m p s xs, v => TokV w g m p s xs v
  | .nilS, v => v = .slice none 0 0
  | .emp, v => ∃ ad c, v = .slice (some ad) 0 c
  | .ptr k s o, v => RepPtr g k s o v
  | .eptr p i o cs, v => ∃ b s, g.own b = .row .own p ∧ v = .pointer (some ⟨b, g.lo b + i * s + o, none⟩) ∧ o + cs.length = s ∧ RepCells w g b (g.lo b + i * s + o) cs
  | .fptr cs, v => ∃ b o, v = .pointer (some ⟨b, o, none⟩) ∧ g.rd b ∧ o + cs.length ≤ g.fr b ∧ RepCells w g b o cs
  | .fn f fi caps, v => ∃ us vs : Array Value, v = .func (.func f) us vs ∧ RepCaps g fi us.toList ∧ RepCaps g caps vs.toList
  | .it s pos, v => ∃ r, v = .pointer (some ⟨r, 0, none⟩) ∧ g.own r = .row .own q ∧ w.heap[r]? = some (.stringIter s pos)
  | .undef, _ => True

def RepLs (w : World) (g : Gh) (mk : Nat → Pos) : Nat → List Leaf → List Value → Prop
  | _, [], [] => True
  | j, l :: r, v :: vs => RepLeaf w g (mk j) l v ∧ RepLs w g mk (j + 1) r vs
  | _, _, _ => False

def RepComp (w : World) (g : Gh) (mk : Nat → Pos) (c : Comp) (v : Value) : Prop :=
  match c.agg with
  | true => ∃ vs : Array Value, v = .agg vs ∧ RepLs w g mk 0 c.ls vs.toList
  | false => ∃ l, c.ls = [l] ∧ RepLeaf w g (mk 0) l v

def RepComps (w : World) (g : Gh) (t : Nat) : Nat → List Comp → List Value → Prop
  | _, [], [] => True
  | i, c :: r, v :: vs => RepComp w g (.slot t i) c v ∧ RepComps w g t (i + 1) r vs
  | _, _, _ => False

def RepS (w : World) (g : Gh) (t : Nat) : SVal → Value → Prop
  | .val c, v => RepComp w g (.slot t 0) c v
  | .tup cs, v => ∃ vs : Array Value, v = .tuple vs ∧ RepComps w g t 0 cs vs.toList

structure Inv (w : World) (g : Gh) (a : Act) (st : St) : Prop where
  slots : ∀ t s, look st.slots t = some s → t < a.tmps.size ∧ RepS w g t s (a.tmps.getD t undef)
  boxes : ∀ k f s ls, st.boxes[k]? = some f → look f s = some ls →
    ∃ b vs T, g.own b = .box k s ∧ w.heap[b]? = some (.cells vs T (0, 0)) ∧ RepLs w g (.box k s) 0 ls vs.toList
  injB : ∀ b b' k s, g.own b = .box k s → g.own b' = .box k s → b = b'
  injO : ∀ b b' p, g.own b = .row .own p → g.own b' = .row .own p → b = b'
  top : ∀ b, w.heap.size ≤ b → g.own b = .free
  tagB : ∀ b k s, g.own b = .box k s → ∃ f ls, st.boxes[k]? = some f ∧ look f s = some ls
  defers : a.defers = []

/-! ### Memory that only grows -/
/-- All that was somebody's is as it was. -/
structure Up (w : World) (g : Gh) (w' : World) (g' : Gh) : Prop where
  own : ∀ b, b < w.heap.size → g'.own b = g.own b ∧ g'.fr b = g.fr b ∧ g'.lo b = g.lo b
  heap : ∀ b, b < w.heap.size → g.own b ≠ .free → w'.heap[b]? = w.heap[b]?

theorem cell_of_heap {w w' : World} {b o : Nat} (h : w'.heap[b]? = w.heap[b]?) : w'.cell? ⟨b, o, none⟩ = w.cell? ⟨b, o, none⟩ := by
  simp [World.cell?, h]
theorem lt_of_own {w : World} {g : Gh} (top : ∀ b, w.heap.size ≤ b → g.own b = .free) {b : Nat} (h : g.own b ≠ .free) : b < w.heap.size :=
  Nat.lt_of_not_le fun hb => h (top b hb)
theorem lt_of_rd {w : World} {g : Gh} (top : ∀ b, w.heap.size ≤ b → g.own b = .free) {b : Nat} (h : g.rd b) : b < w.heap.size :=
  lt_of_own top (by rcases h with h | ⟨p, h⟩ <;> rw [h] <;> simp)

theorem rd_ne {g : Gh} {b : Nat} (h : g.rd b) : g.own b ≠ .free := by rcases h with h | ⟨p, h⟩ <;> rw [h] <;> simp

section
variable {w w' : World} {g g' : Gh}
theorem Up.keeps (U : Up w g w' g') (top : ∀ b, w.heap.size ≤ b → g.own b = .free) : Keeps w g w' g' where
  rd b hb := by
    have h := (U.own b (lt_of_rd top hb)).1
    unfold Gh.rd at hb ⊢; rwa [h]
  fr b hb := Nat.le_of_eq (U.own b (lt_of_rd top hb)).2.1.symm
  cell b o hb _ := cell_of_heap (U.heap b (lt_of_rd top hb) (rd_ne hb))

theorem TokV.up (U : Up w g w' g') (top : ∀ b, w.heap.size ≤ b → g.own b = .free) {m : Mode} {p : Pos} {s : Nat} {xs : List (List PV)} {v : Value}
    (h : TokV w g m p s xs v) : TokV w' g' m p s xs v := by
  rcases h with h | ⟨b, c, cs, T, hv, ho, hh, hc, hs, hf, hr⟩
  · exact .inl h
  · have hb : b < w.heap.size := lt_of_own top (by rw [ho]; simp)
    obtain ⟨e1, e2, e3⟩ := U.own b hb
    refine .inr ⟨b, c, cs, T, by rw [e3]; exact hv, by rw [e1]; exact ho, by rw [U.heap b hb (by rw [ho]; simp)]; exact hh, hc, by rw [e3]; exact hs, by rw [e3, e2]; exact hf, ?_⟩
    rw [e3]
    exact RepRow.keep (U.keeps top) s b xs _ (fun o' _ _ => cell_of_heap (U.heap b hb (by rw [ho]; simp))) hr

theorem RepPtr.up (U : Up w g w' g') (top : ∀ b, w.heap.size ≤ b → g.own b = .free) {k s o : Nat} {v : Value} (h : RepPtr g k s o v) : RepPtr g' k s o v := by
  obtain ⟨b, hb, hv⟩ := h
  exact ⟨b, by rw [(U.own b (lt_of_own top (by rw [hb]; simp))).1]; exact hb, hv⟩
theorem RepCaps.up (U : Up w g w' g') (top : ∀ b, w.heap.size ≤ b → g.own b = .free) : ∀ {caps : List (Nat × Nat × Nat)} {vs : List Value}, RepCaps g caps vs → RepCaps g' caps vs
  | [], [], _ => trivial
  | [], _ :: _, h => h.elim
  | (_, _, _) :: _, [], h => h.elim
  | (_, _, _) :: _, _ :: _, h => ⟨h.1.up U top, RepCaps.up U top h.2⟩

theorem RepLeaf.up (U : Up w g w' g') (top : ∀ b, w.heap.size ≤ b → g.own b = .free) {q : Pos} {l : Leaf} {v : Value}
    (h : RepLeaf w g q l v) : RepLeaf w' g' q l v := by
  cases l with
  | d x => exact RepPV.keep (U.keeps top) x v h
  | row m s xs => exact TokV.up U top h
  | al m p s xs => exact TokV.up U top h
  | nilS => exact h
  | emp => exact h
  | ptr k s o => exact RepPtr.up U top h
  | eptr p i o cs =>
    obtain ⟨b, s, hb, hv, hl, hr⟩ := h
    have hlt : b < w.heap.size := lt_of_own top (by rw [hb]; simp)
    obtain ⟨e1, e2, e3⟩ := U.own b hlt
    refine ⟨b, s, by rw [e1]; exact hb, by rw [e3]; exact hv, hl, ?_⟩
    rw [e3]
    exact RepCells.keep (U.keeps top) b cs _ (fun o' _ _ => cell_of_heap (U.heap b hlt (by rw [hb]; simp))) hr
  | fptr cs =>
    obtain ⟨b, o, hv, hb, hf, hr⟩ := h
    have K := U.keeps top
    exact ⟨b, o, hv, K.rd b hb, Nat.le_trans hf (K.fr b hb), RepCells.keep K b cs o (fun o' _ _ => cell_of_heap (U.heap b (lt_of_rd top hb) (rd_ne hb))) hr⟩
  | fn f fi caps =>
    obtain ⟨us, vs, hv, hd, hc⟩ := h
    exact ⟨us, vs, hv, hd.up U top, hc.up U top⟩
  | it s pos =>
    obtain ⟨r, hv, ho, hh⟩ := h
    have hlt : r < w.heap.size := lt_of_own top (by rw [ho]; simp)
    exact ⟨r, hv, by rw [(U.own r hlt).1]; exact ho, by rw [U.heap r hlt (by rw [ho]; simp)]; exact hh⟩
  | undef => trivial

theorem RepLs.up (U : Up w g w' g') (top : ∀ b, w.heap.size ≤ b → g.own b = .free) {mk : Nat → Pos} : ∀ {j : Nat} {ls : List Leaf} {vs : List Value},
    RepLs w g mk j ls vs → RepLs w' g' mk j ls vs
  | _, [], [], _ => trivial
  | _, [], _ :: _, h => h.elim
  | _, _ :: _, [], h => h.elim
  | _, _ :: _, _ :: _, h => ⟨h.1.up U top, RepLs.up U top h.2⟩

theorem RepComp.up (U : Up w g w' g') (top : ∀ b, w.heap.size ≤ b → g.own b = .free) {mk : Nat → Pos} {c : Comp} {v : Value}
    (h : RepComp w g mk c v) : RepComp w' g' mk c v := by
  obtain ⟨ag, ls⟩ := c
  cases ag with
  | true => obtain ⟨vs, hv, h⟩ := h; exact ⟨vs, hv, h.up U top⟩
  | false => obtain ⟨l, hl, h⟩ := h; exact ⟨l, hl, h.up U top⟩

theorem RepComps.up (U : Up w g w' g') (top : ∀ b, w.heap.size ≤ b → g.own b = .free) {t : Nat} : ∀ {i : Nat} {cs : List Comp} {vs : List Value},
    RepComps w g t i cs vs → RepComps w' g' t i cs vs
  | _, [], [], _ => trivial
  | _, [], _ :: _, h => h.elim
  | _, _ :: _, [], h => h.elim
  | _, _ :: _, _ :: _, h => ⟨h.1.up U top, RepComps.up U top h.2⟩

theorem RepS.up (U : Up w g w' g') (top : ∀ b, w.heap.size ≤ b → g.own b = .free) {t : Nat} {s : SVal} {v : Value}
    (h : RepS w g t s v) : RepS w' g' t s v := by
  cases s with
  | val c => exact RepComp.up U top h
  | tup cs => obtain ⟨vs, hv, h⟩ := h; exact ⟨vs, hv, h.up U top⟩
end

end Go.Ev

namespace Go.Ev

section
variable {w w' : World} {g g' : Gh} {a : Act} {st : St}

theorem RepLeaf.cp {q q' : Pos} {l : Leaf} {v : Value} (h : RepLeaf w g q l v) : RepLeaf w g q' (cpLeaf q l) v := by
  cases l <;> first | exact h | trivial

theorem RepLs.cp {mk mk' : Nat → Pos} : ∀ {j j' : Nat} {ls : List Leaf} {vs : List Value}, RepLs w g mk j ls vs → RepLs w g mk' j' (cpLs mk j ls) vs
  | _, _, [], [], _ => trivial
  | _, _, [], _ :: _, h => h.elim
  | _, _, _ :: _, [], h => h.elim
  | _, _, _ :: _, _ :: _, h => ⟨h.1.cp, RepLs.cp h.2⟩

theorem RepComp.cp {mk mk' : Nat → Pos} {c : Comp} {v : Value} (h : RepComp w g mk c v) : RepComp w g mk' (cpComp mk c) v := by
  obtain ⟨ag, ls⟩ := c
  cases ag with
  | true => obtain ⟨vs, hv, h⟩ := h; exact ⟨vs, hv, h.cp⟩
  | false =>
    obtain ⟨l, hl, h⟩ := h
    obtain rfl : ls = [l] := hl
    exact ⟨cpLeaf (mk 0) l, rfl, h.cp⟩

theorem RepComps.cp {t t' : Nat} : ∀ {i i' : Nat} {cs : List Comp} {vs : List Value}, RepComps w g t i cs vs → RepComps w g t' i' (cpComps t i cs) vs
  | _, _, [], [], _ => trivial
  | _, _, [], _ :: _, h => h.elim
  | _, _, _ :: _, [], h => h.elim
  | _, _, _ :: _, _ :: _, h => ⟨h.1.cp, RepComps.cp h.2⟩

theorem RepS.cp {t t' : Nat} {s : SVal} {v : Value} (h : RepS w g t s v) : RepS w g t' (cpS t s) v := by
  cases s with
  | val c => exact RepComp.cp h
  | tup cs => obtain ⟨vs, hv, h⟩ := h; exact ⟨vs, hv, h.cp⟩

theorem RepLeaf.ofCell {q : Pos} (x : Value) : RepLeaf w g q (ofCell x) x := by
  unfold Ev.ofCell
  split
  · split
    · rename_i h
      obtain ⟨rfl, rfl⟩ := h
      rfl
    · trivial
  · split
    · rename_i fi ca h
      obtain rfl : fi = #[] := Array.eq_empty_of_size_eq_zero h.1
      obtain rfl : ca = #[] := Array.eq_empty_of_size_eq_zero h.2
      exact ⟨#[], #[], rfl, trivial, trivial⟩
    · trivial
  · split
    · rename_i h
      exact ⟨rfl, h⟩
    · trivial

theorem RepLs.ofCells {mk : Nat → Pos} : ∀ {j : Nat} (vs : List Value), RepLs w g mk j (vs.map Ev.ofCell) vs
  | _, [] => trivial
  | _, x :: r => ⟨RepLeaf.ofCell x, RepLs.ofCells r⟩

theorem RepComp.ofValue {mk : Nat → Pos} (x : Value) : RepComp w g mk (compOf x) x := by
  unfold compOf
  split
  · exact ⟨_, rfl, RepLs.ofCells _⟩
  · exact ⟨_, rfl, RepLeaf.ofCell _⟩

theorem RepS.undef {t : Nat} {v : Value} : RepS w g t undefS v := ⟨.undef, rfl, trivial⟩

theorem look_putK {α : Type} (t : Nat) (x : α) : ∀ (l : List (Nat × α)) (u : Nat), look (putK t x l) u = if t = u then some x else look l u
  | [], u => by simp [putK, look]
  | (k, y) :: r, u => by
    unfold putK
    by_cases hk : k = t
    · subst hk; simp only [if_true]
      by_cases hu : k = u
      · simp [look, hu]
      · simp [look, hu]
    · simp only [hk, if_false]
      by_cases hu : k = u
      · subst hu
        simp [look, show ¬ t = k from fun h => hk h.symm]
      · simp [look, hu, look_putK t x r u]

theorem getD_setIf {tmps : Array Value} {d t : Nat} {v u : Value} (hd : d < tmps.size) : (tmps.setIfInBounds d v).getD t u = if d = t then v else tmps.getD t u := by
  by_cases h : d = t
  · subst h; simp [hd]
  · simp [h, Array.getElem?_setIfInBounds_ne h]

/-- A slot is written; what stands there is no row's holder that somebody else's copy still names. -/
theorem Inv.put (I : Inv w g a st) {d : Nat} {s : SVal} {v : Value} (hd : d < a.tmps.size) (hs : RepS w g d s v) :
    Inv w g (a.put (some d) v) { st with slots := putK d s st.slots } where
  slots t u h := by
    rw [look_putK] at h
    show t < (a.tmps.setIfInBounds d v).size ∧ RepS w g t u ((a.tmps.setIfInBounds d v).getD t Go.undef)
    rw [getD_setIf hd, Array.size_setIfInBounds]
    by_cases e : d = t
    · subst e
      simp only [if_true, Option.some.injEq] at h ⊢
      subst h
      exact ⟨hd, hs⟩
    · simp only [e, if_false] at h ⊢
      exact I.slots t u h
  boxes := I.boxes
  injB := I.injB
  injO := I.injO
  top := I.top
  tagB := I.tagB
  defers := I.defers

theorem Inv.up (I : Inv w g a st) (U : Up w g w' g') (injB : ∀ b b' k s, g'.own b = .box k s → g'.own b' = .box k s → b = b')
    (injO : ∀ b b' p, g'.own b = .row .own p → g'.own b' = .row .own p → b = b') (top : ∀ b, w'.heap.size ≤ b → g'.own b = .free)
    (tagB : ∀ b k s, g'.own b = .box k s → ∃ f ls, st.boxes[k]? = some f ∧ look f s = some ls) : Inv w' g' a st where
  slots t s h := ⟨(I.slots t s h).1, (I.slots t s h).2.up U I.top⟩
  boxes k f s ls h1 h2 := by
    obtain ⟨b, vs, T, ho, hh, hr⟩ := I.boxes k f s ls h1 h2
    have hlt : b < w.heap.size := lt_of_own I.top (by rw [ho]; simp)
    exact ⟨b, vs, T, by rw [(U.own b hlt).1]; exact ho, by rw [U.heap b hlt (by rw [ho]; simp)]; exact hh, hr.up U I.top⟩
  injB := injB
  injO := injO
  top := top
  tagB := tagB
  defers := I.defers

/-! ### Values that hang on no memory -/
theorem toVal_eq {q : Pos} {l : Leaf} {v x : Value} (h : RepLeaf w g q l v) (hx : l.toVal = some x) : v = x := by
  cases l <;> try simp [Leaf.toVal] at hx
  rename_i p
  cases p with
  | sl s xs => simp [Leaf.toVal] at hx
  | v y =>
    simp only [Leaf.toVal] at hx
    split at hx
    · cases hx; exact h.1
    · cases hx
theorem toVals_eq {mk : Nat → Pos} : ∀ {j : Nat} {ls : List Leaf} {vs xs : List Value}, RepLs w g mk j ls vs → toVals ls = some xs → vs = xs
  | _, [], [], _, _, hx => by simpa [toVals] using hx
  | _, [], _ :: _, _, h, _ => h.elim
  | _, _ :: _, [], _, h, _ => h.elim
  | _, l :: r, v :: vs, xs, h, hx => by
    simp only [toVals] at hx
    split at hx
    · rename_i x y h1 h2
      cases hx
      rw [toVal_eq h.1 h1, toVals_eq h.2 h2]
    · cases hx
theorem valOf_eq {t : Nat} {s : SVal} {v x : Value} (h : RepS w g t s v) (hx : valOf s = some x) : v = x := by
  match s, h, hx with
  | .val ⟨false, [l]⟩, ⟨l', hl, h⟩, hx =>
    obtain rfl : l = l' := by injection hl
    exact toVal_eq h hx
  | .val ⟨true, ls⟩, ⟨vs, hv, h⟩, hx =>
    simp only [valOf, Option.map_eq_some_iff] at hx
    obtain ⟨xs, h1, rfl⟩ := hx
    rw [hv, ← toVals_eq h h1]
  | .val ⟨false, []⟩, _, hx => simp [valOf] at hx
  | .val ⟨false, _ :: _ :: _⟩, _, hx => simp [valOf] at hx
  | .tup _, _, hx => simp [valOf] at hx

theorem pureRun_run {P : Program} {α : Type} : ∀ (x : Sem α) {v : α} {w : World}, pureRun P x = some v → x.run P w = .ok v w
  | .pure a, v, w, h => by cases h; rfl
  | .program k, v, w, h => by
    show (k P).run P w = _
    exact pureRun_run (k P) h
  | .load .., _, _, h => by cases h
  | .store .., _, _, h => by cases h
  | .new .., _, _, h => by cases h
  | .shape .., _, _, h => by cases h
  | .freeze .., _, _, h => by cases h
  | .frozen .., _, _, h => by cases h
  | .getObj .., _, _, h => by cases h
  | .setObj .., _, _, h => by cases h
  | .choose .., _, _, h => by cases h
  | .sys .., _, _, h => by cases h
  | .mark _ k, v, w, h => by
    show k.run P w = _
    exact pureRun_run k h
  | .halt .., _, _, h => by cases h

theorem RepLs.ofVals {mk : Nat → Pos} : ∀ {j : Nat} (vs : List Value), allScal vs = true → RepLs w g mk j (vs.map fun x => .d (.v x)) vs
  | _, [], _ => trivial
  | _, _ :: r, h => by
    simp only [allScal, Bool.and_eq_true] at h
    exact ⟨⟨rfl, h.1⟩, RepLs.ofVals r h.2⟩
theorem RepComp.compOfV {mk : Nat → Pos} {x : Value} {c : Comp} (h : compOfV x = some c) : RepComp w g mk c x := by
  unfold Ev.compOfV at h
  split at h
  · split at h
    · rename_i hs; cases h; exact ⟨_, rfl, RepLs.ofVals _ hs⟩
    · cases h
  · split at h
    · rename_i hs; cases h; exact ⟨_, rfl, rfl, hs⟩
    · cases h
end


/-! ### A value that may stand in any place -/
def RepFs (w : World) (g : Gh) : List Comp → List Value → Prop
  | [], [] => True
  | c :: r, v :: vs => (∀ mk, RepComp w g mk c v) ∧ RepFs w g r vs
  | _, _ => False
def RepF (w : World) (g : Gh) : SVal → Value → Prop
  | .val c, v => ∀ mk, RepComp w g mk c v
  | .tup cs, v => ∃ vs : Array Value, v = .tuple vs ∧ RepFs w g cs vs.toList

section
variable {w w' : World} {g g' : Gh} {a : Act} {st : St}
theorem RepComps.cpF {t : Nat} : ∀ {i : Nat} {cs : List Comp} {vs : List Value}, RepComps w g t i cs vs → RepFs w g (cpComps t i cs) vs
  | _, [], [], _ => trivial
  | _, [], _ :: _, h => h.elim
  | _, _ :: _, [], h => h.elim
  | _, _ :: _, _ :: _, h => ⟨fun _ => h.1.cp, RepComps.cpF h.2⟩
theorem RepS.cpF {t : Nat} {s : SVal} {v : Value} (h : RepS w g t s v) : RepF w g (cpS t s) v := by
  cases s with
  | val c => exact fun mk => RepComp.cp h
  | tup cs => obtain ⟨vs, hv, h⟩ := h; exact ⟨vs, hv, h.cpF⟩
theorem RepFs.toComps {t : Nat} : ∀ {i : Nat} {cs : List Comp} {vs : List Value}, RepFs w g cs vs → RepComps w g t i cs vs
  | _, [], [], _ => trivial
  | _, [], _ :: _, h => h.elim
  | _, _ :: _, [], h => h.elim
  | _, _ :: _, _ :: _, h => ⟨h.1 _, RepFs.toComps h.2⟩
theorem RepF.toS {t : Nat} {s : SVal} {v : Value} (h : RepF w g s v) : RepS w g t s v := by
  cases s with
  | val c => exact h _
  | tup cs => obtain ⟨vs, hv, h⟩ := h; exact ⟨vs, hv, h.toComps⟩
theorem RepF.undef {v : Value} : RepF w g undefS v := fun _ => ⟨.undef, rfl, trivial⟩
theorem Inv.fetchF (I : Inv w g a st) (x : Operand) : RepF w g (Ev.fetch st x) (a.eval x) := by
  cases x with
  | tmp u =>
    show RepF w g (match look st.slots u with | some s => cpS u s | none => undefS) (a.tmps.getD u Go.undef)
    cases h : look st.slots u with
    | none => exact RepF.undef
    | some s => exact (I.slots u s h).2.cpF
  | const v => exact fun _ => RepComp.ofValue v
  | global gl => exact RepF.undef
  | func f => exact fun _ => ⟨_, rfl, #[], #[], rfl, trivial, trivial⟩
theorem RepFs.up (U : Up w g w' g') (top : ∀ b, w.heap.size ≤ b → g.own b = .free) : ∀ {cs : List Comp} {vs : List Value}, RepFs w g cs vs → RepFs w' g' cs vs
  | [], [], _ => trivial
  | [], _ :: _, h => h.elim
  | _ :: _, [], h => h.elim
  | _ :: _, _ :: _, h => ⟨fun mk => (h.1 mk).up U top, RepFs.up U top h.2⟩
theorem RepF.up (U : Up w g w' g') (top : ∀ b, w.heap.size ≤ b → g.own b = .free) {s : SVal} {v : Value} (h : RepF w g s v) : RepF w' g' s v := by
  cases s with
  | val c => exact fun mk => (h mk).up U top
  | tup cs => obtain ⟨vs, hv, h⟩ := h; exact ⟨vs, hv, h.up U top⟩
theorem valOf_eqF {s : SVal} {v x : Value} (h : RepF w g s v) (hx : valOf s = some x) : v = x := valOf_eq (t := 0) h.toS hx
theorem RepLs.shift {mk : Nat → Pos} (off : Nat) : ∀ {i : Nat} {ls : List Leaf} {vs : List Value}, RepLs w g (fun j => mk (j - off)) (off + i) ls vs → RepLs w g mk i ls vs
  | _, [], [], _ => trivial
  | _, [], _ :: _, h => h.elim
  | _, _ :: _, [], h => h.elim
  | i, _ :: _, _ :: _, h => ⟨by have := h.1; simpa using this, RepLs.shift off (by have := h.2; rwa [Nat.add_assoc] at this)⟩
end

end Go.Ev

namespace Go.Ev

def szO (P : Program) (t : TypeId) : Option Nat := (P.info? t).map (·.size)
def isAggO (P : Program) (t : TypeId) : Option Bool := (P.underlying t).map fun
  | .struct _ | .array _ _ => true
  | _ => false
def fieldO (P : Program) (t : TypeId) (f : Nat) : Option (Nat × TypeId) :=
  match P.underlying t with
  | some (.struct fs) => (fs[f]?).map fun x => (x.offset, x.type)
  | _ => none
/-- A slice's element, and its cells. -/
def elemO (P : Program) (t : TypeId) : Option (TypeId × Nat) :=
  match P.underlying t with
  | some (.slice e) => (szO P e).map fun n => (e, n)
  | _ => none

def boxCells (st : St) (k s : Nat) : Option (List Leaf) := (st.boxes[k]?).bind fun f => look f s

/-- The comp of cells as a value of a type. -/
def compCells (ag : Bool) (n : Nat) (ls : List Leaf) : Option Comp :=
  if ls.length = n then (if ag then some ⟨true, ls⟩ else if n = 1 then some ⟨false, ls⟩ else none) else none

def loadOf (P : Program) (st : St) (T : TypeId) (l : Leaf) : Option SVal :=
  match szO P T, isAggO P T with
  | some n, some ag =>
    match l with
    | .ptr k s o => (boxCells st k s).bind fun ls => (compCells ag n (cpLs (.box k s) o ((ls.drop o).take n))).map .val
    | .fptr cs => (compCells ag n ((cs.take n).map .d)).map .val
    | .eptr _ _ _ cs => (compCells ag n ((cs.take n).map .d)).map .val
    | _ => none
  | _, _ => none

def isPtr : Leaf → Bool
  | .ptr .. | .fptr _ | .eptr .. => true
  | _ => false

def fieldAddrOf (P : Program) (T : TypeId) (f : Nat) (l : Leaf) : Option SVal :=
  match fieldO P T f with
  | some (off, ft) =>
    match szO P ft with
    | some n =>
      if n = 0 then none else
      match l with
      | .ptr k s o => some (.val ⟨false, [.ptr k s (o + off)]⟩)
      | .fptr cs => if off ≤ cs.length then some (.val ⟨false, [.fptr (cs.drop off)]⟩) else none
      | .eptr p i o cs => if off ≤ cs.length then some (.val ⟨false, [.eptr p i (o + off) (cs.drop off)]⟩) else none
      | _ => none
    | none => none
  | none => none

def indexAddrOf (P : Program) (T : TypeId) (l : Leaf) (i : Int) : Option SVal :=
  match elemO P T with
  | some (_, n) =>
    if 0 ≤ i then
      match l with
      | .d (.sl s xs) => if s = n then (xs[i.toNat]?).map fun e => .val ⟨false, [.fptr e]⟩ else none
      | .al .tip _ s xs => if s = n then (xs[i.toNat]?).map fun e => .val ⟨false, [.fptr e]⟩ else none
      | .al .own p s xs => if s = n then (xs[i.toNat]?).map fun e => .val ⟨false, [.eptr p i.toNat 0 e]⟩ else none
      | _ => none
    else none
  | none => none

theorem add_at (b o j : Nat) : (⟨b, o, none⟩ : Addr).add j = ⟨b, o + j, none⟩ := by
  unfold Addr.add
  split
  · rename_i h; subst h; rfl
  · rfl

section
variable {P : Program} {w w' : World} {g g' : Gh} {a : Act} {st : St}

theorem run_szO {t : TypeId} {n : Nat} (h : szO P t = some n) (w : World) : (sizeOf t).run P w = .ok n w := by
  unfold szO at h
  cases hi : P.info? t with
  | none => simp [hi] at h
  | some i =>
    rw [hi] at h
    obtain rfl : i.size = n := by simpa using h
    simp [sizeOf, typeInfo, hi]
theorem run_under {t : TypeId} {d : TypeDesc} (h : P.underlying t = some d) (w : World) : (underlying t).run P w = .ok d w := by
  simp [underlying, h]
theorem run_isAggO {t : TypeId} {ag : Bool} (h : isAggO P t = some ag) (w : World) : (isAgg t).run P w = .ok ag w := by
  unfold isAggO at h
  cases hd : P.underlying t with
  | none => simp [hd] at h
  | some d =>
    rw [hd] at h
    simp only [Option.map_some, Option.some.injEq] at h
    unfold isAgg
    rw [Sem.run_bind, run_under hd w]
    cases d <;> simp_all

/-- Cells as a value. -/
def mkV (ag : Bool) (cs : List Value) : Value := if ag then .agg cs.toArray else cs.headD Go.undef

theorem run_loadVar_cells {T : TypeId} {n : Nat} {ag : Bool} (hz : szO P T = some n) (ha : isAggO P T = some ag) (b o : Nat) (cs : List Value) (hl : cs.length = n)
    (h1 : ag = false → n = 1) (hc : ∀ j v, cs[j]? = some v → w.cell? ⟨b, o + j, none⟩ = some v) : (loadVar T ⟨b, o, none⟩).run P w = .ok (mkV ag cs) w := by
  unfold loadVar
  rw [Sem.run_bind, run_isAggO ha w]
  cases ag with
  | true =>
    have := run_loadCells_list (P := P) w ⟨b, o, none⟩ cs (fun j v hj => by rw [add_at]; exact hc j v hj)
    rw [hl] at this
    simp [run_szO hz, this, mkV]
  | false =>
    have hn := h1 rfl
    subst hn
    match cs, hl with
    | [v], _ =>
      have := hc 0 v rfl
      simp only [Nat.add_zero] at this
      simp [this, mkV]

theorem RepLs.length {mk : Nat → Pos} : ∀ {j : Nat} {ls : List Leaf} {vs : List Value}, RepLs w g mk j ls vs → vs.length = ls.length
  | _, [], [], _ => rfl
  | _, [], _ :: _, h => h.elim
  | _, _ :: _, [], h => h.elim
  | _, _ :: _, _ :: _, h => by simp [RepLs.length h.2]
theorem RepLs.drop {mk : Nat → Pos} : ∀ (n : Nat) {j : Nat} {ls : List Leaf} {vs : List Value}, RepLs w g mk j ls vs → RepLs w g mk (j + n) (ls.drop n) (vs.drop n)
  | 0, _, _, _, h => by simpa using h
  | n + 1, _, [], [], _ => by simp [RepLs]
  | _ + 1, _, [], _ :: _, h => h.elim
  | _ + 1, _, _ :: _, [], h => h.elim
  | n + 1, j, _ :: _, _ :: _, h => by
    have := RepLs.drop n h.2
    rw [show j + 1 + n = j + (n + 1) by omega] at this
    simpa using this
theorem RepLs.take {mk : Nat → Pos} : ∀ (n : Nat) {j : Nat} {ls : List Leaf} {vs : List Value}, RepLs w g mk j ls vs → RepLs w g mk j (ls.take n) (vs.take n)
  | 0, _, _, _, h => by simp [RepLs]
  | n + 1, _, [], [], _ => by simp [RepLs]
  | _ + 1, _, [], _ :: _, h => h.elim
  | _ + 1, _, _ :: _, [], h => h.elim
  | n + 1, j, _ :: _, _ :: _, h => by simpa [RepLs] using ⟨h.1, RepLs.take n h.2⟩

theorem compCells_rep {ag : Bool} {n : Nat} {ls : List Leaf} {c : Comp} {vs : List Value} {mk : Nat → Pos} (hc : compCells ag n ls = some c) (h : RepLs w g mk 0 ls vs) :
    vs.length = n ∧ (ag = false → n = 1) ∧ RepComp w g mk c (mkV ag vs) := by
  have hl := h.length
  unfold compCells at hc
  split at hc
  · rename_i hn
    split at hc
    · rename_i hag; subst hag
      cases hc
      exact ⟨by omega, by simp, _, rfl, by simpa using h⟩
    · rename_i hag
      split at hc
      · rename_i h1; cases hc
        refine ⟨by omega, fun _ => h1, ?_⟩
        have : ls.length = 1 := by omega
        match ls, vs, this, h with
        | [l], [v], _, h => exact ⟨l, rfl, by simpa [mkV, hag] using h.1⟩
        | [l], [], _, h => exact h.elim
        | [l], _ :: _ :: _, _, h => exact h.2.elim
      · cases hc
  · cases hc

/-- The values of cells that are seen. -/
theorem RepCells.vals {b : Nat} : ∀ {o : Nat} {cs : List PV}, RepCells w g b o cs → ∃ vs : List Value, vs.length = cs.length ∧ (∀ j v, vs[j]? = some v → w.cell? ⟨b, o + j, none⟩ = some v) ∧
    ∀ (mk : Nat → Pos) (j : Nat), RepLs w g mk j (cs.map .d) vs
  | o, [], _ => ⟨[], rfl, by simp, fun _ _ => trivial⟩
  | o, x :: r, h => by
    rw [RepCells] at h
    obtain ⟨⟨v, hv, hx⟩, h⟩ := h
    obtain ⟨vs, h1, h2, h3⟩ := RepCells.vals h
    refine ⟨v :: vs, by simp [h1], fun j u hj => ?_, fun mk j => ⟨hx, h3 mk (j + 1)⟩⟩
    cases j with
    | zero => simp only [List.getElem?_cons_zero, Option.some.injEq] at hj; subst hj; simpa using hv
    | succ j =>
      simp only [List.getElem?_cons_succ] at hj
      have := h2 j u hj
      rwa [show o + 1 + j = o + (j + 1) by omega] at this
theorem RepCells.takeN {b : Nat} : ∀ (n : Nat) {o : Nat} {cs : List PV}, RepCells w g b o cs → RepCells w g b o (cs.take n)
  | 0, _, _, _ => by simp [RepCells]
  | _ + 1, _, [], _ => by simp [RepCells]
  | n + 1, o, x :: r, h => by
    rw [RepCells] at h
    simp only [List.take_succ_cons]
    rw [RepCells]
    exact ⟨h.1, RepCells.takeN n h.2⟩
theorem RepCells.dropN {b : Nat} : ∀ (n : Nat) {o : Nat} {cs : List PV}, RepCells w g b o cs → RepCells w g b (o + n) (cs.drop n)
  | 0, _, _, h => by simpa using h
  | _ + 1, _, [], _ => by simp [RepCells]
  | n + 1, o, x :: r, h => by
    rw [RepCells] at h
    simp only [List.drop_succ_cons]
    have := RepCells.dropN n h.2
    rwa [show o + 1 + n = o + (n + 1) by omega] at this

/-- One leaf's load. -/
theorem loadOf_sound {T : TypeId} {l : Leaf} {v : Value} {s : SVal} (I : Inv w g a st) (q : Pos) (h : RepLeaf w g q l v) (hs : loadOf P st T l = some s) :
    ∃ u, (Instr.loadAt T v).run P w = .ok u w ∧ RepF w g s u := by
  unfold loadOf at hs
  split at hs
  · rename_i n ag hz ha
    split at hs
    · rename_i k s' o
      obtain ⟨b, hb, rfl⟩ := h
      simp only [Option.bind_eq_some_iff, Option.map_eq_some_iff] at hs
      obtain ⟨ls, hls, c, hc, rfl⟩ := hs
      unfold boxCells at hls
      simp only [Option.bind_eq_some_iff] at hls
      obtain ⟨f, hf, hlook⟩ := hls
      obtain ⟨b', vs, T', ho, hh, hr⟩ := I.boxes k f s' ls hf hlook
      obtain rfl := I.injB b b' k s' hb ho
      have hr2 : RepLs w g (.box k s') o ((ls.drop o).take n) ((vs.toList.drop o).take n) := by
        have := (hr.drop o).take n
        simpa using this
      have hr3 : ∀ mk, RepLs w g mk 0 (cpLs (.box k s') o ((ls.drop o).take n)) ((vs.toList.drop o).take n) := fun mk => hr2.cp
      obtain ⟨h1, h2, _⟩ := compCells_rep hc (hr3 (.slot 0 0))
      refine ⟨mkV ag ((vs.toList.drop o).take n), ?_, fun mk => (compCells_rep hc (hr3 mk)).2.2⟩
      unfold Instr.loadAt Instr.sureAddr
      simp only [Sem.run_bind, Sem.run_pure, Result.andThen_ok]
      refine run_loadVar_cells hz ha b o _ h1 h2 (fun j v hj => ?_)
      have hj' : vs[o + j]? = some v := by
        rw [List.getElem?_take] at hj
        split at hj
        · simpa using hj
        · cases hj
      simp [World.cell?, hh, hj']
    · rename_i cs
      obtain ⟨b, o, rfl, hb, hf, hr⟩ := h
      simp only [Option.map_eq_some_iff] at hs
      obtain ⟨c, hc, rfl⟩ := hs
      obtain ⟨vs, h1, h2, h3⟩ := (hr.takeN n).vals
      obtain ⟨h4, h5, _⟩ := compCells_rep hc (h3 (.slot 0 0) 0)
      refine ⟨mkV ag vs, ?_, fun mk => (compCells_rep hc (h3 mk 0)).2.2⟩
      unfold Instr.loadAt Instr.sureAddr
      simp only [Sem.run_bind, Sem.run_pure, Result.andThen_ok]
      exact run_loadVar_cells hz ha b o _ h4 h5 h2
    · rename_i p i o cs
      obtain ⟨b, s', hb, rfl, hl, hr⟩ := h
      simp only [Option.map_eq_some_iff] at hs
      obtain ⟨c, hc, rfl⟩ := hs
      obtain ⟨vs, h1, h2, h3⟩ := (hr.takeN n).vals
      obtain ⟨h4, h5, _⟩ := compCells_rep hc (h3 (.slot 0 0) 0)
      refine ⟨mkV ag vs, ?_, fun mk => (compCells_rep hc (h3 mk 0)).2.2⟩
      unfold Instr.loadAt Instr.sureAddr
      simp only [Sem.run_bind, Sem.run_pure, Result.andThen_ok]
      exact run_loadVar_cells hz ha b _ _ h4 h5 h2
    · cases hs
  · cases hs

theorem fieldAddrOf_sound {T : TypeId} {f : Nat} {l : Leaf} {v : Value} {s : SVal} (q : Pos) (h : RepLeaf w g q l v) (hs : fieldAddrOf P T f l = some s) :
    ∃ u, (Instr.fieldAt T v f).run P w = .ok u w ∧ RepF w g s u := by
  unfold fieldAddrOf at hs
  split at hs
  · rename_i off ft hf
    unfold fieldO at hf
    split at hf
    · rename_i fs hu
      simp only [Option.map_eq_some_iff, Prod.mk.injEq] at hf
      obtain ⟨x, hx, rfl, rfl⟩ := hf
      split at hs
      · rename_i n hn
        split at hs
        · cases hs
        · rename_i hn0
          have hrun : ∀ (b o : Nat), (Instr.fieldAt T (.pointer (some ⟨b, o, none⟩)) f).run P w = .ok (.pointer (some ⟨b, o + x.offset, none⟩)) w := by
            intro b o
            unfold Instr.fieldAt Instr.sureAddr
            simp [run_under hu, hx, fieldPlace, run_szO hn, hn0, add_at]
          split at hs
          · cases hs
            obtain ⟨b, hb, rfl⟩ := h
            exact ⟨_, hrun b _, fun mk => ⟨_, rfl, b, hb, rfl⟩⟩
          · split at hs
            · rename_i hle
              cases hs
              obtain ⟨b, o, rfl, hb, hfr, hr⟩ := h
              refine ⟨_, hrun b o, fun mk => ⟨_, rfl, b, _, rfl, hb, ?_, hr.dropN _⟩⟩
              simp only [List.length_drop]; omega
            · cases hs
          · split at hs
            · rename_i hle
              cases hs
              obtain ⟨b, s', hb, rfl, hl, hr⟩ := h
              refine ⟨_, hrun b _, fun mk => ⟨_, rfl, b, s', hb, by rw [Nat.add_assoc], ?_, ?_⟩⟩
              · simp only [List.length_drop]; omega
              · have := hr.dropN x.offset
                rwa [Nat.add_assoc] at this
            · cases hs
          · cases hs
      · cases hs
    · cases hf
  · cases hs

/-- Element i of a row. -/
theorem RepRow.at_ {s b : Nat} : ∀ {xs : List (List PV)} {o i : Nat} {e : List PV}, RepRow w g s b o xs → xs[i]? = some e → e.length = s ∧ RepCells w g b (o + i * s) e
  | [], _, _, _, _, h => by simp at h
  | x :: r, o, i, e, hr, h => by
    rw [RepRow] at hr
    cases i with
    | zero => simp only [List.getElem?_cons_zero, Option.some.injEq] at h; subst h; exact ⟨hr.1, by simpa using hr.2.1⟩
    | succ i =>
      simp only [List.getElem?_cons_succ] at h
      have := RepRow.at_ hr.2.2 h
      rwa [show o + s + i * s = o + (i + 1) * s by rw [Nat.succ_mul]; omega] at this

theorem indexAddrOf_sound {T : TypeId} {l : Leaf} {v : Value} {s : SVal} {k : IntKind} {i : Int} (q : Pos) (h : RepLeaf w g q l v) (hs : indexAddrOf P T l i = some s) :
    ∃ u, (Instr.indexAt T v (.int k i)).run P w = .ok u w ∧ RepF w g s u := by
  unfold indexAddrOf at hs
  split at hs
  · rename_i e n he
    unfold elemO at he
    split at he
    · rename_i e' hu
      simp only [Option.map_eq_some_iff, Prod.mk.injEq] at he
      obtain ⟨n', hn, rfl, rfl⟩ := he
      split at hs
      · rename_i h0
        have hrun : ∀ (b o len c : Nat), i < len → (Instr.indexAt T (.slice (some ⟨b, o, none⟩) len c) (.int k i)).run P w = .ok (.pointer (some ⟨b, o + i.toNat * n', none⟩)) w := by
          intro b o len c hlt
          unfold Instr.indexAt
          simp [asIntOf, run_under hu, h0, hlt, run_szO hn, add_at]
        have hlt : ∀ (xs : List (List PV)) (e : List PV), xs[i.toNat]? = some e → i < xs.length := by
          intro xs e h
          have := (List.getElem?_eq_some_iff.1 h).1
          omega
        split at hs
        · rename_i s' xs
          split at hs
          · rename_i hel; subst hel
            simp only [Option.map_eq_some_iff] at hs
            obtain ⟨e, he, rfl⟩ := hs
            rw [RepLeaf, RepPV] at h
            obtain ⟨A, c, rfl, hc, _, hx⟩ := h
            rcases hx with rfl | ⟨b, o, rfl, hb, hf, hr⟩
            · simp at he
            · obtain ⟨e1, e2⟩ := hr.at_ he
              have hlt' := hlt xs e he
              refine ⟨_, hrun b o _ c hlt', fun mk => ⟨_, rfl, b, _, rfl, hb, ?_, e2⟩⟩
              have : (i.toNat + 1) * s' ≤ xs.length * s' := Nat.mul_le_mul_right _ (by omega)
              rw [Nat.succ_mul] at this
              omega
          · cases hs
        · rename_i p s' xs
          split at hs
          · rename_i hel; subst hel
            simp only [Option.map_eq_some_iff] at hs
            obtain ⟨e, he, rfl⟩ := hs
            rcases h with ⟨rfl, _⟩ | ⟨b, c, cs, T', rfl, hb, hh, hc, hsz, hf, hr⟩
            · simp at he
            · obtain ⟨e1, e2⟩ := hr.at_ he
              have hlt' := hlt xs e he
              refine ⟨_, hrun b _ _ c hlt', fun mk => ⟨_, rfl, b, _, rfl, .inr ⟨p, hb⟩, ?_, e2⟩⟩
              have : (i.toNat + 1) * s' ≤ xs.length * s' := Nat.mul_le_mul_right _ (by omega)
              rw [Nat.succ_mul] at this
              omega
          · cases hs
        · rename_i p s' xs
          split at hs
          · rename_i hel; subst hel
            simp only [Option.map_eq_some_iff] at hs
            obtain ⟨e, he, rfl⟩ := hs
            rcases h with ⟨rfl, _⟩ | ⟨b, c, cs, T', rfl, hb, hh, hc, hsz, hf, hr⟩
            · simp at he
            · obtain ⟨e1, e2⟩ := hr.at_ he
              have hlt' := hlt xs e he
              exact ⟨_, hrun b _ _ c hlt', fun mk => ⟨_, rfl, b, s', hb, rfl, by omega, e2⟩⟩
          · cases hs
        · cases hs
      · cases hs
    · cases he
  · cases hs
end

end Go.Ev

namespace Go.Ev

def eqFs (P : Program) (rec : TypeId → Value → Value → Option Bool) (xs ys : Array Value) : List Field → Option Bool
  | [] => some true
  | f :: fs =>
    match decide (f.name = "_") with
    | true => eqFs P rec xs ys fs
    | false =>
      match pureRun P (part f.type xs f.offset), pureRun P (part f.type ys f.offset) with
      | some a, some b => match rec f.type a b, eqFs P rec xs ys fs with
        | some q, some r => some (q && r)
        | _, _ => none
      | _, _ => none
def eqT (P : Program) : Nat → TypeId → Value → Value → Option Bool
  | 0, _, _, _ => none
  | n + 1, t, x, y =>
    match P.underlying t with
    | some .bool => match x, y with
      | .bool a, .bool b => some (a == b)
      | _, _ => none
    | some (.int _) => match x, y with
      | .int k a, .int k' b => match decide (k = k') with
        | true => some (a == b)
        | false => none
      | _, _ => none
    | some .string => match x, y with
      | .string a, .string b => some (a == b)
      | _, _ => none
    | some (.struct fs) => match x, y, P.stoodInHeld t with
      | .agg xs, .agg ys, false => eqFs P (eqT P n) xs ys fs.toList
      | _, _, _ => none
    | _ => none

theorem eqFs_run {P : Program} {w : World} {d : Nat} {rec : TypeId → Value → Value → Option Bool} (hr : ∀ t x y b, rec t x y = some b → (Op.equalIn d t x y).run P w = .ok b w) {xs ys : Array Value} :
    ∀ {fs : List Field} {b : Bool}, eqFs P rec xs ys fs = some b → (Op.eqFields d xs ys fs).run P w = .ok b w
  | [], b, h => by cases h; rfl
  | f :: fs, b, h => by
    unfold eqFs at h
    split at h
    · rename_i hn
      have hn' : f.name = "_" := by simpa using hn
      simp only [Op.eqFields, hn', ne_eq, not_true_eq_false, if_false]
      exact eqFs_run hr h
    · rename_i hn
      have hn' : f.name ≠ "_" := by simpa using hn
      split at h
      · rename_i a b' ha hb
        split at h
        · rename_i q r hq hrr
          cases h
          simp only [Op.eqFields, if_pos hn', Sem.run_bind, pureRun_run _ ha, Result.andThen_ok, pureRun_run _ hb, hr _ _ _ _ hq]
          cases q with
          | true => simp only [Bool.not_true, Bool.false_eq_true, if_false, Bool.true_and]; exact eqFs_run hr hrr
          | false => rfl
        · cases h
      · cases h

theorem eqT_run {P : Program} {w : World} : ∀ (n : Nat) {d : Nat} {t : TypeId} {x y : Value} {b : Bool}, n ≤ d → eqT P n t x y = some b → (Op.equalIn d t x y).run P w = .ok b w
  | 0, _, _, _, _, _, _, h => by cases h
  | n + 1, d, t, x, y, b, hd, h => by
    obtain ⟨d, rfl⟩ : ∃ d', d = d' + 1 := ⟨d - 1, by omega⟩
    unfold eqT at h
    split at h
    · rename_i hu
      split at h
      · cases h; exact run_equalIn_bool' w d t _ _ hu
      · cases h
    · rename_i k0 hu
      split at h
      · split at h
        · rename_i hk
          obtain rfl := of_decide_eq_true hk
          cases h
          exact run_equalIn_int w d t _ _ _ _ hu
        · cases h
      · cases h
    · rename_i hu
      split at h
      · cases h
        rw [run_equalIn_string w d t _ _ hu, ← beq_toListBytes]
      · cases h
    · rename_i fs hu
      split at h
      · rename_i xs ys hp
        have hf : P.fieldsOf t = fs := by simp [Program.fieldsOf, hu]
        rw [run_equalIn_struct w d t xs ys (by rw [hf]; exact hu) hp, hf]
        exact eqFs_run (fun t x y b h => eqT_run n (by omega) h) h
      · cases h
    · cases h

/-- Two values of a struct's type. -/
def eqAgg (P : Program) (t : TypeId) (x y : Value) : Option Bool :=
  match P.eqGuardType P.depth t with
  | false => eqT P 20 t x y
  | true => none
theorem eqAgg_run {P : Program} {w : World} {t : TypeId} {xs ys : Array Value} {x y : Operand} {b : Bool} (h : eqAgg P t (.agg xs) (.agg ys) = some b) :
    (do eqGuard .eql t x y (.agg xs) (.agg ys); binOp .eql t (.agg xs) (.agg ys)).run P w = .ok (.bool b) w ∧ (do eqGuard .neq t x y (.agg xs) (.agg ys); binOp .neq t (.agg xs) (.agg ys)).run P w = .ok (.bool (!b)) w := by
  unfold eqAgg at h
  split at h
  · rename_i hg
    have := eqT_run (w := w) 20 (d := 10000) (by omega) h
    constructor
    · rw [Sem.run_bind, run_eqGuard_agg w .eql t x y xs ys hg, Result.andThen_ok, run_eql_struct, this]
      rfl
    · rw [Sem.run_bind, run_eqGuard_agg w .neq t x y xs ys hg, Result.andThen_ok, run_neq_struct, this]
      rfl
  · cases h
end Go.Ev

namespace Go.Ev

def one (l : Leaf) : SVal := .val ⟨false, [l]⟩

def notU : Leaf → Bool
  | .undef => false
  | _ => true
def allNotU : List Leaf → Bool
  | [] => true
  | l :: r => notU l && allNotU r

def fillL (place : Nat → Option (Nat × Nat)) : List Leaf → List (Nat × Comp) → Option (List Leaf)
  | ls, [] => some ls
  | ls, (i, c) :: r =>
    match place i with
    | some (off, n) => if c.ls.length = n ∧ off + n ≤ ls.length ∧ allNotU c.ls = true then fillL place (ls.take off ++ c.ls ++ ls.drop (off + n)) r else none
    | none => none

def fetchParts (st : St) : List (Nat × Operand) → Option (List (Nat × Comp))
  | [] => some []
  | (i, x) :: r =>
    match fetch st x, fetchParts st r with
    | .val c, some l => some ((i, c) :: l)
    | _, _ => none

def placesOf (P : Program) (T : TypeId) : Option (List (Nat × Nat)) :=
  match P.underlying T with
  | some (.struct fs) => fs.toList.mapM (fun f => (P.info? f.type).map fun i => (f.offset, i.size))
  | _ => none

def buildOf (P : Program) (T : TypeId) (parts : List (Nat × Comp)) : Option SVal :=
  match zeroOf P T, placesOf P T with
  | some z, some places => (fillL (places[·]?) (z.cells.toList.map ofCell) parts).map fun ls => .val ⟨true, ls⟩
  | _, _ => none

def fieldOf (P : Program) (T : TypeId) (f : Nat) (c : Comp) : Option SVal :=
  match c.agg, fieldO P T f with
  | true, some (off, ft) =>
    match szO P ft, isAggO P ft with
    | some n, some ag => if off + n ≤ c.ls.length then (compCells ag n ((c.ls.drop off).take n)).map .val else none
    | _, _ => none
  | _, _ => none

def sliceOf (P : Program) (T : TypeId) (l : Leaf) (lo hi : Option Int) : Option SVal :=
  match elemO P T with
  | some (_, n) =>
    let go (s : Nat) (xs : List (List PV)) : Option SVal :=
      if s = n ∧ 0 ≤ lo.getD 0 ∧ lo.getD 0 ≤ hi.getD xs.length ∧ hi.getD xs.length ≤ xs.length then
        some (one (.d (.sl s ((xs.take (hi.getD xs.length).toNat).drop (lo.getD 0).toNat)))) else none
    match l with
    | .d (.sl s xs) => go s xs
    | .al .tip _ s xs => go s xs
    | _ => none
  | none => none

def intOf? (st : St) (x : Operand) : Option (IntKind × Int) :=
  match valOf (fetch st x) with
  | some (.int k n) => some (k, n)
  | _ => none
/-- A bound of a slice expression: none: it isn't there; some none: it is no number. -/
def boundOf (st : St) : Option Operand → Option (Option Int)
  | none => some none
  | some x => (intOf? st x).map fun p => some p.2

def capsOf (st : St) : List Operand → Option (List (Nat × Nat × Nat))
  | [] => some []
  | x :: r =>
    match fetch st x, capsOf st r with
    | .val ⟨false, [.ptr k s o]⟩, some l => some ((k, s, o) :: l)
    | _, _ => none

def lenOfLeaf : Leaf → Option Nat
  | .d (.sl _ xs) => some xs.length
  | .al _ _ _ xs => some xs.length
  | .nilS => some 0
  | .emp => some 0
  | _ => none

def notSel : Op → Bool
  | .select .. => false
  | _ => true
def scalOk (st : St) (o : Oper) : Bool := notSel o.op && o.op.operands.toList.all fun x => (valOf (fetch st x)).isSome
def scalarOf (P : Program) (st : St) (o : Oper) : Option SVal :=
  if scalOk st o then
    match pureRun P (execOp (fun x => (valOf (fetch st x)).getD undef) o) with
    | some (.value v) => (compOfV v).map .val
    | _ => none
  else none


/-- Is a slice nil? -/
def nilOf : Leaf → Option Bool
  | .nilS => some true
  | .emp => some false
  | .d (.sl _ (_ :: _)) => some false
  | .al _ _ _ (_ :: _) => some false
  | _ => none

def evVal (P : Program) (st : St) (o : Oper) : Option SVal :=
  match o.op with
  | .move x => some (fetch st x)
  | .assign x =>
    match fetch st x with
    | .val c => if allPlain c.ls then some (.val ⟨c.agg, varLeaves c.ls (esz P 20 o.type)⟩) else none
    | _ => none
  | .pick c x y =>
    match valOf (fetch st c) with
    | some (.bool q) => some (if q then fetch st x else fetch st y)
    | _ => none
  | .load T x => match fetch st x with
    | .val ⟨false, [l]⟩ => loadOf P st T l
    | _ => none
  | .fieldAddr T x f => match fetch st x with
    | .val ⟨false, [l]⟩ => fieldAddrOf P T f l
    | _ => none
  | .indexAddr T x i => match fetch st x, intOf? st i with
    | .val ⟨false, [l]⟩, some (_, n) => indexAddrOf P T l n
    | _, _ => none
  | .nilCheck x => match fetch st x with
    | .val ⟨false, [l]⟩ => if isPtr l then some (one l) else none
    | _ => none
  | .build T parts => (fetchParts st parts.toList).bind (buildOf P T)
  | .field T x f => match fetch st x with
    | .val c => fieldOf P T f c
    | _ => none
  | .extract x i => match fetch st x with
    | .tup cs => (cs[i]?).map .val
    | _ => none
  | .makeFunc (.func f) fi ca => match capsOf st fi.toList, capsOf st ca.toList with
    | some l, some r => some (one (.fn f l r))
    | _, _ => none
  | .slice T x lo hi none => match fetch st x, boundOf st lo, boundOf st hi with
    | .val ⟨false, [.d (.v v)]⟩, _, _ => scalarOf P st o
    | .val ⟨false, [l]⟩, some l1, some h1 => sliceOf P T l l1 h1
    | _, _, _ => none
  | .call { callee := .builtin .len, args, argTypes } => match (args[0]?).map (fetch st), (argTypes[0]?).bind (elemO P) with
    | some (.val ⟨false, [l]⟩), some _ => (lenOfLeaf l).map fun (n : Nat) => one (.d (.v (.int .i64 (n : Int))))
    | _, _ => scalarOf P st o
  | .binOp .eql T x (.const (.slice none 0 0)) _ => match fetch st x, elemO P T with
    | .val ⟨false, [l]⟩, some _ => (nilOf l).map fun q => one (.d (.v (.bool q)))
    | _, _ => scalarOf P st o
  | .binOp .neq T x (.const (.slice none 0 0)) _ => match fetch st x, elemO P T with
    | .val ⟨false, [l]⟩, some _ => (nilOf l).map fun q => one (.d (.v (.bool (!q))))
    | _, _ => scalarOf P st o
  | .binOp .eql T x y _ => match valOf (fetch st x), valOf (fetch st y) with
    | some (.agg xs), some (.agg ys) => (eqAgg P T (.agg xs) (.agg ys)).map fun q => one (.d (.v (.bool q)))
    | _, _ => scalarOf P st o
  | .binOp .neq T x y _ => match valOf (fetch st x), valOf (fetch st y) with
    | some (.agg xs), some (.agg ys) => (eqAgg P T (.agg xs) (.agg ys)).map fun q => one (.d (.v (.bool (!q))))
    | _, _ => scalarOf P st o
  | _ => scalarOf P st o

section
variable {P : Program} {w w' : World} {g g' : Gh} {a : Act} {st : St}

def FreeLs (w : World) (g : Gh) (ls : List Leaf) (vs : List Value) : Prop := ∀ mk j, RepLs w g mk j ls vs

theorem RepLs.unshift {mk : Nat → Pos} (j : Nat) : ∀ {i : Nat} {ls : List Leaf} {vs : List Value}, RepLs w g (fun i => mk (j + i)) i ls vs → RepLs w g mk (j + i) ls vs
  | _, [], [], _ => trivial
  | _, [], _ :: _, h => h.elim
  | _, _ :: _, [], h => h.elim
  | i, _ :: _, _ :: _, h => ⟨h.1, RepLs.unshift j h.2⟩
theorem FreeLs.of {ls : List Leaf} {vs : List Value} (h : ∀ mk, RepLs w g mk 0 ls vs) : FreeLs w g ls vs := fun mk j => RepLs.unshift j (h _)
theorem RepLs.append {mk : Nat → Pos} : ∀ {j : Nat} {l1 l2 : List Leaf} {v1 v2 : List Value}, RepLs w g mk j l1 v1 → RepLs w g mk (j + l1.length) l2 v2 → RepLs w g mk j (l1 ++ l2) (v1 ++ v2)
  | _, [], _, [], _, _, h => by simpa using h
  | _, [], _, _ :: _, _, h, _ => h.elim
  | _, _ :: _, _, [], _, h, _ => h.elim
  | j, _ :: r, _, _ :: _, _, h, k => ⟨h.1, RepLs.append h.2 (by rwa [show j + 1 + r.length = j + (r.length + 1) by omega])⟩
theorem FreeLs.append {l1 l2 : List Leaf} {v1 v2 : List Value} (h : FreeLs w g l1 v1) (k : FreeLs w g l2 v2) : FreeLs w g (l1 ++ l2) (v1 ++ v2) := fun mk j => (h mk j).append (k mk _)
theorem FreeLs.length {ls : List Leaf} {vs : List Value} (h : FreeLs w g ls vs) : vs.length = ls.length := (h (.slot 0 0) 0).length
theorem FreeLs.take {ls : List Leaf} {vs : List Value} (h : FreeLs w g ls vs) (n : Nat) : FreeLs w g (ls.take n) (vs.take n) := fun mk j => (h mk j).take n
theorem FreeLs.drop {ls : List Leaf} {vs : List Value} (h : FreeLs w g ls vs) (n : Nat) : FreeLs w g (ls.drop n) (vs.drop n) :=
  FreeLs.of fun mk => RepLs.shift n (by have := (h (fun j => mk (j - n)) 0).drop n; simpa using this)

theorem scal_one {x : Value} (h : scal x = true) : x.cells = #[x] ∧ x.oneCell' = true := by
  cases x <;> simp [scal, Value.cells, Value.oneCell'] at h ⊢
theorem leaf_one {q : Pos} {l : Leaf} {v : Value} (h : RepLeaf w g q l v) (hu : notU l = true) : v.cells = #[v] ∧ v.oneCell' = true := by
  have htok : ∀ {m p s xs}, TokV w g m p s xs v → v.cells = #[v] ∧ v.oneCell' = true := by
    intro m p s xs h
    rcases h with ⟨_, rfl⟩ | ⟨b, c, cs, T, rfl, _⟩ <;> exact ⟨rfl, rfl⟩
  cases l with
  | d x =>
    cases x with
    | v y => obtain ⟨rfl, hs⟩ := h; exact scal_one hs
    | sl s xs =>
      rw [RepLeaf, RepPV] at h
      obtain ⟨A, c, rfl, _⟩ := h; exact ⟨rfl, rfl⟩
  | row m s xs => exact htok h
  | al m p s xs => exact htok h
  | nilS => obtain rfl := h; exact ⟨rfl, rfl⟩
  | emp => obtain ⟨ad, c, rfl⟩ := h; exact ⟨rfl, rfl⟩
  | ptr k s o => obtain ⟨b, _, rfl⟩ := h; exact ⟨rfl, rfl⟩
  | eptr p i o cs => obtain ⟨b, s, _, rfl, _⟩ := h; exact ⟨rfl, rfl⟩
  | fptr cs => obtain ⟨b, o, rfl, _⟩ := h; exact ⟨rfl, rfl⟩
  | fn f fi ca => obtain ⟨us, vs, rfl, _⟩ := h; exact ⟨rfl, rfl⟩
  | it s pos => obtain ⟨r, rfl, _⟩ := h; exact ⟨rfl, rfl⟩
  | undef => cases hu

theorem comp_cells {c : Comp} {v : Value} (h : ∀ mk, RepComp w g mk c v) (hu : allNotU c.ls = true) : FreeLs w g c.ls v.cells.toList := by
  obtain ⟨ag, ls⟩ := c
  cases ag with
  | true =>
    refine FreeLs.of fun mk => ?_
    obtain ⟨vs, rfl, h'⟩ := h mk
    exact h'
  | false =>
    refine FreeLs.of fun mk => ?_
    obtain ⟨l, hl, h'⟩ := h mk
    obtain rfl : ls = [l] := hl
    simp only [allNotU, Bool.and_true] at hu
    rw [(leaf_one h' hu).1]
    exact ⟨h', trivial⟩

theorem FreeLs.ofCells (vs : List Value) : FreeLs w g (vs.map ofCell) vs := fun _ _ => RepLs.ofCells vs

theorem foldl_set (off : Nat) : ∀ (vs : List Value) (k : Nat) (cells : Array Value), off + k + vs.length ≤ cells.size →
    ((vs.zipIdx k).foldl (fun cs (x : Value × Nat) => cs.setIfInBounds (off + x.2) x.1) cells).toList = cells.toList.take (off + k) ++ vs ++ cells.toList.drop (off + k + vs.length)
  | [], k, cells, _ => by simp
  | v :: r, k, cells, h => by
    simp only [List.length_cons] at h
    rw [List.zipIdx_cons, List.foldl_cons, foldl_set off r (k + 1) _ (by simp; omega)]
    simp only [Array.toList_setIfInBounds, List.length_cons]
    have hlen : off + k < cells.toList.length := by simp; omega
    rw [show off + (k + 1) = off + k + 1 by omega, show off + k + 1 + r.length = off + k + (r.length + 1) by omega]
    rw [List.drop_set_of_lt (by omega), List.take_set, List.take_succ_eq_append_getElem hlen]
    rw [List.set_append_right _ _ (by simp; omega)]
    have hlt : off + k < cells.size := by omega
    simp [Nat.min_eq_left (Nat.le_of_lt hlt)]

def PartsRep (w : World) (g : Gh) : List (Nat × Comp) → List (Nat × Value) → Prop
  | [], [] => True
  | (i, c) :: r, (j, v) :: vs => i = j ∧ (∀ mk, RepComp w g mk c v) ∧ PartsRep w g r vs
  | _, _ => False

theorem fill_rep (place : Nat → Option (Nat × Nat)) : ∀ (parts : List (Nat × Comp)) (vparts : List (Nat × Value)) (ls ls' : List Leaf) (cells : Array Value),
    PartsRep w g parts vparts → FreeLs w g ls cells.toList → fillL place ls parts = some ls' → ∃ cells', Instr.fill place cells vparts = some cells' ∧ FreeLs w g ls' cells'.toList
  | [], [], ls, ls', cells, _, h, he => by cases he; exact ⟨cells, rfl, h⟩
  | [], _ :: _, _, _, _, hp, _, _ => hp.elim
  | _ :: _, [], _, _, _, hp, _, _ => hp.elim
  | (i, c) :: r, (j, v) :: vs, ls, ls', cells, hp, h, he => by
    obtain ⟨rfl, hc, hp⟩ := hp
    unfold fillL at he
    split at he
    · rename_i off n hpl
      split at he
      · rename_i hn
        obtain ⟨hn1, hn2, hn3⟩ := hn
        have hcc := comp_cells hc hn3
        have hl := hcc.length
        have hl2 := h.length
        simp only [Array.length_toList] at hl hl2
        unfold Instr.fill
        simp only [hpl]
        rw [if_neg (by simp; omega)]
        refine fill_rep place r vs _ ls' _ hp ?_ he
        have := foldl_set off v.cells.toList 0 cells (by simp; omega)
        rw [← Array.foldl_toList, Array.toList_zipIdx, this]
        simp only [Nat.add_zero, Array.length_toList]
        rw [show off + v.cells.size = off + n by omega]
        exact ((h.take off).append hcc).append (h.drop (off + n))
      · cases he
    · cases he

theorem fetchParts_rep (I : Inv w g a st) : ∀ {l : List (Nat × Operand)} {parts : List (Nat × Comp)}, fetchParts st l = some parts → PartsRep w g parts (l.map fun x => (x.1, a.eval x.2))
  | [], parts, h => by cases h; trivial
  | (i, x) :: r, parts, h => by
    unfold fetchParts at h
    split at h
    · rename_i c l hc hl
      cases h
      have := I.fetchF x
      rw [hc] at this
      exact ⟨rfl, this, fetchParts_rep I hl⟩
    · cases h

theorem capsOf_rep (I : Inv w g a st) : ∀ {l : List Operand} {caps : List (Nat × Nat × Nat)}, capsOf st l = some caps → RepCaps g caps (l.map a.eval)
  | [], caps, h => by cases h; trivial
  | x :: r, caps, h => by
    unfold capsOf at h
    split at h
    · rename_i k s o l hc hl
      cases h
      have := I.fetchF x
      rw [hc] at this
      obtain ⟨l', hl', h'⟩ := this (.slot 0 0)
      cases hl'
      exact ⟨h', capsOf_rep I hl⟩
    · cases h

theorem fetch_one (I : Inv w g a st) {x : Operand} {l : Leaf} (h : fetch st x = .val ⟨false, [l]⟩) (q : Pos) : RepLeaf w g q l (a.eval x) := by
  have := I.fetchF x
  rw [h] at this
  obtain ⟨l', hl', h'⟩ := this (fun _ => q)
  cases hl'
  exact h'

theorem intOf?_eq (I : Inv w g a st) {x : Operand} {k : IntKind} {n : Int} (h : intOf? st x = some (k, n)) : a.eval x = .int k n := by
  unfold intOf? at h
  split at h
  · rename_i k' n' hv
    cases h
    exact valOf_eqF (I.fetchF x) hv
  · cases h

theorem boundOf_eq (I : Inv w g a st) {x : Option Operand} {n : Option Int} (h : boundOf st x = some n) :
    (x = none ∧ n = none) ∨ ∃ y k m, x = some y ∧ n = some m ∧ a.eval y = .int k m := by
  cases x with
  | none => cases h; exact .inl ⟨rfl, rfl⟩
  | some y =>
    simp only [boundOf, Option.map_eq_some_iff] at h
    obtain ⟨⟨k, m⟩, h, rfl⟩ := h
    exact .inr ⟨y, k, m, rfl, rfl, intOf?_eq I h⟩

theorem RepRow.drop {s b : Nat} : ∀ (k : Nat) {o : Nat} {xs : List (List PV)}, RepRow w g s b o xs → RepRow w g s b (o + k * s) (xs.drop k)
  | 0, _, _, h => by simpa using h
  | _ + 1, _, [], _ => by simp [RepRow]
  | k + 1, o, x :: r, h => by
    rw [RepRow] at h
    have := RepRow.drop k h.2.2
    rw [show o + s + k * s = o + (k + 1) * s by rw [Nat.succ_mul]; omega] at this
    simpa using this
theorem RepRow.take {s b : Nat} : ∀ (k : Nat) {o : Nat} {xs : List (List PV)}, RepRow w g s b o xs → RepRow w g s b o (xs.take k)
  | 0, _, _, _ => by simp [RepRow]
  | _ + 1, _, [], _ => by simp [RepRow]
  | k + 1, o, x :: r, h => by
    rw [RepRow] at h
    rw [List.take_succ_cons, RepRow]
    exact ⟨h.1, h.2.1, RepRow.take k h.2.2⟩

theorem run_sliceAt_slice {T e : TypeId} {n : Nat} (hu : P.underlying T = some (.slice e)) (hn : szO P e = some n) (b o len c : Nat) (lo hi : Option Value) (l h : Int)
    (hlo : lo = none ∧ l = 0 ∨ ∃ k, lo = some (.int k l)) (hhi : hi = none ∧ h = len ∨ ∃ k, hi = some (.int k h)) (h0 : 0 ≤ l) (h1 : l ≤ h) (h2 : h ≤ c) :
    (Instr.sliceAt T (.slice (some ⟨b, o, none⟩) len c) lo hi none).run P w =
      .ok (.slice (some (if c = l.toNat then ⟨b, o, none⟩ else ⟨b, o + l.toNat * n, none⟩)) (h.toNat - l.toNat) (c - l.toNat)) w := by
  have hh : 0 ≤ h := by omega
  have hlc : l ≤ (h.toNat : Int) := by omega
  unfold Instr.sliceAt
  simp only [Sem.run_bind, run_under hu w, Result.andThen_ok]
  unfold Instr.slice
  simp only [Sem.run_bind, run_under hu w, Result.andThen_ok]
  have hb : (Instr.sliceBounds true len c lo hi none).run P w = .ok (l.toNat, h.toNat, c) w := by
    unfold Instr.sliceBounds
    rcases hlo with ⟨rfl, rfl⟩ | ⟨k, rfl⟩ <;> rcases hhi with ⟨rfl, rfl⟩ | ⟨k', rfl⟩ <;>
      simp [Instr.sliceBound, asIntOf, h0, hh, h2, hlc] <;> exact fun hlt => absurd hlt (by omega)
  simp only [hb, Result.andThen_ok, run_szO hn]
  simp [add_at]
  split <;> rfl

theorem run_sliceAt_nil {T e : TypeId} {n : Nat} (hu : P.underlying T = some (.slice e)) (hn : szO P e = some n) (len c : Nat) (lo hi : Option Value) (l h : Int)
    (hlo : lo = none ∧ l = 0 ∨ ∃ k, lo = some (.int k l)) (hhi : hi = none ∧ h = len ∨ ∃ k, hi = some (.int k h)) (h0 : 0 ≤ l) (h1 : l ≤ h) (h2 : h ≤ c) :
    (Instr.sliceAt T (.slice none len c) lo hi none).run P w = .ok (.slice none (h.toNat - l.toNat) (c - l.toNat)) w := by
  have hh : 0 ≤ h := by omega
  have hlc : l ≤ (h.toNat : Int) := by omega
  unfold Instr.sliceAt
  simp only [Sem.run_bind, run_under hu w, Result.andThen_ok]
  unfold Instr.slice
  simp only [Sem.run_bind, run_under hu w, Result.andThen_ok]
  have hb : (Instr.sliceBounds true len c lo hi none).run P w = .ok (l.toNat, h.toNat, c) w := by
    unfold Instr.sliceBounds
    rcases hlo with ⟨rfl, rfl⟩ | ⟨k, rfl⟩ <;> rcases hhi with ⟨rfl, rfl⟩ | ⟨k', rfl⟩ <;>
      simp [Instr.sliceBound, asIntOf, h0, hh, h2, hlc] <;> exact fun hlt => absurd hlt (by omega)
  simp only [hb, Result.andThen_ok, run_szO hn]
  simp

/-- A piece of what is seen is seen. -/
theorem sub_rep {b o len s c : Nat} {xs : List (List PV)} {l h : Nat} (hl : l ≤ h) (hh : h ≤ xs.length) (hc : xs.length ≤ c)
    (hb : g.rd b) (hf : o + xs.length * s ≤ g.fr b) (hr : RepRow w g s b o xs) :
    RepPV w g (.sl s ((xs.take h).drop l)) (.slice (some (if c = l then ⟨b, o, none⟩ else ⟨b, o + l * s, none⟩)) (h - l) (c - l)) := by
  have hlen : ((xs.take h).drop l).length = h - l := by simp; omega
  rw [RepPV]
  refine ⟨_, c - l, by rw [hlen], by rw [hlen]; omega, by simp, ?_⟩
  by_cases hcl : c = l
  · left
    apply List.eq_nil_of_length_eq_zero
    rw [hlen]; omega
  · right
    refine ⟨b, o + l * s, by rw [if_neg hcl], hb, ?_, (hr.take h).drop l⟩
    rw [hlen]
    have h1 : l * s + (h - l) * s = h * s := by rw [← Nat.add_mul]; congr 1; omega
    have h2 : h * s ≤ xs.length * s := Nat.mul_le_mul_right _ hh
    omega

theorem sliceOf_sound {T : TypeId} {l : Leaf} {v : Value} {lo hi : Option Int} {vlo vhi : Option Value} {s : SVal} (q : Pos) (h : RepLeaf w g q l v)
    (hlo : lo = none ∧ vlo = none ∨ ∃ k n, lo = some n ∧ vlo = some (.int k n)) (hhi : hi = none ∧ vhi = none ∨ ∃ k n, hi = some n ∧ vhi = some (.int k n))
    (hs : sliceOf P T l lo hi = some s) : ∃ u, (Instr.sliceAt T v vlo vhi none).run P w = .ok u w ∧ RepF w g s u := by
  unfold sliceOf at hs
  split at hs
  · rename_i e n he
    unfold elemO at he
    split at he
    · rename_i e' hu
      simp only [Option.map_eq_some_iff, Prod.mk.injEq] at he
      obtain ⟨n', hn, rfl, rfl⟩ := he
      have hlo' : vlo = none ∧ lo.getD 0 = 0 ∨ ∃ k, vlo = some (.int k (lo.getD 0)) := by
        rcases hlo with ⟨rfl, rfl⟩ | ⟨k, m, rfl, rfl⟩
        · exact .inl ⟨rfl, rfl⟩
        · exact .inr ⟨k, rfl⟩
      have hhi' : ∀ len : Nat, vhi = none ∧ hi.getD len = len ∨ ∃ k, vhi = some (.int k (hi.getD len)) := by
        intro len
        rcases hhi with ⟨rfl, rfl⟩ | ⟨k, m, rfl, rfl⟩
        · exact .inl ⟨rfl, rfl⟩
        · exact .inr ⟨k, rfl⟩
      split at hs
      · rename_i s' xs
        simp only at hs
        split at hs
        · rename_i hcond
          obtain ⟨rfl, h0, h1, h2⟩ := hcond
          cases hs
          rw [RepLeaf, RepPV] at h
          obtain ⟨A, c, rfl, hc, hc0, hx⟩ := h
          rcases hx with rfl | ⟨b, o, rfl, hb, hf, hr⟩
          · simp only [List.length_nil] at h1 h2 hc ⊢
            have hz : hi.getD ((0 : Nat) : Int) = 0 ∧ lo.getD 0 = 0 := by omega
            have hz1 : hi.getD 0 = 0 := by simpa using hz.1
            have hrep : ∀ A' c', (A' = none → c' = 0) → RepF w g (one (.d (.sl s' ((([] : List (List PV)).take (hi.getD ((0 : Nat) : Int)).toNat).drop (lo.getD 0).toNat)))) (.slice A' 0 c') := by
              intro A' c' hA mk
              refine ⟨_, rfl, ?_⟩
              rw [RepLeaf, RepPV]
              exact ⟨A', c', by simp, by simp, hA, .inl (by simp)⟩
            cases A with
            | none =>
              refine ⟨.slice none 0 c, ?_, hrep _ _ hc0⟩
              have := run_sliceAt_nil (w := w) hu hn 0 c vlo vhi _ _ hlo' (hhi' 0) h0 h1 (by omega)
              simpa [hz1, hz.2] using this
            | some ad =>
              obtain ⟨b, o, sp⟩ := ad
              refine ⟨.slice (some (if c = 0 then ⟨b, o, sp⟩ else (⟨b, o, sp⟩ : Addr).add (0 * s'))) 0 c, ?_, hrep _ _ (by simp)⟩
              unfold Instr.sliceAt
              simp only [Sem.run_bind, run_under hu w, Result.andThen_ok]
              unfold Instr.slice
              simp only [Sem.run_bind, run_under hu w, Result.andThen_ok]
              have hb : (Instr.sliceBounds true 0 c vlo vhi none).run P w = .ok (0, 0, c) w := by
                unfold Instr.sliceBounds
                have hlo2 : vlo = none ∨ ∃ k, vlo = some (.int k 0) := by
                  rcases hlo' with h | ⟨k, h⟩
                  · exact .inl h.1
                  · exact .inr ⟨k, by rw [h, hz.2]⟩
                have hhi2 : vhi = none ∨ ∃ k, vhi = some (.int k 0) := by
                  rcases hhi' 0 with h | ⟨k, h⟩
                  · exact .inl h.1
                  · exact .inr ⟨k, by rw [h, hz.1]⟩
                rcases hlo2 with rfl | ⟨k, rfl⟩ <;> rcases hhi2 with rfl | ⟨k', rfl⟩ <;> simp [Instr.sliceBound, asIntOf]
              simp only [hb, Result.andThen_ok, run_szO hn]
              simp
              split <;> simp
          · refine ⟨_, run_sliceAt_slice hu hn b o _ c vlo vhi _ _ hlo' (hhi' _) h0 h1 (by omega), fun mk => ⟨_, rfl, ?_⟩⟩
            exact sub_rep (len := 0) (by omega) (by omega) hc hb hf hr
        · cases hs
      · rename_i p s' xs
        simp only at hs
        split at hs
        · rename_i hcond
          obtain ⟨rfl, h0, h1, h2⟩ := hcond
          cases hs
          rcases h with ⟨rfl, rfl⟩ | ⟨b, c, cs, T', rfl, hb, hh, hc, hsz, hf, hr⟩
          · simp only [List.length_nil] at h1 h2 ⊢
            have hz : hi.getD ((0 : Nat) : Int) = 0 ∧ lo.getD 0 = 0 := by omega
            have hz1 : hi.getD 0 = 0 := by simpa using hz.1
            refine ⟨_, run_sliceAt_nil hu hn 0 0 vlo vhi _ _ hlo' (hhi' 0) h0 h1 (by omega), fun mk => ⟨_, rfl, ?_⟩⟩
            rw [RepLeaf, RepPV]
            exact ⟨none, 0, by simp [hz1, hz.2], by simp, by simp, .inl (by simp)⟩
          · refine ⟨_, run_sliceAt_slice hu hn b _ _ c vlo vhi _ _ hlo' (hhi' _) h0 h1 (by omega), fun mk => ⟨_, rfl, ?_⟩⟩
            exact sub_rep (len := 0) (by omega) (by omega) hc (.inr ⟨p, hb⟩) (by omega) hr
        · cases hs
      · cases hs
    · cases he
  · cases hs

theorem RepLs.vars {mk : Nat → Pos} : ∀ {j : Nat} {ls : List Leaf} {es : List Nat} {vs : List Value}, RepLs w g mk j ls vs → RepLs w g mk j (varLeaves ls es) vs
  | _, [], es, [], _ => by cases es <;> simp [varLeaves, RepLs]
  | _, [], _, _ :: _, h => h.elim
  | _, _ :: _, _, [], h => h.elim
  | _, l :: r, [], v :: vs, h => by simpa [varLeaves] using h
  | _, l :: r, e :: es, v :: vs, h => by
    refine ⟨?_, RepLs.vars h.2⟩
    cases l <;> first | exact h.1 | exact .inl ⟨rfl, h.1⟩

theorem scalarOf_sound (I : Inv w g a st) {o : Oper} {s : SVal} (h : scalarOf P st o = some s) :
    ∃ v, (execOp a.eval o).run P w = .ok (.value v) w ∧ RepF w g s v := by
  unfold scalarOf at h
  split at h
  · rename_i hc
    unfold scalOk at hc
    simp only [Bool.and_eq_true, List.all_eq_true] at hc
    obtain ⟨h2, h1⟩ := hc
    split at h
    · rename_i v hv
      simp only [Option.map_eq_some_iff] at h
      obtain ⟨c, hc, rfl⟩ := h
      have he : execOp a.eval o = execOp (fun x => (valOf (fetch st x)).getD Go.undef) o := by
        refine execOp_congr o (fun cs b hs => by simp [hs, notSel] at h2) (fun x hx => ?_)
        have := h1 x (by simpa using hx)
        obtain ⟨y, hy⟩ := Option.isSome_iff_exists.1 this
        rw [hy]
        exact valOf_eqF (I.fetchF x) hy
      rw [he]
      exact ⟨v, pureRun_run _ hv, fun mk => RepComp.compOfV hc⟩
    · cases h
  · cases h
end

end Go.Ev

namespace Go.Ev

section
variable {P : Program} {w w' : World} {g g' : Gh} {a : Act} {st : St}

theorem run_value {x : Sem Value} {v : Value} {w w' : World} (h : x.run P w = .ok v w') : (do pure (Next.value (← x)) : Sem Next).run P w = .ok (.value v) w' := by
  simp [h]

theorem buildOf_sound {T : TypeId} {parts : List (Nat × Comp)} {vparts : Array (Nat × Value)} {s : SVal} (hp : PartsRep w g parts vparts.toList) (h : buildOf P T parts = some s) :
    ∃ v, (Instr.build T vparts).run P w = .ok v w ∧ RepF w g s v := by
  unfold buildOf at h
  split at h
  · rename_i z places hz hpl
    simp only [Option.map_eq_some_iff] at h
    obtain ⟨ls, hls, rfl⟩ := h
    obtain ⟨cells', h1, h2⟩ := fill_rep _ parts vparts.toList _ ls z.cells hp (FreeLs.ofCells z.cells.toList) hls
    refine ⟨.agg cells', run_build w T vparts cells' ?_, fun mk => ⟨_, rfl, h2 mk 0⟩⟩
    unfold placesOf at hpl
    unfold zeroOf at hz
    split at hpl
    · rename_i fs hu
      unfold Program.built
      cases hi : P.info? T with
      | none => simp [hi] at hz
      | some it =>
        simp only [hi, Option.bind_some] at hz
        simp only [hu, hz, hpl]
        simpa using h1
    · cases hpl
  · cases h

theorem fieldOf_sound {T : TypeId} {f : Nat} {c : Comp} {v : Value} {s : SVal} (hc : ∀ mk, RepComp w g mk c v) (h : fieldOf P T f c = some s) :
    ∃ u, (Instr.field T v f).run P w = .ok u w ∧ RepF w g s u := by
  obtain ⟨ag, ls⟩ := c
  unfold fieldOf at h
  simp only at h
  split at h
  · rename_i off ft hf
    rename_i x1 x2
    split at h
    · rename_i n ag' hn ha
      split at h
      · rename_i hle
        simp only [Option.map_eq_some_iff] at h
        obtain ⟨c', hc', rfl⟩ := h
        obtain ⟨vs, rfl, _⟩ := hc (.slot 0 0)
        have hfree : FreeLs w g ls vs.toList := FreeLs.of fun mk => by
          obtain ⟨us, hu, hr⟩ := hc mk
          cases hu; exact hr
        have hsub := (hfree.drop off).take n
        obtain ⟨h1, h2, _⟩ := compCells_rep hc' (hsub (.slot 0 0) 0)
        refine ⟨mkV ag' ((vs.toList.drop off).take n), ?_, fun mk => (compCells_rep hc' (hsub mk 0)).2.2⟩
        unfold fieldO at hf
        split at hf
        · rename_i fs hu
          simp only [Option.map_eq_some_iff, Prod.mk.injEq] at hf
          obtain ⟨x, hx, rfl, rfl⟩ := hf
          unfold Instr.field
          simp only [Sem.run_bind, run_under hu w, Result.andThen_ok, hx, asAgg, Sem.run_pure]
          unfold part
          rw [Sem.run_bind, run_isAggO ha w]
          have hvl := hfree.length
          simp only [Array.length_toList] at hvl
          cases ag' with
          | true =>
            simp only [Result.andThen_ok, if_true, Sem.run_bind, run_szO hn, Sem.run_pure, mkV]
            congr 2
            apply Array.ext'
            simp [Array.toList_extract, List.extract]
          | false =>
            have hn1 := h2 rfl
            subst hn1
            have hlt : x.offset < vs.size := by omega
            simp only [Result.andThen_ok, Bool.false_eq_true, if_false, mkV]
            have hd : (vs.toList.drop x.offset).take 1 = [vs[x.offset]] := by
              rw [List.drop_eq_getElem_cons (by simpa using hlt)]
              simp
            rw [Array.getElem?_eq_getElem hlt, hd]
            rfl
        · cases hf
      · cases h
    · cases h
  · cases h

theorem RepFs.get : ∀ {cs : List Comp} {vs : List Value} {i : Nat} {c : Comp}, RepFs w g cs vs → cs[i]? = some c → ∃ v, vs[i]? = some v ∧ ∀ mk, RepComp w g mk c v
  | [], _, i, _, _, h => by simp at h
  | _ :: _, [], _, _, h, _ => h.elim
  | x :: r, v :: vs, 0, c, h, hc => by
    simp only [List.getElem?_cons_zero, Option.some.injEq] at hc
    subst hc; exact ⟨v, rfl, h.1⟩
  | x :: r, v :: vs, i + 1, c, h, hc => by
    simp only [List.getElem?_cons_succ] at hc
    simpa using RepFs.get h.2 hc

theorem lenOfLeaf_eq {q : Pos} {l : Leaf} {v : Value} {n : Nat} (h : RepLeaf w g q l v) (hn : lenOfLeaf l = some n) : ∃ A c, v = .slice A n c := by
  cases l <;> try (simp [lenOfLeaf] at hn; done)
  · rename_i x
    cases x with
    | v y => simp [lenOfLeaf] at hn
    | sl s xs =>
      simp only [lenOfLeaf, Option.some.injEq] at hn; subst hn
      rw [RepLeaf, RepPV] at h
      obtain ⟨A, c, rfl, _⟩ := h
      exact ⟨A, c, rfl⟩
  · rename_i m p s xs
    simp only [lenOfLeaf, Option.some.injEq] at hn; subst hn
    rcases h with ⟨rfl, rfl⟩ | ⟨b, c, cs, T, rfl, _⟩
    · exact ⟨none, 0, rfl⟩
    · exact ⟨_, c, rfl⟩
  · simp only [lenOfLeaf, Option.some.injEq] at hn; subst hn
    exact ⟨none, 0, h⟩
  · simp only [lenOfLeaf, Option.some.injEq] at hn; subst hn
    obtain ⟨ad, c, h⟩ := h
    exact ⟨some ad, c, h⟩

theorem nilOf_eq {q : Pos} {l : Leaf} {v : Value} {b : Bool} (h : RepLeaf w g q l v) (hn : nilOf l = some b) : ∃ A n c, v = .slice A n c ∧ A.isNone = b := by
  cases l <;> try (simp [nilOf] at hn; done)
  · rename_i x
    cases x with
    | v y => simp [nilOf] at hn
    | sl s xs =>
      cases xs with
      | nil => simp [nilOf] at hn
      | cons y ys =>
        simp only [nilOf, Option.some.injEq] at hn; subst hn
        rw [RepLeaf, RepPV] at h
        obtain ⟨A, c, rfl, _, _, h⟩ := h
        rcases h with h | ⟨b, o, rfl, _⟩
        · cases h
        · exact ⟨_, _, c, rfl, rfl⟩
  · rename_i m p s xs
    cases xs with
    | nil => simp [nilOf] at hn
    | cons y ys =>
      simp only [nilOf, Option.some.injEq] at hn; subst hn
      rcases h with ⟨h, _⟩ | ⟨b, c, cs, T, rfl, _⟩
      · cases h
      · exact ⟨_, _, c, rfl, rfl⟩
  · simp only [nilOf, Option.some.injEq] at hn; subst hn
    exact ⟨none, 0, 0, h, rfl⟩
  · simp only [nilOf, Option.some.injEq] at hn; subst hn
    obtain ⟨ad, c, h⟩ := h
    exact ⟨_, 0, c, h, rfl⟩

theorem evVal_sound (I : Inv w g a st) {o : Oper} {s : SVal} (h : evVal P st o = some s) :
    ∃ v, (execOp a.eval o).run P w = .ok (.value v) w ∧ RepF w g s v := by
  unfold evVal at h
  split at h
  · rename_i x hop
    cases h
    exact ⟨a.eval x, by simp only [execOp, hop]; rfl, I.fetchF x⟩
  · rename_i x hop
    split at h
    · rename_i c hc
      split at h
      · cases h
        have hf := I.fetchF x
        rw [hc] at hf
        refine ⟨a.eval x, by simp only [execOp, hop]; rfl, fun mk => ?_⟩
        obtain ⟨ag, ls⟩ := c
        have h1 := hf mk
        cases ag with
        | true => obtain ⟨vs, hv, hr⟩ := h1; exact ⟨vs, hv, hr.vars⟩
        | false =>
          obtain ⟨l, hl, hr⟩ := h1
          obtain rfl : ls = [l] := hl
          have hr2 : RepLs w g mk 0 [l] [a.eval x] := ⟨hr, trivial⟩
          have := hr2.vars (es := esz P 20 o.type)
          cases hes : esz P 20 o.type with
          | nil => rw [hes] at this; exact ⟨l, rfl, hr⟩
          | cons e es => rw [hes] at this; exact ⟨varLeaf l e, by cases es <;> rfl, this.1⟩
      · cases h
    · cases h
  · rename_i c x y hop
    split at h
    · rename_i q hq
      cases h
      have hc := valOf_eqF (I.fetchF c) hq
      refine ⟨if q then a.eval x else a.eval y, ?_, ?_⟩
      · simp [execOp, hop, hc, asBool]
      · cases q
        · exact I.fetchF y
        · exact I.fetchF x
    · cases h
  · rename_i T x hop
    split at h
    · rename_i l hl
      obtain ⟨u, h1, h2⟩ := loadOf_sound I (.slot 0 0 0) (fetch_one I hl _) h
      exact ⟨u, by simp only [execOp, hop]; exact run_value h1, h2⟩
    · cases h
  · rename_i T x f hop
    split at h
    · rename_i l hl
      obtain ⟨u, h1, h2⟩ := fieldAddrOf_sound (w := w) (.slot 0 0 0) (fetch_one I hl _) h
      exact ⟨u, by simp only [execOp, hop]; exact run_value h1, h2⟩
    · cases h
  · rename_i T x i hop
    split at h
    · rename_i l k n hl hi
      obtain ⟨u, h1, h2⟩ := indexAddrOf_sound (w := w) (k := k) (.slot 0 0 0) (fetch_one I hl _) h
      exact ⟨u, by simp only [execOp, hop, intOf?_eq I hi]; exact run_value h1, h2⟩
    · cases h
  · rename_i x hop
    split at h
    · rename_i l hl
      split at h
      · rename_i hp
        cases h
        have hv := fetch_one I hl (.slot 0 0 0)
        have hsome : ∃ ad, a.eval x = .pointer (some ad) := by
          cases l <;> try (simp [isPtr] at hp; done)
          · obtain ⟨b, _, hv⟩ := hv; exact ⟨_, hv⟩
          · obtain ⟨b, s, _, hv, _⟩ := hv; exact ⟨_, hv⟩
          · obtain ⟨b, o, hv, _⟩ := hv; exact ⟨_, hv⟩
        obtain ⟨ad, had⟩ := hsome
        refine ⟨a.eval x, ?_, fun mk => ⟨l, rfl, fetch_one I hl _⟩⟩
        simp only [execOp, hop, had]
        rfl
      · cases h
    · cases h
  · rename_i T parts hop
    simp only [Option.bind_eq_some_iff] at h
    obtain ⟨ps, h1, h2⟩ := h
    obtain ⟨v, h3, h4⟩ := buildOf_sound (vparts := parts.map fun x => (x.1, a.eval x.2)) (by simpa using fetchParts_rep I h1) h2
    refine ⟨v, ?_, h4⟩
    simp only [execOp, hop]
    exact run_value h3
  · rename_i T x f hop
    split at h
    · rename_i c hc
      have hf := I.fetchF x
      rw [hc] at hf
      obtain ⟨u, h1, h2⟩ := fieldOf_sound hf h
      exact ⟨u, by simp only [execOp, hop]; exact run_value h1, h2⟩
    · cases h
  · rename_i x i hop
    split at h
    · rename_i cs hc
      simp only [Option.map_eq_some_iff] at h
      obtain ⟨c, h1, rfl⟩ := h
      have hf := I.fetchF x
      rw [hc] at hf
      obtain ⟨vs, hv, hr⟩ := hf
      obtain ⟨v, h2, h3⟩ := hr.get h1
      refine ⟨v, ?_, h3⟩
      have h2' : vs[i]? = some v := by simpa using h2
      simp only [execOp, hop, hv]
      refine run_value ?_
      simp [Instr.extract, h2']
    · cases h
  · rename_i f fi ca hop
    split at h
    · rename_i l r hl hr
      cases h
      refine ⟨.func (.func f) (fi.map a.eval) (ca.map a.eval), by simp only [execOp, hop]; rfl, fun mk => ⟨_, rfl, _, _, rfl, ?_, ?_⟩⟩
      · simpa using capsOf_rep I hl
      · simpa using capsOf_rep I hr
    · cases h
  · rename_i T x lo hi hop
    split at h
    · exact scalarOf_sound I h
    · rename_i l l1 h1 hne hl hlo hhi
      have hb : ∀ {y : Option Operand} {n : Option Int}, boundOf st y = some n → n = none ∧ y.map a.eval = none ∨ ∃ k m, n = some m ∧ y.map a.eval = some (.int k m) := by
        intro y n hy
        rcases boundOf_eq I hy with ⟨rfl, rfl⟩ | ⟨z, k, m, rfl, rfl, hz⟩
        · exact .inl ⟨rfl, rfl⟩
        · exact .inr ⟨k, m, rfl, by simp [hz]⟩
      obtain ⟨u, h2, h3⟩ := sliceOf_sound (w := w) (.slot 0 0 0) (fetch_one I hl _) (hb hlo) (hb hhi) h
      refine ⟨u, ?_, h3⟩
      simp only [execOp, hop]
      exact run_value h2
    · cases h
  · rename_i args argTypes hop
    split at h
    · rename_i l e hl he
      simp only [Option.map_eq_some_iff] at h hl
      obtain ⟨x, hx, hl⟩ := hl
      obtain ⟨n, hn, rfl⟩ := h
      obtain ⟨A, c, hv⟩ := lenOfLeaf_eq (fetch_one I hl (.slot 0 0 0)) hn
      simp only [Option.bind_eq_some_iff] at he
      obtain ⟨t, ht, he⟩ := he
      refine ⟨.int .i64 n, ?_, fun mk => ⟨_, rfl, rfl, rfl⟩⟩
      unfold elemO at he
      split at he
      · rename_i e' hu
        have hmap : (args.map a.eval)[0]? = some (.slice A n c) := by simp [hx, hv]
        simp [execOp, hop, resolve, invoke, builtin, Builtin.len_, hmap, ht, run_under hu, goInt]
      · cases he
    · exact scalarOf_sound I h
  · rename_i T x yt hop
    split at h
    · rename_i l e hl he
      simp only [Option.map_eq_some_iff] at h
      obtain ⟨q, hq, rfl⟩ := h
      obtain ⟨A, n, c, hv, hA⟩ := nilOf_eq (fetch_one I hl (.slot 0 0 0)) hq
      unfold elemO at he
      split at he
      · rename_i e' hu
        refine ⟨.bool q, ?_, fun mk => ⟨_, rfl, rfl, rfl⟩⟩
        have := Lib.run_eql_slice_nil (P := P) w T e' A n c 0 0 hu
        simp only [execOp, hop, hv]
        refine run_value ?_
        rw [← hA]
        simpa [eqGuard, Act.eval] using this
      · cases he
    · exact scalarOf_sound I h
  · rename_i T x yt hop
    split at h
    · rename_i l e hl he
      simp only [Option.map_eq_some_iff] at h
      obtain ⟨q, hq, rfl⟩ := h
      obtain ⟨A, n, c, hv, hA⟩ := nilOf_eq (fetch_one I hl (.slot 0 0 0)) hq
      unfold elemO at he
      split at he
      · rename_i e' hu
        refine ⟨.bool (!q), ?_, fun mk => ⟨_, rfl, rfl, rfl⟩⟩
        have := run_neq_slice_nil_any (P := P) w T e' A n c 0 0 hu
        simp only [execOp, hop, hv]
        refine run_value ?_
        rw [← hA]
        simpa [eqGuard, Act.eval] using this
      · cases he
    · exact scalarOf_sound I h
  · rename_i T x y yt _ hop
    split at h
    · rename_i xs ys hx hy
      simp only [Option.map_eq_some_iff] at h
      obtain ⟨q, hq, rfl⟩ := h
      refine ⟨.bool q, ?_, fun mk => ⟨_, rfl, rfl, rfl⟩⟩
      simp only [execOp, hop, valOf_eqF (I.fetchF x) hx, valOf_eqF (I.fetchF y) hy]
      exact run_value (eqAgg_run hq).1
    · exact scalarOf_sound I h
  · rename_i T x y yt _ hop
    split at h
    · rename_i xs ys hx hy
      simp only [Option.map_eq_some_iff] at h
      obtain ⟨q, hq, rfl⟩ := h
      refine ⟨.bool (!q), ?_, fun mk => ⟨_, rfl, rfl, rfl⟩⟩
      simp only [execOp, hop, valOf_eqF (I.fetchF x) hx, valOf_eqF (I.fetchF y) hy]
      exact run_value (eqAgg_run hq).2
    · exact scalarOf_sound I h
  · exact scalarOf_sound I h
end

end Go.Ev

namespace Go.Ev

/-- With one block more. -/
def newG (g : Gh) (b : Nat) (tag : Own) (fr _lo : Nat) : Gh where
  own x := if x = b then tag else g.own x
  fr x := if x = b then fr else g.fr x

/-- A leaf as a value that others may see as well. -/
def Leaf.data (s : Nat) : Leaf → Option PV
  | .d x => some x
  | .row .tip n xs => some (.sl n xs)
  | .al .tip _ n xs => some (.sl n xs)
  | .nilS => some (.sl s [])
  | .emp => some (.sl s [])
  | _ => none
def datas : List Leaf → List Nat → Option (List PV)
  | [], _ => some []
  | l :: r, ss => match l.data (ss.headD 0), datas r ss.tail with
    | some x, some y => some (x :: y)
    | _, _ => none
def chunks (n : Nat) : Nat → List PV → List (List PV)
  | 0, _ => []
  | k + 1, l => l.take n :: chunks n k (l.drop n)
def rep {α : Type} (k : Nat) (l : List α) : List α := (List.replicate k l).flatten

/-- The cells of a row of len zeroes of n cells each. -/
def zeroLit (z : Value) (len n : Nat) : List Leaf :=
  if len * n = 0 then [] else (((Array.range (len * n)).map (z.cells[· % z.cells.size]!)).toList.map ofCell)
/-- The leaves of a literal, and its elements' type's cells. -/
def literalOf (P : Program) (T : TypeId) (len : Nat) (parts : List (Nat × Comp)) : Option (Nat × List Leaf × List Nat) :=
  match elemO P T with
  | some (e, n) =>
    match zeroOf P e with
    | some z =>
      if len * n ≤ 65536 then
        (fillL (fun i => some (i * n, n)) (zeroLit z len n) parts).map fun ls => (n, ls, rep len (esz P 20 e))
      else none
    | none => none
  | none => none

def ptrS (d : Nat) : SVal := one (.ptr 0 d 0)

/-- What an operation gives that makes a variable or a row; a new variable's cells. -/
def evNew (P : Program) (st : St) (d : Nat) (o : Oper) : Option (SVal × Option (List Leaf)) :=
  match o.op with
  | .alloc T =>
    match zeroOf P T with
    | some z => some (ptrS d, some (varLeaves (z.cells.toList.map ofCell) (esz P 20 T)))
    | none => none
  | .box T x =>
    match fetch st x with
    | .val c => if allPlain c.ls then some (ptrS d, some (varLeaves c.ls (esz P 20 T))) else none
    | _ => none
  | .buildSlice T len parts =>
    match (fetchParts st parts.toList).bind (literalOf P T len) with
    | some (n, ls, es) => (datas ls es).map fun l => (one (.row .tip n (chunks n len l)), none)
    | none => none
  | _ => none

/-- With a variable more. -/
def withBox (st : St) (d : Nat) : Option (List Leaf) → St
  | some ls => { st with boxes := putK d ls (st.boxes.headD []) :: st.boxes.tail }
  | none => st

section
variable {P : Program} {w w' : World} {g g' : Gh} {a : Act} {st : St}

theorem newG_up (o : Obj) (tag : Own) (fr lo : Nat) : Up w g (w.alloc o) (newG g w.heap.size tag fr lo) where
  own b hb := by
    have : b ≠ w.heap.size := by omega
    simp [newG, this, Gh.lo]
  heap b hb _ := by
    have : b ≠ w.heap.size := by omega
    show (w.heap.push o)[b]? = _
    simp [Array.getElem?_push, this]
theorem newG_new (tag : Own) (fr lo : Nat) : (newG g w.heap.size tag fr lo).own w.heap.size = tag ∧ (newG g w.heap.size tag fr lo).fr w.heap.size = fr ∧ (newG g w.heap.size tag fr lo).lo w.heap.size = 0 := by simp [newG, Gh.lo]
theorem heap_new (o : Obj) : (w.alloc o).heap[w.heap.size]? = some o := by
  show (w.heap.push o)[w.heap.size]? = _
  simp
theorem newG_old {b : Nat} (tag : Own) (fr lo : Nat) (h : (newG g w.heap.size tag fr lo).own b ≠ tag) : (newG g w.heap.size tag fr lo).own b = g.own b := by
  by_cases hb : b = w.heap.size
  · subst hb; simp [newG] at h
  · simp [newG, hb]

theorem Inv.newRow (I : Inv w g a st) (o : Obj) (m : Mode) (p : Pos) (fr lo : Nat) (hm : m = .own → ∀ b, g.own b ≠ .row .own p) :
    Inv (w.alloc o) (newG g w.heap.size (.row m p) fr lo) a st := by
  have hne : ∀ b, b ≠ w.heap.size → (newG g w.heap.size (.row m p) fr lo).own b = g.own b := fun b hb => by simp [newG, hb]
  have hnew : (newG g w.heap.size (.row m p) fr lo).own w.heap.size = .row m p := by simp [newG]
  refine I.up (newG_up o _ fr lo) (fun b b' k s h h' => ?_) (fun b b' q h h' => ?_) (fun b hb => ?_) (fun b k s h => ?_)
  · by_cases e : b = w.heap.size
    · subst e; rw [hnew] at h; cases h
    · by_cases e' : b' = w.heap.size
      · subst e'; rw [hnew] at h'; cases h'
      · rw [hne b e] at h; rw [hne b' e'] at h'; exact I.injB b b' k s h h'
  · by_cases e : b = w.heap.size
    · by_cases e' : b' = w.heap.size
      · rw [e, e']
      · subst e; rw [hnew] at h; rw [hne b' e'] at h'
        cases h; exact absurd h' (hm rfl b')
    · by_cases e' : b' = w.heap.size
      · subst e'; rw [hnew] at h'; rw [hne b e] at h
        cases h'; exact absurd h (hm rfl b)
      · rw [hne b e] at h; rw [hne b' e'] at h'; exact I.injO b b' q h h'
  · have : b ≠ w.heap.size := by rw [World.size_alloc] at hb; omega
    rw [hne b this]
    exact I.top b (by rw [World.size_alloc] at hb; omega)
  · by_cases e : b = w.heap.size
    · subst e; rw [hnew] at h; cases h
    · rw [hne b e] at h; exact I.tagB b k s h

theorem Inv.newBox (I : Inv w g a st) {s : Nat} {ls : List Leaf} {vs : Array Value} {T : TypeId} {f0 : Frm} {rest : List Frm} (hst : st.boxes = f0 :: rest)
    (hnone : look f0 s = none) (hr : RepLs w g (.box 0 s) 0 ls vs.toList) :
    Inv (w.alloc (.cells vs T)) (newG g w.heap.size (.box 0 s) 0 0) a { st with boxes := putK s ls f0 :: rest } ∧
      RepF (w.alloc (.cells vs T)) (newG g w.heap.size (.box 0 s) 0 0) (ptrS s) (.pointer (some ⟨w.heap.size, 0, none⟩)) := by
  have hne : ∀ b, b ≠ w.heap.size → (newG g w.heap.size (.box 0 s) 0 0).own b = g.own b := fun b hb => by simp [newG, hb]
  have hnew : (newG g w.heap.size (.box 0 s) 0 0).own w.heap.size = .box 0 s := by simp [newG]
  have hno : ∀ b, g.own b ≠ .box 0 s := by
    intro b h
    obtain ⟨f, ls', h1, h2⟩ := I.tagB b 0 s h
    rw [hst] at h1
    simp only [List.getElem?_cons_zero, Option.some.injEq] at h1
    subst h1
    rw [hnone] at h2; cases h2
  have U : Up w g (w.alloc (.cells vs T)) (newG g w.heap.size (.box 0 s) 0 0) := newG_up _ _ _ _
  constructor
  · constructor
    · exact fun t u h => ⟨(I.slots t u h).1, (I.slots t u h).2.up U I.top⟩
    · intro k f u ls' h1 h2
      have hold : ∀ f', st.boxes[k]? = some f' → look f' u = some ls' → ∃ b vs' T', (newG g w.heap.size (.box 0 s) 0 0).own b = .box k u ∧ (w.alloc (.cells vs T)).heap[b]? = some (.cells vs' T' (0, 0)) ∧
          RepLs (w.alloc (.cells vs T)) (newG g w.heap.size (.box 0 s) 0 0) (.box k u) 0 ls' vs'.toList := by
        intro f' h3 h4
        obtain ⟨b, vs', T', ho, hh, hr'⟩ := I.boxes k f' u ls' h3 h4
        have hlt : b < w.heap.size := lt_of_own I.top (by rw [ho]; simp)
        exact ⟨b, vs', T', by rw [(U.own b hlt).1]; exact ho, by rw [U.heap b hlt (by rw [ho]; simp)]; exact hh, hr'.up U I.top⟩
      cases k with
      | zero =>
        simp only [List.getElem?_cons_zero, Option.some.injEq] at h1
        subst h1
        rw [look_putK] at h2
        by_cases e : s = u
        · subst e
          simp only [if_true, Option.some.injEq] at h2
          subst h2
          exact ⟨w.heap.size, vs, T, hnew, heap_new _, hr.up U I.top⟩
        · simp only [e, if_false] at h2
          exact hold f0 (by rw [hst]; rfl) h2
      | succ k =>
        simp only [List.getElem?_cons_succ] at h1
        exact hold f (by rw [hst]; simpa using h1) h2
    · intro b b' k u h h'
      by_cases e : b = w.heap.size
      · by_cases e' : b' = w.heap.size
        · rw [e, e']
        · subst e; rw [hnew] at h; cases h; rw [hne b' e'] at h'; exact absurd h' (hno b')
      · by_cases e' : b' = w.heap.size
        · subst e'; rw [hnew] at h'; cases h'; rw [hne b e] at h; exact absurd h (hno b)
        · rw [hne b e] at h; rw [hne b' e'] at h'; exact I.injB b b' k u h h'
    · intro b b' q h h'
      by_cases e : b = w.heap.size
      · subst e; rw [hnew] at h; cases h
      · by_cases e' : b' = w.heap.size
        · subst e'; rw [hnew] at h'; cases h'
        · rw [hne b e] at h; rw [hne b' e'] at h'; exact I.injO b b' q h h'
    · intro b hb
      have : b ≠ w.heap.size := by rw [World.size_alloc] at hb; omega
      rw [hne b this]
      exact I.top b (by rw [World.size_alloc] at hb; omega)
    · intro b k u h
      by_cases e : b = w.heap.size
      · subst e; rw [hnew] at h; cases h
        exact ⟨putK s ls f0, ls, rfl, by rw [look_putK]; simp⟩
      · rw [hne b e] at h
        obtain ⟨f, ls', h1, h2⟩ := I.tagB b k u h
        cases k with
        | zero =>
          rw [hst] at h1
          simp only [List.getElem?_cons_zero, Option.some.injEq] at h1
          subst h1
          refine ⟨putK s ls f0, ?_⟩
          by_cases eu : s = u
          · exact ⟨ls, rfl, by rw [look_putK]; simp [eu]⟩
          · exact ⟨ls', rfl, by rw [look_putK]; simp [eu, h2]⟩
        | succ k =>
          rw [hst] at h1
          exact ⟨f, ls', by simpa using h1, h2⟩
    · exact I.defers
  · exact fun mk => ⟨_, rfl, w.heap.size, hnew, rfl⟩

/-! ### Data -/
theorem leaf_data {q : Pos} {l : Leaf} {v : Value} {s : Nat} {x : PV} (h : RepLeaf w g q l v) (hx : l.data s = some x) : RepPV w g x v := by
  have htok : ∀ {p n xs}, TokV w g .tip p n xs v → RepPV w g (.sl n xs) v := by
    intro p n xs h
    rw [RepPV]
    rcases h with ⟨rfl, rfl⟩ | ⟨b, c, cs, T, rfl, hb, hh, hc, hsz, hf, hr⟩
    · exact ⟨none, 0, rfl, Nat.le_refl _, fun _ => rfl, .inl rfl⟩
    · exact ⟨_, c, rfl, hc, by simp, .inr ⟨b, g.lo b, rfl, .inr ⟨p, hb⟩, by omega, hr⟩⟩
  cases l with
  | d y => cases hx; exact h
  | row m n xs =>
    cases m with
    | own => cases hx
    | tip => cases hx; exact htok h
  | al m p n xs =>
    cases m with
    | own => cases hx
    | tip => cases hx; exact htok h
  | nilS =>
    cases hx
    rw [RepPV]
    exact ⟨none, 0, h, Nat.le_refl _, fun _ => rfl, .inl rfl⟩
  | emp =>
    cases hx
    rw [RepPV]
    obtain ⟨ad, c, h⟩ := h
    exact ⟨some ad, c, h, Nat.zero_le _, by simp, .inl rfl⟩
  | _ => cases hx

theorem datas_cells {b : Nat} : ∀ {mk : Nat → Pos} {j o : Nat} {ls : List Leaf} {vs : List Value} {es : List Nat} {l : List PV}, RepLs w g mk j ls vs → datas ls es = some l →
    (∀ i v, vs[i]? = some v → w.cell? ⟨b, o + i, none⟩ = some v) → RepCells w g b o l
  | _, _, _, [], [], _, _, _, h, _ => by cases h; simp [RepCells]
  | _, _, _, [], _ :: _, _, _, h, _, _ => h.elim
  | _, _, _, _ :: _, [], _, _, h, _, _ => h.elim
  | mk, j, o, x :: r, v :: vs, es, l, hr, h, hc => by
    unfold datas at h
    split at h
    · rename_i y z h1 h2
      cases h
      rw [RepCells]
      refine ⟨⟨v, by simpa using hc 0 v rfl, leaf_data hr.1 h1⟩, datas_cells hr.2 h2 (fun i u hu => ?_)⟩
      have := hc (i + 1) u (by simpa using hu)
      rwa [show o + (i + 1) = o + 1 + i by omega] at this
    · cases h
theorem datas_length : ∀ {ls : List Leaf} {es : List Nat} {l : List PV}, datas ls es = some l → l.length = ls.length
  | [], _, _, h => by cases h; rfl
  | x :: r, es, l, h => by
    unfold datas at h
    split at h
    · rename_i y z h1 h2
      cases h
      simp [datas_length h2]
    · cases h
theorem chunks_row {b n : Nat} : ∀ (k : Nat) {o : Nat} {l : List PV}, RepCells w g b o l → l.length = k * n → RepRow w g n b o (chunks n k l)
  | 0, _, _, _, _ => by simp [chunks, RepRow]
  | k + 1, o, l, h, hl => by
    rw [Nat.succ_mul] at hl
    rw [chunks, RepRow]
    exact ⟨by rw [List.length_take]; omega, h.takeN n, chunks_row k (h.dropN n) (by rw [List.length_drop]; omega)⟩
theorem chunks_length (n : Nat) : ∀ (k : Nat) (l : List PV), (chunks n k l).length = k
  | 0, _ => rfl
  | k + 1, l => by simp [chunks, chunks_length n k]

theorem fillL_length (place : Nat → Option (Nat × Nat)) : ∀ {parts : List (Nat × Comp)} {ls ls' : List Leaf}, fillL place ls parts = some ls' → ls'.length = ls.length
  | [], _, _, h => by cases h; rfl
  | (i, c) :: r, ls, ls', h => by
    unfold fillL at h
    split at h
    · split at h
      · rename_i hc
        have := fillL_length place h
        simp at this
        omega
      · cases h
    · cases h

theorem run_literal {T e : TypeId} {len n : Nat} {z : Value} {parts : Array (Nat × Value)} {cells : Array Value} (hu : P.underlying T = some (.slice e)) (hn : szO P e = some n)
    (hz : zeroOf P e = some z) (hl : len * n ≤ 65536)
    (hf : Instr.fill (fun i => some (i * n, n)) (if len * n = 0 then #[] else (Array.range (len * n)).map (z.cells[· % z.cells.size]!)) parts.toList = some cells) :
    (Instr.buildSlice T len parts).run P w = .ok (.slice (some ⟨w.heap.size, 0, none⟩) len len) (w.alloc (.cells cells e)) := by
  unfold szO at hn
  unfold zeroOf at hz
  cases hi : P.info? e with
  | none => simp [hi] at hn
  | some ie =>
    rw [hi] at hn hz
    obtain rfl : ie.size = n := by simpa using hn
    simp only [Option.bind_some] at hz
    have hbig : ¬ len * ie.size > 2 ^ 24 := by omega
    by_cases h0 : len * ie.size = 0
    · rw [if_pos h0] at hf
      simp [Instr.buildSlice, run_under hu, sizeOf, typeInfo, zeroValue, hi, hz, hbig, h0, newRow]
      rw [show (Array.range 0) = #[] from rfl, Array.map_empty, hf]
      simp
    · rw [if_neg h0] at hf
      simp [Instr.buildSlice, run_under hu, sizeOf, typeInfo, zeroValue, hi, hz, hbig, h0, hf, newRow]

theorem zeroLit_rep (z : Value) (len n : Nat) : FreeLs w g (zeroLit z len n) (if len * n = 0 then #[] else (Array.range (len * n)).map (z.cells[· % z.cells.size]!)).toList := by
  unfold zeroLit
  split
  · exact fun _ _ => trivial
  · exact FreeLs.ofCells _

theorem zeroLit_length (z : Value) (len n : Nat) : (zeroLit z len n).length = len * n := by
  unfold zeroLit
  split
  · rename_i h; simp [h]
  · simp

theorem run_newVar_cells (T : TypeId) (v : Value) (w : World) : (newVar T v).run P w = .ok ⟨w.heap.size, 0, none⟩ (w.alloc (.cells v.cells T)) := by
  simp [newVar, newRow]

/-- An operation that makes a variable or a row: its value, the world behind it. -/
theorem evNew_sound (I : Inv w g a st) {d : Nat} {o : Oper} {s : SVal} {nb : Option (List Leaf)} (h : evNew P st d o = some (s, nb))
    {f0 : Frm} {rest : List Frm} (hst : st.boxes = f0 :: rest) (hnone : nb.isSome = true → look f0 d = none) :
    ∃ v w' g', (execOp a.eval o).run P w = .ok (.value v) w' ∧ Up w g w' g' ∧ RepS w' g' d s v ∧ w'.os = w.os ∧ w'.tape = w.tape ∧ (w'.output = w.output ∧ ∀ a, w'.frozen? a = w.frozen? a) ∧ w.heap.size ≤ w'.heap.size ∧
      Inv w' g' a (withBox st d nb) := by
  have hwb : ∀ ls, withBox st d (some ls) = { st with boxes := putK d ls f0 :: rest } := fun ls => by simp [withBox, hst]
  unfold evNew at h
  split at h
  · rename_i T hop
    split at h
    · rename_i z hz
      cases h
      have hr : RepLs w g (.box 0 d) 0 (varLeaves (z.cells.toList.map ofCell) (esz P 20 T)) z.cells.toList := (RepLs.ofCells z.cells.toList).vars
      obtain ⟨h1, h2⟩ := I.newBox (T := T) hst (hnone rfl) hr
      refine ⟨_, _, _, ?_, newG_up _ _ _ _, h2.toS, rfl, rfl, ⟨rfl, fun a => RowKit.frozen?_alloc_cells _ _ _ a⟩, by simp, by rw [hwb]; exact h1⟩
      simp only [execOp, hop]
      refine run_value ?_
      unfold zeroOf at hz
      cases hi : P.info? T with
      | none => simp [hi] at hz
      | some it =>
        simp only [hi, Option.bind_some] at hz
        simp [Instr.alloc, zeroValue, typeInfo, hi, hz, run_newVar_cells]
    · cases h
  · rename_i T x hop
    split at h
    · rename_i c hc
      split at h
      · rename_i hp
        cases h
        have hf := I.fetchF x
        rw [hc] at hf
        have hnu : allNotU c.ls = true := by
          have : ∀ ls : List Leaf, allPlain ls = true → allNotU ls = true := by
            intro ls
            induction ls with
            | nil => intro _; rfl
            | cons l r ih =>
              intro h
              simp only [allPlain, Bool.and_eq_true] at h
              simp only [allNotU, Bool.and_eq_true]
              exact ⟨by cases l <;> simp_all [notU, Leaf.plain], ih h.2⟩
          exact this _ hp
        have hr : RepLs w g (.box 0 d) 0 (varLeaves c.ls (esz P 20 T)) (a.eval x).cells.toList := ((comp_cells hf hnu) _ _).vars
        obtain ⟨h1, h2⟩ := I.newBox (T := T) hst (hnone rfl) hr
        refine ⟨_, _, _, ?_, newG_up _ _ _ _, h2.toS, rfl, rfl, ⟨rfl, fun a => RowKit.frozen?_alloc_cells _ _ _ a⟩, by simp, by rw [hwb]; exact h1⟩
        simp only [execOp, hop]
        refine run_value ?_
        simp [Instr.box, run_newVar_cells]
      · cases h
    · cases h
  · rename_i T len parts hop
    split at h
    · rename_i n ls es hlit
      simp only [Option.map_eq_some_iff, Prod.mk.injEq] at h
      obtain ⟨l, hl, rfl, rfl⟩ := h
      simp only [Option.bind_eq_some_iff] at hlit
      obtain ⟨ps, hps, hlit⟩ := hlit
      unfold literalOf at hlit
      split at hlit
      · rename_i e n' he
        split at hlit
        · rename_i z hz
          split at hlit
          · rename_i hsmall
            simp only [Option.map_eq_some_iff, Prod.mk.injEq] at hlit
            obtain ⟨ls', hls, rfl, rfl, rfl⟩ := hlit
            unfold elemO at he
            split at he
            · rename_i e' hu
              simp only [Option.map_eq_some_iff, Prod.mk.injEq] at he
              obtain ⟨n'', hn, rfl, rfl⟩ := he
              obtain ⟨cells, h1, h2⟩ := fill_rep _ ps _ _ ls' _ (fetchParts_rep I hps) (zeroLit_rep (w := w) (g := g) z len n'') hls
              have hlen := fillL_length _ hls
              rw [zeroLit_length] at hlen
              have hcl := h2.length
              simp only [Array.length_toList] at hcl
              have hrun := run_literal (w := w) (parts := parts.map fun x => (x.1, a.eval x.2)) hu hn hz hsmall (by simpa using h1)
              have U : Up w g (w.alloc (.cells cells e')) (newG g w.heap.size (.row .tip (.slot d 0 0)) (len * n'') 0) := newG_up _ _ _ _
              obtain ⟨e1, e2, e3⟩ := newG_new (w := w) (g := g) (.row .tip (.slot d 0 0)) (len * n'') 0
              refine ⟨.slice (some ⟨w.heap.size, 0, none⟩) len len, _, _, ?_, U, ⟨_, rfl, ?_⟩, rfl, rfl, ⟨rfl, fun a => RowKit.frozen?_alloc_cells _ _ _ a⟩, by simp, I.newRow _ .tip (.slot d 0 0) (len * n'') 0 (by simp)⟩
              · simp only [execOp, hop]
                exact run_value hrun
              · refine .inr ⟨w.heap.size, len, cells, e', by rw [e3, chunks_length], e1, heap_new _, by rw [chunks_length]; omega, by rw [e3]; omega, by rw [e3, e2, chunks_length]; omega, ?_⟩
                rw [e3]
                refine chunks_row len ?_ (by rw [datas_length hl]; omega)
                refine datas_cells ((h2 (.slot 0 0) 0).up U I.top) hl (fun i v hv => ?_)
                rw [Nat.zero_add]
                show (w.alloc (.cells cells e')).cell? _ = _
                have hnw := heap_new (w := w) (.cells cells e')
                simp only [World.cell?, hnw]
                simpa using hv
            · cases he
          · cases hlit
        · cases hlit
      · cases hlit
    · cases h
  · cases h

end

end Go.Ev

namespace Go.Ev

/-! ### All leaves of a state -/
def mpLs (f : Pos → Leaf → Leaf) (mk : Nat → Pos) : Nat → List Leaf → List Leaf
  | _, [] => []
  | j, l :: r => f (mk j) l :: mpLs f mk (j + 1) r
def mpComp (f : Pos → Leaf → Leaf) (mk : Nat → Pos) (c : Comp) : Comp := ⟨c.agg, mpLs f mk 0 c.ls⟩
def mpComps (f : Pos → Leaf → Leaf) (t : Nat) : Nat → List Comp → List Comp
  | _, [] => []
  | i, c :: r => mpComp f (.slot t i) c :: mpComps f t (i + 1) r
def mpS (f : Pos → Leaf → Leaf) (t : Nat) : SVal → SVal
  | .val c => .val (mpComp f (.slot t 0) c)
  | .tup cs => .tup (mpComps f t 0 cs)
def mpK {α : Type} (h : Nat → α → α) : List (Nat × α) → List (Nat × α)
  | [] => []
  | (k, x) :: r => (k, h k x) :: mpK h r
def mpBoxes (f : Pos → Leaf → Leaf) : Nat → List Frm → List Frm
  | _, [] => []
  | k, x :: r => mpK (fun s ls => mpLs f (.box k s) 0 ls) x :: mpBoxes f (k + 1) r
def St.mp (f : Pos → Leaf → Leaf) (st : St) : St := ⟨mpK (mpS f) st.slots, mpBoxes f 0 st.boxes⟩

theorem look_mpK {α : Type} (h : Nat → α → α) : ∀ (l : List (Nat × α)) (t : Nat), look (mpK h l) t = (look l t).map (h t)
  | [], _ => rfl
  | (k, x) :: r, t => by
    simp only [mpK, look]
    by_cases e : k = t
    · subst e; simp
    · simp [e, look_mpK h r t]
theorem get_mpBoxes (f : Pos → Leaf → Leaf) : ∀ (l : List Frm) (i k : Nat), (mpBoxes f i l)[k]? = (l[k]?).map (mpK fun s ls => mpLs f (.box (i + k) s) 0 ls)
  | [], _, _ => by simp [mpBoxes]
  | x :: r, i, 0 => by simp [mpBoxes]
  | x :: r, i, k + 1 => by
    simp only [mpBoxes, List.getElem?_cons_succ, get_mpBoxes f r (i + 1) k]
    rw [show i + 1 + k = i + (k + 1) by omega]

section
variable {P : Program} {w w' : World} {g g' : Gh} {a : Act} {st : St} {f : Pos → Leaf → Leaf}

theorem RepLs.mp (hf : ∀ q l v, RepLeaf w g q l v → RepLeaf w' g' q (f q l) v) {mk : Nat → Pos} : ∀ {j : Nat} {ls : List Leaf} {vs : List Value},
    RepLs w g mk j ls vs → RepLs w' g' mk j (mpLs f mk j ls) vs
  | _, [], [], _ => trivial
  | _, [], _ :: _, h => h.elim
  | _, _ :: _, [], h => h.elim
  | _, _ :: _, _ :: _, h => ⟨hf _ _ _ h.1, RepLs.mp hf h.2⟩
theorem RepComp.mp (hf : ∀ q l v, RepLeaf w g q l v → RepLeaf w' g' q (f q l) v) {mk : Nat → Pos} {c : Comp} {v : Value} (h : RepComp w g mk c v) : RepComp w' g' mk (mpComp f mk c) v := by
  obtain ⟨ag, ls⟩ := c
  cases ag with
  | true => obtain ⟨vs, hv, h⟩ := h; exact ⟨vs, hv, h.mp hf⟩
  | false =>
    obtain ⟨l, hl, h⟩ := h
    obtain rfl : ls = [l] := hl
    exact ⟨f (mk 0) l, rfl, hf _ _ _ h⟩
theorem RepComps.mp (hf : ∀ q l v, RepLeaf w g q l v → RepLeaf w' g' q (f q l) v) {t : Nat} : ∀ {i : Nat} {cs : List Comp} {vs : List Value},
    RepComps w g t i cs vs → RepComps w' g' t i (mpComps f t i cs) vs
  | _, [], [], _ => trivial
  | _, [], _ :: _, h => h.elim
  | _, _ :: _, [], h => h.elim
  | _, _ :: _, _ :: _, h => ⟨h.1.mp hf, RepComps.mp hf h.2⟩
theorem RepS.mp (hf : ∀ q l v, RepLeaf w g q l v → RepLeaf w' g' q (f q l) v) {t : Nat} {s : SVal} {v : Value} (h : RepS w g t s v) : RepS w' g' t (mpS f t s) v := by
  cases s with
  | val c => exact RepComp.mp hf h
  | tup cs => obtain ⟨vs, hv, h⟩ := h; exact ⟨vs, hv, h.mp hf⟩

theorem Inv.mp (I : Inv w g a st) (hf : ∀ q l v, RepLeaf w g q l v → RepLeaf w' g' q (f q l) v)
    (hb : ∀ b k s, g.own b = .box k s → g'.own b = .box k s ∧ w'.heap[b]? = w.heap[b]?)
    (hb' : ∀ b k s, g'.own b = .box k s → g.own b = .box k s)
    (injO : ∀ b b' p, g'.own b = .row .own p → g'.own b' = .row .own p → b = b')
    (top : ∀ b, w'.heap.size ≤ b → g'.own b = .free) : Inv w' g' a (st.mp f) where
  slots t s h := by
    simp only [St.mp, look_mpK, Option.map_eq_some_iff] at h
    obtain ⟨s', h, rfl⟩ := h
    exact ⟨(I.slots t s' h).1, (I.slots t s' h).2.mp hf⟩
  boxes k fr s ls h1 h2 := by
    simp only [St.mp, get_mpBoxes, Option.map_eq_some_iff, Nat.zero_add] at h1
    obtain ⟨fr', h1, rfl⟩ := h1
    simp only [look_mpK, Option.map_eq_some_iff] at h2
    obtain ⟨ls', h2, rfl⟩ := h2
    obtain ⟨b, vs, T, ho, hh, hr⟩ := I.boxes k fr' s ls' h1 h2
    obtain ⟨e1, e2⟩ := hb b k s ho
    exact ⟨b, vs, T, e1, by rw [e2]; exact hh, hr.mp hf⟩
  injB b b' k s h h' := I.injB b b' k s (hb' b k s h) (hb' b' k s h')
  injO := injO
  top := top
  tagB b k s h := by
    obtain ⟨fr, ls, h1, h2⟩ := I.tagB b k s (hb' b k s h)
    refine ⟨_, mpLs f (.box k s) 0 ls, by simp only [St.mp, get_mpBoxes, h1, Option.map_some, Nat.zero_add]; rfl, by simp [look_mpK, h2]⟩
  defers := I.defers
end

/-! ### What happens to memory over a piece of a function -/
structure Ext (w : World) (g : Gh) (w' : World) (g' : Gh) : Prop where
  os : w'.os = w.os
  tape : w'.tape = w.tape
  output : w'.output = w.output
  size : w.heap.size ≤ w'.heap.size
  keeps : Keeps w g w' g'
  imm : ∀ b, g.own b = .imm ∨ g.own b = .other → w'.heap[b]? = w.heap[b]? ∧ g'.own b = g.own b ∧ g'.fr b = g.fr b
  fre : ∀ b, b < w.heap.size → g.own b = .free → g'.own b = .free
  outer : ∀ b k s, g.own b = .box (k + 1) s → g'.own b = .box (k + 1) s
  frz : ∀ a, w'.frozen? a = w.frozen? a

theorem Ext.refl (w : World) (g : Gh) : Ext w g w g := ⟨rfl, rfl, rfl, Nat.le_refl _, Keeps.refl w g, fun _ _ => ⟨rfl, rfl, rfl⟩, fun _ _ h => h, fun _ _ _ h => h, fun _ => rfl⟩
theorem Ext.trans {w w1 w2 : World} {g g1 g2 : Gh} (h : Ext w g w1 g1) (k : Ext w1 g1 w2 g2) : Ext w g w2 g2 where
  os := k.os.trans h.os
  tape := k.tape.trans h.tape
  output := k.output.trans h.output
  size := Nat.le_trans h.size k.size
  keeps := h.keeps.trans k.keeps
  imm b hb := by
    obtain ⟨e1, e2, e3⟩ := h.imm b hb
    obtain ⟨f1, f2, f3⟩ := k.imm b (by rw [e2]; exact hb)
    exact ⟨f1.trans e1, f2.trans e2, f3.trans e3⟩
  fre b hb h0 := k.fre b (Nat.lt_of_lt_of_le hb h.size) (h.fre b hb h0)
  outer b i s h0 := k.outer b i s (h.outer b i s h0)
  frz a := (k.frz a).trans (h.frz a)
theorem Up.ext {w w' : World} {g g' : Gh} (U : Up w g w' g') (top : ∀ b, w.heap.size ≤ b → g.own b = .free) (h1 : w'.os = w.os) (h2 : w'.tape = w.tape) (h3 : w'.output = w.output ∧ ∀ a, w'.frozen? a = w.frozen? a)
    (h4 : w.heap.size ≤ w'.heap.size) : Ext w g w' g' where
  os := h1
  tape := h2
  output := h3.1
  size := h4
  keeps := U.keeps top
  imm b hb := by
    have hlt : b < w.heap.size := lt_of_own top (by rcases hb with h | h <;> rw [h] <;> simp)
    exact ⟨U.heap b hlt (by rcases hb with h | h <;> rw [h] <;> simp), (U.own b hlt).1, (U.own b hlt).2.1⟩
  fre b hb h := by rw [(U.own b hb).1]; exact h
  outer b k s h := by rw [(U.own b (lt_of_own top (by rw [h]; simp))).1]; exact h
  frz := h3.2
theorem Ext.drew (w : World) (g : Gh) (n : Nat) : Ext w g { w with drawn := n } g := ⟨rfl, rfl, rfl, Nat.le_refl _, ⟨fun _ h => h, fun _ _ => Nat.le_refl _, fun _ _ _ _ => rfl⟩, fun _ _ => ⟨rfl, rfl, rfl⟩, fun _ _ h => h, fun _ _ _ h => h, fun _ => rfl⟩

/-! ### Letting go -/
def relLeaf (p q : Pos) : Leaf → Leaf
  | .row m n xs => if q = p then (match m with | .tip => .d (.sl n xs) | .own => .undef) else .row m n xs
  | .al m p' n xs => if p' = p then (match m with | .tip => .d (.sl n xs) | .own => .undef) else .al m p' n xs
  | .eptr p' i o cs => if p' = p then .undef else .eptr p' i o cs
  | .it s pos => if q = p then .undef else .it s pos
  | l => l

/-- The leaf at q takes over the row that stood at p. -/
def claimLeaf (m : Mode) (p q q' : Pos) (l : Leaf) : Leaf :=
  match l with
  | .al m' p' n xs => if m' = m ∧ q' = q ∧ p' = p then .row m n xs else relLeaf p q' (.al m' p' n xs)
  | l => relLeaf p q' l
def renG (g : Gh) (m : Mode) (p q : Pos) : Gh := { g with own := fun x => if g.own x = .row m p then .row m q else g.own x }

def leafAt (st : St) : Pos → Option Leaf
  | .slot t i j =>
    match look st.slots t with
    | some (.val c) => if i = 0 then c.ls[j]? else none
    | some (.tup cs) => (cs[i]?).bind fun c => c.ls[j]?
    | none => none
  | .box k s j => (boxCells st k s).bind fun ls => ls[j]?

/-- The leaf at q, if it is a copy of a row, becomes its holder. -/
def St.claim (st : St) (q : Pos) : St :=
  match leafAt st q with
  | some (.al .tip p _ _) => st.mp (claimLeaf .tip p q)
  | some (.al .own p _ _) => if p = q then st else (st.mp (relLeaf q)).mp (claimLeaf .own p q)
  | _ => st
def claims (mk : Nat → Pos) : Nat → Nat → St → St
  | 0, _, st => st
  | n + 1, j, st => claims mk n (j + 1) (st.claim (mk j))

def freeOwn (g : Gh) (p : Pos) : Gh := { g with own := fun x => if g.own x = .row .own p then .free else g.own x }

section
variable {P : Program} {w w' : World} {g g' : Gh} {a : Act} {st : St}

theorem tok_data {p : Pos} {n : Nat} {xs : List (List PV)} {v : Value} (h : TokV w g .tip p n xs v) : RepPV w g (.sl n xs) v := leaf_data (l := .al .tip p n xs) (q := p) (s := 0) h rfl

/-- A change of ghosts alone: whoever isn't touched stays. -/
theorem TokV.ghost (hk : Keeps w g w g') {m : Mode} {p : Pos} {n : Nat} {xs : List (List PV)} {v : Value} (h : TokV w g m p n xs v)
    (ho : ∀ b, g.own b = .row m p → g'.own b = .row m p ∧ g'.fr b = g.fr b ∧ g'.lo b = g.lo b) : TokV w g' m p n xs v := by
  rcases h with h | ⟨b, c, cs, T, hv, hb, hh, hc, hs, hf, hr⟩
  · exact .inl h
  · obtain ⟨e1, e2, e3⟩ := ho b hb
    refine .inr ⟨b, c, cs, T, by rw [e3]; exact hv, e1, hh, hc, by rw [e3]; exact hs, by rw [e3, e2]; exact hf, ?_⟩
    rw [e3]
    exact RepRow.keep hk n b xs _ (fun _ _ _ => rfl) hr

theorem RepPtr.ghost (hb : ∀ b k s, g.own b = .box k s → g'.own b = .box k s) {k s o : Nat} {v : Value} (h : RepPtr g k s o v) : RepPtr g' k s o v := by
  obtain ⟨b, h1, h2⟩ := h
  exact ⟨b, hb b k s h1, h2⟩
theorem RepCaps.ghost (hb : ∀ b k s, g.own b = .box k s → g'.own b = .box k s) : ∀ {caps : List (Nat × Nat × Nat)} {vs : List Value}, RepCaps g caps vs → RepCaps g' caps vs
  | [], [], _ => trivial
  | [], _ :: _, h => h.elim
  | (_, _, _) :: _, [], h => h.elim
  | (_, _, _) :: _, _ :: _, h => ⟨h.1.ghost hb, RepCaps.ghost hb h.2⟩

/-- What is let go at p: the rest stays, if ghosts turn at rows of p alone, and what others may see of them stays to be seen. -/
theorem relLeaf_rep {p : Pos} (hk : Keeps w g w g') (hb : ∀ b k s, g.own b = .box k s → g'.own b = .box k s)
    (ho : ∀ b m q, q ≠ p → g.own b = .row m q → g'.own b = .row m q ∧ g'.fr b = g.fr b ∧ g'.lo b = g.lo b) (q : Pos) (l : Leaf) (v : Value) (h : RepLeaf w g q l v) :
    RepLeaf w g' q (relLeaf p q l) v := by
  cases l with
  | d x => exact RepPV.keep hk x v h
  | row m n xs =>
    simp only [relLeaf]
    by_cases e : q = p
    · subst e
      simp only [if_true]
      cases m with
      | tip => exact RepPV.keep hk _ v (tok_data h)
      | own => trivial
    · simp only [e, if_false]
      exact TokV.ghost hk h fun b hb => ho b m q e hb
  | al m p' n xs =>
    simp only [relLeaf]
    by_cases e : p' = p
    · subst e
      simp only [if_true]
      cases m with
      | tip => exact RepPV.keep hk _ v (tok_data h)
      | own => trivial
    · simp only [e, if_false]
      exact TokV.ghost hk h fun b hb => ho b m p' e hb
  | nilS => exact h
  | emp => exact h
  | ptr k s o => exact RepPtr.ghost hb h
  | eptr p' i o cs =>
    simp only [relLeaf]
    by_cases e : p' = p
    · simp only [e, if_true]; trivial
    · simp only [e, if_false]
      obtain ⟨b, s, h1, h2, h3, h4⟩ := h
      obtain ⟨e1, e2, e3⟩ := ho b .own p' e h1
      refine ⟨b, s, e1, by rw [e3]; exact h2, h3, ?_⟩
      rw [e3]
      exact RepCells.keep hk b cs _ (fun _ _ _ => rfl) h4
  | fptr cs =>
    obtain ⟨b, o, h1, h2, h3, h4⟩ := h
    exact ⟨b, o, h1, hk.rd b h2, Nat.le_trans h3 (hk.fr b h2), RepCells.keep hk b cs o (fun _ _ _ => rfl) h4⟩
  | fn f fi ca =>
    obtain ⟨us, vs, h1, h2, h3⟩ := h
    exact ⟨us, vs, h1, h2.ghost hb, h3.ghost hb⟩
  | it s pos =>
    simp only [relLeaf]
    by_cases e : q = p
    · simp only [e, if_true]; trivial
    · simp only [e, if_false]
      obtain ⟨r, h1, h2, h3⟩ := h
      exact ⟨r, h1, (ho r .own q e h2).1, h3⟩
  | undef => trivial

theorem freeOwn_own {p : Pos} {b : Nat} (h : g.own b ≠ .row .own p) : (freeOwn g p).own b = g.own b := by simp [freeOwn, h]
theorem freeOwn_keeps (w : World) (g : Gh) (p : Pos) : Keeps w g w (freeOwn g p) where
  rd b hb := by
    rcases hb with h | ⟨q, h⟩
    · exact .inl (by rw [freeOwn_own (by rw [h]; simp)]; exact h)
    · exact .inr ⟨q, by rw [freeOwn_own (by rw [h]; simp)]; exact h⟩
  fr b _ := Nat.le_refl _
  cell _ _ _ _ := rfl

/-- A row of the call's own is let go. -/
theorem Inv.free (I : Inv w g a st) (p : Pos) : Inv w (freeOwn g p) a (st.mp (relLeaf p)) ∧ Ext w g w (freeOwn g p) ∧ ∀ b, (freeOwn g p).own b ≠ .row .own p := by
  have hbox : ∀ b k s, g.own b = .box k s → (freeOwn g p).own b = .box k s := fun b k s h => by rw [freeOwn_own (by rw [h]; simp)]; exact h
  have hback : ∀ b t, (freeOwn g p).own b = t → t ≠ .free → g.own b = t := by
    intro b t h ht
    by_cases e : g.own b = .row .own p
    · simp [freeOwn, e] at h; exact absurd h.symm ht
    · rwa [freeOwn_own e] at h
  refine ⟨I.mp (relLeaf_rep (freeOwn_keeps w g p) hbox fun b m q hq h => ?_) (fun b k s h => ⟨hbox b k s h, rfl⟩) (fun b k s h => hback b _ h (by simp)) (fun b b' q h h' => ?_) (fun b hb => ?_), ?_, ?_⟩
  · exact ⟨by rw [freeOwn_own (by rw [h]; intro e; cases e; exact hq rfl)]; exact h, rfl, rfl⟩
  · exact I.injO b b' q (hback b _ h (by simp)) (hback b' _ h' (by simp))
  · rw [freeOwn_own (by rw [I.top b hb]; simp)]; exact I.top b hb
  · refine ⟨rfl, rfl, rfl, Nat.le_refl _, freeOwn_keeps w g p, fun b hb => ⟨rfl, ?_, rfl⟩, fun b _ h => by rw [freeOwn_own (by rw [h]; simp)]; exact h, fun b k s h => by rw [freeOwn_own (by rw [h]; simp)]; exact h, fun _ => rfl⟩
    exact freeOwn_own (by rcases hb with h | h <;> rw [h] <;> simp)
  · intro b h
    by_cases e : g.own b = .row .own p
    · simp [freeOwn, e] at h
    · rw [freeOwn_own e] at h; exact e h

theorem renG_keeps (w : World) (g : Gh) (m : Mode) (p q : Pos) : Keeps w g w (renG g m p q) where
  rd x hx := by
    rcases hx with h | ⟨p', h⟩
    · exact .inl (by simp [renG, h])
    · by_cases e : (Own.row .tip p') = .row m p
      · cases e; exact .inr ⟨q, by simp [renG, h]⟩
      · exact .inr ⟨p', by simp only [renG, h, e, if_false]⟩
  fr _ _ := Nat.le_refl _
  cell _ _ _ _ := rfl

theorem claimLeaf_rep (m : Mode) (p q q' : Pos) (l : Leaf) (v : Value) (h : RepLeaf w g q' l v) : RepLeaf w (renG g m p q) q' (claimLeaf m p q q' l) v := by
  have hrel : RepLeaf w (renG g m p q) q' (relLeaf p q' l) v := by
    refine relLeaf_rep (renG_keeps w g m p q) (fun b k s h => by simp [renG, h]) (fun b m' q'' hq hb => ⟨?_, rfl, rfl⟩) q' l v h
    simp only [renG, hb]
    rw [if_neg (by intro e; cases e; exact hq rfl)]
  cases l <;> try exact hrel
  rename_i m' p' n xs
  simp only [claimLeaf]
  split
  · rename_i hc
    obtain ⟨rfl, rfl, rfl⟩ := hc
    rcases h with h | ⟨b, c, cs, T, hv, hb, hh, hc, hs, hf, hr⟩
    · exact .inl h
    · exact .inr ⟨b, c, cs, T, hv, by simp [renG, hb], hh, hc, hs, hf, RepRow.keep (renG_keeps w g m' p' q') n b xs _ (fun _ _ _ => rfl) hr⟩
  · exact hrel

theorem Inv.rename (I : Inv w g a st) (m : Mode) (p q : Pos) (hq : m = .own → ∀ b, g.own b ≠ .row .own q) :
    Inv w (renG g m p q) a (st.mp (claimLeaf m p q)) ∧ Ext w g w (renG g m p q) := by
  have hother : ∀ b, g.own b ≠ .row m p → (renG g m p q).own b = g.own b := fun b h => by simp [renG, h]
  constructor
  · refine I.mp (claimLeaf_rep m p q) (fun b k s h => ⟨by rw [hother b (by rw [h]; simp)]; exact h, rfl⟩) (fun b k s h => ?_) (fun b b' x h h' => ?_) (fun b hb => ?_)
    · by_cases e : g.own b = .row m p
      · simp [renG, e] at h
      · rwa [hother b e] at h
    · by_cases e : g.own b = .row m p
      · by_cases e' : g.own b' = .row m p
        · have : m = .own := by simp [renG, e] at h; exact h.1
          subst this
          exact I.injO b b' p e e'
        · rw [hother b' e'] at h'
          simp [renG, e] at h
          obtain ⟨rfl, rfl⟩ := h
          exact absurd h' (hq rfl b')
      · rw [hother b e] at h
        by_cases e' : g.own b' = .row m p
        · simp [renG, e'] at h'
          obtain ⟨rfl, rfl⟩ := h'
          exact absurd h (hq rfl b)
        · rw [hother b' e'] at h'
          exact I.injO b b' x h h'
    · rw [hother b (by rw [I.top b hb]; simp)]; exact I.top b hb
  · refine ⟨rfl, rfl, rfl, Nat.le_refl _, renG_keeps w g m p q, fun b hb => ⟨rfl, ?_, rfl⟩, fun b _ h => by rw [hother b (by rw [h]; simp)]; exact h, fun b k s h => by rw [hother b (by rw [h]; simp)]; exact h, fun _ => rfl⟩
    exact hother b (by rcases hb with h | h <;> rw [h] <;> simp)

theorem Inv.claim (I : Inv w g a st) (q : Pos) : ∃ g', Inv w g' a (st.claim q) ∧ Ext w g w g' := by
  unfold St.claim
  split
  · rename_i p _ _ _
    exact ⟨_, I.rename .tip p q (by simp)⟩
  · rename_i p _ _ _
    split
    · exact ⟨g, I, Ext.refl w g⟩
    · obtain ⟨I1, E1, h1⟩ := I.free q
      obtain ⟨I2, E2⟩ := I1.rename .own p q (fun _ => h1)
      exact ⟨_, I2, E1.trans E2⟩
  · exact ⟨g, I, Ext.refl w g⟩

theorem Inv.claims {mk : Nat → Pos} : ∀ (n j : Nat) {g : Gh} {st : St}, Inv w g a st → ∃ g', Inv w g' a (Ev.claims mk n j st) ∧ Ext w g w g'
  | 0, _, g, st, I => ⟨g, I, Ext.refl w g⟩
  | n + 1, j, g, st, I => by
    obtain ⟨g1, I1, E1⟩ := I.claim (mk j)
    obtain ⟨g2, I2, E2⟩ := Inv.claims (mk := mk) n (j + 1) I1
    exact ⟨g2, I2, E1.trans E2⟩

end

end Go.Ev

namespace Go.Ev

def putS (st : St) (d : Nat) (s : SVal) : St := { st with slots := putK d s st.slots }

def assignOf (P : Program) (st : St) (d : Nat) (t : TypeId) (x : Operand) : Option St :=
  match fetch st x with
  | .val c => some (claims (.slot d 0) c.ls.length 0 (putS st d (.val ⟨c.agg, varLeaves c.ls (esz P 20 t)⟩)))
  | _ => none

def setBox : List Frm → Nat → Nat → List Leaf → List Frm
  | [], _, _, _ => []
  | x :: r, 0, s, ls => putK s ls x :: r
  | x :: r, k + 1, s, ls => x :: setBox r k s ls

def storeOf (P : Program) (st : St) (T : TypeId) (x y : Operand) : Option St :=
  match fetch st x, fetch st y, szO P T with
  | .val ⟨false, [.ptr k s o]⟩, .val c, some n =>
    match boxCells st k s with
    | some ls =>
      if c.ls.length = n ∧ o + n ≤ ls.length ∧ allNotU c.ls = true then
        some (claims (.box k s) n o { st with boxes := setBox st.boxes k s (ls.take o ++ varLeaves c.ls (esz P 20 T) ++ ls.drop (o + n)) })
      else none
    | none => none
  | _, _, _ => none

section
variable {P : Program} {w w' : World} {g g' : Gh} {a : Act} {st : St}

theorem varLeaves_length : ∀ (ls : List Leaf) (es : List Nat), (varLeaves ls es).length = ls.length
  | [], [] => rfl
  | [], _ :: _ => rfl
  | _ :: _, [] => rfl
  | _ :: r, _ :: es => by simp [varLeaves, varLeaves_length r es]

theorem RepComp.vars {mk : Nat → Pos} {c : Comp} {v : Value} {es : List Nat} (h : RepComp w g mk c v) : RepComp w g mk ⟨c.agg, varLeaves c.ls es⟩ v := by
  obtain ⟨ag, ls⟩ := c
  cases ag with
  | true => obtain ⟨vs, hv, hr⟩ := h; exact ⟨vs, hv, hr.vars⟩
  | false =>
    obtain ⟨l, hl, hr⟩ := h
    obtain rfl : ls = [l] := hl
    have hr2 : RepLs w g mk 0 [l] [v] := ⟨hr, trivial⟩
    have := hr2.vars (es := es)
    cases es with
    | nil => exact ⟨l, rfl, hr⟩
    | cons e es => exact ⟨varLeaf l e, by cases es <;> rfl, this.1⟩

theorem assignOf_sound (I : Inv w g a st) {d : Nat} {t : TypeId} {x : Operand} {st' : St} (hd : d < a.tmps.size) (h : assignOf P st d t x = some st') :
    ∃ g', Inv w g' (a.put (some d) (a.eval x)) st' ∧ Ext w g w g' := by
  unfold assignOf at h
  split at h
  · rename_i c hc
    cases h
    have hf := I.fetchF x
    rw [hc] at hf
    have I1 := I.put (s := .val ⟨c.agg, varLeaves c.ls (esz P 20 t)⟩) hd (show RepS w g d _ (a.eval x) from (hf _).vars)
    exact I1.claims (mk := .slot d 0) c.ls.length 0
  · cases h

/-! ### A variable's cells -/
theorem get_setBox : ∀ (l : List Frm) (k s : Nat) (ls : List Leaf) (i : Nat), (setBox l k s ls)[i]? = if i = k then (l[i]?).map (putK s ls) else l[i]?
  | [], _, _, _, i => by simp [setBox]
  | x :: r, 0, s, ls, i => by cases i <;> simp [setBox]
  | x :: r, k + 1, s, ls, i => by
    cases i with
    | zero => simp [setBox]
    | succ i => simp [setBox, get_setBox r k s ls i]

/-- A block of a variable is written: all else stays. -/
theorem RepLeaf.offBox {b : Nat} {k s : Nat} (hb : g.own b = .box k s) (ho : ∀ x, x ≠ b → w'.heap[x]? = w.heap[x]?) (q : Pos) (l : Leaf) (v : Value) (h : RepLeaf w g q l v) : RepLeaf w' g q l v := by
  have hk : Keeps w g w' g := ⟨fun _ h => h, fun _ _ => Nat.le_refl _, fun x o hx _ => cell_of_heap (ho x (by
    intro e; subst e
    rcases hx with h | ⟨p, h⟩ <;> rw [hb] at h <;> cases h))⟩
  have hrow : ∀ x m p, g.own x = .row m p → w'.heap[x]? = w.heap[x]? := fun x m p hx => ho x (by intro e; subst e; rw [hb] at hx; cases hx)
  have htok : ∀ {m p n xs}, TokV w g m p n xs v → TokV w' g m p n xs v := by
    intro m p n xs h
    rcases h with h | ⟨x, c, cs, T, hv, hx, hh, hc, hs, hf, hr⟩
    · exact .inl h
    · exact .inr ⟨x, c, cs, T, hv, hx, by rw [hrow x m p hx]; exact hh, hc, hs, hf, RepRow.keep hk n x xs _ (fun _ _ _ => cell_of_heap (hrow x m p hx)) hr⟩
  cases l with
  | d x => exact RepPV.keep hk x v h
  | row m n xs => exact htok h
  | al m p n xs => exact htok h
  | nilS => exact h
  | emp => exact h
  | ptr k s o => exact h
  | eptr p i o cs =>
    obtain ⟨x, s', hx, hv, hl, hr⟩ := h
    exact ⟨x, s', hx, hv, hl, RepCells.keep hk x cs _ (fun _ _ _ => cell_of_heap (hrow x .own p hx)) hr⟩
  | fptr cs =>
    obtain ⟨x, o, hv, hx, hf, hr⟩ := h
    exact ⟨x, o, hv, hx, hf, RepCells.keep hk x cs o (fun o' _ h' => hk.cell x o' hx (by omega)) hr⟩
  | fn f fi ca => exact h
  | it s pos =>
    obtain ⟨r, hv, hx, hh⟩ := h
    exact ⟨r, hv, hx, by rw [hrow r .own q hx]; exact hh⟩
  | undef => trivial

theorem RepLs.impl (hf : ∀ q l v, RepLeaf w g q l v → RepLeaf w' g' q l v) {mk : Nat → Pos} : ∀ {j : Nat} {ls : List Leaf} {vs : List Value}, RepLs w g mk j ls vs → RepLs w' g' mk j ls vs
  | _, [], [], _ => trivial
  | _, [], _ :: _, h => h.elim
  | _, _ :: _, [], h => h.elim
  | _, _ :: _, _ :: _, h => ⟨hf _ _ _ h.1, RepLs.impl hf h.2⟩
theorem RepComp.impl (hf : ∀ q l v, RepLeaf w g q l v → RepLeaf w' g' q l v) {mk : Nat → Pos} {c : Comp} {v : Value} (h : RepComp w g mk c v) : RepComp w' g' mk c v := by
  obtain ⟨ag, ls⟩ := c
  cases ag with
  | true => obtain ⟨vs, hv, h⟩ := h; exact ⟨vs, hv, h.impl hf⟩
  | false => obtain ⟨l, hl, h⟩ := h; exact ⟨l, hl, hf _ _ _ h⟩
theorem RepComps.impl (hf : ∀ q l v, RepLeaf w g q l v → RepLeaf w' g' q l v) {t : Nat} : ∀ {i : Nat} {cs : List Comp} {vs : List Value}, RepComps w g t i cs vs → RepComps w' g' t i cs vs
  | _, [], [], _ => trivial
  | _, [], _ :: _, h => h.elim
  | _, _ :: _, [], h => h.elim
  | _, _ :: _, _ :: _, h => ⟨h.1.impl hf, RepComps.impl hf h.2⟩
theorem RepS.impl (hf : ∀ q l v, RepLeaf w g q l v → RepLeaf w' g' q l v) {t : Nat} {s : SVal} {v : Value} (h : RepS w g t s v) : RepS w' g' t s v := by
  cases s with
  | val c => exact RepComp.impl hf h
  | tup cs => obtain ⟨vs, hv, h⟩ := h; exact ⟨vs, hv, h.impl hf⟩

theorem frozen_setRow (w : World) (b : Nat) (arr : Array Value) (a : Addr) : (w.setRow b arr).frozen? a = w.frozen? a := by
  unfold World.frozen? World.setRow
  simp only [Array.getElem?_modify]
  by_cases e : b = a.block
  · subst e
    simp only [if_true]
    cases h : w.heap[a.block]? with
    | none => simp
    | some o => cases o <;> simp
  · simp only [e, if_false]

theorem Ext.setRow {b : Nat} {k s : Nat} (hb : g.own b = .box k s) (arr : Array Value) : Ext w g (w.setRow b arr) g where
  os := rfl
  tape := rfl
  output := rfl
  size := by simp
  keeps := ⟨fun _ h => h, fun _ _ => Nat.le_refl _, fun x o hx _ => cell_of_heap (setRow_other w b x arr (by
    intro e; subst e
    rcases hx with h | ⟨p, h⟩ <;> rw [hb] at h <;> cases h))⟩
  imm x hx := ⟨setRow_other w b x arr (by intro e; subst e; rcases hx with h | h <;> rw [hb] at h <;> cases h), rfl, rfl⟩
  fre _ _ h := h
  outer _ _ _ h := h
  frz a := frozen_setRow w b arr a

theorem RepLs.oneCell {mk : Nat → Pos} : ∀ {j : Nat} {ls : List Leaf} {vs : List Value}, RepLs w g mk j ls vs → allNotU ls = true → ∀ v ∈ vs, v.oneCell' = true
  | _, [], [], _, _, v, hv => by simp at hv
  | _, [], _ :: _, h, _, _, _ => h.elim
  | _, _ :: _, [], h, _, _, _ => h.elim
  | _, l :: r, x :: vs, h, hu, v, hv => by
    simp only [allNotU, Bool.and_eq_true] at hu
    rcases List.mem_cons.1 hv with rfl | hv
    · exact (leaf_one h.1 hu.1).2
    · exact RepLs.oneCell h.2 hu.2 v hv

theorem storeOf_sound (I : Inv w g a st) {T : TypeId} {x y : Operand} {st' : St} (h : storeOf P st T x y = some st') :
    ∃ w' g', (Instr.storeAt T (a.eval x) (a.eval y)).run P w = .ok () w' ∧ Inv w' g' a st' ∧ Ext w g w' g' := by
  unfold storeOf at h
  split at h
  · rename_i k s o c n hx hy hn
    split at h
    · rename_i ls hls
      split at h
      · rename_i hcond
        obtain ⟨hl, hle, hnu⟩ := hcond
        cases h
        obtain ⟨b, hb, hv⟩ := fetch_one I hx (.slot 0 0 0)
        unfold boxCells at hls
        simp only [Option.bind_eq_some_iff] at hls
        obtain ⟨f, hf, hlook⟩ := hls
        obtain ⟨b', vs, T', ho, hh, hr⟩ := I.boxes k f s ls hf hlook
        obtain rfl := I.injB b b' k s hb ho
        have hfy := I.fetchF y
        rw [hy] at hfy
        have hfree := comp_cells hfy hnu
        have hcl := hfree.length
        have hvl := hr.length
        simp only [Array.length_toList] at hvl
        have hone : ∀ v ∈ (a.eval y).cells.toList, v.oneCell' = true := (hfree (.slot 0 0) 0).oneCell hnu
        have hrun := run_storeCells_at P b o T' (a.eval y).cells.toList 0 vs w hh (by omega) hone
        simp only [Nat.add_zero] at hrun
        generalize harr : (vs.toList.take o ++ (a.eval y).cells.toList ++ vs.toList.drop (o + (a.eval y).cells.toList.length)).toArray = arr at hrun
        have hoff : ∀ x, x ≠ b → (w.setRow b arr).heap[x]? = w.heap[x]? := fun x hx => setRow_other w b x arr hx
        have hself := setRow_heap w b vs arr T' (0, 0) hh
        have hnew : RepLs w g (.box k s) 0 (ls.take o ++ varLeaves c.ls (esz P 20 T) ++ ls.drop (o + n)) arr.toList := by
          rw [← harr]
          simp only []
          have h1 := hr.take o
          have h2 := (hfree (.box k s) o).vars (es := esz P 20 T)
          have h3 := hr.drop (o + n)
          have hto : (ls.take o).length = o := by rw [List.length_take]; omega
          refine (h1.append (by rw [hto, Nat.zero_add]; exact h2)).append ?_
          rw [List.length_append, hto, varLeaves_length, hl, Nat.zero_add, hcl, hl]
          simpa using h3
        have I1 : Inv (w.setRow b arr) g a { st with boxes := setBox st.boxes k s (ls.take o ++ varLeaves c.ls (esz P 20 T) ++ ls.drop (o + n)) } := by
          constructor
          · exact fun t u h => ⟨(I.slots t u h).1, (I.slots t u h).2.impl (RepLeaf.offBox hb hoff)⟩
          · intro k' f' s' ls' h1 h2
            simp only [get_setBox] at h1
            have hold : ∀ f'', st.boxes[k']? = some f'' → look f'' s' = some ls' → ¬ (k' = k ∧ s' = s) → ∃ b2 vs2 T2, g.own b2 = .box k' s' ∧ (w.setRow b arr).heap[b2]? = some (.cells vs2 T2 (0, 0)) ∧ RepLs (w.setRow b arr) g (.box k' s') 0 ls' vs2.toList := by
              intro f'' h3 h4 hne
              obtain ⟨b2, vs2, T2, ho2, hh2, hr2⟩ := I.boxes k' f'' s' ls' h3 h4
              refine ⟨b2, vs2, T2, ho2, ?_, hr2.impl (RepLeaf.offBox hb hoff)⟩
              rw [hoff b2 (by intro e; subst e; rw [hb] at ho2; cases ho2; exact hne ⟨rfl, rfl⟩)]
              exact hh2
            by_cases e : k' = k
            · subst e
              simp only [if_true, hf, Option.map_some, Option.some.injEq] at h1
              subst h1
              rw [look_putK] at h2
              by_cases e2 : s = s'
              · subst e2
                simp only [if_true, Option.some.injEq] at h2
                subst h2
                exact ⟨b, arr, T', hb, hself, hnew.impl (RepLeaf.offBox hb hoff)⟩
              · simp only [e2, if_false] at h2
                exact hold f hf h2 (fun h => e2 h.2.symm)
            · simp only [e, if_false] at h1
              exact hold f' h1 h2 (fun h => e h.1)
          · exact I.injB
          · exact I.injO
          · intro x hx; exact I.top x (by simpa using hx)
          · intro x k' s' hx
            obtain ⟨f', ls', h1, h2⟩ := I.tagB x k' s' hx
            simp only [get_setBox]
            by_cases e : k' = k
            · subst e
              refine ⟨putK s (ls.take o ++ varLeaves c.ls (esz P 20 T) ++ ls.drop (o + n)) f', ?_⟩
              by_cases e2 : s = s'
              · exact ⟨ls.take o ++ varLeaves c.ls (esz P 20 T) ++ ls.drop (o + n), by simp [h1], by rw [look_putK, if_pos e2]⟩
              · exact ⟨ls', by simp [h1], by rw [look_putK, if_neg e2]; exact h2⟩
            · exact ⟨f', ls', by simp [e, h1], h2⟩
          · exact I.defers
        obtain ⟨g2, I2, E2⟩ := I1.claims (mk := .box k s) n o
        refine ⟨_, g2, ?_, I2, (Ext.setRow hb arr).trans E2⟩
        unfold Instr.storeAt Instr.sureAddr storeVar
        rw [hv]
        have hcs : (a.eval y).cells.size = n := by rw [← Array.length_toList]; omega
        simp only [Sem.run_bind, Sem.run_pure, Result.andThen_ok, run_szO hn]
        simp [hcs, hrun]
      · cases h
    · cases h
  · cases h
end

end Go.Ev

namespace Go.Ev

def rowsOf (n : Nat) : Leaf → Option (List (List PV))
  | .d (.sl s ys) => if s = n then some ys else none
  | .al _ _ s ys => if s = n then some ys else none
  | .nilS => some []
  | .emp => some []
  | _ => none
def bytesO (P : Program) (t : TypeId) : Option Nat := (P.info? t).map (·.bytes)
def zeroSz (P : Program) (t : TypeId) : Option Nat := (zeroOf P t).map (·.cells.size)

/-- An element type's number, its cells, its bytes: all that append asks. -/
def appTy (P : Program) (t : TypeId) : Option (TypeId × Nat × Nat) :=
  match elemO P t with
  | some (e, n) =>
    match bytesO P e, zeroSz P e with
    | some k, some z => if z = n ∧ 0 < n then some (e, n, k) else none
    | _, _ => none
  | none => none

def relOwn (m : Mode) (p q : Pos) (st : St) : St :=
  match m with
  | .own => if p = q then st else st.mp (relLeaf q)
  | .tip => st

def appendOf (P : Program) (st : St) (d : Nat) (args : List Operand) (ts : List TypeId) : Option St :=
  match args, ts with
  | [s, x], [t, t'] =>
    if t = t' then
      match appTy P t, fetch st s, fetch st x with
      | some (e, n, k), .val ⟨false, [l]⟩, .val ⟨false, [r]⟩ =>
        match rowsOf n r with
        | some ys =>
          match l with
          | .nilS => if ys.length * k ≤ 140737488355328 ∧ ys.length ≤ 9223372036854775807 then some (putS st d (one (.row .tip n ys))) else none
          | .al m p s xs =>
            if s = n ∧ (xs.length + ys.length) * k ≤ 140737488355328 ∧ xs.length + ys.length ≤ 9223372036854775807 then
              some (putS ((relOwn m p (.slot d 0 0) st).mp (relLeaf p)) d (one (.row m n (xs ++ ys)))) else none
          | _ => none
        | none => none
      | _, _, _ => none
    else none
  | _, _ => none

section
variable {P : Program} {w w' : World} {g g' : Gh} {a : Act} {st : St}

theorem Inv.rel (I : Inv w g a st) (p : Pos) : Inv w g a (st.mp (relLeaf p)) :=
  I.mp (relLeaf_rep (Keeps.refl w g) (fun _ _ _ h => h) fun _ _ _ _ h => ⟨h, rfl, rfl⟩) (fun _ _ _ h => ⟨h, rfl⟩) (fun _ _ _ h => h) I.injO I.top

theorem Inv.sameHeap (I : Inv w g a st) (h : w'.heap = w.heap) : Inv w' g a st :=
  I.up ⟨fun _ _ => ⟨rfl, rfl, rfl⟩, fun _ _ _ => by rw [h]⟩ I.injB I.injO (by rw [h]; exact I.top) I.tagB
theorem Ext.drewW (w : World) (g : Gh) : Ext w g w.drew g := Ext.drew w g _

theorem repPV_one {x : PV} {v : Value} (h : RepPV w g x v) : v.oneCell' = true := (leaf_one (l := .d x) (q := .slot 0 0 0) h rfl).2

/-- A row's values, and that these are the row wherever they stand. -/
theorem RepCells.move {b : Nat} : ∀ {cs : List PV} {o : Nat}, RepCells w g b o cs → ∃ vs : List Value, vs.length = cs.length ∧ (∀ j v, vs[j]? = some v → w.cell? ⟨b, o + j, none⟩ = some v) ∧ (∀ v ∈ vs, v.oneCell' = true) ∧
    ∀ (w' : World) (g' : Gh) (b' o' : Nat), Keeps w g w' g' → (∀ j v, vs[j]? = some v → w'.cell? ⟨b', o' + j, none⟩ = some v) → RepCells w' g' b' o' cs
  | [], o, _ => ⟨[], rfl, by simp, by simp, fun _ _ _ _ _ _ => by simp [RepCells]⟩
  | x :: r, o, h => by
    rw [RepCells] at h
    obtain ⟨⟨v, hv, hx⟩, h⟩ := h
    obtain ⟨vs, h1, h2, h3, h4⟩ := RepCells.move h
    refine ⟨v :: vs, by simp [h1], fun j u hj => ?_, fun u hu => ?_, fun w' g' b' o' K hc => ?_⟩
    · cases j with
      | zero => simp only [List.getElem?_cons_zero, Option.some.injEq] at hj; subst hj; simpa using hv
      | succ j =>
        have := h2 j u (by simpa using hj)
        rwa [show o + 1 + j = o + (j + 1) by omega] at this
    · rcases List.mem_cons.1 hu with rfl | hu
      · exact repPV_one hx
      · exact h3 u hu
    · rw [RepCells]
      refine ⟨⟨v, by simpa using hc 0 v rfl, RepPV.keep K x v hx⟩, h4 w' g' b' (o' + 1) K fun j u hj => ?_⟩
      have := hc (j + 1) u (by simpa using hj)
      rwa [show o' + (j + 1) = o' + 1 + j by omega] at this
theorem RepRow.move {s b : Nat} : ∀ {xs : List (List PV)} {o : Nat}, RepRow w g s b o xs → ∃ vs : List Value, vs.length = xs.length * s ∧ (∀ j v, vs[j]? = some v → w.cell? ⟨b, o + j, none⟩ = some v) ∧ (∀ v ∈ vs, v.oneCell' = true) ∧
    ∀ (w' : World) (g' : Gh) (b' o' : Nat), Keeps w g w' g' → (∀ j v, vs[j]? = some v → w'.cell? ⟨b', o' + j, none⟩ = some v) → RepRow w' g' s b' o' xs
  | [], o, _ => ⟨[], by simp, by simp, by simp, fun _ _ _ _ _ _ => by simp [RepRow]⟩
  | x :: r, o, h => by
    rw [RepRow] at h
    obtain ⟨hx, hc, h⟩ := h
    obtain ⟨us, h1, h2, h3, h4⟩ := hc.move
    obtain ⟨vs, k1, k2, k3, k4⟩ := RepRow.move h
    refine ⟨us ++ vs, by rw [List.length_append, h1, k1, hx, List.length_cons, Nat.succ_mul]; omega, fun j v hj => ?_, fun v hv => ?_, fun w' g' b' o' K hcell => ?_⟩
    · rw [List.getElem?_append] at hj
      split at hj
      · exact h2 j v hj
      · rename_i hlt
        have := k2 _ v hj
        rwa [show o + s + (j - us.length) = o + j by omega] at this
    · rcases List.mem_append.1 hv with hv | hv
      · exact h3 v hv
      · exact k3 v hv
    · rw [RepRow]
      refine ⟨hx, h4 w' g' b' o' K fun j v hj => hcell j v (by rw [List.getElem?_append_left (List.getElem?_eq_some_iff.1 hj).1]; exact hj), k4 w' g' b' (o' + s) K fun j v hj => ?_⟩
      have := hcell (us.length + j) v (by rw [List.getElem?_append_right (by omega)]; simpa using hj)
      rwa [show o' + (us.length + j) = o' + s + j by omega] at this
theorem RepRow.append {s b : Nat} : ∀ {xs ys : List (List PV)} {o : Nat}, RepRow w g s b o xs → RepRow w g s b (o + xs.length * s) ys → RepRow w g s b o (xs ++ ys)
  | [], _, _, _, h => by simpa using h
  | x :: r, ys, o, h, k => by
    rw [RepRow] at h
    rw [List.cons_append, RepRow]
    refine ⟨h.1, h.2.1, RepRow.append h.2.2 ?_⟩
    rw [List.length_cons, Nat.succ_mul] at k
    rwa [show o + s + r.length * s = o + (r.length * s + s) by omega]

/-- The second operand of an append. -/
theorem rowsOf_rep {n : Nat} {q : Pos} {l : Leaf} {v : Value} {ys : List (List PV)} (h : RepLeaf w g q l v) (hy : rowsOf n l = some ys) :
    ∃ A c, v = .slice A ys.length c ∧ (ys = [] ∨ ∃ b o, A = some ⟨b, o, none⟩ ∧ RepRow w g n b o ys) := by
  cases l <;> try (simp [rowsOf] at hy; done)
  · rename_i x
    cases x with
    | v y => simp [rowsOf] at hy
    | sl s xs =>
      simp only [rowsOf] at hy
      split at hy
      · rename_i e; subst e; cases hy
        rw [RepLeaf, RepPV] at h
        obtain ⟨A, c, rfl, _, _, h⟩ := h
        refine ⟨A, c, rfl, ?_⟩
        rcases h with h | ⟨b, o, rfl, _, _, hr⟩
        · exact .inl h
        · exact .inr ⟨b, o, rfl, hr⟩
      · cases hy
  · rename_i m p s xs
    simp only [rowsOf] at hy
    split at hy
    · rename_i e; subst e; cases hy
      rcases h with ⟨rfl, rfl⟩ | ⟨b, c, cs, T, rfl, _, _, _, _, _, hr⟩
      · exact ⟨none, 0, rfl, .inl rfl⟩
      · exact ⟨_, c, rfl, .inr ⟨b, _, rfl, hr⟩⟩
    · cases hy
  · simp only [rowsOf, Option.some.injEq] at hy; subst hy
    exact ⟨none, 0, h, .inl rfl⟩
  · simp only [rowsOf, Option.some.injEq] at hy; subst hy
    obtain ⟨ad, c, h⟩ := h
    exact ⟨some ad, c, h, .inl rfl⟩

theorem run_append_none {t ty e : TypeId} {n : Nat} (ht : P.underlying t = some (.slice e)) (hn : szO P e = some n) (base : Option Addr) (sLen sCap : Nat) (hc : sLen ≤ sCap) (A : Option Addr) (c : Nat) :
    (Builtin.append_ #[t, t] ty #[.slice base sLen sCap, .slice A 0 c]).run P w = .ok (.slice base sLen sCap) w := by
  have hf : (Builtin.firstCells n 0 (.slice A 0 c)).run P w = .ok #[] w := by
    cases A with
    | none => simp [Builtin.firstCells]
    | some ad => simp [Builtin.firstCells, loadCells, loadCellsFrom]
  cases base with
  | none => simp [Builtin.append_, run_under ht, run_szO hn, Builtin.lenOf, hc, hf]
  | some ad => simp [Builtin.append_, run_under ht, run_szO hn, Builtin.lenOf, hc, hf, storeCells]

theorem run_append_in {t ty e T : TypeId} {n : Nat} (ht : P.underlying t = some (.slice e)) (hn : szO P e = some n)
    (b sLen sCap : Nat) (cur : Array Value) (hg : w.heap[b]? = some (.cells cur T (0, 0)))
    (ad : Addr) (m c : Nat) (news : List Value) (hl : news.length = m * n) (hnews : ∀ j u, news[j]? = some u → w.cell? (ad.add j) = some u) (h1 : ∀ u ∈ news, u.oneCell' = true)
    (hroom : sLen + m ≤ sCap) (hfit : sLen * n + news.length ≤ cur.size) :
    (Builtin.append_ #[t, t] ty #[.slice (some ⟨b, 0, none⟩) sLen sCap, .slice (some ad) m c]).run P w =
      .ok (.slice (some ⟨b, 0, none⟩) (sLen + m) sCap) (w.setRow b (cur.toList.take (sLen * n) ++ news ++ cur.toList.drop (sLen * n + news.length)).toArray) := by
  have hf := run_firstCells_some (P := P) w n m ad m c news hl hnews
  have hst := run_storeCells_at P b (sLen * n) T news 0 cur w hg (by simpa using hfit) h1
  simp only [Nat.add_zero] at hst
  simp [Builtin.append_, run_under ht, run_szO hn, Builtin.lenOf, hroom, hf, add_at, hst]

/-- Growing in place: the block's mark goes over, its seen part grows. -/
def growG (g : Gh) (b : Nat) (m : Mode) (q : Pos) (fr : Nat) : Gh where
  own := fun x => if x = b then .row m q else g.own x
  fr := fun x => if x = b then fr else g.fr x

theorem Inv.growIn (I : Inv w g a st) {b fr : Nat} {m : Mode} {p q : Pos} {cs cs' : Array Value} {T : TypeId} (hb : g.own b = .row m p) (hh : w.heap[b]? = some (.cells cs T (0, 0)))
    (hkeep : ∀ o, o < g.fr b → cs'[o]? = cs[o]?) (hfr : g.fr b ≤ fr) (hq : m = .own → ∀ x, x ≠ b → g.own x ≠ .row .own q) :
    Inv (w.setRow b cs') (growG g b m q fr) a (st.mp (relLeaf p)) ∧ Ext w g (w.setRow b cs') (growG g b m q fr) := by
  have hoff : ∀ x, x ≠ b → (w.setRow b cs').heap[x]? = w.heap[x]? := fun x hx => setRow_other w b x cs' hx
  have hself := setRow_heap w b cs cs' T (0, 0) hh
  have hown : ∀ x, x ≠ b → (growG g b m q fr).own x = g.own x ∧ (growG g b m q fr).fr x = g.fr x := fun x hx => by simp [growG, hx]
  have hownb : (growG g b m q fr).own b = .row m q ∧ (growG g b m q fr).fr b = fr := by simp [growG]
  have hk : Keeps w g (w.setRow b cs') (growG g b m q fr) := by
    refine ⟨fun x hx => ?_, fun x hx => ?_, fun x o hx ho => ?_⟩
    · by_cases e : x = b
      · subst e
        have hm : m = .tip := by
          rcases hx with h | ⟨p', h⟩ <;> rw [hb] at h
          · cases h
          · cases h; rfl
        subst hm
        exact .inr ⟨q, hownb.1⟩
      · unfold Gh.rd at hx ⊢; rwa [(hown x e).1]
    · by_cases e : x = b
      · subst e; rw [hownb.2]; exact hfr
      · rw [(hown x e).2]; exact Nat.le_refl _
    · by_cases e : x = b
      · subst e
        simp only [World.cell?, hself, hh]
        simpa using hkeep o ho
      · exact cell_of_heap (hoff x e)
  have hne : ∀ x t, (∀ m' p', t = .row m' p' → False) → (g.own x = t → x ≠ b) := fun x t ht hx e => by subst e; rw [hb] at hx; exact ht _ _ hx.symm
  have hleaf : ∀ q' l v, RepLeaf w g q' l v → RepLeaf (w.setRow b cs') (growG g b m q fr) q' (relLeaf p q' l) v := by
    intro q' l v h
    have htok : ∀ {m' p' n xs}, p' ≠ p → TokV w g m' p' n xs v → TokV (w.setRow b cs') (growG g b m q fr) m' p' n xs v := by
      intro m' p' n xs hp h
      rcases h with h | ⟨x, c, cs1, T1, hv, hx, hh1, hc, hs, hf, hr⟩
      · exact .inl h
      · have hxb : x ≠ b := by intro e; subst e; rw [hb] at hx; cases hx; exact hp rfl
        exact .inr ⟨x, c, cs1, T1, hv, by rw [(hown x hxb).1]; exact hx, by rw [hoff x hxb]; exact hh1, hc, hs, by rw [(hown x hxb).2]; exact hf,
          RepRow.keep hk n x xs _ (fun _ _ _ => cell_of_heap (hoff x hxb)) hr⟩
    cases l with
    | d x => exact RepPV.keep hk x v h
    | row m' n xs =>
      simp only [relLeaf]
      by_cases e : q' = p
      · simp only [e, if_true]
        cases m' with
        | tip => exact RepPV.keep hk _ v (tok_data h)
        | own => trivial
      · simp only [e, if_false]; exact htok e h
    | al m' p' n xs =>
      simp only [relLeaf]
      by_cases e : p' = p
      · simp only [e, if_true]
        cases m' with
        | tip => exact RepPV.keep hk _ v (tok_data h)
        | own => trivial
      · simp only [e, if_false]; exact htok e h
    | nilS => exact h
    | emp => exact h
    | ptr k s o =>
      obtain ⟨x, hx, hv⟩ := h
      exact ⟨x, by rw [(hown x (by intro e; subst e; rw [hb] at hx; cases hx)).1]; exact hx, hv⟩
    | eptr p' i o cs1 =>
      simp only [relLeaf]
      by_cases e : p' = p
      · simp only [e, if_true]; trivial
      · simp only [e, if_false]
        obtain ⟨x, s, hx, hv, hl, hr⟩ := h
        have hxb : x ≠ b := by intro e'; subst e'; rw [hb] at hx; cases hx; exact e rfl
        exact ⟨x, s, by rw [(hown x hxb).1]; exact hx, hv, hl, RepCells.keep hk x cs1 _ (fun _ _ _ => cell_of_heap (hoff x hxb)) hr⟩
    | fptr cs1 =>
      obtain ⟨x, o, hv, hx, hf, hr⟩ := h
      exact ⟨x, o, hv, hk.rd x hx, Nat.le_trans hf (hk.fr x hx), RepCells.keep hk x cs1 o (fun o' _ h' => hk.cell x o' hx (by omega)) hr⟩
    | fn f fi ca =>
      obtain ⟨us, vs, h1, h2, h3⟩ := h
      have hbx : ∀ x k s, g.own x = .box k s → (growG g b m q fr).own x = .box k s := fun x k s hx => by rw [(hown x (by intro e; subst e; rw [hb] at hx; cases hx)).1]; exact hx
      exact ⟨us, vs, h1, h2.ghost hbx, h3.ghost hbx⟩
    | it s pos =>
      simp only [relLeaf]
      by_cases e : q' = p
      · simp only [e, if_true]; trivial
      · simp only [e, if_false]
        obtain ⟨r, hv, hx, hh1⟩ := h
        have hxb : r ≠ b := by intro e'; subst e'; rw [hb] at hx; cases hx; exact e rfl
        exact ⟨r, hv, by rw [(hown r hxb).1]; exact hx, by rw [hoff r hxb]; exact hh1⟩
    | undef => trivial
  constructor
  · refine I.mp hleaf (fun x k s hx => ?_) (fun x k s hx => ?_) (fun x x' p' hx hx' => ?_) (fun x hx => ?_)
    · have hxb : x ≠ b := by intro e; subst e; rw [hb] at hx; cases hx
      exact ⟨by rw [(hown x hxb).1]; exact hx, hoff x hxb⟩
    · by_cases e : x = b
      · subst e; rw [hownb.1] at hx; cases hx
      · rwa [(hown x e).1] at hx
    · by_cases e : x = b
      · by_cases e' : x' = b
        · rw [e, e']
        · subst e; rw [hownb.1] at hx; cases hx; rw [(hown x' e').1] at hx'; exact absurd hx' (hq rfl x' e')
      · by_cases e' : x' = b
        · subst e'; rw [hownb.1] at hx'; cases hx'; rw [(hown x e).1] at hx; exact absurd hx (hq rfl x e)
        · rw [(hown x e).1] at hx; rw [(hown x' e').1] at hx'; exact I.injO x x' p' hx hx'
    · have hlt : b < w.heap.size := lt_of_own I.top (by rw [hb]; simp)
      have hxb : x ≠ b := by simp at hx; omega
      rw [(hown x hxb).1]; exact I.top x (by simpa using hx)
  · refine ⟨rfl, rfl, rfl, by simp, hk, fun x hx => ?_, fun x _ hx => by rw [(hown x (by intro e; subst e; rw [hb] at hx; cases hx)).1]; exact hx, fun x k s hx => by rw [(hown x (by intro e; subst e; rw [hb] at hx; cases hx)).1]; exact hx, fun a => frozen_setRow w b cs' a⟩
    have hxb : x ≠ b := by intro e; subst e; rcases hx with h | h <;> rw [hb] at h <;> cases h
    exact ⟨hoff x hxb, (hown x hxb).1, (hown x hxb).2⟩

theorem Inv.relOwn (I : Inv w g a st) (m : Mode) (p q : Pos) : ∃ g', Inv w g' a (relOwn m p q st) ∧ Ext w g w g' ∧ (m = .own → p ≠ q → ∀ x, g'.own x ≠ .row .own q) ∧
    (∀ x, g.own x = .row m p → g'.own x = .row m p) ∧ g'.fr = g.fr := by
  cases m with
  | tip => exact ⟨g, I, Ext.refl w g, by simp, fun _ h => h, rfl⟩
  | own =>
    by_cases e : p = q
    · exact ⟨g, by simpa [Ev.relOwn, e] using I, Ext.refl w g, fun _ h => absurd e h, fun _ h => h, rfl⟩
    · obtain ⟨I1, E1, h1⟩ := I.free q
      refine ⟨_, by simpa [Ev.relOwn, e] using I1, E1, fun _ _ => h1, fun x hx => ?_, rfl⟩
      rw [freeOwn_own (by rw [hx]; intro h; cases h; exact e rfl)]; exact hx

theorem appTy_spec {t e : TypeId} {n k : Nat} (h : appTy P t = some (e, n, k)) : P.underlying t = some (.slice e) ∧ szO P e = some n ∧ ∃ i z, P.info? e = some i ∧ i.zero = some z ∧ i.size = n ∧ i.bytes = k ∧ z.cells.size = n ∧ 0 < n := by
  unfold appTy at h
  split at h
  · rename_i e' n' he
    split at h
    · rename_i k' z' hk hz
      split at h
      · rename_i hc
        cases h
        unfold elemO at he
        split at he
        · rename_i e'' hu
          simp only [Option.map_eq_some_iff, Prod.mk.injEq] at he
          obtain ⟨n'', hn, rfl, rfl⟩ := he
          refine ⟨hu, hn, ?_⟩
          unfold bytesO at hk
          unfold zeroSz zeroOf at hz
          unfold szO at hn
          cases hi : P.info? e'' with
          | none => simp [hi] at hn
          | some i =>
            rw [hi] at hk hz hn
            simp only [Option.map_some, Option.some.injEq, Option.bind_some, Option.map_eq_some_iff] at hk hz hn
            obtain ⟨z, hz1, hz2⟩ := hz
            exact ⟨i, z, rfl, hz1, hn, hk, by omega, hc.2⟩
        · cases he
      · cases h
    · cases h
  · cases h

end

end Go.Ev

namespace Go.Ev

section
variable {P : Program} {w w' : World} {g g' : Gh} {a : Act} {st : St}

theorem zeroCells_size (z : Array Value) (n : Nat) : (Builtin.zeroCells z n).size = n * z.size := by simp [Builtin.zeroCells]

/-- A row in new memory. -/
theorem tok_new {e : TypeId} {m : Mode} {q : Pos} {n len cap : Nat} {xs : List (List PV)} {cells : Array Value} {W : World} (hl : xs.length = len) (hc : len ≤ cap) (hs : cells.size = cap * n)
    (hr : RepRow (W.alloc (.cells cells e)) (newG g W.heap.size (.row m q) (len * n) 0) n W.heap.size 0 xs) :
    TokV (W.alloc (.cells cells e)) (newG g W.heap.size (.row m q) (len * n) 0) m q n xs (.slice (some ⟨W.heap.size, 0, none⟩) len cap) := by
  subst hl
  obtain ⟨e1, e2, e3⟩ := newG_new (w := W) (g := g) (.row m q) (xs.length * n) 0
  exact .inr ⟨W.heap.size, cap, cells, e, rfl, e1, heap_new _, hc, by simp [Gh.lo, hs], by simp [Gh.lo, e2], hr⟩

theorem heap_drew (w : World) : w.drew.heap = w.heap := rfl

/-- Both kinds of new memory: nothing was there, or too little. -/
theorem append_new (I : Inv w g a st) {d : Nat} (hd : d < a.tmps.size) {m : Mode} {n cap : Nat} {e : TypeId} {zs : List (List PV)} {cells : Array Value} {v : Value}
    (hq : m = .own → ∀ x, g.own x ≠ .row .own (.slot d 0 0)) (hv : v = .slice (some ⟨w.heap.size, 0, none⟩) zs.length cap) (hc : zs.length ≤ cap) (hs : cells.size = cap * n)
    (hr : ∀ w' g', Keeps w g w' g' → (∀ j u, cells[j]? = some u → w'.cell? ⟨w.heap.size, j, none⟩ = some u) → RepRow w' g' n w.heap.size 0 zs) :
    ∃ g', Inv (w.drew.alloc (.cells cells e)) g' (a.put (some d) v) (putS st d (one (.row m n zs))) ∧ Ext w g (w.drew.alloc (.cells cells e)) g' := by
  have I1 : Inv w.drew g a st := I.sameHeap rfl
  have hsz : w.drew.heap.size = w.heap.size := rfl
  have I2 := I1.newRow (.cells cells e) m (.slot d 0 0) (zs.length * n) 0 hq
  have E : Ext w g (w.drew.alloc (.cells cells e)) (newG g w.drew.heap.size (.row m (.slot d 0 0)) (zs.length * n) 0) :=
    (Ext.drewW w g).trans ((newG_up _ _ _ _).ext I1.top rfl rfl ⟨rfl, fun a => RowKit.frozen?_alloc_cells _ _ _ a⟩ (by simp))
  refine ⟨_, I2.put hd ⟨_, rfl, ?_⟩, E⟩
  rw [hv, ← hsz]
  refine tok_new rfl hc hs (hr _ _ E.keeps fun j u hj => ?_)
  have := heap_new (w := w.drew) (.cells cells e)
  rw [hsz] at this
  simp only [World.cell?, this]
  simpa using hj

theorem appendOf_sound (I : Inv w g a st) {d : Nat} {s x : Operand} {t t' ty : TypeId} {st' : St} (hd : d < a.tmps.size) (h : appendOf P st d [s, x] [t, t'] = some st') :
    ∃ v w' g', (Builtin.append_ #[t, t'] ty #[a.eval s, a.eval x]).run P w = .ok v w' ∧ Inv w' g' (a.put (some d) v) st' ∧ Ext w g w' g' := by
  unfold appendOf at h
  simp only at h
  split at h
  · rename_i htt
    subst htt
    split at h
    · rename_i e n k l r hty hs hx
      obtain ⟨ht, hn, i, z, hi, hz, hi1, hi2, hz1, hpos⟩ := appTy_spec hty
      split at h
      · rename_i ys hys
        obtain ⟨A, cx, hvx, hyr⟩ := rowsOf_rep (fetch_one I hx (.slot 0 0 0)) hys
        rw [hvx]
        have hvs := fetch_one I hs (.slot 0 0 0)
        split at h
        · split at h
          · rename_i hb
            cases h
            rw [show a.eval s = .slice none 0 0 from hvs]
            rcases hyr with rfl | ⟨b, o, rfl, hr⟩
            · exact ⟨_, w, g, run_append_none ht hn none 0 0 (Nat.le_refl _) A cx, I.put hd ⟨_, rfl, .inl ⟨rfl, rfl⟩⟩, Ext.refl w g⟩
            · obtain ⟨news, h1, h2, h3, h4⟩ := hr.move
              by_cases hy0 : ys.length = 0
              · obtain rfl := List.eq_nil_of_length_eq_zero hy0
                exact ⟨_, w, g, run_append_none ht hn none 0 0 (Nat.le_refl _) _ cx, I.put hd ⟨_, rfl, .inl ⟨rfl, rfl⟩⟩, Ext.refl w g⟩
              · have hrun := run_append_nil (P := P) w t ty e i z ht hi hz ⟨b, o, none⟩ ys.length cx news (by rw [h1, hi1]) (fun j v hj => by rw [add_at]; exact h2 j v hj) (by omega) (by omega) (by rw [hi2]; omega)
                have hge := grownCap_ge w ys.length 0 e
                obtain ⟨g', I', E'⟩ := append_new (e := e) (m := .tip) (n := n) (cells := news.toArray ++ Builtin.zeroCells z.cells (grownCap w ys.length 0 e - ys.length)) I hd (by simp) rfl hge
                  (by simp only [Array.size_append, List.size_toArray, zeroCells_size, hz1, h1, ← Nat.add_mul]; congr 1; omega)
                  (fun w' g' K hc => h4 w' g' _ 0 K fun j u hj => by
                    rw [Nat.zero_add]
                    refine hc j u ?_
                    have := (List.getElem?_eq_some_iff.1 hj).1
                    rw [Array.getElem?_append_left (by simpa using this)]; simpa using hj)
                exact ⟨_, _, g', hrun, I', E'⟩
          · cases h
        · rename_i m p s' xs
          split at h
          · rename_i hb
            obtain ⟨rfl, hb1, hb2⟩ := hb
            cases h
            obtain ⟨g1, I1, E1, hq1, hrow1, hfr1⟩ := I.relOwn m p (.slot d 0 0)
            rcases hvs with ⟨rfl, hv0⟩ | ⟨b, c, cs, T, hv0, hown, hheap, hc, hsz, hf, hr⟩
            · -- nothing is there
              rw [hv0]
              obtain ⟨I2, E2, h2⟩ := I1.free p
              have hq2 : m = .own → ∀ x, (freeOwn g1 p).own x ≠ .row .own (.slot d 0 0) := by
                intro hm x hx
                by_cases hpq : p = .slot d 0 0
                · exact h2 x (by rw [hpq] at hx ⊢; exact hx)
                · by_cases e : g1.own x = .row .own p
                  · simp [freeOwn, e] at hx
                  · rw [freeOwn_own e] at hx; exact hq1 hm hpq x hx
              rcases hyr with rfl | ⟨b, o, rfl, hr⟩
              · exact ⟨_, w, _, run_append_none ht hn none 0 0 (Nat.le_refl _) A cx, I2.put hd ⟨_, rfl, .inl ⟨rfl, rfl⟩⟩, E1.trans E2⟩
              · obtain ⟨news, k1, k2, k3, k4⟩ := hr.move
                by_cases hy0 : ys.length = 0
                · obtain rfl := List.eq_nil_of_length_eq_zero hy0
                  exact ⟨_, w, _, run_append_none ht hn none 0 0 (Nat.le_refl _) _ cx, I2.put hd ⟨_, rfl, .inl ⟨rfl, rfl⟩⟩, E1.trans E2⟩
                · simp only [List.length_nil, Nat.zero_add] at hb1 hb2
                  have hrun := run_append_nil (P := P) w t ty e i z ht hi hz ⟨b, o, none⟩ ys.length cx news (by rw [k1, hi1]) (fun j v hj => by rw [add_at]; exact k2 j v hj) (by omega) (by omega) (by rw [hi2]; omega)
                  have hge := grownCap_ge w ys.length 0 e
                  obtain ⟨g', I', E'⟩ := append_new (e := e) (m := m) (n := s') (zs := [] ++ ys) (cells := news.toArray ++ Builtin.zeroCells z.cells (grownCap w ys.length 0 e - ys.length)) I2 hd hq2 rfl hge
                    (by simp only [Array.size_append, List.size_toArray, zeroCells_size, hz1, k1, ← Nat.add_mul]; congr 1; omega)
                    (fun w' g' K hc => k4 w' g' _ 0 ((E1.trans E2).keeps.trans K) fun j u hj => by
                      rw [Nat.zero_add]
                      refine hc j u ?_
                      have := (List.getElem?_eq_some_iff.1 hj).1
                      rw [Array.getElem?_append_left (by simpa using this)]; simpa using hj)
                  exact ⟨_, _, g', hrun, I', (E1.trans E2).trans E'⟩
            · rw [hv0]
              have hown1 := hrow1 b hown
              have hlo : g.lo b = 0 := rfl
              have hqb : m = .own → ∀ x, x ≠ b → g1.own x ≠ .row .own (.slot d 0 0) := by
                intro hm x hx hxo
                subst hm
                by_cases hpq : p = .slot d 0 0
                · subst hpq; exact hx (I1.injO x b _ hxo hown1)
                · exact hq1 rfl hpq x hxo
              simp only [hlo, Nat.zero_add] at hsz hf hr
              by_cases hy0 : ys.length = 0
              · obtain rfl := List.eq_nil_of_length_eq_zero hy0
                obtain ⟨I2, E2⟩ := I1.growIn (fr := g1.fr b) (q := .slot d 0 0) (cs' := cs) hown1 hheap (fun _ _ => rfl) (Nat.le_refl _) hqb
                rw [setRow_self w b cs T (0, 0) hheap] at I2 E2
                refine ⟨_, w, _, run_append_none ht hn (some ⟨b, 0, none⟩) xs.length c hc A cx, I2.put hd ⟨_, rfl, ?_⟩, E1.trans E2⟩
                rw [List.append_nil]
                refine .inr ⟨b, c, cs, T, rfl, by simp [growG], hheap, hc, by simpa [Gh.lo] using hsz, by simp [growG, Gh.lo, hfr1, hf], RepRow.keep (E1.trans E2).keeps _ b xs _ (fun _ _ _ => rfl) hr⟩
              · rcases hyr with rfl | ⟨b2, o2, rfl, hr2⟩
                · exact absurd rfl hy0
                obtain ⟨olds, j1, j2, j3, j4⟩ := hr.move
                obtain ⟨news, k1, k2, k3, k4⟩ := hr2.move
                by_cases hroom : xs.length + ys.length ≤ c
                · have hmul : (xs.length + ys.length) * s' ≤ c * s' := Nat.mul_le_mul_right _ hroom
                  rw [Nat.add_mul] at hmul
                  have hrun := run_append_in (w := w) (ty := ty) ht hn b xs.length c cs hheap ⟨b2, o2, none⟩ ys.length cx news k1 (fun j v hj => by rw [add_at]; exact k2 j v hj) k3 hroom (by omega)
                  generalize harr : (cs.toList.take (xs.length * s') ++ news ++ cs.toList.drop (xs.length * s' + news.length)).toArray = arr at hrun
                  have harrs : arr.size = cs.size := by rw [← harr]; simp; omega
                  have hpre : ∀ o, o < xs.length * s' → arr[o]? = cs[o]? := by
                    intro o ho
                    rw [← harr]
                    simp only [List.getElem?_toArray, List.append_assoc]
                    rw [List.getElem?_append_left (by simp; omega), List.getElem?_take_of_lt ho]
                    simp
                  have hmid : ∀ j u, news[j]? = some u → arr[xs.length * s' + j]? = some u := by
                    intro j u hj
                    have hjl := (List.getElem?_eq_some_iff.1 hj).1
                    rw [← harr]
                    simp only [List.getElem?_toArray, List.append_assoc]
                    rw [List.getElem?_append_right (by simp; omega), List.getElem?_append_left (by simp; omega)]
                    have : xs.length * s' + j - (cs.toList.take (xs.length * s')).length = j := by simp; omega
                    rw [this]; exact hj
                  obtain ⟨I2, E2⟩ := I1.growIn (fr := (xs.length + ys.length) * s') (q := .slot d 0 0) (cs' := arr) hown1 hheap (fun o ho => hpre o (by rw [hfr1] at ho; omega))
                    (by rw [hfr1, Nat.add_mul]; omega) hqb
                  have hself := setRow_heap w b cs arr T (0, 0) hheap
                  have hcell : ∀ o u, arr[o]? = some u → (w.setRow b arr).cell? ⟨b, o, none⟩ = some u := fun o u ho => by simp [World.cell?, hself, ho]
                  refine ⟨_, _, _, hrun, I2.put hd ⟨_, rfl, ?_⟩, E1.trans E2⟩
                  refine .inr ⟨b, c, arr, T, by simp [Gh.lo], by simp [growG], hself, by simp; omega, by simp [Gh.lo, harrs, hsz], by simp [growG, Gh.lo], ?_⟩
                  refine RepRow.append (j4 _ _ b _ (E1.trans E2).keeps fun j u hj => ?_) (k4 _ _ b _ (E1.trans E2).keeps fun j u hj => ?_)
                  · have hjl := (List.getElem?_eq_some_iff.1 hj).1
                    have hju := j2 j u hj
                    rw [Nat.zero_add] at hju
                    simp only [World.cell?, hheap] at hju
                    show (w.setRow b arr).cell? ⟨b, 0 + j, none⟩ = some u
                    rw [Nat.zero_add]
                    exact hcell j u (by rw [hpre j (by omega)]; simpa using hju)
                  · show (w.setRow b arr).cell? ⟨b, 0 + xs.length * s' + j, none⟩ = some u
                    rw [Nat.zero_add]
                    exact hcell _ u (hmid j u hj)
                · have hrun := run_append_grow (P := P) w t ty e i z ht hi hz ⟨b, 0, none⟩ xs.length c olds (by rw [j1, hi1]) (fun j v hj => by rw [add_at]; exact j2 j v hj) ⟨b2, o2, none⟩ ys.length cx news (by rw [k1, hi1])
                    (fun j v hj => by rw [add_at]; exact k2 j v hj) (by omega) (by omega) (growslice_fits (by omega) (by rw [hi2]; exact hb1))
                  obtain ⟨I2, E2, h2⟩ := I1.free p
                  have hq2 : m = .own → ∀ x, (freeOwn g1 p).own x ≠ .row .own (.slot d 0 0) := by
                    intro hm x hx
                    by_cases hpq : p = .slot d 0 0
                    · exact h2 x (by rw [hpq] at hx ⊢; exact hx)
                    · by_cases e : g1.own x = .row .own p
                      · simp [freeOwn, e] at hx
                      · rw [freeOwn_own e] at hx; exact hq1 hm hpq x hx
                  have hge := grownCap_ge w (xs.length + ys.length) c e
                  obtain ⟨g', I', E'⟩ := append_new (e := e) (m := m) (n := s') (zs := xs ++ ys) (v := .slice (some ⟨w.heap.size, 0, none⟩) (xs.length + ys.length) (grownCap w (xs.length + ys.length) c e))
                    (cells := olds.toArray ++ news.toArray ++ Builtin.zeroCells z.cells (grownCap w (xs.length + ys.length) c e - (xs.length + ys.length))) I2 hd hq2 (by rw [List.length_append]) (by simpa using hge)
                    (by simp only [Array.size_append, List.size_toArray, zeroCells_size, hz1, j1, k1, ← Nat.add_mul]; congr 1; omega)
                    (fun w' g' K hcl => by
                      have KK := (E1.trans E2).keeps.trans K
                      refine RepRow.append (j4 w' g' _ 0 KK fun j u hj => ?_) (k4 w' g' _ _ KK fun j u hj => ?_)
                      · have hjl := (List.getElem?_eq_some_iff.1 hj).1
                        rw [Nat.zero_add]
                        refine hcl j u ?_
                        rw [Array.append_assoc, Array.getElem?_append_left (by simpa using hjl)]; simpa using hj
                      · have hjl := (List.getElem?_eq_some_iff.1 hj).1
                        rw [Nat.zero_add]
                        refine hcl _ u ?_
                        rw [Array.append_assoc, Array.getElem?_append_right (by simp; omega), Array.getElem?_append_left (by simp; omega)]
                        have : xs.length * s' + j - olds.toArray.size = j := by simp; omega
                        rw [this]; simpa using hj)
                  exact ⟨_, _, g', hrun, I', (E1.trans E2).trans E'⟩
          · cases h
        · cases h
      · cases h
    · cases h
  · cases h
end

end Go.Ev

namespace Go.Ev

def argSlots : Nat → List Comp → List (Nat × SVal)
  | _, [] => []
  | i, c :: r => (i, .val c) :: argSlots (i + 1) r

abbrev CallF := FuncId → List Comp → List Frm → Option (SVal × List Frm)

/-- What a call does: handed values that read so, it returns what reads so, and touches nothing that isn't its own. -/
def CallOK (P : Program) (f : FuncId) (args : List Comp) (outer : List Frm) (res : SVal) (outer' : List Frm) : Prop :=
  ∀ (w : World) (g : Gh) (vals : Array Value) (fn : Func), P.funcs[f]? = some fn → vals.size = args.length →
    Inv w g ⟨vals ++ Array.replicate (fn.ntmps - vals.size) undef, []⟩ ⟨argSlots 0 args, [] :: outer⟩ →
    Calls P f vals w fun e w' => ∃ v g' a' st', e = .returned v ∧ Ext w g w' g' ∧ RepF w' g' res v ∧ Inv w' g' a' st' ∧ st'.boxes.tail = outer'

def argLeaf (s : Nat) : Leaf → Option Leaf
  | .d x => some (.d x)
  | .nilS => some (.d (.sl s []))
  | .emp => some (.d (.sl s []))
  | .al .tip _ n xs => some (.d (.sl n xs))
  | .fn f [] [] => some (.fn f [] [])
  | _ => none
def argLs : List Leaf → List Nat → Option (List Leaf)
  | [], _ => some []
  | l :: r, es => match argLeaf (es.headD 0) l, argLs r es.tail with
    | some x, some y => some (x :: y)
    | _, _ => none
def argComps (P : Program) (st : St) : List Operand → List TypeId → Option (List Comp)
  | [], _ => some []
  | x :: r, ts =>
    match fetch st x, argComps P st r ts.tail with
    | .val c, some l => (argLs c.ls (esz P 20 (ts.headD 0))).map fun ls => ⟨c.agg, ls⟩ :: l
    | _, _ => none

/-- A result's leaves at the caller's: a row that the callee held is the caller's now. -/
def cvLs (mk : Nat → Pos) : Nat → List Leaf → Option (List Leaf × List (Pos × Pos))
  | _, [] => some ([], [])
  | j, l :: r =>
    match l, cvLs mk (j + 1) r with
    | .d x, some (ls, ps) => some (.d x :: ls, ps)
    | .al _ p n xs, some (ls, ps) => some (.row .tip n xs :: ls, (p, mk j) :: ps)
    | .nilS, some (ls, ps) => some (.nilS :: ls, ps)
    | .undef, some (ls, ps) => some (.undef :: ls, ps)
    | _, _ => none
def cvComp (mk : Nat → Pos) (c : Comp) : Option (Comp × List (Pos × Pos)) := (cvLs mk 0 c.ls).map fun x => (⟨c.agg, x.1⟩, x.2)
def cvComps (t : Nat) : Nat → List Comp → Option (List Comp × List (Pos × Pos))
  | _, [] => some ([], [])
  | i, c :: r => match cvComp (.slot t i) c, cvComps t (i + 1) r with
    | some (c', ps), some (r', qs) => some (c' :: r', ps ++ qs)
    | _, _ => none
def posOf : List (Pos × Pos) → Pos → Option Pos
  | [], _ => none
  | (p, q) :: r, x => if p = x then some q else posOf r x
def nodupP : List (Pos × Pos) → Bool
  | [] => true
  | (p, _) :: r => (posOf r p).isNone && nodupP r
def cvS (t : Nat) : SVal → Option SVal
  | .val c => (cvComp (.slot t 0) c).bind fun x => if nodupP x.2 then some (.val x.1) else none
  | .tup cs => (cvComps t 0 cs).bind fun x => if nodupP x.2 then some (.tup x.1) else none

/-- May a function be entered, and of which types are its parameters? -/
def paramsO (P : Program) (f : FuncId) : Option (List TypeId) :=
  match P.funcs[f]? with
  | some fn => if fn.body.isSome && fn.name != "runtime.NumGoroutine" then some fn.params.toList else none
  | none => none

def callPure (P : Program) (call : CallF) (st : St) (d : Nat) (f : FuncId) (args : List Operand) : Option SVal :=
  match paramsO P f with
  | some ts =>
    match argComps P st args ts with
    | some cs =>
      match call f cs [] with
      | some (res, _) => cvS d res
      | none => none
    | none => none
  | none => none

/-- The ghosts that a callee gets: what may be seen it may see; what is the caller's own is another's. -/
def callG (g : Gh) : Gh where
  own b := match g.own b with
    | .imm => .imm
    | .free => .free
    | .row .tip _ => .imm
    | _ => .other
  fr := g.fr
/-- The ghosts behind the call: all old blocks as they were. -/
def retG (n : Nat) (g g' : Gh) (ps : List (Pos × Pos)) : Gh where
  own b := if b < n then g.own b else match g'.own b with
    | .imm => .imm
    | .row m p => match posOf ps p with
      | some q => .row .tip q
      | none => match m with
        | .tip => .imm
        | .own => .free
    | _ => .free
  fr b := if b < n then g.fr b else g'.fr b

section
variable {P : Program} {w w' : World} {g g' : Gh} {a : Act} {st : St}

theorem callG_keeps (w : World) (g : Gh) : Keeps w g w (callG g) where
  rd b hb := by
    rcases hb with h | ⟨p, h⟩
    · exact .inl (by simp [callG, h])
    · exact .inl (by simp [callG, h])
  fr _ _ := Nat.le_refl _
  cell _ _ _ _ := rfl

theorem argLeaf_rep {s : Nat} {q q' : Pos} {l x : Leaf} {v : Value} (h : RepLeaf w g q l v) (hx : argLeaf s l = some x) : RepLeaf w (callG g) q' x v := by
  have K := callG_keeps w g
  cases l with
  | d y => cases hx; exact RepPV.keep K y v h
  | nilS =>
    cases hx
    obtain rfl := h
    rw [RepLeaf, RepPV]
    exact ⟨none, 0, rfl, Nat.le_refl _, fun _ => rfl, .inl rfl⟩
  | emp =>
    cases hx
    obtain ⟨ad, c, rfl⟩ := h
    rw [RepLeaf, RepPV]
    exact ⟨some ad, c, rfl, Nat.zero_le _, by simp, .inl rfl⟩
  | al m p n xs =>
    cases m with
    | own => cases hx
    | tip => cases hx; exact RepPV.keep K _ v (tok_data h)
  | fn f fi ca =>
    cases fi with
    | cons _ _ => cases hx
    | nil =>
      cases ca with
      | cons _ _ => cases hx
      | nil =>
        cases hx
        obtain ⟨us, vs, hv, h1, h2⟩ := h
        refine ⟨us, vs, hv, ?_, ?_⟩
        · cases hu : us.toList with
          | nil => trivial
          | cons y ys => rw [hu] at h1; exact h1.elim
        · cases hu : vs.toList with
          | nil => trivial
          | cons y ys => rw [hu] at h2; exact h2.elim
  | _ => cases hx

theorem argLs_rep {mk mk' : Nat → Pos} : ∀ {j j' : Nat} {ls xs : List Leaf} {es : List Nat} {vs : List Value}, RepLs w g mk j ls vs → argLs ls es = some xs → RepLs w (callG g) mk' j' xs vs
  | _, _, [], xs, _, [], _, h => by cases h; trivial
  | _, _, [], _, _, _ :: _, h, _ => h.elim
  | _, _, _ :: _, _, _, [], h, _ => h.elim
  | _, _, l :: r, xs, es, v :: vs, h, hx => by
    unfold argLs at hx
    split at hx
    · rename_i x y h1 h2
      cases hx
      exact ⟨argLeaf_rep h.1 h1, argLs_rep h.2 h2⟩
    · cases hx
theorem argComp_rep {c : Comp} {ls : List Leaf} {es : List Nat} {v : Value} (h : ∀ mk, RepComp w g mk c v) (hx : argLs c.ls es = some ls) (mk : Nat → Pos) : RepComp w (callG g) mk ⟨c.agg, ls⟩ v := by
  obtain ⟨ag, cl⟩ := c
  cases ag with
  | true => obtain ⟨vs, hv, hr⟩ := h mk; exact ⟨vs, hv, argLs_rep hr hx⟩
  | false =>
    obtain ⟨l, hl, hr⟩ := h mk
    obtain rfl : cl = [l] := hl
    have hr2 : RepLs w g mk 0 [l] [v] := ⟨hr, trivial⟩
    have := argLs_rep (mk' := mk) (j' := 0) hr2 hx
    match ls, this with
    | [x], h => exact ⟨x, rfl, h.1⟩
theorem argComps_rep (I : Inv w g a st) : ∀ {l : List Operand} {ts : List TypeId} {cs : List Comp}, argComps P st l ts = some cs → RepFs w (callG g) cs (l.map a.eval)
  | [], _, cs, h => by cases h; trivial
  | x :: r, ts, cs, h => by
    unfold argComps at h
    split at h
    · rename_i c l hc hl
      simp only [Option.map_eq_some_iff] at h
      obtain ⟨ls, hls, rfl⟩ := h
      have hf := I.fetchF x
      rw [hc] at hf
      exact ⟨argComp_rep hf hls, argComps_rep I hl⟩
    · cases h

theorem look_argSlots : ∀ (cs : List Comp) (i t : Nat) (s : SVal), look (argSlots i cs) t = some s → ∃ c, s = .val c ∧ i ≤ t ∧ cs[t - i]? = some c
  | [], _, _, _, h => by cases h
  | c :: r, i, t, s, h => by
    simp only [argSlots, look] at h
    by_cases e : i = t
    · subst e
      simp only [if_true, Option.some.injEq] at h
      exact ⟨c, h.symm, Nat.le_refl _, by simp⟩
    · simp only [e, if_false] at h
      obtain ⟨c', h1, h2, h3⟩ := look_argSlots r (i + 1) t s h
      refine ⟨c', h1, by omega, ?_⟩
      rw [show t - i = (t - (i + 1)) + 1 by omega]
      simpa using h3

theorem RepFs.length' : ∀ {cs : List Comp} {vs : List Value}, RepFs w g cs vs → cs.length = vs.length
  | [], [], _ => rfl
  | [], _ :: _, h => h.elim
  | _ :: _, [], h => h.elim
  | _ :: _, _ :: _, h => by simp [RepFs.length' h.2]

/-- A callee's slots as it is entered. -/
theorem entry_slots {cs : List Comp} {vals : Array Value} (h : RepFs w g cs vals.toList) (n : Nat) (t : Nat) (s : SVal) (hs : look (argSlots 0 cs) t = some s) :
    t < (vals ++ Array.replicate n undef).size ∧ RepS w g t s ((vals ++ Array.replicate n undef).getD t undef) := by
  obtain ⟨c, rfl, _, hc⟩ := look_argSlots cs 0 t s hs
  simp only [Nat.sub_zero] at hc
  obtain ⟨v, hv, hr⟩ := h.get hc
  have hlt : t < vals.size := by
    have := (List.getElem?_eq_some_iff.1 hv).1
    simpa using this
  refine ⟨by simp; omega, ?_⟩
  have hg : (vals ++ Array.replicate n undef).getD t undef = v := by
    have hv' : vals[t]? = some v := by simpa using hv
    simp only [Array.getD_eq_getD_getElem?]
    rw [Array.getElem?_append_left hlt, hv']
    rfl
  rw [hg]
  exact hr _

theorem callG_old {b : Nat} (h : g.own b ≠ .free) : (callG g).own b = .imm ∨ (callG g).own b = .other := by
  unfold callG
  simp only
  cases hb : g.own b with
  | free => exact absurd hb h
  | row m p => cases m <;> simp
  | _ => simp
theorem callG_free {b : Nat} (h : g.own b = .free) : (callG g).own b = .free := by simp [callG, h]

/-- Behind a call of a callee that was handed values alone. -/
theorem retG_up (E : Ext w (callG g) w' g') (ps : List (Pos × Pos)) : Up w g w' (retG w.heap.size g g' ps) where
  own b hb := by simp [retG, hb, Gh.lo]
  heap b hb h := (E.imm b (callG_old h)).1

theorem callee_old (E : Ext w (callG g) w' g') {b : Nat} (hb : b < w.heap.size) : g'.own b = (callG g).own b := by
  by_cases h : g.own b = .free
  · rw [callG_free h]; exact E.fre b hb (callG_free h)
  · exact (E.imm b (callG_old h)).2.1

theorem callG_rd {b : Nat} (h : (callG g).own b = .imm) : g.rd b := by
  unfold callG at h
  simp only at h
  cases hb : g.own b with
  | imm => exact .inl hb
  | row m p => cases m with
    | tip => exact .inr ⟨p, hb⟩
    | own => simp [hb] at h
  | _ => simp [hb] at h

theorem retG_keeps (E : Ext w (callG g) w' g') (ps : List (Pos × Pos)) : Keeps w' g' w' (retG w.heap.size g g' ps) where
  rd b hb := by
    by_cases hlt : b < w.heap.size
    · have ho := callee_old E hlt
      have himm : (callG g).own b = .imm := by
        rcases hb with h | ⟨p, h⟩
        · rw [← ho]; exact h
        · rw [ho] at h
          by_cases hf : g.own b = .free
          · rw [callG_free hf] at h; cases h
          · rcases callG_old hf with h' | h' <;> rw [h'] at h <;> cases h
      have := callG_rd himm
      unfold Gh.rd at this ⊢
      simpa [retG, hlt] using this
    · rcases hb with h | ⟨p, h⟩
      · exact .inl (by simp [retG, hlt, h])
      · cases hp : posOf ps p with
        | none => exact .inl (by simp [retG, hlt, h, hp])
        | some q => exact .inr ⟨q, by simp [retG, hlt, h, hp]⟩
  fr b hb := by
    by_cases hlt : b < w.heap.size
    · have hne : g.own b ≠ .free := by
        intro hf
        have := E.fre b hlt (callG_free hf)
        rcases hb with h | ⟨p, h⟩ <;> rw [this] at h <;> cases h
      have := (E.imm b (callG_old hne)).2.2
      simp only [retG, hlt, if_true]
      rw [this]; exact Nat.le_refl _
    · simp [retG, hlt]
  cell _ _ _ _ := rfl

theorem tok_ret (E : Ext w (callG g) w' g') {ps : List (Pos × Pos)} {m : Mode} {p q : Pos} {n : Nat} {xs : List (List PV)} {v : Value} (h : TokV w' g' m p n xs v) (hq : posOf ps p = some q) :
    TokV w' (retG w.heap.size g g' ps) .tip q n xs v := by
  rcases h with h | ⟨b, c, cs, T, hv, hb, hh, hc, hs, hf, hr⟩
  · exact .inl h
  · have hlt : ¬ b < w.heap.size := by
      intro hlt
      have ho := callee_old E hlt
      rw [hb] at ho
      by_cases hf : g.own b = .free
      · rw [callG_free hf] at ho; cases ho
      · rcases callG_old hf with h' | h' <;> rw [h'] at ho <;> cases ho
    refine .inr ⟨b, c, cs, T, hv, by simp [retG, hlt, hb, hq], hh, hc, hs, by simp [retG, hlt]; exact hf, RepRow.keep (retG_keeps E ps) n b xs _ (fun _ _ _ => rfl) hr⟩

theorem posOf_append (ps qs : List (Pos × Pos)) (p : Pos) : posOf (ps ++ qs) p = (posOf ps p).or (posOf qs p) := by
  induction ps with
  | nil => simp [posOf]
  | cons x r ih =>
    obtain ⟨a, b⟩ := x
    simp only [List.cons_append, posOf]
    split
    · simp
    · exact ih
/-- In a list without a place twice each pair is found. -/
theorem posOf_mem {ps : List (Pos × Pos)} (h : nodupP ps = true) {p q : Pos} (hm : (p, q) ∈ ps) : posOf ps p = some q := by
  induction ps with
  | nil => simp at hm
  | cons x r ih =>
    obtain ⟨a, b⟩ := x
    simp only [nodupP, Bool.and_eq_true, Option.isNone_iff_eq_none] at h
    simp only [posOf]
    rcases List.mem_cons.1 hm with e | hm
    · cases e; simp
    · have := ih h.2 hm
      split
      · rename_i e; subst e; rw [h.1] at this; cases this
      · exact this

theorem cvLs_rep (E : Ext w (callG g) w' g') {PS : List (Pos × Pos)} (hnd : nodupP PS = true) {mk mk' : Nat → Pos} : ∀ {j j' : Nat} {ls xs : List Leaf} {ps : List (Pos × Pos)} {vs : List Value},
    RepLs w' g' mk' j' ls vs → cvLs mk j ls = some (xs, ps) → (∀ x ∈ ps, x ∈ PS) → RepLs w' (retG w.heap.size g g' PS) mk j xs vs
  | _, _, [], _, _, [], _, h, _ => by cases h; trivial
  | _, _, [], _, _, _ :: _, h, _, _ => h.elim
  | _, _, _ :: _, _, _, [], h, _, _ => h.elim
  | j, j', l :: r, xs, ps, v :: vs, h, hx, hm => by
    unfold cvLs at hx
    split at hx
    · rename_i x ls qs hr
      cases hx
      exact ⟨RepPV.keep (retG_keeps E PS) x v h.1, cvLs_rep E hnd h.2 hr hm⟩
    · rename_i m p n ys ls qs hr
      cases hx
      refine ⟨tok_ret E h.1 (posOf_mem hnd (hm _ (by simp))), cvLs_rep E hnd h.2 hr fun x hx => hm x (by simp [hx])⟩
    · rename_i ls qs hr
      cases hx
      exact ⟨h.1, cvLs_rep E hnd h.2 hr hm⟩
    · rename_i ls qs hr
      cases hx
      exact ⟨trivial, cvLs_rep E hnd h.2 hr hm⟩
    · cases hx

theorem cvComp_rep (E : Ext w (callG g) w' g') {PS ps : List (Pos × Pos)} (hnd : nodupP PS = true) {mk : Nat → Pos} {c c' : Comp} {v : Value} (h : ∀ mk, RepComp w' g' mk c v) (hx : cvComp mk c = some (c', ps))
    (hm : ∀ x ∈ ps, x ∈ PS) : RepComp w' (retG w.heap.size g g' PS) mk c' v := by
  obtain ⟨ag, cl⟩ := c
  unfold cvComp at hx
  simp only [Option.map_eq_some_iff, Prod.mk.injEq] at hx
  obtain ⟨⟨xs, ps'⟩, hx, rfl, rfl⟩ := hx
  cases ag with
  | true => obtain ⟨vs, hv, hr⟩ := h mk; exact ⟨vs, hv, cvLs_rep E hnd hr hx hm⟩
  | false =>
    obtain ⟨l, hl, hr⟩ := h mk
    obtain rfl : cl = [l] := hl
    have hr2 : RepLs w' g' mk 0 [l] [v] := ⟨hr, trivial⟩
    have := cvLs_rep E hnd hr2 hx hm
    match xs, this with
    | [x], h => exact ⟨x, rfl, h.1⟩
theorem cvComps_rep (E : Ext w (callG g) w' g') {PS : List (Pos × Pos)} (hnd : nodupP PS = true) {t : Nat} : ∀ {i : Nat} {cs cs' : List Comp} {ps : List (Pos × Pos)} {vs : List Value},
    RepFs w' g' cs vs → cvComps t i cs = some (cs', ps) → (∀ x ∈ ps, x ∈ PS) → RepComps w' (retG w.heap.size g g' PS) t i cs' vs
  | _, [], _, _, [], _, h, _ => by cases h; trivial
  | _, [], _, _, _ :: _, h, _, _ => h.elim
  | _, _ :: _, _, _, [], h, _, _ => h.elim
  | i, c :: r, cs', ps, v :: vs, h, hx, hm => by
    unfold cvComps at hx
    split at hx
    · rename_i c' ps' r' qs h1 h2
      cases hx
      exact ⟨cvComp_rep E hnd h.1 h1 fun x hx => hm x (by simp [hx]), cvComps_rep E hnd h.2 h2 fun x hx => hm x (by simp [hx])⟩
    · cases hx

theorem cvS_rep (E : Ext w (callG g) w' g') {t : Nat} {s s' : SVal} {v : Value} (h : RepF w' g' s v) (hx : cvS t s = some s') : ∃ PS, RepS w' (retG w.heap.size g g' PS) t s' v := by
  cases s with
  | val c =>
    simp only [cvS, Option.bind_eq_some_iff] at hx
    obtain ⟨⟨c', ps⟩, h1, h2⟩ := hx
    split at h2
    · rename_i hnd
      cases h2
      exact ⟨ps, cvComp_rep E hnd h h1 fun _ h => h⟩
    · cases h2
  | tup cs =>
    simp only [cvS, Option.bind_eq_some_iff] at hx
    obtain ⟨⟨cs', ps⟩, h1, h2⟩ := hx
    split at h2
    · rename_i hnd
      cases h2
      obtain ⟨vs, hv, hr⟩ := h
      exact ⟨ps, vs, hv, cvComps_rep E hnd hr h1 fun _ h => h⟩
    · cases h2

/-- A call of values alone. -/
theorem argComps_length {st : St} : ∀ {l : List Operand} {ts : List TypeId} {cs : List Comp}, argComps P st l ts = some cs → cs.length = l.length
  | [], _, cs, h => by cases h; rfl
  | x :: r, ts, cs, h => by
    unfold argComps at h
    split at h
    · rename_i c l hc hl
      simp only [Option.map_eq_some_iff] at h
      obtain ⟨ls, _, rfl⟩ := h
      simp [argComps_length hl]
    · cases h

theorem callOne_sound (I : Inv w g a st) {d : Nat} {f : FuncId} {args : List Operand} {ts : List TypeId} {cs : List Comp} {res s : SVal} {outer' : List Frm} (hts : paramsO P f = some ts) (hcs : argComps P st args ts = some cs)
    (hk : CallOK P f cs [] res outer') (h : cvS d res = some s) :
    ∃ fn, P.funcs[f]? = some fn ∧ fn.body.isNone = false ∧ (fn.name == "runtime.NumGoroutine") = false ∧
      Calls P f (args.map a.eval).toArray w fun e w' => ∃ v g', e = .returned v ∧ Up w g w' g' ∧ Ext w g w' g' ∧ RepS w' g' d s v ∧ Inv w' g' a st := by
  unfold paramsO at hts
  split at hts
  · rename_i fn hfn
    split at hts
    · rename_i hok
      cases hts
      simp only [Bool.and_eq_true] at hok
      refine ⟨fn, hfn, by simpa using hok.1, by simpa using hok.2, ?_⟩
      have hr := argComps_rep (P := P) I hcs
      have Ie : Inv w (callG g) ⟨(args.map a.eval).toArray ++ Array.replicate (fn.ntmps - (args.map a.eval).toArray.size) Go.undef, []⟩ ⟨argSlots 0 cs, [[]]⟩ := by
        constructor
        · exact fun t s hs => entry_slots (by simpa using hr) _ t s hs
        · intro k f' s ls h1 h2
          cases k with
          | zero => simp only [List.getElem?_cons_zero, Option.some.injEq] at h1; subst h1; cases h2
          | succ k => simp at h1
        · intro b b' k s hb
          unfold callG at hb; simp only at hb
          split at hb <;> cases hb
        · intro b b' p hb
          unfold callG at hb; simp only at hb
          split at hb <;> cases hb
        · exact fun b hb => callG_free (I.top b hb)
        · intro b k s hb
          unfold callG at hb; simp only at hb
          split at hb <;> cases hb
        · rfl
      refine (hk w (callG g) _ fn hfn (by simp [argComps_length hcs]) Ie).mono ?_
      rintro e w' ⟨v, g', a', st', rfl, E, hrep, I', _⟩
      obtain ⟨PS, hrs⟩ := cvS_rep E hrep h
      have U := retG_up E PS
      refine ⟨v, _, rfl, U, U.ext I.top E.os E.tape ⟨E.output, E.frz⟩ E.size, hrs, I.up U ?_ ?_ ?_ ?_⟩
      · intro b b' k s hb hb'
        have hlt : ∀ b, (retG w.heap.size g g' PS).own b = .box k s → g.own b = .box k s := by
          intro b hb
          by_cases hl : b < w.heap.size
          · simpa [retG, hl] using hb
          · simp only [retG, hl, if_false] at hb
            split at hb <;> try cases hb
            split at hb <;> try cases hb
            split at hb <;> cases hb
        exact I.injB b b' k s (hlt b hb) (hlt b' hb')
      · intro b b' p hb hb'
        have hlt : ∀ b, (retG w.heap.size g g' PS).own b = .row .own p → g.own b = .row .own p := by
          intro b hb
          by_cases hl : b < w.heap.size
          · simpa [retG, hl] using hb
          · simp only [retG, hl, if_false] at hb
            split at hb <;> try cases hb
            split at hb <;> try cases hb
            split at hb <;> cases hb
        exact I.injO b b' p (hlt b hb) (hlt b' hb')
      · intro b hb
        have hl : ¬ b < w.heap.size := by have := E.size; omega
        simp [retG, hl, I'.top b hb]
      · intro b k s hb
        have hlt : g.own b = .box k s := by
          by_cases hl : b < w.heap.size
          · simpa [retG, hl] using hb
          · simp only [retG, hl, if_false] at hb
            split at hb <;> try cases hb
            split at hb <;> try cases hb
            split at hb <;> cases hb
        exact I.tagB b k s hlt
    · cases hts
  · cases hts

theorem callPure_sound (I : Inv w g a st) {call : CallF} (hcall : ∀ f args outer res outer', call f args outer = some (res, outer') → CallOK P f args outer res outer')
    {d : Nat} {f : FuncId} {args : List Operand} {s : SVal} (h : callPure P call st d f args = some s) :
    ∃ fn, P.funcs[f]? = some fn ∧ fn.body.isNone = false ∧ (fn.name == "runtime.NumGoroutine") = false ∧
      Calls P f (args.map a.eval).toArray w fun e w' => ∃ v g', e = .returned v ∧ Up w g w' g' ∧ Ext w g w' g' ∧ RepS w' g' d s v ∧ Inv w' g' a st := by
  unfold callPure at h
  split at h
  · rename_i ts hts
    split at h
    · rename_i cs hcs
      split at h
      · rename_i res outer' hres
        exact callOne_sound I hts hcs (hcall f cs [] res outer' hres) h
      · cases h
    · cases h
  · cases h
end

end Go.Ev
