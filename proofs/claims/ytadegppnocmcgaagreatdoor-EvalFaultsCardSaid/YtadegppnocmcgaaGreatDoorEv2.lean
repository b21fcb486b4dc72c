/- The evaluator's calls and regions: what it tells is what the model does, in whatever order a region draws; no condition. -/
import Derived.Test.YtadegppnocmcgaaGreatDoorEv1
set_option linter.unusedSimpArgs false
set_option linter.unusedVariables false
namespace Go.Ev

/-! ### The caller's variables as the callee names them -/
def upCaps : List (Nat × Nat × Nat) → List (Nat × Nat × Nat)
  | [] => []
  | (k, s, o) :: r => (k + 1, s, o) :: upCaps r
def offTip (m : Mode) (n : Nat) (xs : List (List PV)) : Leaf := match m with
  | .tip => .d (.sl n xs)
  | .own => .undef
def upLeaf : Leaf → Leaf
  | .ptr k s o => .ptr (k + 1) s o
  | .fn f fi ca => .fn f (upCaps fi) (upCaps ca)
  | .al m (.box k s j) n xs => .al m (.box (k + 1) s j) n xs
  | .al m (.slot _ _ _) n xs => offTip m n xs
  | .eptr (.box k s j) i o cs => .eptr (.box (k + 1) s j) i o cs
  | .eptr (.slot _ _ _) _ _ _ => .undef
  | .it _ _ => .undef
  | l => l
def upLs : List Leaf → List Leaf
  | [] => []
  | l :: r => upLeaf l :: upLs r
def upBoxes : List Frm → List Frm
  | [] => []
  | f :: r => mpK (fun _ ls => upLs ls) f :: upBoxes r

/-! ### And back -/
def dnCaps : List (Nat × Nat × Nat) → Option (List (Nat × Nat × Nat))
  | [] => some []
  | (0, _, _) :: _ => none
  | (k + 1, s, o) :: r => match dnCaps r with
    | some l => some ((k, s, o) :: l)
    | none => none
def dnLeaf : Leaf → Leaf
  | .ptr 0 _ _ => .undef
  | .ptr (k + 1) s o => .ptr k s o
  | .fn f fi ca => match dnCaps fi, dnCaps ca with
    | some a, some b => .fn f a b
    | _, _ => .undef
  | .al m (.box (k + 1) s j) n xs => .al m (.box k s j) n xs
  | .al m _ n xs => offTip m n xs
  | .eptr (.box (k + 1) s j) i o cs => .eptr (.box k s j) i o cs
  | .eptr _ _ _ _ => .undef
  | .it _ _ => .undef
  | l => l
def dnLs : List Leaf → List Leaf
  | [] => []
  | l :: r => dnLeaf l :: dnLs r
def dnBoxes : List Frm → List Frm
  | [] => []
  | f :: r => mpK (fun _ ls => dnLs ls) f :: dnBoxes r

/-- The caller's own leaves behind the call: rows that were handed over, or that stand in variables, are looked at alone. -/
def afLeaf (D : List (Pos × Pos)) (pass : Bool) (q : Pos) : Leaf → Leaf
  | .row m n xs => match posOf D q with
    | some _ => offTip m n xs
    | none => .row m n xs
  | .al m p n xs => match posOf D p, pass, p with
    | some _, _, _ => offTip m n xs
    | none, true, .box _ _ _ => offTip m n xs
    | none, _, _ => .al m p n xs
  | .eptr p i o cs => match pass, p with
    | true, .box _ _ _ => .undef
    | _, _ => .eptr p i o cs
  | l => l

/-! ### Ghosts -/
def inOwn (pass : Bool) (D : List (Pos × Pos)) : Own → Own
  | .imm => .imm
  | .free => .free
  | .other => .other
  | .row .tip p => match posOf D p, pass, p with
    | some q, _, _ => .row .tip q
    | none, true, .box k s j => .row .tip (.box (k + 1) s j)
    | none, _, _ => .imm
  | .row .own p => match pass, p with
    | true, .box k s j => .row .own (.box (k + 1) s j)
    | _, _ => .other
  | .box k s => match pass with
    | true => .box (k + 1) s
    | false => .other
def inG (pass : Bool) (D : List (Pos × Pos)) (g : Gh) : Gh := ⟨fun b => inOwn pass D (g.own b), g.fr⟩

def cvOwn (pass : Bool) (qs : List (Pos × Pos)) : Own → Own
  | .imm => .imm
  | .box (k + 1) s => match pass with
    | true => .box k s
    | false => .free
  | .row m p => match posOf qs p with
    | some q => .row .tip q
    | none => match pass, p with
      | true, .box (k + 1) s j => .row m (.box k s j)
      | _, _ => match m with
        | .tip => .imm
        | .own => .free
  | _ => .free
def keptO : Own → Bool
  | .imm | .other | .free => true
  | _ => false
def outG (n : Nat) (pass : Bool) (D qs : List (Pos × Pos)) (g g' : Gh) : Gh where
  own b := if b < n ∧ keptO (inOwn pass D (g.own b)) = true then g.own b else cvOwn pass qs (g'.own b)
  fr b := if b < n ∧ keptO (inOwn pass D (g.own b)) = true then g.fr b else g'.fr b

/-- Places of slots alone. -/
def slotP : Pos → Bool
  | .slot _ _ _ => true
  | _ => false
def slotsD (D : List (Pos × Pos)) : Prop := ∀ p q, posOf D p = some q → slotP p = true ∧ slotP q = true
/-- Places of the callee's own. -/
def innerP : Pos → Bool
  | .slot _ _ _ => true
  | .box 0 _ _ => true
  | _ => false
def innerQ (qs : List (Pos × Pos)) : Prop := ∀ p q, posOf qs p = some q → innerP p = true

section
variable {P : Program} {w w' : World} {g g' : Gh} {a : Act} {st : St} {pass : Bool} {D qs : List (Pos × Pos)}

theorem inG_own (b : Nat) : (inG pass D g).own b = inOwn pass D (g.own b) := rfl
theorem inG_fr (b : Nat) : (inG pass D g).fr b = g.fr b := rfl
theorem inG_lo (b : Nat) : (inG pass D g).lo b = g.lo b := rfl

theorem inOwn_rd (b : Nat) (h : g.rd b) : (inG pass D g).rd b := by
  rcases h with h | ⟨p, h⟩
  · exact .inl (by simp [inG, inOwn, h])
  · unfold Gh.rd
    simp only [inG, h, inOwn]
    split
    · exact .inr ⟨_, rfl⟩
    · exact .inr ⟨_, rfl⟩
    · exact .inl rfl
theorem inG_keeps : Keeps w g w (inG pass D g) := ⟨fun b h => inOwn_rd b h, fun _ _ => Nat.le_refl _, fun _ _ _ _ => rfl⟩

theorem posD_box (hD : slotsD D) {k s j : Nat} : posOf D (.box k s j) = none := by
  cases h : posOf D (.box k s j) with
  | none => rfl
  | some q => have := (hD _ _ h).1; simp [slotP] at this
theorem posQ_box (hQ : innerQ qs) {k s j : Nat} : posOf qs (.box (k + 1) s j) = none := by
  cases h : posOf qs (.box (k + 1) s j) with
  | none => rfl
  | some q => have := hQ _ _ h; simp [innerP] at this

theorem inOwn_box {b k s : Nat} (h : g.own b = .box k s) : (inG true D g).own b = .box (k + 1) s := by simp [inG, inOwn, h]
theorem inOwn_row (hD : slotsD D) {b k s j : Nat} {m : Mode} (h : g.own b = .row m (.box k s j)) : (inG true D g).own b = .row m (.box (k + 1) s j) := by
  cases m <;> simp [inG, inOwn, h, posD_box hD]

theorem up_caps : ∀ {l : List (Nat × Nat × Nat)} {vs : List Value}, RepCaps g l vs → RepCaps (inG true D g) (upCaps l) vs
  | [], [], _ => trivial
  | [], _ :: _, h => h.elim
  | (_, _, _) :: _, [], h => h.elim
  | (k, s, o) :: r, v :: vs, h => by
    obtain ⟨⟨b, h1, h2⟩, h3⟩ := h
    exact ⟨⟨b, inOwn_box h1, h2⟩, up_caps h3⟩

theorem upLeaf_rep (hD : slotsD D) {k s j : Nat} {l : Leaf} {v : Value} (h : RepLeaf w g (.box k s j) l v) : RepLeaf w (inG true D g) (.box (k + 1) s j) (upLeaf l) v := by
  have K : Keeps w g w (inG true D g) := inG_keeps
  have htok : ∀ {m k s j n xs}, TokV w g m (.box k s j) n xs v → TokV w (inG true D g) m (.box (k + 1) s j) n xs v := by
    intro m k s j n xs h
    rcases h with h | ⟨b, c, cs, T, hv, hb, hh, hc, hs, hf, hr⟩
    · exact .inl h
    · exact .inr ⟨b, c, cs, T, hv, inOwn_row hD hb, hh, hc, hs, hf, RepRow.keep K n b xs _ (fun _ _ _ => rfl) hr⟩
  have hoff : ∀ {m p n xs}, TokV w g m p n xs v → RepLeaf w (inG true D g) (.box (k + 1) s j) (offTip m n xs) v := by
    intro m p n xs h
    cases m with
    | tip => exact RepPV.keep K _ v (tok_data h)
    | own => trivial
  cases l with
  | d x => exact RepPV.keep K x v h
  | row m n xs => exact htok h
  | al m p n xs =>
    cases p with
    | slot t i j' => exact hoff h
    | box k' s' j' => exact htok h
  | nilS => exact h
  | emp => exact h
  | ptr k' s' o =>
    obtain ⟨b, h1, h2⟩ := h
    exact ⟨b, inOwn_box h1, h2⟩
  | eptr p i o cs =>
    cases p with
    | slot t i' j' => trivial
    | box k' s' j' =>
      obtain ⟨b, n, h1, h2, h3, h4⟩ := h
      exact ⟨b, n, inOwn_row hD h1, h2, h3, RepCells.keep K b cs _ (fun _ _ _ => rfl) h4⟩
  | fptr cs =>
    obtain ⟨b, o, h1, h2, h3, h4⟩ := h
    exact ⟨b, o, h1, K.rd b h2, h3, RepCells.keep K b cs o (fun _ _ _ => rfl) h4⟩
  | fn f fi ca =>
    obtain ⟨us, vs, h1, h2, h3⟩ := h
    exact ⟨us, vs, h1, up_caps h2, up_caps h3⟩
  | it s' p => trivial
  | undef => trivial

theorem upLs_rep (hD : slotsD D) {k s : Nat} : ∀ {j : Nat} {ls : List Leaf} {vs : List Value}, RepLs w g (.box k s) j ls vs → RepLs w (inG true D g) (.box (k + 1) s) j (upLs ls) vs
  | _, [], [], _ => trivial
  | _, [], _ :: _, h => h.elim
  | _, _ :: _, [], h => h.elim
  | _, _ :: _, _ :: _, h => ⟨upLeaf_rep hD h.1, upLs_rep hD h.2⟩

theorem get_upBoxes : ∀ (l : List Frm) (k : Nat), (upBoxes l)[k]? = (l[k]?).map (mpK fun _ ls => upLs ls)
  | [], _ => by simp [upBoxes]
  | x :: r, 0 => by simp [upBoxes]
  | x :: r, k + 1 => by simp only [upBoxes, List.getElem?_cons_succ, get_upBoxes r k]
theorem get_dnBoxes : ∀ (l : List Frm) (k : Nat), (dnBoxes l)[k]? = (l[k]?).map (mpK fun _ ls => dnLs ls)
  | [], _ => by simp [dnBoxes]
  | x :: r, 0 => by simp [dnBoxes]
  | x :: r, k + 1 => by simp only [dnBoxes, List.getElem?_cons_succ, get_dnBoxes r k]

/-- What the callee's frames are. -/
def passed (pass : Bool) (st : St) : List Frm := match pass with
  | true => upBoxes st.boxes
  | false => []

/-- Arguments in their places. -/
def RepArgs (w : World) (g : Gh) : Nat → List Comp → List Value → Prop
  | _, [], [] => True
  | i, c :: r, v :: vs => RepComp w g (.slot i 0) c v ∧ RepArgs w g (i + 1) r vs
  | _, _, _ => False
theorem RepArgs.get : ∀ {i : Nat} {cs : List Comp} {vs : List Value} {t : Nat} {c : Comp}, RepArgs w g i cs vs → cs[t]? = some c → ∃ v, vs[t]? = some v ∧ RepComp w g (.slot (i + t) 0) c v
  | _, [], _, _, _, _, h => by simp at h
  | _, _ :: _, [], _, _, h, _ => h.elim
  | i, x :: r, v :: vs, 0, c, h, hc => by
    simp only [List.getElem?_cons_zero, Option.some.injEq] at hc
    subst hc
    exact ⟨v, rfl, h.1⟩
  | i, x :: r, v :: vs, t + 1, c, h, hc => by
    simp only [List.getElem?_cons_succ] at hc
    have := RepArgs.get h.2 hc
    rw [show i + 1 + t = i + (t + 1) by omega] at this
    simpa using this

theorem entry_inv (I : Inv w g a st) (hD : slotsD D) {cs : List Comp} {vals : Array Value} (h : RepArgs w (inG pass D g) 0 cs vals.toList) (n : Nat) :
    Inv w (inG pass D g) ⟨vals ++ Array.replicate n Go.undef, []⟩ ⟨argSlots 0 cs, [] :: passed pass st⟩ := by
  constructor
  · intro t s hs
    obtain ⟨c, rfl, _, hc⟩ := look_argSlots cs 0 t s hs
    simp only [Nat.sub_zero] at hc
    obtain ⟨v, hv, hr⟩ := h.get hc
    have hlt : t < vals.size := by
      have := (List.getElem?_eq_some_iff.1 hv).1
      simpa using this
    refine ⟨by simp; omega, ?_⟩
    have hg : (vals ++ Array.replicate n Go.undef).getD t Go.undef = v := by
      have hv' : vals[t]? = some v := by simpa using hv
      simp only [Array.getD_eq_getD_getElem?]
      rw [Array.getElem?_append_left hlt, hv']
      rfl
    rw [hg]
    rw [Nat.zero_add] at hr
    exact hr
  · intro k f s ls h1 h2
    cases k with
    | zero => simp only [List.getElem?_cons_zero, Option.some.injEq] at h1; subst h1; cases h2
    | succ k =>
      cases pass with
      | false => simp [passed] at h1
      | true =>
        simp only [passed, List.getElem?_cons_succ, get_upBoxes, Option.map_eq_some_iff] at h1
        obtain ⟨f', h1, rfl⟩ := h1
        simp only [look_mpK, Option.map_eq_some_iff] at h2
        obtain ⟨ls', h2, rfl⟩ := h2
        obtain ⟨b, vs, T, ho, hh, hr⟩ := I.boxes k f' s ls' h1 h2
        exact ⟨b, vs, T, inOwn_box ho, hh, upLs_rep hD hr⟩
  · intro b b' k s hb hb'
    have key : ∀ b, (inG pass D g).own b = .box k s → ∃ k', k = k' + 1 ∧ g.own b = .box k' s := by
      intro b hb
      simp only [inG_own] at hb
      cases ho : g.own b with
      | row m p => rw [ho] at hb; cases m <;> simp only [inOwn] at hb <;> split at hb <;> cases hb
      | box k' s' =>
        rw [ho] at hb
        simp only [inOwn] at hb
        split at hb
        · cases hb; exact ⟨k', rfl, rfl⟩
        · cases hb
      | _ => rw [ho] at hb; simp [inOwn] at hb
    obtain ⟨k1, rfl, h1⟩ := key b hb
    obtain ⟨k2, e, h2⟩ := key b' hb'
    obtain rfl : k1 = k2 := by omega
    exact I.injB b b' k1 s h1 h2
  · intro b b' p hb hb'
    have key : ∀ b, (inG pass D g).own b = .row .own p → ∃ k s j, p = .box (k + 1) s j ∧ g.own b = .row .own (.box k s j) := by
      intro b hb
      simp only [inG_own] at hb
      cases ho : g.own b with
      | row m p' =>
        rw [ho] at hb
        cases m with
        | tip => simp only [inOwn] at hb; split at hb <;> cases hb
        | own =>
          simp only [inOwn] at hb
          split at hb
          · cases hb; exact ⟨_, _, _, rfl, rfl⟩
          · cases hb
      | box k' s' => rw [ho] at hb; simp only [inOwn] at hb; split at hb <;> cases hb
      | _ => rw [ho] at hb; simp [inOwn] at hb
    obtain ⟨k, s, j, rfl, h1⟩ := key b hb
    obtain ⟨k2, s2, j2, e, h2⟩ := key b' hb'
    cases e
    exact I.injO b b' _ h1 h2
  · intro b hb
    simp [inG, inOwn, I.top b hb]
  · intro b k s hb
    simp only [inG_own] at hb
    cases ho : g.own b with
    | row m p => rw [ho] at hb; cases m <;> simp only [inOwn] at hb <;> split at hb <;> cases hb
    | box k' s' =>
      rw [ho] at hb
      cases pass with
      | false => simp [inOwn] at hb
      | true =>
        simp only [inOwn] at hb
        cases hb
        obtain ⟨f, ls, h1, h2⟩ := I.tagB b k' s ho
        exact ⟨mpK (fun _ ls => upLs ls) f, upLs ls, by simp [passed, get_upBoxes, h1], by simp [look_mpK, h2]⟩
    | _ => rw [ho] at hb; simp [inOwn] at hb
  · rfl

end
end Go.Ev

namespace Go.Ev

section
variable {P : Program} {w w' : World} {g g' : Gh} {a : Act} {st : St} {pass : Bool} {D qs : List (Pos × Pos)}

theorem outG_lo (n b : Nat) : (outG n pass D qs g g').lo b = g.lo b := rfl

theorem kept_own {n b : Nat} (hb : b < n) (h : keptO (inOwn pass D (g.own b)) = true) : (outG n pass D qs g g').own b = g.own b ∧ (outG n pass D qs g g').fr b = g.fr b := by
  simp [outG, hb, h]
theorem gone_own {n b : Nat} (h : ¬ (b < n ∧ keptO (inOwn pass D (g.own b)) = true)) : (outG n pass D qs g g').own b = cvOwn pass qs (g'.own b) ∧ (outG n pass D qs g g').fr b = g'.fr b := by
  unfold outG
  simp only []
  rw [if_neg h, if_neg h]
  exact ⟨rfl, rfl⟩

theorem cv_rd {b : Nat} (h : g'.rd b) : cvOwn pass qs (g'.own b) = .imm ∨ ∃ p, cvOwn pass qs (g'.own b) = .row .tip p := by
  rcases h with h | ⟨p, h⟩
  · left; simp [cvOwn, h]
  · simp only [h, cvOwn]
    split
    · exact .inr ⟨_, rfl⟩
    · split
      · exact .inr ⟨_, rfl⟩
      · exact .inl rfl

/-- A block that stays the caller's own: nothing has happened to it. -/
theorem kept_same (E : Ext w (inG pass D g) w' g') {b : Nat} (hb : b < w.heap.size) (h : keptO (inOwn pass D (g.own b)) = true) (hf : g.own b ≠ .free) :
    w'.heap[b]? = w.heap[b]? ∧ g'.own b = inOwn pass D (g.own b) ∧ g'.fr b = g.fr b := by
  have : (inG pass D g).own b = .imm ∨ (inG pass D g).own b = .other := by
    rw [inG_own]
    cases ho : g.own b with
    | free => exact absurd ho hf
    | imm => exact .inl rfl
    | other => exact .inr rfl
    | row m p =>
      rw [ho] at h
      cases m with
      | tip =>
        simp only [inOwn] at h ⊢
        split at h <;> first | (simp [keptO] at h; done) | exact .inl rfl
      | own =>
        simp only [inOwn] at h ⊢
        split at h <;> first | (simp [keptO] at h; done) | exact .inr rfl
    | box k s =>
      rw [ho] at h
      cases pass with
      | true => simp [inOwn, keptO] at h
      | false => exact .inr rfl
  exact E.imm b this

theorem out_keeps (E : Ext w (inG pass D g) w' g') (top : ∀ b, w.heap.size ≤ b → g.own b = .free) : Keeps w g w' (outG w.heap.size pass D qs g g') where
  rd b hb := by
    by_cases hk : b < w.heap.size ∧ keptO (inOwn pass D (g.own b)) = true
    · unfold Gh.rd at hb ⊢
      rw [(kept_own hk.1 hk.2).1]
      exact hb
    · unfold Gh.rd
      rw [(gone_own hk).1]
      exact cv_rd (E.keeps.rd b (inOwn_rd b hb))
  fr b hb := by
    by_cases hk : b < w.heap.size ∧ keptO (inOwn pass D (g.own b)) = true
    · rw [(kept_own hk.1 hk.2).2]; exact Nat.le_refl _
    · rw [(gone_own hk).2]
      exact E.keeps.fr b (inOwn_rd b hb)
  cell b o hb ho := E.keeps.cell b o (inOwn_rd b hb) ho

theorem out_ext (E : Ext w (inG pass D g) w' g') (top : ∀ b, w.heap.size ≤ b → g.own b = .free) : Ext w g w' (outG w.heap.size pass D qs g g') where
  os := E.os
  tape := E.tape
  output := E.output
  size := E.size
  keeps := out_keeps E top
  imm b hb := by
    have hlt : b < w.heap.size := lt_of_own top (by rcases hb with h | h <;> rw [h] <;> simp)
    have hk : keptO (inOwn pass D (g.own b)) = true := by rcases hb with h | h <;> simp [h, inOwn, keptO]
    obtain ⟨h1, h2⟩ := kept_own (qs := qs) (g' := g') hlt hk
    exact ⟨(kept_same E hlt hk (by rcases hb with h | h <;> rw [h] <;> simp)).1, h1, h2⟩
  fre b hb h := by
    rw [(kept_own hb (by simp [h, inOwn, keptO])).1]
    exact h
  outer b k s h := by
    have hlt : b < w.heap.size := lt_of_own top (by rw [h]; simp)
    cases pass with
    | true =>
      have h1 := E.outer b (k + 1) s (inOwn_box h)
      rw [(gone_own (by rintro ⟨_, hk⟩; simp [h, inOwn, keptO] at hk)).1, h1]
      rfl
    | false =>
      rw [(kept_own hlt (by simp [h, inOwn, keptO])).1]
      exact h
  frz := E.frz

/-- What the callee might see the caller may see behind the call. -/
theorem ret_keeps (E : Ext w (inG pass D g) w' g') : Keeps w' g' w' (outG w.heap.size pass D qs g g') where
  rd b hb := by
    unfold Gh.rd
    by_cases hk : b < w.heap.size ∧ keptO (inOwn pass D (g.own b)) = true
    · rw [(kept_own hk.1 hk.2).1]
      by_cases hf : g.own b = .free
      · have h1 := E.fre b hk.1 (by simp [inG, hf, inOwn])
        rcases hb with h | ⟨p, h⟩ <;> rw [h1] at h <;> cases h
      · obtain ⟨_, h2, _⟩ := kept_same E hk.1 hk.2 hf
        have h3 : inOwn pass D (g.own b) = .imm := by
          rcases hb with h | ⟨p, h⟩
          · rw [← h2]; exact h
          · rw [h2] at h; rw [h] at hk; simp [keptO] at hk
        cases ho : g.own b with
        | imm => exact .inl rfl
        | row m p =>
          cases m with
          | tip => exact .inr ⟨p, rfl⟩
          | own => rw [ho] at h3; simp only [inOwn] at h3; split at h3 <;> cases h3
        | box k s => rw [ho] at h3; simp only [inOwn] at h3; split at h3 <;> cases h3
        | other => rw [ho] at h3; simp [inOwn] at h3
        | free => exact absurd ho hf
    · rw [(gone_own hk).1]
      exact cv_rd hb
  fr b hb := by
    by_cases hk : b < w.heap.size ∧ keptO (inOwn pass D (g.own b)) = true
    · have hf : g.own b ≠ .free := by
        intro hf
        have h1 := E.fre b hk.1 (by simp [inG, hf, inOwn])
        rcases hb with h | ⟨p, h⟩ <;> rw [h1] at h <;> cases h
      rw [(kept_own hk.1 hk.2).2, (kept_same E hk.1 hk.2 hf).2.2]
      exact Nat.le_refl _
    · rw [(gone_own hk).2]; exact Nat.le_refl _
  cell _ _ _ _ := rfl

theorem out_ptr (E : Ext w (inG pass D g) w' g') (top : ∀ b, w.heap.size ≤ b → g.own b = .free) {k s o : Nat} {v : Value} (h : RepPtr g k s o v) : RepPtr (outG w.heap.size pass D qs g g') k s o v := by
  obtain ⟨b, h1, h2⟩ := h
  have hlt : b < w.heap.size := lt_of_own top (by rw [h1]; simp)
  refine ⟨b, ?_, h2⟩
  cases pass with
  | true =>
    rw [(gone_own (by rintro ⟨_, hk⟩; simp [h1, inOwn, keptO] at hk)).1, E.outer b k s (inOwn_box h1)]
    rfl
  | false => rw [(kept_own hlt (by simp [h1, inOwn, keptO])).1]; exact h1
theorem out_caps (E : Ext w (inG pass D g) w' g') (top : ∀ b, w.heap.size ≤ b → g.own b = .free) : ∀ {l : List (Nat × Nat × Nat)} {vs : List Value}, RepCaps g l vs → RepCaps (outG w.heap.size pass D qs g g') l vs
  | [], [], _ => trivial
  | [], _ :: _, h => h.elim
  | (_, _, _) :: _, [], h => h.elim
  | (_, _, _) :: _, _ :: _, h => ⟨out_ptr E top h.1, out_caps E top h.2⟩

/-- A row whose place isn't handed on: as it was. -/
theorem out_tok (E : Ext w (inG pass D g) w' g') (top : ∀ b, w.heap.size ≤ b → g.own b = .free) {m : Mode} {p : Pos} {n : Nat} {xs : List (List PV)} {v : Value} (h : TokV w g m p n xs v)
    (hp : keptO (inOwn pass D (.row m p)) = true) : TokV w' (outG w.heap.size pass D qs g g') m p n xs v := by
  rcases h with h | ⟨b, c, cs, T, hv, hb, hh, hc, hs, hf, hr⟩
  · exact .inl h
  · have hlt : b < w.heap.size := lt_of_own top (by rw [hb]; simp)
    have hk : keptO (inOwn pass D (g.own b)) = true := by rw [hb]; exact hp
    obtain ⟨e1, e2⟩ := kept_own (qs := qs) (g' := g') hlt hk
    obtain ⟨e3, _, _⟩ := kept_same E hlt hk (by rw [hb]; simp)
    exact .inr ⟨b, c, cs, T, hv, by rw [e1]; exact hb, by rw [e3]; exact hh, hc, hs, by rw [outG_lo, e2]; exact hf, RepRow.keep (out_keeps E top) n b xs _ (fun _ _ _ => cell_of_heap e3) hr⟩

/-- The caller's leaves behind the call. -/
theorem afLeaf_rep (E : Ext w (inG pass D g) w' g') (top : ∀ b, w.heap.size ≤ b → g.own b = .free) {q : Pos} (hq : pass = true → slotP q = true) {l : Leaf} {v : Value} (h : RepLeaf w g q l v) :
    RepLeaf w' (outG w.heap.size pass D qs g g') q (afLeaf D pass q l) v := by
  have K : Keeps w g w' (outG w.heap.size pass D qs g g') := out_keeps E top
  have hoff : ∀ {m p n xs}, TokV w g m p n xs v → RepLeaf w' (outG w.heap.size pass D qs g g') q (offTip m n xs) v := by
    intro m p n xs h
    cases m with
    | tip => exact RepPV.keep K _ v (tok_data h)
    | own => trivial
  have hslot : ∀ {m p}, posOf D p = none → (pass = true → slotP p = true) → keptO (inOwn pass D (.row m p)) = true := by
    intro m p hp hs
    cases p with
    | slot t i j => cases m <;> cases pass <;> simp [inOwn, hp, keptO]
    | box k s j =>
      cases pass with
      | true => have := hs rfl; simp [slotP] at this
      | false => cases m <;> simp [inOwn, hp, keptO]
  cases l with
  | d x => exact RepPV.keep K x v h
  | row m n xs =>
    simp only [afLeaf]
    cases hp : posOf D q with
    | some _ => exact hoff h
    | none => exact out_tok E top h (hslot hp hq)
  | al m p n xs =>
    simp only [afLeaf]
    cases hp : posOf D p with
    | some _ => exact hoff h
    | none =>
      cases p with
      | slot t i j =>
        have := out_tok (qs := qs) E top h (hslot hp fun _ => rfl)
        cases pass <;> exact this
      | box k s j =>
        cases pass with
        | true => exact hoff h
        | false => exact out_tok E top h (hslot hp (by simp))
  | nilS => exact h
  | emp => exact h
  | ptr k s o => exact out_ptr E top h
  | eptr p i o cs =>
    simp only [afLeaf]
    split
    · trivial
    · rename_i hne
      obtain ⟨b, s, h1, h2, h3, h4⟩ := h
      have hlt : b < w.heap.size := lt_of_own top (by rw [h1]; simp)
      have hk : keptO (inOwn pass D (g.own b)) = true := by
        rw [h1]
        cases p with
        | slot t i j => cases pass <;> simp [inOwn, keptO]
        | box k s j =>
          cases pass with
          | true => exact absurd rfl (hne k s j rfl)
          | false => simp [inOwn, keptO]
      obtain ⟨e1, e2⟩ := kept_own (qs := qs) (g' := g') hlt hk
      obtain ⟨e3, _, _⟩ := kept_same E hlt hk (by rw [h1]; simp)
      exact ⟨b, s, by rw [e1]; exact h1, h2, h3, RepCells.keep K b cs _ (fun _ _ _ => cell_of_heap e3) h4⟩
  | fptr cs =>
    obtain ⟨b, o, h1, h2, h3, h4⟩ := h
    exact ⟨b, o, h1, K.rd b h2, Nat.le_trans h3 (K.fr b h2), RepCells.keep K b cs o (fun o' _ ho' => K.cell b o' h2 (by omega)) h4⟩
  | fn f fi ca =>
    obtain ⟨us, vs, h1, h2, h3⟩ := h
    exact ⟨us, vs, h1, out_caps E top h2, out_caps E top h3⟩
  | it s pos =>
    obtain ⟨r, h1, h2, h3⟩ := h
    have hlt : r < w.heap.size := lt_of_own top (by rw [h2]; simp)
    have hk : keptO (inOwn pass D (g.own r)) = true := by
      rw [h2]
      cases q with
      | slot t i j => cases pass <;> simp [inOwn, keptO]
      | box k s j =>
        cases pass with
        | true => have := hq rfl; simp [slotP] at this
        | false => simp [inOwn, keptO]
    obtain ⟨e1, e2⟩ := kept_own (qs := qs) (g' := g') hlt hk
    obtain ⟨e3, _, _⟩ := kept_same E hlt hk (by rw [h2]; simp)
    exact ⟨r, h1, by rw [e1]; exact h2, by rw [e3]; exact h3⟩
  | undef => trivial

/-! ### What the callee told of variables -/
theorem new_own (E : Ext w (inG true D g) w' g') {b : Nat} {x : Own} (hx : g'.own b = x) (hk : keptO x = false) : (outG w.heap.size true D qs g g').own b = cvOwn true qs x ∧ (outG w.heap.size true D qs g g').fr b = g'.fr b := by
  subst hx
  refine gone_own ?_
  rintro ⟨hlt, hkk⟩
  by_cases hf : g.own b = .free
  · have h1 := E.fre b hlt (by simp [inG, hf, inOwn])
    rw [h1] at hk; simp [keptO] at hk
  · have h2 := (kept_same E hlt hkk hf).2.1
    rw [h2, hkk] at hk; cases hk

theorem dn_caps (E : Ext w (inG true D g) w' g') : ∀ {l l' : List (Nat × Nat × Nat)} {vs : List Value}, RepCaps g' l vs → dnCaps l = some l' → RepCaps (outG w.heap.size true D qs g g') l' vs
  | [], _, [], _, h => by cases h; trivial
  | [], _, _ :: _, h, _ => h.elim
  | (_, _, _) :: _, _, [], h, _ => h.elim
  | (0, s, o) :: r, _, v :: vs, _, hd => by cases hd
  | (k + 1, s, o) :: r, l', v :: vs, h, hd => by
    unfold dnCaps at hd
    split at hd
    · rename_i r' hr
      cases hd
      obtain ⟨⟨b, h1, h2⟩, h3⟩ := h
      exact ⟨⟨b, by rw [(new_own E h1 rfl).1]; rfl, h2⟩, dn_caps E h3 hr⟩
    · cases hd

theorem dn_tok (E : Ext w (inG true D g) w' g') (hQ : innerQ qs) {k s j : Nat} {m : Mode} {n : Nat} {xs : List (List PV)} {v : Value} (h : TokV w' g' m (.box (k + 1) s j) n xs v) :
    TokV w' (outG w.heap.size true D qs g g') m (.box k s j) n xs v := by
  rcases h with h | ⟨b, c, cs, T, hv, hb, hh, hc, hs, hf, hr⟩
  · exact .inl h
  · obtain ⟨e1, e2⟩ := new_own (qs := qs) E hb rfl
    refine .inr ⟨b, c, cs, T, hv, ?_, hh, hc, hs, by rw [e2]; exact hf, RepRow.keep (ret_keeps E) n b xs _ (fun _ _ _ => rfl) hr⟩
    rw [e1]
    simp [cvOwn, posQ_box hQ]

theorem ret_off (E : Ext w (inG pass D g) w' g') {q : Pos} {m : Mode} {p : Pos} {n : Nat} {xs : List (List PV)} {v : Value} (h : TokV w' g' m p n xs v) :
    RepLeaf w' (outG w.heap.size pass D qs g g') q (offTip m n xs) v := by
  cases m with
  | tip => exact RepPV.keep (ret_keeps E) _ v (tok_data h)
  | own => trivial

theorem dn_ptr (E : Ext w (inG true D g) w' g') {k s o : Nat} {v : Value} (h : RepPtr g' (k + 1) s o v) : RepPtr (outG w.heap.size true D qs g g') k s o v := by
  obtain ⟨b, h1, h2⟩ := h
  exact ⟨b, by rw [(new_own E h1 rfl).1]; rfl, h2⟩

theorem dnLeaf_rep (E : Ext w (inG true D g) w' g') (hQ : innerQ qs) {k s j : Nat} {l : Leaf} {v : Value} (h : RepLeaf w' g' (.box (k + 1) s j) l v) :
    RepLeaf w' (outG w.heap.size true D qs g g') (.box k s j) (dnLeaf l) v := by
  have K : Keeps w' g' w' (outG w.heap.size true D qs g g') := ret_keeps E
  cases l with
  | d x => exact RepPV.keep K x v h
  | row m n xs => exact dn_tok E hQ h
  | al m p n xs =>
    cases p with
    | slot t i j' => exact ret_off E h
    | box k' s' j' =>
      cases k' with
      | zero => exact ret_off E h
      | succ k' => exact dn_tok E hQ h
  | nilS => exact h
  | emp => exact h
  | ptr k' s' o =>
    cases k' with
    | zero => trivial
    | succ k' => exact dn_ptr E h
  | eptr p i o cs =>
    cases p with
    | slot t i' j' => trivial
    | box k' s' j' =>
      cases k' with
      | zero => trivial
      | succ k' =>
        obtain ⟨b, n, h1, h2, h3, h4⟩ := h
        obtain ⟨e1, e2⟩ := new_own (qs := qs) E h1 rfl
        refine ⟨b, n, ?_, h2, h3, RepCells.keep K b cs _ (fun _ _ _ => rfl) h4⟩
        rw [e1]
        simp [cvOwn, posQ_box hQ]
  | fptr cs =>
    obtain ⟨b, o, h1, h2, h3, h4⟩ := h
    exact ⟨b, o, h1, K.rd b h2, Nat.le_trans h3 (K.fr b h2), RepCells.keep K b cs o (fun _ _ _ => rfl) h4⟩
  | fn f fi ca =>
    obtain ⟨us, vs, h1, h2, h3⟩ := h
    simp only [dnLeaf]
    split
    · rename_i x y hx hy
      exact ⟨us, vs, h1, dn_caps E h2 hx, dn_caps E h3 hy⟩
    · trivial
  | it s' p => trivial
  | undef => trivial

theorem dnLs_rep (E : Ext w (inG true D g) w' g') (hQ : innerQ qs) {k s : Nat} : ∀ {j : Nat} {ls : List Leaf} {vs : List Value}, RepLs w' g' (.box (k + 1) s) j ls vs →
    RepLs w' (outG w.heap.size true D qs g g') (.box k s) j (dnLs ls) vs
  | _, [], [], _ => trivial
  | _, [], _ :: _, h => h.elim
  | _, _ :: _, [], h => h.elim
  | _, _ :: _, _ :: _, h => ⟨dnLeaf_rep E hQ h.1, dnLs_rep E hQ h.2⟩

/-! ### Results -/
def rsLeaf (pass : Bool) : Leaf → Leaf
  | .row _ _ _ => .undef
  | .it _ _ => .undef
  | .al m _ n xs => offTip m n xs
  | .ptr (k + 1) s o => match pass with
    | true => .ptr k s o
    | false => .undef
  | .ptr 0 _ _ => .undef
  | .eptr _ _ _ _ => .undef
  | .fn f fi ca => match pass, fi, ca with
    | _, [], [] => .fn f [] []
    | true, fi, ca => match dnCaps fi, dnCaps ca with
      | some a, some b => .fn f a b
      | _, _ => .undef
    | false, _, _ => .undef
  | l => l

theorem rsLeaf_rep (E : Ext w (inG pass D g) w' g') {q q' : Pos} {l : Leaf} {v : Value} (h : RepLeaf w' g' q l v) : RepLeaf w' (outG w.heap.size pass D qs g g') q' (rsLeaf pass l) v := by
  have K : Keeps w' g' w' (outG w.heap.size pass D qs g g') := ret_keeps E
  cases l with
  | d x => exact RepPV.keep K x v h
  | row m n xs => trivial
  | al m p n xs => exact ret_off E h
  | nilS => exact h
  | emp => exact h
  | ptr k s o =>
    cases k with
    | zero => trivial
    | succ k =>
      cases pass with
      | true => exact dn_ptr E h
      | false => trivial
  | eptr p i o cs => trivial
  | fptr cs =>
    obtain ⟨b, o, h1, h2, h3, h4⟩ := h
    exact ⟨b, o, h1, K.rd b h2, Nat.le_trans h3 (K.fr b h2), RepCells.keep K b cs o (fun _ _ _ => rfl) h4⟩
  | fn f fi ca =>
    obtain ⟨us, vs, h1, h2, h3⟩ := h
    simp only [rsLeaf]
    split
    · refine ⟨us, vs, h1, ?_, ?_⟩
      · cases hu : us.toList with
        | nil => trivial
        | cons y ys => rw [hu] at h2; exact h2.elim
      · cases hu : vs.toList with
        | nil => trivial
        | cons y ys => rw [hu] at h3; exact h3.elim
    · split
      · rename_i x y hx hy
        exact ⟨us, vs, h1, dn_caps E h2 hx, dn_caps E h3 hy⟩
      · trivial
    · trivial
  | it s p => trivial
  | undef => trivial

/-- A row that the callee held is the caller's now. -/
theorem ret_tok (E : Ext w (inG pass D g) w' g') {m : Mode} {p q : Pos} {n : Nat} {xs : List (List PV)} {v : Value} (h : TokV w' g' m p n xs v) (hq : posOf qs p = some q) :
    TokV w' (outG w.heap.size pass D qs g g') .tip q n xs v := by
  rcases h with h | ⟨b, c, cs, T, hv, hb, hh, hc, hs, hf, hr⟩
  · exact .inl h
  · have hgone : ¬ (b < w.heap.size ∧ keptO (inOwn pass D (g.own b)) = true) := by
      rintro ⟨hlt, hkk⟩
      by_cases hf' : g.own b = .free
      · have h1 := E.fre b hlt (by simp [inG, hf', inOwn])
        rw [h1] at hb; cases hb
      · have h2 := (kept_same E hlt hkk hf').2.1
        rw [← h2, hb] at hkk; simp [keptO] at hkk
    obtain ⟨e1, e2⟩ := gone_own (qs := qs) (g' := g') hgone
    refine .inr ⟨b, c, cs, T, hv, ?_, hh, hc, hs, by rw [e2]; exact hf, RepRow.keep (ret_keeps E) n b xs _ (fun _ _ _ => rfl) hr⟩
    rw [e1, hb]
    simp [cvOwn, hq]

def rsLs (pass : Bool) (mk : Nat → Pos) : Nat → List Leaf → List Leaf × List (Pos × Pos)
  | _, [] => ([], [])
  | j, l :: r =>
    match l with
    | .al _ p n xs => match innerP p with
      | true => (.row .tip n xs :: (rsLs pass mk (j + 1) r).1, (p, mk j) :: (rsLs pass mk (j + 1) r).2)
      | false => (rsLeaf pass l :: (rsLs pass mk (j + 1) r).1, (rsLs pass mk (j + 1) r).2)
    | l => (rsLeaf pass l :: (rsLs pass mk (j + 1) r).1, (rsLs pass mk (j + 1) r).2)
def rsComps (pass : Bool) (t : Nat) : Nat → List Comp → List Comp × List (Pos × Pos)
  | _, [] => ([], [])
  | i, c :: r => (⟨c.agg, (rsLs pass (.slot t i) 0 c.ls).1⟩ :: (rsComps pass t (i + 1) r).1, (rsLs pass (.slot t i) 0 c.ls).2 ++ (rsComps pass t (i + 1) r).2)
def rsS (pass : Bool) (t : Nat) : SVal → Option (SVal × List (Pos × Pos))
  | .val c => match nodupP (rsLs pass (.slot t 0) 0 c.ls).2 with
    | true => some (.val ⟨c.agg, (rsLs pass (.slot t 0) 0 c.ls).1⟩, (rsLs pass (.slot t 0) 0 c.ls).2)
    | false => none
  | .tup cs => match nodupP (rsComps pass t 0 cs).2 with
    | true => some (.tup (rsComps pass t 0 cs).1, (rsComps pass t 0 cs).2)
    | false => none

theorem rsLs_rep (E : Ext w (inG pass D g) w' g') (hnd : nodupP qs = true) {mk mk' : Nat → Pos} : ∀ {j j' : Nat} {ls : List Leaf} {vs : List Value}, RepLs w' g' mk' j' ls vs → (∀ x ∈ (rsLs pass mk j ls).2, x ∈ qs) →
    RepLs w' (outG w.heap.size pass D qs g g') mk j (rsLs pass mk j ls).1 vs
  | _, _, [], [], _, _ => trivial
  | _, _, [], _ :: _, h, _ => h.elim
  | _, _, _ :: _, [], h, _ => h.elim
  | j, _, l :: r, v :: vs, h, hm => by
    cases l with
    | al m p n xs =>
      unfold rsLs at hm ⊢
      cases hin : innerP p with
      | true =>
        simp only [hin] at hm ⊢
        exact ⟨ret_tok E h.1 (posOf_mem hnd (hm _ (by simp))), rsLs_rep E hnd h.2 fun x hx => hm x (by simp [hx])⟩
      | false =>
        simp only [hin] at hm ⊢
        exact ⟨rsLeaf_rep E h.1, rsLs_rep E hnd h.2 hm⟩
    | _ => exact ⟨rsLeaf_rep E h.1, rsLs_rep E hnd h.2 hm⟩
theorem rsComp_rep (E : Ext w (inG pass D g) w' g') (hnd : nodupP qs = true) {mk : Nat → Pos} {c : Comp} {v : Value} (h : ∀ mk, RepComp w' g' mk c v) (hm : ∀ x ∈ (rsLs pass mk 0 c.ls).2, x ∈ qs) :
    RepComp w' (outG w.heap.size pass D qs g g') mk ⟨c.agg, (rsLs pass mk 0 c.ls).1⟩ v := by
  obtain ⟨ag, cl⟩ := c
  cases ag with
  | true => obtain ⟨vs, hv, hr⟩ := h mk; exact ⟨vs, hv, rsLs_rep E hnd hr hm⟩
  | false =>
    obtain ⟨l, hl, hr⟩ := h mk
    obtain rfl : cl = [l] := hl
    have hr2 : RepLs w' g' mk 0 [l] [v] := ⟨hr, trivial⟩
    have := rsLs_rep E hnd hr2 hm
    generalize hx : (rsLs pass mk 0 [l]).1 = xs at this
    match xs, this with
    | [x], h => exact ⟨x, rfl, h.1⟩
theorem rsComps_rep (E : Ext w (inG pass D g) w' g') (hnd : nodupP qs = true) {t : Nat} : ∀ {i : Nat} {cs : List Comp} {vs : List Value}, RepFs w' g' cs vs → (∀ x ∈ (rsComps pass t i cs).2, x ∈ qs) →
    RepComps w' (outG w.heap.size pass D qs g g') t i (rsComps pass t i cs).1 vs
  | _, [], [], _, _ => trivial
  | _, [], _ :: _, h, _ => h.elim
  | _, _ :: _, [], h, _ => h.elim
  | i, c :: r, v :: vs, h, hm => by
    unfold rsComps at hm ⊢
    exact ⟨rsComp_rep E hnd h.1 fun x hx => hm x (by simp [hx]), rsComps_rep E hnd h.2 fun x hx => hm x (by simp [hx])⟩
theorem rsS_rep (E : Ext w (inG pass D g) w' g') {t : Nat} {s s' : SVal} {v : Value} (h : RepF w' g' s v) (hx : rsS pass t s = some (s', qs)) : RepS w' (outG w.heap.size pass D qs g g') t s' v := by
  cases s with
  | val c =>
    unfold rsS at hx
    simp only [] at hx
    split at hx
    · rename_i hnd
      cases hx
      exact rsComp_rep E hnd h fun _ h => h
    · cases hx
  | tup cs =>
    unfold rsS at hx
    simp only [] at hx
    split at hx
    · rename_i hnd
      cases hx
      obtain ⟨vs, hv, hr⟩ := h
      exact ⟨vs, hv, rsComps_rep E hnd hr fun _ h => h⟩
    · cases hx

theorem rsLs_inner {mk : Nat → Pos} : ∀ {j : Nat} {ls : List Leaf}, ∀ x ∈ (rsLs pass mk j ls).2, innerP x.1 = true
  | _, [], x, hx => by simp [rsLs] at hx
  | j, l :: r, x, hx => by
    unfold rsLs at hx
    split at hx
    · split at hx
      · rename_i hin
        rcases List.mem_cons.1 hx with rfl | hx
        · exact hin
        · exact rsLs_inner x hx
      · exact rsLs_inner x hx
    · exact rsLs_inner x hx
theorem rsComps_inner {t : Nat} : ∀ {i : Nat} {cs : List Comp}, ∀ x ∈ (rsComps pass t i cs).2, innerP x.1 = true
  | _, [], x, hx => by simp [rsComps] at hx
  | i, c :: r, x, hx => by
    unfold rsComps at hx
    rcases List.mem_append.1 hx with h | h
    · exact rsLs_inner x h
    · exact rsComps_inner x h
theorem mem_posOf {ps : List (Pos × Pos)} {p q : Pos} (h : posOf ps p = some q) : (p, q) ∈ ps := by
  induction ps with
  | nil => cases h
  | cons x r ih =>
    obtain ⟨a, b⟩ := x
    simp only [posOf] at h
    split at h
    · rename_i e; subst e; cases h; simp
    · simp [ih h]
theorem rsS_inner {t : Nat} {s s' : SVal} (hx : rsS pass t s = some (s', qs)) : innerQ qs := by
  intro p q h
  have hm := mem_posOf h
  cases s with
  | val c =>
    unfold rsS at hx
    simp only [] at hx
    split at hx
    · cases hx; exact rsLs_inner _ hm
    · cases hx
  | tup cs =>
    unfold rsS at hx
    simp only [] at hx
    split at hx
    · cases hx; exact rsComps_inner _ hm
    · cases hx

/-! ### The caller's state -/
def mpSlots (f : Pos → Leaf → Leaf) (l : List (Nat × SVal)) : List (Nat × SVal) := mpK (mpS f) l
def afterSt (pass : Bool) (D : List (Pos × Pos)) (st : St) (outer' : List Frm) : St :=
  match pass with
  | true => ⟨mpK (mpS (afLeaf D true)) st.slots, dnBoxes outer'⟩
  | false => st.mp (afLeaf D false)

theorem mpLs_rep {f : Pos → Leaf → Leaf} {mk : Nat → Pos} (hf : ∀ j l v, RepLeaf w g (mk j) l v → RepLeaf w' g' (mk j) (f (mk j) l) v) : ∀ {j : Nat} {ls : List Leaf} {vs : List Value},
    RepLs w g mk j ls vs → RepLs w' g' mk j (mpLs f mk j ls) vs
  | _, [], [], _ => trivial
  | _, [], _ :: _, h => h.elim
  | _, _ :: _, [], h => h.elim
  | _, _ :: _, _ :: _, h => ⟨hf _ _ _ h.1, mpLs_rep hf h.2⟩
theorem mpComp_rep {f : Pos → Leaf → Leaf} {mk : Nat → Pos} (hf : ∀ j l v, RepLeaf w g (mk j) l v → RepLeaf w' g' (mk j) (f (mk j) l) v) {c : Comp} {v : Value} (h : RepComp w g mk c v) :
    RepComp w' g' mk (mpComp f mk c) v := by
  obtain ⟨ag, ls⟩ := c
  cases ag with
  | true => obtain ⟨vs, hv, h⟩ := h; exact ⟨vs, hv, mpLs_rep hf h⟩
  | false =>
    obtain ⟨l, hl, h⟩ := h
    obtain rfl : ls = [l] := hl
    exact ⟨f (mk 0) l, rfl, hf _ _ _ h⟩
theorem mpComps_rep {f : Pos → Leaf → Leaf} {t : Nat} (hf : ∀ i j l v, RepLeaf w g (.slot t i j) l v → RepLeaf w' g' (.slot t i j) (f (.slot t i j) l) v) : ∀ {i : Nat} {cs : List Comp} {vs : List Value},
    RepComps w g t i cs vs → RepComps w' g' t i (mpComps f t i cs) vs
  | _, [], [], _ => trivial
  | _, [], _ :: _, h => h.elim
  | _, _ :: _, [], h => h.elim
  | _, _ :: _, _ :: _, h => ⟨mpComp_rep (fun j l v => hf _ j l v) h.1, mpComps_rep hf h.2⟩
theorem mpS_rep {f : Pos → Leaf → Leaf} {t : Nat} (hf : ∀ i j l v, RepLeaf w g (.slot t i j) l v → RepLeaf w' g' (.slot t i j) (f (.slot t i j) l) v) {s : SVal} {v : Value} (h : RepS w g t s v) :
    RepS w' g' t (mpS f t s) v := by
  cases s with
  | val c => exact mpComp_rep (fun j l v => hf 0 j l v) h
  | tup cs => obtain ⟨vs, hv, h⟩ := h; exact ⟨vs, hv, mpComps_rep hf h⟩

theorem out_box (E : Ext w (inG pass D g) w' g') {b k s : Nat} (h : (outG w.heap.size pass D qs g g').own b = .box k s) :
    (pass = false ∧ b < w.heap.size ∧ g.own b = .box k s) ∨ (pass = true ∧ g'.own b = .box (k + 1) s) := by
  by_cases hk : b < w.heap.size ∧ keptO (inOwn pass D (g.own b)) = true
  · rw [(kept_own hk.1 hk.2).1] at h
    cases pass with
    | false => exact .inl ⟨rfl, hk.1, h⟩
    | true => have := hk.2; simp [h, inOwn, keptO] at this
  · rw [(gone_own hk).1] at h
    right
    cases ho : g'.own b with
    | box k' s' =>
      rw [ho] at h
      cases k' with
      | zero => simp [cvOwn] at h
      | succ k' =>
        cases pass with
        | false => simp [cvOwn] at h
        | true => simp only [cvOwn] at h; cases h; exact ⟨rfl, rfl⟩
    | row m p =>
      rw [ho] at h
      simp only [cvOwn] at h
      split at h
      · cases h
      · split at h
        · cases h
        · split at h <;> cases h
    | _ => rw [ho] at h; simp [cvOwn] at h
theorem out_rowOwn (E : Ext w (inG pass D g) w' g') {b : Nat} {p : Pos} (h : (outG w.heap.size pass D qs g g').own b = .row .own p) :
    ((pass = true → slotP p = true) ∧ g.own b = .row .own p) ∨ (∃ k s j, p = .box k s j ∧ pass = true ∧ g'.own b = .row .own (.box (k + 1) s j)) := by
  by_cases hk : b < w.heap.size ∧ keptO (inOwn pass D (g.own b)) = true
  · rw [(kept_own hk.1 hk.2).1] at h
    refine .inl ⟨fun hp => ?_, h⟩
    cases p with
    | slot t i j => rfl
    | box k s j => subst hp; have := hk.2; simp [h, inOwn, keptO] at this
  · rw [(gone_own hk).1] at h
    right
    cases ho : g'.own b with
    | box k' s' =>
      rw [ho] at h
      cases k' with
      | zero => simp [cvOwn] at h
      | succ k' => cases pass <;> simp [cvOwn] at h
    | row m p' =>
      rw [ho] at h
      simp only [cvOwn] at h
      split at h
      · cases h
      · split at h
        · rename_i k s j _
          cases h
          exact ⟨k, s, j, rfl, rfl, rfl⟩
        · split at h <;> cases h
    | _ => rw [ho] at h; simp [cvOwn] at h

theorem after_inv (I : Inv w g a st) (E : Ext w (inG pass D g) w' g') (hD : slotsD D) (hQ : innerQ qs) {a' : Act} {st' : St} (I' : Inv w' g' a' st') :
    Inv w' (outG w.heap.size pass D qs g g') a (afterSt pass D st st'.boxes.tail) := by
  have top := I.top
  constructor
  · intro t s h
    have h' : ∃ s0, look st.slots t = some s0 ∧ s = mpS (afLeaf D pass) t s0 := by
      cases pass <;> simp only [afterSt, St.mp, look_mpK, Option.map_eq_some_iff] at h <;> (obtain ⟨s0, h1, rfl⟩ := h; exact ⟨s0, h1, rfl⟩)
    obtain ⟨s0, h1, rfl⟩ := h'
    exact ⟨(I.slots t s0 h1).1, mpS_rep (fun i j l v hl => afLeaf_rep E top (fun _ => rfl) hl) (I.slots t s0 h1).2⟩
  · intro k f s ls h1 h2
    cases pass with
    | false =>
      simp only [afterSt, St.mp, get_mpBoxes, Option.map_eq_some_iff, Nat.zero_add] at h1
      obtain ⟨f', h1, rfl⟩ := h1
      simp only [look_mpK, Option.map_eq_some_iff] at h2
      obtain ⟨ls', h2, rfl⟩ := h2
      obtain ⟨b, vs, T, ho, hh, hr⟩ := I.boxes k f' s ls' h1 h2
      have hlt : b < w.heap.size := lt_of_own top (by rw [ho]; simp)
      have hk : keptO (inOwn false D (g.own b)) = true := by simp [ho, inOwn, keptO]
      refine ⟨b, vs, T, by rw [(kept_own hlt hk).1]; exact ho, by rw [(kept_same E hlt hk (by rw [ho]; simp)).1]; exact hh, ?_⟩
      exact mpLs_rep (fun j l v hl => afLeaf_rep E top (by simp) hl) hr
    | true =>
      simp only [afterSt, get_dnBoxes, Option.map_eq_some_iff] at h1
      obtain ⟨f', h1, rfl⟩ := h1
      simp only [look_mpK, Option.map_eq_some_iff] at h2
      obtain ⟨ls', h2, rfl⟩ := h2
      have h1' : st'.boxes[k + 1]? = some f' := by
        cases hb : st'.boxes with
        | nil => rw [hb] at h1; simp at h1
        | cons x r => rw [hb] at h1; simpa using h1
      obtain ⟨b, vs, T, ho, hh, hr⟩ := I'.boxes (k + 1) f' s ls' h1' h2
      exact ⟨b, vs, T, by rw [(new_own E ho rfl).1]; rfl, hh, dnLs_rep E hQ hr⟩
  · intro b b' k s hb hb'
    rcases out_box E hb with ⟨hp, _, h1⟩ | ⟨hp, h1⟩ <;> rcases out_box E hb' with ⟨hp', _, h2⟩ | ⟨hp', h2⟩
    · exact I.injB b b' k s h1 h2
    · rw [hp] at hp'; cases hp'
    · rw [hp] at hp'; cases hp'
    · exact I'.injB b b' (k + 1) s h1 h2
  · intro b b' p hb hb'
    rcases out_rowOwn E hb with ⟨hp, h1⟩ | ⟨k, s, j, rfl, hp, h1⟩ <;> rcases out_rowOwn E hb' with ⟨hp', h2⟩ | ⟨k', s', j', e, hp', h2⟩
    · exact I.injO b b' p h1 h2
    · subst e; have := hp hp'; simp [slotP] at this
    · have := hp' hp; simp [slotP] at this
    · cases e; exact I'.injO b b' _ h1 h2
  · intro b hb
    have hn : ¬ (b < w.heap.size ∧ keptO (inOwn pass D (g.own b)) = true) := by have := E.size; omega
    rw [(gone_own hn).1, I'.top b hb]
    rfl
  · intro b k s hb
    rcases out_box E hb with ⟨rfl, _, h1⟩ | ⟨rfl, h1⟩
    · obtain ⟨f, ls, h2, h3⟩ := I.tagB b k s h1
      exact ⟨_, mpLs (afLeaf D false) (.box k s) 0 ls, by simp only [afterSt, St.mp, get_mpBoxes, h2, Option.map_some, Nat.zero_add]; rfl, by simp [look_mpK, h3]⟩
    · obtain ⟨f, ls, h2, h3⟩ := I'.tagB b (k + 1) s h1
      have h2' : st'.boxes.tail[k]? = some f := by
        cases hbx : st'.boxes with
        | nil => rw [hbx] at h2; simp at h2
        | cons x r => rw [hbx] at h2; simpa using h2
      exact ⟨mpK (fun _ ls => dnLs ls) f, dnLs ls, by simp [afterSt, get_dnBoxes, h2'], by simp [look_mpK, h3]⟩
  · exact I.defers

end
end Go.Ev

namespace Go.Ev

/-- A row in an argument's slot becomes that slot's. -/
def leafCount (st : St) (t : Nat) : Nat := match look st.slots t with
  | some (.val c) => c.ls.length
  | _ => 0
def claimArgs : List Operand → St → St
  | [], st => st
  | .tmp t :: r, st => claimArgs r (claims (.slot t 0) (leafCount st t) 0 st)
  | _ :: r, st => claimArgs r st

/-- A leaf that is handed on: as the callee has it. -/
def axLeaf (pass : Bool) (s : Nat) : Leaf → Option Leaf
  | .d x => some (.d x)
  | .nilS => some (.d (.sl s []))
  | .emp => some (.d (.sl s []))
  | .al .tip _ n xs => some (.d (.sl n xs))
  | .ptr k s o => match pass with
    | true => some (.ptr (k + 1) s o)
    | false => none
  | .fptr cs => some (.fptr cs)
  | .fn f fi ca => match pass, fi, ca with
    | _, [], [] => some (.fn f [] [])
    | true, fi, ca => some (.fn f (upCaps fi) (upCaps ca))
    | false, _, _ => none
  | _ => none
def axHead (pass tok : Bool) (p : Pos) (s : Nat) (l : Leaf) : Option (Leaf × List (Pos × Pos)) :=
  match tok, l with
  | true, .al .tip (.slot t i k) n xs => some (.row .tip n xs, [(.slot t i k, p)])
  | _, l => match axLeaf pass s l with
    | some x => some (x, [])
    | none => none
def axLs (pass tok : Bool) (mk : Nat → Pos) : Nat → List Leaf → List Nat → Option (List Leaf × List (Pos × Pos))
  | _, [], _ => some ([], [])
  | j, l :: r, es =>
    match axHead pass tok (mk j) (es.headD 0) l, axLs pass tok mk (j + 1) r es.tail with
    | some (x, p), some (ls, ps) => some (x :: ls, p ++ ps)
    | _, _ => none
def axArgs (P : Program) (st : St) (pass tok : Bool) : Nat → List Operand → List TypeId → Option (List Comp × List (Pos × Pos))
  | _, [], _ => some ([], [])
  | i, x :: r, ts =>
    match fetch st x, axArgs P st pass tok (i + 1) r ts.tail with
    | .val c, some (cs, ps) => match axLs pass tok (.slot i 0) 0 c.ls (esz P 20 (ts.headD 0)) with
      | some (ls, qs) => some (⟨c.agg, ls⟩ :: cs, qs ++ ps)
      | none => none
    | _, _ => none
def capComps : List (Nat × Nat × Nat) → List Comp
  | [] => []
  | (k, s, o) :: r => ⟨false, [.ptr (k + 1) s o]⟩ :: capComps r

def isNilC : List (Nat × Nat × Nat) → Bool
  | [] => true
  | _ => false

/-- What a call is handed: the callee, its arguments, which rows go with them. -/
def axCall (P : Program) (st : St) (pass tok : Bool) (x : Operand) (args : List Operand) : Option (FuncId × List Comp × List (Pos × Pos)) :=
  match fetch st x with
  | .val ⟨false, [.fn f fi ca]⟩ =>
    match pass || (isNilC fi && isNilC ca) with
    | true =>
      match paramsO P f with
      | some ts =>
        match axArgs P st pass tok fi.length args ts with
        | some (cs, D) => match nodupP D with
          | true => some (f, capComps fi ++ cs ++ capComps ca, D)
          | false => none
        | none => none
      | none => none
    | false => none
  | _ => none
/-- The caller's state behind it. -/
def rxCall (pass : Bool) (D : List (Pos × Pos)) (st : St) (d : Nat) (res : SVal) (outer' : List Frm) : Option St :=
  match rsS pass d res with
  | some (s, _) => some (putS (afterSt pass D st outer') d s)
  | none => none
def givenSt (tok : Bool) (args : List Operand) (st : St) : St := match tok with
  | true => claimArgs args st
  | false => st

section
variable {P : Program} {w w' : World} {g g' : Gh} {a : Act} {st : St} {pass tok : Bool} {D : List (Pos × Pos)}

theorem Inv.claimArgs : ∀ (l : List Operand) {g : Gh} {st : St}, Inv w g a st → ∃ g', Inv w g' a (Ev.claimArgs l st) ∧ Ext w g w g'
  | [], g, st, I => ⟨g, I, Ext.refl w g⟩
  | .tmp t :: r, g, st, I => by
    obtain ⟨g1, I1, E1⟩ := Inv.claims (mk := .slot t 0) (leafCount st t) 0 I
    obtain ⟨g2, I2, E2⟩ := Inv.claimArgs r I1
    exact ⟨g2, I2, E1.trans E2⟩
  | .const _ :: r, g, st, I => Inv.claimArgs r I
  | .func _ :: r, g, st, I => Inv.claimArgs r I
  | .global _ :: r, g, st, I => Inv.claimArgs r I
theorem Inv.given (I : Inv w g a st) (tok : Bool) (args : List Operand) : ∃ g', Inv w g' a (givenSt tok args st) ∧ Ext w g w g' := by
  cases tok with
  | true => exact Inv.claimArgs args I
  | false => exact ⟨g, I, Ext.refl w g⟩

theorem axLeaf_rep {s : Nat} {q q' : Pos} {l x : Leaf} {v : Value} (h : RepLeaf w g q l v) (hx : axLeaf pass s l = some x) : RepLeaf w (inG pass D g) q' x v := by
  have K : Keeps w g w (inG pass D g) := inG_keeps
  cases l with
  | d y => cases hx; exact RepPV.keep K y v h
  | row m n xs => cases hx
  | al m p n xs =>
    cases m with
    | own => cases hx
    | tip => cases hx; exact RepPV.keep K _ v (tok_data h)
  | nilS =>
    cases hx
    obtain rfl := h
    rw [RepLeaf, RepPV]
    exact ⟨none, 0, rfl, Nat.le_refl _, fun _ => rfl, .inl rfl⟩
  | emp =>
    cases hx
    obtain ⟨ad, c, rfl⟩ := h
    rw [RepLeaf, RepPV]
    exact ⟨some ad, c, rfl, Nat.zero_le _, by simp, .inl rfl⟩
  | ptr k s' o =>
    cases pass with
    | false => cases hx
    | true =>
      cases hx
      obtain ⟨b, h1, h2⟩ := h
      exact ⟨b, inOwn_box h1, h2⟩
  | eptr p i o cs => cases hx
  | fptr cs =>
    cases hx
    obtain ⟨b, o, h1, h2, h3, h4⟩ := h
    exact ⟨b, o, h1, K.rd b h2, h3, RepCells.keep K b cs o (fun _ _ _ => rfl) h4⟩
  | fn f fi ca =>
    obtain ⟨us, vs, h1, h2, h3⟩ := h
    simp only [axLeaf] at hx
    split at hx
    · cases hx
      refine ⟨us, vs, h1, ?_, ?_⟩
      · cases hu : us.toList with
        | nil => trivial
        | cons y ys => rw [hu] at h2; exact h2.elim
      · cases hu : vs.toList with
        | nil => trivial
        | cons y ys => rw [hu] at h3; exact h3.elim
    · cases hx
      exact ⟨us, vs, h1, up_caps h2, up_caps h3⟩
    · cases hx
  | it s' p => cases hx
  | undef => cases hx

theorem axHead_D {p : Pos} (hp : slotP p = true) {s : Nat} {l x : Leaf} {ps : List (Pos × Pos)} (h : axHead pass tok p s l = some (x, ps)) : ∀ y ∈ ps, slotP y.1 = true ∧ slotP y.2 = true := by
  intro y hy
  unfold axHead at h
  split at h
  · cases h
    simp only [List.mem_singleton] at hy
    subst hy
    exact ⟨rfl, hp⟩
  · split at h
    · cases h; simp at hy
    · cases h
theorem axLs_D {mk : Nat → Pos} (hmk : ∀ j, slotP (mk j) = true) : ∀ {j : Nat} {ls xs : List Leaf} {es : List Nat} {ps : List (Pos × Pos)}, axLs pass tok mk j ls es = some (xs, ps) →
    ∀ x ∈ ps, slotP x.1 = true ∧ slotP x.2 = true
  | _, [], _, _, _, h, x, hx => by cases h; simp at hx
  | j, l :: r, xs, es, ps, h, x, hx => by
    unfold axLs at h
    split at h
    · rename_i y p ls ps' hl hr
      cases h
      rcases List.mem_append.1 hx with hx | hx
      · exact axHead_D (hmk j) hl x hx
      · exact axLs_D hmk hr x hx
    · cases h
theorem axArgs_D : ∀ {l : List Operand} {i : Nat} {ts : List TypeId} {cs : List Comp} {ps : List (Pos × Pos)}, axArgs P st pass tok i l ts = some (cs, ps) → ∀ x ∈ ps, slotP x.1 = true ∧ slotP x.2 = true
  | [], _, _, _, _, h, x, hx => by cases h; simp at hx
  | y :: r, i, ts, cs, ps, h, x, hx => by
    unfold axArgs at h
    split at h
    · rename_i c cs' ps' _ hr
      split at h
      · rename_i ls qs hl
        cases h
        rcases List.mem_append.1 hx with h | h
        · exact axLs_D (fun _ => rfl) hl x h
        · exact axArgs_D hr x h
      · cases h
    · cases h

theorem axHead_rep (hnd : nodupP D = true) {p q : Pos} {s : Nat} {l x : Leaf} {ps : List (Pos × Pos)} {v : Value} (h : RepLeaf w g q l v) (hx : axHead pass tok p s l = some (x, ps)) (hm : ∀ y ∈ ps, y ∈ D) :
    RepLeaf w (inG pass D g) p x v := by
  unfold axHead at hx
  split at hx
  · rename_i t i k n ys
    cases hx
    have hq := posOf_mem hnd (hm _ (List.mem_singleton_self _))
    rcases h with h' | ⟨b, c, cs, T, hv, hb, hh, hc, hs, hf, hrr⟩
    · exact .inl h'
    · exact .inr ⟨b, c, cs, T, hv, by simp [inG, inOwn, hb, hq], hh, hc, hs, hf, RepRow.keep inG_keeps n b ys _ (fun _ _ _ => rfl) hrr⟩
  · split at hx
    · rename_i x hxl
      cases hx
      exact axLeaf_rep h hxl
    · cases hx
theorem axLs_rep (hnd : nodupP D = true) {mk mk' : Nat → Pos} : ∀ {j j' : Nat} {ls xs : List Leaf} {es : List Nat} {ps : List (Pos × Pos)} {vs : List Value}, RepLs w g mk' j' ls vs →
    axLs pass tok mk j ls es = some (xs, ps) → (∀ x ∈ ps, x ∈ D) → RepLs w (inG pass D g) mk j xs vs
  | _, _, [], _, _, _, [], _, h, _ => by cases h; trivial
  | _, _, [], _, _, _, _ :: _, h, _, _ => h.elim
  | _, _, _ :: _, _, _, _, [], h, _, _ => h.elim
  | j, _, l :: r, xs, es, ps, v :: vs, h, hx, hm => by
    unfold axLs at hx
    split at hx
    · rename_i y p ls ps' hl hr
      cases hx
      exact ⟨axHead_rep hnd h.1 hl fun x hx => hm x (by simp [hx]), axLs_rep hnd h.2 hr fun x hx => hm x (by simp [hx])⟩
    · cases hx
theorem axComp_rep (hnd : nodupP D = true) {mk : Nat → Pos} {c : Comp} {ls : List Leaf} {es : List Nat} {ps : List (Pos × Pos)} {v : Value} (h : ∀ mk, RepComp w g mk c v)
    (hx : axLs pass tok mk 0 c.ls es = some (ls, ps)) (hm : ∀ x ∈ ps, x ∈ D) : RepComp w (inG pass D g) mk ⟨c.agg, ls⟩ v := by
  obtain ⟨ag, cl⟩ := c
  cases ag with
  | true => obtain ⟨vs, hv, hr⟩ := h mk; exact ⟨vs, hv, axLs_rep hnd hr hx hm⟩
  | false =>
    obtain ⟨l, hl, hr⟩ := h mk
    obtain rfl : cl = [l] := hl
    have hr2 : RepLs w g mk 0 [l] [v] := ⟨hr, trivial⟩
    have := axLs_rep hnd hr2 hx hm
    match ls, this with
    | [x], h => exact ⟨x, rfl, h.1⟩
theorem axArgs_rep (I : Inv w g a st) (hnd : nodupP D = true) : ∀ {l : List Operand} {i : Nat} {ts : List TypeId} {cs : List Comp} {ps : List (Pos × Pos)}, axArgs P st pass tok i l ts = some (cs, ps) →
    (∀ x ∈ ps, x ∈ D) → RepArgs w (inG pass D g) i cs (l.map a.eval)
  | [], _, _, _, _, h, _ => by cases h; trivial
  | y :: r, i, ts, cs, ps, h, hm => by
    unfold axArgs at h
    split at h
    · rename_i c cs' ps' hc hr
      split at h
      · rename_i ls qs hl
        cases h
        have hf := I.fetchF y
        rw [hc] at hf
        exact ⟨axComp_rep hnd hf hl fun x hx => hm x (by simp [hx]), axArgs_rep I hnd hr fun x hx => hm x (by simp [hx])⟩
      · cases h
    · cases h
theorem axArgs_length : ∀ {l : List Operand} {i : Nat} {ts : List TypeId} {cs : List Comp} {ps : List (Pos × Pos)}, axArgs P st pass tok i l ts = some (cs, ps) → cs.length = l.length
  | [], _, _, _, _, h => by cases h; rfl
  | y :: r, i, ts, cs, ps, h => by
    unfold axArgs at h
    split at h
    · rename_i c cs' ps' hc hr
      split at h
      · cases h
        simp [axArgs_length hr]
      · cases h
    · cases h
theorem caps_args : ∀ {l : List (Nat × Nat × Nat)} {vs : List Value} {i : Nat}, RepCaps g l vs → RepArgs w (inG true D g) i (capComps l) vs
  | [], [], _, _ => trivial
  | [], _ :: _, _, h => h.elim
  | (_, _, _) :: _, [], _, h => h.elim
  | (k, s, o) :: r, v :: vs, i, h => by
    obtain ⟨⟨b, h1, h2⟩, h3⟩ := h
    exact ⟨⟨_, rfl, b, inOwn_box h1, h2⟩, caps_args h3⟩
theorem caps_nil {l : List (Nat × Nat × Nat)} (h : isNilC l = true) {vs : List Value} {i : Nat} (hr : RepCaps g l vs) : RepArgs w (inG pass D g) i (capComps l) vs := by
  cases l with
  | cons _ _ => cases h
  | nil =>
    cases vs with
    | nil => trivial
    | cons _ _ => exact hr.elim
theorem RepArgs.append : ∀ {cs ds : List Comp} {vs us : List Value} {i : Nat}, RepArgs w g i cs vs → RepArgs w g (i + cs.length) ds us → RepArgs w g i (cs ++ ds) (vs ++ us)
  | [], ds, [], us, i, _, h => by simpa using h
  | [], _, _ :: _, _, _, h, _ => h.elim
  | _ :: _, _, [], _, _, h, _ => h.elim
  | c :: r, ds, v :: vs, us, i, h, k => by
    refine ⟨h.1, RepArgs.append h.2 ?_⟩
    rw [List.length_cons] at k
    rwa [show i + 1 + r.length = i + (r.length + 1) by omega]
theorem RepArgs.length' : ∀ {i : Nat} {cs : List Comp} {vs : List Value}, RepArgs w g i cs vs → cs.length = vs.length
  | _, [], [], _ => rfl
  | _, [], _ :: _, h => h.elim
  | _, _ :: _, [], h => h.elim
  | _, _ :: _, _ :: _, h => by simp [RepArgs.length' h.2]
theorem capComps_length : ∀ l : List (Nat × Nat × Nat), (capComps l).length = l.length
  | [] => rfl
  | (_, _, _) :: r => by simp [capComps, capComps_length r]

/-- A call: what is handed over, what comes back. -/
theorem call_sound (I : Inv w g a st) {d : Nat} {x : Operand} {args : List Operand} {f : FuncId} {cs : List Comp} {res : SVal} {outer' : List Frm} {st2 : St} (hd : d < a.tmps.size)
    (hax : axCall P (givenSt tok args st) pass tok x args = some (f, cs, D)) (hk : CallOK P f cs (passed pass (givenSt tok args st)) res outer')
    (hrx : rxCall pass D (givenSt tok args st) d res outer' = some st2) :
    ∃ fn us vs, a.eval x = .func (.func f) us vs ∧ P.funcs[f]? = some fn ∧ fn.body.isNone = false ∧ (fn.name == "runtime.NumGoroutine") = false ∧
      Calls P f (us.toList ++ args.map a.eval ++ vs.toList).toArray w fun e w' => ∃ v g', e = .returned v ∧ Ext w g w' g' ∧ Inv w' g' (a.put (some d) v) st2 := by
  obtain ⟨g1, I1, E1⟩ := I.given tok args
  generalize givenSt tok args st = st1 at *
  unfold axCall at hax
  split at hax
  · rename_i f' fi ca hx
    split at hax
    · rename_i hpass
      split at hax
      · rename_i ts hts
        split at hax
        · rename_i cs' D' hargs
          split at hax
          · rename_i hnd
            cases hax
            unfold paramsO at hts
            split at hts
            · rename_i fn hfn
              split at hts
              · rename_i hok
                cases hts
                simp only [Bool.and_eq_true] at hok
                have hxf := I1.fetchF x
                rw [hx] at hxf
                obtain ⟨l, hl, hl2⟩ := hxf (.slot 0 0)
                simp only [List.cons.injEq, and_true] at hl
                subst hl
                obtain ⟨us, vs, hv, hus, hvs⟩ := hl2
                refine ⟨fn, us, vs, hv, hfn, by simpa using hok.1, by simpa using hok.2, ?_⟩
                have hD : slotsD D := fun p q h => axArgs_D hargs _ (mem_posOf h)
                have hA := axArgs_rep I1 hnd hargs fun _ h => h
                have hF : ∀ {l : List (Nat × Nat × Nat)} {ws : List Value} {i : Nat}, (pass = true ∨ isNilC l = true) → RepCaps g1 l ws → RepArgs w (inG pass D g1) i (capComps l) ws := by
                  intro l ws i hl hr
                  rcases hl with rfl | hl
                  · exact caps_args hr
                  · exact caps_nil hl hr
                have hb : (pass = true ∨ isNilC fi = true) ∧ (pass = true ∨ isNilC ca = true) := by
                  cases pass with
                  | true => exact ⟨.inl rfl, .inl rfl⟩
                  | false =>
                    simp only [Bool.false_or, Bool.and_eq_true] at hpass
                    exact ⟨.inr hpass.1, .inr hpass.2⟩
                have hAll : RepArgs w (inG pass D g1) 0 (capComps fi ++ cs' ++ capComps ca) (us.toList ++ args.map a.eval ++ vs.toList) := by
                  refine RepArgs.append (RepArgs.append (hF hb.1 hus) ?_) (hF hb.2 hvs)
                  rw [capComps_length, Nat.zero_add]
                  exact hA
                have Ie := entry_inv I1 hD (vals := (us.toList ++ args.map a.eval ++ vs.toList).toArray) (show RepArgs w (inG pass D g1) 0 (capComps fi ++ cs' ++ capComps ca) (us.toList ++ args.map a.eval ++ vs.toList).toArray.toList from hAll) (fn.ntmps - (us.toList ++ args.map a.eval ++ vs.toList).toArray.size)
                refine (hk w (inG pass D g1) _ fn hfn (by simpa using hAll.length'.symm) Ie).mono ?_
                rintro e w' ⟨v, g', a', st', rfl, E, hrep, I', rfl⟩
                unfold rxCall at hrx
                split at hrx
                · rename_i s qs hrs
                  cases hrx
                  exact ⟨v, _, rfl, E1.trans (out_ext E I1.top), (after_inv I1 E hD (rsS_inner hrs) I').put hd (rsS_rep E hrep hrs)⟩
                · cases hrx
              · cases hts
            · cases hts
          · cases hax
        · cases hax
      · cases hax
    · cases hax
  · cases hax

end
end Go.Ev

namespace Go.Ev

/-- What an operation does to the state: a slot alone, a new variable, a variable's cells. -/
inductive Eff where
  | put (s : SVal)
  | new (s : SVal) (ls : List Leaf)
  | store (k s : Nat) (ls : List Leaf)

def putO (st : St) (d : Option Nat) (s : SVal) : St :=
  match d with
  | some d => putS st d s
  | none => st
def applyEff (st : St) (d : Option Nat) : Eff → St
  | .put s => putO st d s
  | .new s ls => putO (withBox st (d.getD 0) (some ls)) d s
  | .store k s ls => { st with boxes := setBox st.boxes k s ls }

def storeQ (P : Program) (st : St) (T : TypeId) (x y : Operand) : Option Eff :=
  match fetch st x, fetch st y, szO P T with
  | .val ⟨false, [.ptr k s o]⟩, .val c, some n =>
    match boxCells st k s with
    | some ls =>
      if c.ls.length = n ∧ o + n ≤ ls.length ∧ allPlain c.ls = true then
        some (.store k s (ls.take o ++ varLeaves c.ls (esz P 20 T) ++ ls.drop (o + n)))
      else none
    | none => none
  | _, _, _ => none

def newQ (P : Program) (st : St) (d : Nat) (o : Oper) : Option Eff :=
  match st.boxes with
  | [] => none
  | _ :: _ =>
    match evNew P st d o with
    | some (s, none) => some (.put s)
    | some (s, some ls) => some (.new s ls)
    | none => none

def valsOf (st : St) : List Operand → Option (List Value)
  | [] => some []
  | x :: r => match valOf (fetch st x), valsOf st r with
    | some v, some l => some (v :: l)
    | _, _ => none
def compsOfV : List Value → Option (List Comp)
  | [] => some []
  | v :: r => match compOfV v, compsOfV r with
    | some c, some l => some (c :: l)
    | _, _ => none
def resV : Value → Option SVal
  | .tuple us => (compsOfV us.toList).map .tup
  | v => (compOfV v).map .val
/-- A call of a function without a body that needs no memory. -/
def externQ (P : Program) (st : St) (f : FuncId) (args : Array Operand) : Option SVal :=
  match P.funcs[f]? with
  | some fn =>
    match fn.body with
    | none =>
      match valsOf st args.toList with
      | some vs =>
        match pureRun P (callFunc f vs.toArray) with
        | some (.value v) => resV v
        | _ => none
      | none => none
    | some _ => none
  | none => none

/-- The quiet ones. -/
def evQ (P : Program) (O : CallF) (st : St) (o : Oper) : Option Eff :=
  match o.dst with
  | some d =>
    match o.op with
    | .alloc _ | .box _ _ | .buildSlice _ _ _ => newQ P st d o
    | .call { callee := .value (.func f), args, .. } =>
      match externQ P st f args with
      | some s => some (.put s)
      | none => (callPure P O st d f args.toList).map .put
    | _ => (evVal P st o).map .put
  | none =>
    match o.op with
    | .store T x y => storeQ P st T x y
    | _ => (evVal P st o).map .put

/-- May it be done: a new variable's place is empty. -/
def freshOk (st : St) (d : Option Nat) : Eff → Bool
  | .new _ _ => match st.boxes with
    | f0 :: _ => (look f0 (d.getD 0)).isNone
    | [] => false
  | _ => true

/-- A call of any kind. -/
def tryX (P : Program) (O : CallF) (st : St) (d : Nat) (x : Operand) (args : List Operand) (pass tok : Bool) : Option St :=
  match axCall P (givenSt tok args st) pass tok x args with
  | some (f, cs, D) => match O f cs (passed pass (givenSt tok args st)) with
    | some (res, outer') => rxCall pass D (givenSt tok args st) d res outer'
    | none => none
  | none => none
def callX (P : Program) (O : CallF) (st : St) (d : Nat) (x : Operand) (args : List Operand) : Option St :=
  match tryX P O st d x args (axCall P st false false x args).isNone false with
  | some s => some s
  | none => tryX P O st d x args (axCall P st false false x args).isNone true

def evOp (P : Program) (O : CallF) (st : St) (o : Oper) : Option St :=
  match evQ P O st o with
  | some e => if freshOk st o.dst e then some (applyEff st o.dst e) else none
  | none =>
    match o.dst with
    | some d =>
      match o.op with
      | .assign x => assignOf P st d o.type x
      | .call { callee := .builtin .append, args, argTypes } => appendOf P st d args.toList argTypes.toList
      | .call { callee := .value x, args, .. } => callX P O st d x args.toList
      | _ => none
    | none =>
      match o.op with
      | .store T x y => storeOf P st T x y
      | _ => none

/-- What an operation may do: what the evaluator tells, or what a callee's contract says. -/
inductive QOk (P : Program) (O : CallF) (st : St) (o : Oper) : Eff → Prop
  | ev {e : Eff} (h : evQ P O st o = some e) : QOk P O st o e
  | call {d : Nat} {f : FuncId} {args : Array Operand} {ats : Array TypeId} {ts : List TypeId} {cs : List Comp} {res s : SVal} {outer' : List Frm} (hd : o.dst = some d)
      (hop : o.op = .call { callee := .value (.func f), args := args, argTypes := ats }) (ht : paramsO P f = some ts) (hc : argComps P st args.toList ts = some cs) (hk : CallOK P f cs [] res outer') (hs : cvS d res = some s) :
      QOk P O st o (.put s)

def SoundO (P : Program) (O : CallF) : Prop := ∀ f args outer res outer', O f args outer = some (res, outer') → CallOK P f args outer res outer'

def dstOk (n : Nat) : Option Nat → Bool
  | some d => decide (d < n)
  | none => true

section
variable {P : Program} {w w' : World} {g g' : Gh} {a : Act} {st : St}

theorem plain_notU : ∀ {ls : List Leaf}, allPlain ls = true → allNotU ls = true
  | [], _ => rfl
  | l :: r, h => by
    simp only [allPlain, allNotU, Bool.and_eq_true] at h ⊢
    refine ⟨?_, plain_notU h.2⟩
    cases l <;> simp [Leaf.plain, notU] at h ⊢

def noAl : Leaf → Bool
  | .al _ _ _ _ => false
  | _ => true
theorem claim_id {q : Pos} (h : ∀ l, leafAt st q = some l → noAl l = true) : st.claim q = st := by
  unfold St.claim
  split <;> first | rfl | (rename_i e; have := h _ e; simp [noAl] at this)
theorem claims_id {mk : Nat → Pos} : ∀ (n j : Nat), (∀ i, j ≤ i → i < j + n → ∀ l, leafAt st (mk i) = some l → noAl l = true) → claims mk n j st = st
  | 0, _, _ => rfl
  | n + 1, j, h => by
    unfold claims
    rw [claim_id (h j (Nat.le_refl _) (by omega))]
    exact claims_id n (j + 1) fun i h1 h2 => h i (by omega) (by omega)

theorem vars_noAl : ∀ {ls : List Leaf} {es : List Nat}, allPlain ls = true → ∀ l ∈ varLeaves ls es, noAl l = true
  | [], es, _, l, hl => by cases es <;> simp [varLeaves] at hl
  | x :: r, [], h, l, hl => by
    simp only [varLeaves] at hl
    have : ∀ {ls : List Leaf}, allPlain ls = true → ∀ l ∈ ls, noAl l = true := by
      intro ls
      induction ls with
      | nil => intro _ l hl; cases hl
      | cons y ys ih =>
        intro h l hl
        simp only [allPlain, Bool.and_eq_true] at h
        rcases List.mem_cons.1 hl with rfl | hl
        · cases l <;> simp [Leaf.plain, noAl] at h ⊢
        · exact ih h.2 l hl
    exact this h l hl
  | x :: r, s :: ss, h, l, hl => by
    simp only [allPlain, Bool.and_eq_true] at h
    simp only [varLeaves] at hl
    rcases List.mem_cons.1 hl with rfl | hl
    · cases x <;> simp [Leaf.plain, noAl, varLeaf] at h ⊢
    · exact vars_noAl h.2 l hl

theorem setBox_cells {k s : Nat} {ls : List Leaf} {f : Frm} (hf : st.boxes[k]? = some f) : boxCells { st with boxes := setBox st.boxes k s ls } k s = some ls := by
  unfold boxCells
  simp [get_setBox, hf, look_putK]

theorem storeQ_of {T : TypeId} {x y : Operand} {e : Eff} (h : storeQ P st T x y = some e) : ∃ k s ls, e = .store k s ls ∧ storeOf P st T x y = some { st with boxes := setBox st.boxes k s ls } := by
  unfold storeQ at h
  split at h
  · rename_i k s o c n hx hy hn
    split at h
    · rename_i ls hls
      split at h
      · rename_i hc
        cases h
        refine ⟨_, _, _, rfl, ?_⟩
        unfold storeOf
        rw [hx, hy, hn]
        simp only []
        rw [hls]
        simp only []
        rw [if_pos ⟨hc.1, hc.2.1, plain_notU hc.2.2⟩]
        congr 1
        refine claims_id n o fun i h1 h2 l hl => ?_
        have hf : ∃ f, st.boxes[k]? = some f := by
          unfold boxCells at hls
          simp only [Option.bind_eq_some_iff] at hls
          obtain ⟨f, hf, _⟩ := hls
          exact ⟨f, hf⟩
        obtain ⟨f, hf⟩ := hf
        have hlen : (ls.take o).length = o := by rw [List.length_take]; omega
        have hlen2 : (varLeaves c.ls (esz P 20 T)).length = n := by rw [varLeaves_length]; exact hc.1
        simp only [leafAt, setBox_cells hf, Option.bind_some] at hl
        rw [List.append_assoc, List.getElem?_append_right (by omega), hlen, List.getElem?_append_left (by omega)] at hl
        exact vars_noAl hc.2.2 l (List.mem_of_getElem? hl)
      · cases h
    · cases h
  · cases h

theorem Inv.putO (I : Inv w g a st) {d : Option Nat} {s : SVal} {v : Value} (hd : dstOk a.tmps.size d = true) (hs : ∀ x, d = some x → RepS w g x s v) :
    Inv w g (a.put d v) (Ev.putO st d s) := by
  cases d with
  | none => exact I
  | some d => exact I.put (by simpa [dstOk] using hd) (hs d rfl)

theorem call_wp (I : Inv w g a st) {o : Oper} {d : Nat} {f : FuncId} {args : Array Operand} {ats : Array TypeId} {s : SVal}
    (h : ∃ fn, P.funcs[f]? = some fn ∧ fn.body.isNone = false ∧ (fn.name == "runtime.NumGoroutine") = false ∧
      Calls P f (args.toList.map a.eval).toArray w fun e w' => ∃ v g', e = .returned v ∧ Up w g w' g' ∧ Ext w g w' g' ∧ RepS w' g' d s v ∧ Inv w' g' a st)
    (hop : o.op = .call { callee := .value (.func f), args := args, argTypes := ats }) (hod : o.dst = some d) (hd : dstOk a.tmps.size o.dst = true) {next : Act → World → Prop} {Q : Exit → Act → World → Prop}
    (k : ∀ w' g' v, Ext w g w' g' → Inv w' g' (a.put o.dst v) (applyEff st o.dst (.put s)) → next (a.put o.dst v) w') : o.wp P a w next Q := by
  obtain ⟨fn, hfn, hb, hng, hcalls⟩ := h
  have hrun : (execOp a.eval o).run P w = .ok (.enter f (args.toList.map a.eval).toArray) w := by
    simp only [execOp, hop, resolve, Act.eval, Deferred.ofValue, invoke, callFunc]
    have hng' : fn.name ≠ "runtime.NumGoroutine" := by simpa using hng
    have hb' : fn.body ≠ none := by intro e; simp [e] at hb
    simp [hfn, hb', hng', Array.toList_map]
    apply Array.ext'
    simp
  unfold Oper.wp
  rw [hrun, Oper.upon_enter]
  refine hcalls.mono ?_
  rintro e' w' ⟨v, g', rfl, U, E, hrep, I1⟩
  refine k w' g' v E (Inv.putO I1 hd fun x hx => ?_)
  rw [hod] at hx
  cases hx
  exact hrep

theorem valsOf_eq (I : Inv w g a st) : ∀ {l : List Operand} {vs : List Value}, valsOf st l = some vs → l.map a.eval = vs
  | [], vs, h => by cases h; rfl
  | x :: r, vs, h => by
    unfold valsOf at h
    split at h
    · rename_i v l hv hl
      cases h
      rw [List.map_cons, valsOf_eq I hl, valOf_eqF (I.fetchF x) hv]
    · cases h
theorem compsOfV_rep : ∀ {vs : List Value} {cs : List Comp}, compsOfV vs = some cs → RepFs w g cs vs
  | [], cs, h => by cases h; trivial
  | v :: r, cs, h => by
    unfold compsOfV at h
    split at h
    · rename_i c l hc hl
      cases h
      exact ⟨fun mk => RepComp.compOfV hc, compsOfV_rep hl⟩
    · cases h
theorem resV_rep {v : Value} {s : SVal} (h : resV v = some s) : RepF w g s v := by
  unfold resV at h
  split at h
  · simp only [Option.map_eq_some_iff] at h
    obtain ⟨cs, hc, rfl⟩ := h
    exact ⟨_, rfl, compsOfV_rep hc⟩
  · simp only [Option.map_eq_some_iff] at h
    obtain ⟨c, hc, rfl⟩ := h
    exact fun mk => RepComp.compOfV hc
theorem externQ_sound (I : Inv w g a st) {o : Oper} {f : FuncId} {args : Array Operand} {ats : Array TypeId} {s : SVal} (hop : o.op = .call { callee := .value (.func f), args := args, argTypes := ats })
    (h : externQ P st f args = some s) : ∃ v, (execOp a.eval o).run P w = .ok (.value v) w ∧ RepF w g s v := by
  unfold externQ at h
  split at h
  · split at h
    · split at h
      · rename_i vs hvs
        split at h
        · rename_i v hv
          refine ⟨v, ?_, resV_rep h⟩
          have := pureRun_run (w := w) _ hv
          have hargs : args.map a.eval = vs.toArray := by
            apply Array.ext'
            rw [Array.toList_map, valsOf_eq I hvs]
          simp only [execOp, hop, resolve, Act.eval, Deferred.ofValue, invoke]
          simp only [Sem.run_bind, Sem.run_pure, Result.andThen_ok, hargs]
          simpa using this
        · cases h
      · cases h
    · cases h
  · cases h

/-- A quiet operation does what it is said to do. -/
theorem evQ_sound' {O : CallF} (hO : SoundO P O) (I : Inv w g a st) {o : Oper} {e : Eff} (h : evQ P O st o = some e) (hd : dstOk a.tmps.size o.dst = true) (hfr : freshOk st o.dst e = true)
    {next : Act → World → Prop} {Q : Exit → Act → World → Prop}
    (k : ∀ w' g' v, Ext w g w' g' → Inv w' g' (a.put o.dst v) (applyEff st o.dst e) → next (a.put o.dst v) w') : o.wp P a w next Q := by
  have hval : ∀ {s : SVal}, evVal P st o = some s → e = .put s → o.wp P a w next Q := by
    intro s hs he
    subst he
    obtain ⟨v, hrun, hrep⟩ := evVal_sound I hs
    unfold Oper.wp
    rw [hrun, Oper.upon_value]
    exact k w g v (Ext.refl w g) (I.putO hd fun x _ => hrep.toS)
  have hnew : ∀ {d : Nat}, o.dst = some d → newQ P st d o = some e → o.wp P a w next Q := by
    intro d hod hs
    unfold newQ at hs
    split at hs
    · cases hs
    · rename_i f0 rest hb
      split at hs
      · rename_i s hn
        cases hs
        obtain ⟨v, w', g', hrun, U, hrep, h1, h2, h3, h4, I1⟩ := evNew_sound I hn hb (by simp)
        unfold Oper.wp
        rw [hrun, Oper.upon_value]
        refine k w' g' v (U.ext I.top h1 h2 h3 h4) (Inv.putO I1 hd fun x hx => ?_)
        rw [hod] at hx
        cases hx
        exact hrep
      · rename_i s ls hn
        cases hs
        simp only [freshOk, hb, hod, Option.getD_some, Option.isNone_iff_eq_none] at hfr
        obtain ⟨v, w', g', hrun, U, hrep, h1, h2, h3, h4, I1⟩ := evNew_sound I hn hb (fun _ => hfr)
        unfold Oper.wp
        rw [hrun, Oper.upon_value]
        refine k w' g' v (U.ext I.top h1 h2 h3 h4) ?_
        rw [hod] at hd ⊢
        exact Inv.putO I1 hd fun x hx => by cases hx; exact hrep
      · cases hs
  unfold evQ at h
  split at h
  · rename_i d hod
    split at h
    · exact hnew hod h
    · exact hnew hod h
    · exact hnew hod h
    · rename_i f args ats hop
      split at h
      · rename_i s hs
        cases h
        obtain ⟨v, hrun, hrep⟩ := externQ_sound I hop hs
        unfold Oper.wp
        rw [hrun, Oper.upon_value]
        exact k w g v (Ext.refl w g) (I.putO hd fun x _ => hrep.toS)
      · simp only [Option.map_eq_some_iff] at h
        obtain ⟨s, hs, rfl⟩ := h
        exact call_wp I (callPure_sound I hO hs) hop hod hd k
    · simp only [Option.map_eq_some_iff] at h
      obtain ⟨s, hs, rfl⟩ := h
      exact hval hs rfl
  · rename_i hod
    split at h
    · rename_i T x y hop
      obtain ⟨k', s', ls, rfl, hst⟩ := storeQ_of h
      obtain ⟨w', g', hrun, I1, E⟩ := storeOf_sound I hst
      have hrun2 : (execOp a.eval o).run P w = .ok .skip w' := by
        simp only [execOp, hop]
        rw [Sem.run_bind, hrun]
        rfl
      unfold Oper.wp
      rw [hrun2, Oper.upon_skip]
      refine k w' g' undef E ?_
      rw [hod]
      exact I1
    · simp only [Option.map_eq_some_iff] at h
      obtain ⟨s, hs, rfl⟩ := h
      exact hval hs rfl

theorem evQ_sound {O : CallF} (hO : SoundO P O) (I : Inv w g a st) {o : Oper} {e : Eff} (h : QOk P O st o e) (hd : dstOk a.tmps.size o.dst = true) (hfr : freshOk st o.dst e = true)
    {next : Act → World → Prop} {Q : Exit → Act → World → Prop}
    (k : ∀ w' g' v, Ext w g w' g' → Inv w' g' (a.put o.dst v) (applyEff st o.dst e) → next (a.put o.dst v) w') : o.wp P a w next Q := by
  cases h with
  | ev h => exact evQ_sound' hO I h hd hfr k
  | call hod hop ht hc hk hs => exact call_wp I (callOne_sound I ht hc hk hs) hop hod hd k

theorem enter_wp (I : Inv w g a st) {o : Oper} {d : Nat} {x : Operand} {f : FuncId} {args : Array Operand} {ats : Array TypeId} {st2 : St} (hop : o.op = .call { callee := .value x, args := args, argTypes := ats }) (hod : o.dst = some d)
    (h : ∃ fn us vs, a.eval x = .func (.func f) us vs ∧ P.funcs[f]? = some fn ∧ fn.body.isNone = false ∧ (fn.name == "runtime.NumGoroutine") = false ∧
      Calls P f (us.toList ++ args.toList.map a.eval ++ vs.toList).toArray w fun e w' => ∃ v g', e = .returned v ∧ Ext w g w' g' ∧ Inv w' g' (a.put (some d) v) st2) {next : Act → World → Prop} {Q : Exit → Act → World → Prop}
    (k : ∀ w' g' v, Ext w g w' g' → Inv w' g' (a.put o.dst v) st2 → next (a.put o.dst v) w') : o.wp P a w next Q := by
  obtain ⟨fn, us, vs, hx, hfn, hb, hng, hcalls⟩ := h
  have hrun : (execOp a.eval o).run P w = .ok (.enter f (us.toList ++ args.toList.map a.eval ++ vs.toList).toArray) w := by
    simp only [execOp, hop, resolve, Deferred.ofValue, hx, invoke, callFunc]
    have hng' : fn.name ≠ "runtime.NumGoroutine" := by simpa using hng
    have hb' : fn.body ≠ none := by intro e; simp [e] at hb
    simp [hfn, hb', hng', Array.toList_map]
  unfold Oper.wp
  rw [hrun, Oper.upon_enter]
  refine hcalls.mono ?_
  rintro e' w' ⟨v, g', rfl, E, I1⟩
  rw [hod] at k ⊢
  exact k w' g' v E I1
theorem tryX_wp {O : CallF} (hO : SoundO P O) (I : Inv w g a st) {o : Oper} {d : Nat} {x : Operand} {args : Array Operand} {ats : Array TypeId} {pass tok : Bool} {st2 : St} (hop : o.op = .call { callee := .value x, args := args, argTypes := ats }) (hod : o.dst = some d)
    (hd' : d < a.tmps.size) (h : tryX P O st d x args.toList pass tok = some st2) {next : Act → World → Prop} {Q : Exit → Act → World → Prop}
    (k : ∀ w' g' v, Ext w g w' g' → Inv w' g' (a.put o.dst v) st2 → next (a.put o.dst v) w') : o.wp P a w next Q := by
  unfold tryX at h
  split at h
  · rename_i f cs D hax
    split at h
    · rename_i res outer' hres
      exact enter_wp I hop hod (call_sound I hd' hax (hO _ _ _ _ _ hres) h) k
    · cases h
  · cases h
theorem callX_wp {O : CallF} (hO : SoundO P O) (I : Inv w g a st) {o : Oper} {d : Nat} {x : Operand} {args : Array Operand} {ats : Array TypeId} {st2 : St} (hop : o.op = .call { callee := .value x, args := args, argTypes := ats }) (hod : o.dst = some d)
    (hd' : d < a.tmps.size) (h : callX P O st d x args.toList = some st2) {next : Act → World → Prop} {Q : Exit → Act → World → Prop}
    (k : ∀ w' g' v, Ext w g w' g' → Inv w' g' (a.put o.dst v) st2 → next (a.put o.dst v) w') : o.wp P a w next Q := by
  unfold callX at h
  split at h
  · rename_i s hs
    cases h
    exact tryX_wp hO I hop hod hd' hs k
  · exact tryX_wp hO I hop hod hd' h k

theorem append_wp (I : Inv w g a st) {o : Oper} {d : Nat} {args : Array Operand} {ats : Array TypeId} {st' : St} (hop : o.op = .call { callee := .builtin .append, args := args, argTypes := ats }) (hod : o.dst = some d)
    (hd' : d < a.tmps.size) (h : appendOf P st d args.toList ats.toList = some st') {next : Act → World → Prop} {Q : Exit → Act → World → Prop}
    (k : ∀ w' g' v, Ext w g w' g' → Inv w' g' (a.put o.dst v) st' → next (a.put o.dst v) w') : o.wp P a w next Q := by
  have hk := h
  unfold appendOf at hk
  split at hk
  · rename_i s x t t' ha ht
    obtain ⟨v, w', g', hrun, I1, E⟩ := appendOf_sound (ty := o.type) I hd' (by rw [ha, ht] at h; exact h)
    have hrun2 : (execOp a.eval o).run P w = .ok (.value v) w' := by
      simp only [execOp, hop, resolve, invoke, builtin]
      have h1 : args.map a.eval = #[a.eval s, a.eval x] := by
        apply Array.ext'
        simp [ha]
      have h2 : ats = #[t, t'] := by
        apply Array.ext'
        simp [ht]
      rw [h1, h2]
      simp [hrun]
    unfold Oper.wp
    rw [hrun2, Oper.upon_value]
    rw [hod] at k ⊢
    exact k w' g' _ E I1
  · cases hk

theorem evOp_sound {O : CallF} (hO : SoundO P O) (I : Inv w g a st) {o : Oper} {st' : St} (h : evOp P O st o = some st') (hd : dstOk a.tmps.size o.dst = true)
    {next : Act → World → Prop} {Q : Exit → Act → World → Prop}
    (k : ∀ w' g' v, Ext w g w' g' → Inv w' g' (a.put o.dst v) st' → next (a.put o.dst v) w') : o.wp P a w next Q := by
  unfold evOp at h
  split at h
  · rename_i e he
    split at h
    · rename_i hfr
      cases h
      exact evQ_sound' hO I he hd hfr k
    · cases h
  · split at h
    · rename_i d hod
      have hd' : d < a.tmps.size := by rw [hod] at hd; simpa [dstOk] using hd
      split at h
      · rename_i x hop
        obtain ⟨g', I1, E⟩ := assignOf_sound I hd' h
        have hrun : (execOp a.eval o).run P w = .ok (.value (a.eval x)) w := by
          simp only [execOp, hop]
          rfl
        unfold Oper.wp
        rw [hrun, Oper.upon_value]
        rw [hod] at k ⊢
        exact k w g' _ E I1
      · rename_i args ats hop
        exact append_wp I hop hod hd' h k
      · rename_i x args ats hop
        exact callX_wp hO I hop hod hd' h k
      · cases h
    · rename_i hod
      split at h
      · rename_i T x y hop
        obtain ⟨w', g', hrun, I1, E⟩ := storeOf_sound I h
        have hrun2 : (execOp a.eval o).run P w = .ok .skip w' := by
          simp only [execOp, hop]
          rw [Sem.run_bind, hrun]
          rfl
        unfold Oper.wp
        rw [hrun2, Oper.upon_skip]
        rw [hod] at k ⊢
        exact k w' g' undef E I1
      · cases h

end
end Go.Ev

namespace Go.Ev

def AllP : List Prop → Prop
  | [] => True
  | p :: r => p ∧ AllP r

/-- A byte of a text. -/
def at8 (s : ByteArray) (n : Int) : Int := (((s[n.toNat]?).getD 0).toNat : Int)

def idxT (P : Program) (T : TypeId) (l : Leaf) (n : Int) (cs : List PV) : Option (SVal × List Prop) :=
  match elemO P T with
  | some (_, z) =>
    match l with
    | .d (.sl s xs) => match Nat.beq s z with
      | true => some (.val ⟨false, [.fptr cs]⟩, [0 ≤ n, xs[n.toNat]? = some cs])
      | false => none
    | .al .tip _ s xs => match Nat.beq s z with
      | true => some (.val ⟨false, [.fptr cs]⟩, [0 ≤ n, xs[n.toNat]? = some cs])
      | false => none
    | .al .own p s xs => match Nat.beq s z with
      | true => some (.val ⟨false, [.eptr p n.toNat 0 cs]⟩, [0 ≤ n, xs[n.toNat]? = some cs])
      | false => none
    | _ => none
  | none => none

def rowT (l : Leaf) : Option (Nat × List (List PV)) :=
  match l with
  | .d (.sl s xs) => some (s, xs)
  | .al .tip _ s xs => some (s, xs)
  | _ => none
def cutT (n : Nat) (lo hi : Option Int) : List Prop :=
  match lo, hi with
  | none, none => []
  | some l, none => [0 ≤ l, l ≤ (n : Int)]
  | none, some h => [0 ≤ h, h ≤ (n : Int)]
  | some l, some h => [0 ≤ l, l ≤ h, h ≤ (n : Int)]
def isStr (P : Program) (T : TypeId) : Bool :=
  match P.underlying T with
  | some .string => true
  | _ => false


def optN (d : Nat) : Option Int → Nat
  | some l => l.toNat
  | none => d
/-- Without what is asked for it to be done. -/
def evT (P : Program) (st : St) (o : Oper) (cs : List PV) : Option (SVal × List Prop) :=
  match o.op with
  | .indexAddr T x i =>
    match fetch st x, intOf? st i with
    | .val ⟨false, [l]⟩, some (_, n) => idxT P T l n cs
    | _, _ => none
  | .index T x i =>
    match isStr P T, valOf (fetch st x), intOf? st i with
    | true, some (.string s), some (_, n) => some (one (.d (.v (.int .u8 (at8 s n)))), [0 ≤ n, n < (s.size : Int)])
    | _, _, _ => none
  | .slice T x lo hi none =>
    match fetch st x, boundOf st lo, boundOf st hi with
    | .val ⟨false, [.d (.v (.string s))]⟩, some l, some h =>
      match isStr P T with
      | true => some (one (.d (.v (.string (s.extract (optN 0 l) (optN s.size h))))), cutT s.size l h)
      | false => none
    | .val ⟨false, [l]⟩, some lo, some hi =>
      match elemO P T, rowT l with
      | some (_, z), some (s, xs) => match Nat.beq s z with
        | true => some (one (.d (.sl s ((xs.take (optN xs.length hi)).drop (optN 0 lo)))), cutT xs.length lo hi)
        | false => none
      | _, _ => none
    | _, _, _ => none
  | .binOp op _ x y _ =>
    match intOf? st x, intOf? st y with
    | some (k, a), some (k', b) =>
      match op with
      | .quo => if k = k' then some (one (.d (.v (.int k (k.wrap (a.tdiv b))))), [b ≠ 0]) else none
      | .rem => if k = k' then some (one (.d (.v (.int k (a.tmod b)))), [b ≠ 0]) else none
      | .shl => some (one (.d (.v (.int k (k.wrap (a * 2 ^ (min b.toNat k.bits)))))), [0 ≤ b])
      | .shr => some (one (.d (.v (.int k (a.fdiv (2 ^ (min b.toNat k.bits)))))), [0 ≤ b])
      | _ => none
    | _, _ => none
  | _ => none

/-- An append without its bound. -/
def appT (P : Program) (st : St) (d : Nat) (o : Oper) : Option (St × List Prop) :=
  match o.op with
  | .call { callee := .builtin .append, args, argTypes } =>
    match args.toList, argTypes.toList with
    | [s, x], [t, t'] =>
      match Nat.beq t t', appTy P t, fetch st s, fetch st x with
      | true, some (_, n, k), .val ⟨false, [l]⟩, .val ⟨false, [r]⟩ =>
        match rowsOf n r with
        | some ys =>
          match l with
          | .nilS => some (putS st d (one (.row .tip n ys)), [ys.length * k ≤ 140737488355328, ys.length ≤ 9223372036854775807])
          | .al m p s xs =>
            match Nat.beq s n with
            | true => some (putS ((relOwn m p (.slot d 0 0) st).mp (relLeaf p)) d (one (.row m n (xs ++ ys))), [(xs.length + ys.length) * k ≤ 140737488355328, xs.length + ys.length ≤ 9223372036854775807])
            | false => none
          | _ => none
        | none => none
      | _, _, _, _ => none
    | _, _ => none
  | _ => none

section
variable {P : Program} {st : St}

theorem idxT_of {T : TypeId} {l : Leaf} {n : Int} {cs : List PV} {s : SVal} {ob : List Prop} (h : idxT P T l n cs = some (s, ob)) (hob : AllP ob) : indexAddrOf P T l n = some s := by
  unfold idxT at h
  unfold indexAddrOf
  split at h
  · rename_i e z he
    split at h
    · split at h
      · rename_i hz
        cases h
        obtain ⟨h0, h1, _⟩ := hob
        simp [h0, h1, Nat.eq_of_beq_eq_true hz, he]
      · cases h
    · split at h
      · rename_i hz
        cases h
        obtain ⟨h0, h1, _⟩ := hob
        simp [h0, h1, Nat.eq_of_beq_eq_true hz, he]
      · cases h
    · split at h
      · rename_i hz
        cases h
        obtain ⟨h0, h1, _⟩ := hob
        simp [h0, h1, Nat.eq_of_beq_eq_true hz, he]
      · cases h
    · cases h
  · cases h

theorem pureRun_bind {α β : Type} (f : α → Sem β) : ∀ (x : Sem α), pureRun P (x >>= f) = (pureRun P x).bind fun a => pureRun P (f a)
  | .pure a => rfl
  | .program k => by
    show pureRun P ((k P).bind f) = (pureRun P (k P)).bind _
    exact pureRun_bind f (k P)
  | .load .. => rfl
  | .store .. => rfl
  | .new .. => rfl
  | .shape .. => rfl
  | .freeze .. => rfl
  | .frozen .. => rfl
  | .getObj .. => rfl
  | .setObj .. => rfl
  | .choose .. => rfl
  | .sys .. => rfl
  | .mark _ k => by
    show pureRun P (k.bind f) = (pureRun P k).bind _
    exact pureRun_bind f k
  | .halt .. => rfl
theorem pureRun_pure {α : Type} (a : α) : pureRun P (pure a : Sem α) = some a := rfl
theorem pureRun_under {t : TypeId} {d : TypeDesc} (h : P.underlying t = some d) : pureRun P (underlying t) = some d := by
  unfold underlying
  rw [pureRun_bind]
  show (some P).bind _ = _
  simp [h, pureRun_pure]

theorem intOf_val {x : Operand} {k : IntKind} {n : Int} (h : intOf? st x = some (k, n)) : valOf (fetch st x) = some (.int k n) := by
  unfold intOf? at h
  split at h
  · rename_i k' n' hv
    cases h
    exact hv
  · cases h

theorem scalar_two {o : Oper} {x y : Operand} {v u r : Value} (hops : o.op.operands = #[x, y]) (hn : notSel o.op = true) (hx : valOf (fetch st x) = some v) (hy : valOf (fetch st y) = some u)
    (hrun : pureRun P (execOp (fun x => (valOf (fetch st x)).getD undef) o) = some (.value r)) {c : Comp} (hc : compOfV r = some c) : scalarOf P st o = some (.val c) := by
  unfold scalarOf scalOk
  rw [if_pos (by simp [hops, hn, hx, hy]), hrun]
  simp [hc]

theorem bound_cases {x : Option Operand} {l : Option Int} (h : boundOf st x = some l) :
    (x = none ∧ l = none) ∨ ∃ y k n, x = some y ∧ l = some n ∧ valOf (fetch st y) = some (.int k n) := by
  cases x with
  | none => cases h; exact .inl ⟨rfl, rfl⟩
  | some y =>
    simp only [boundOf, Option.map_eq_some_iff] at h
    obtain ⟨⟨k, n⟩, h1, rfl⟩ := h
    exact .inr ⟨y, k, n, rfl, rfl, intOf_val h1⟩
theorem run_sliceBound {k : IntKind} {n : Int} {y : Nat} {c : BoundsCode} (h : 0 ≤ n ∧ n ≤ (y : Int)) : pureRun P (Instr.sliceBound (.int k n) y c) = some n.toNat := by
  unfold Instr.sliceBound
  rw [pureRun_bind]
  show (some (k, n)).bind _ = _
  simp only [Option.bind_some, if_pos h]
  rfl
theorem run_sliceBounds {sz : Nat} {lo hi : Option Operand} {l h : Option Int} (h1 : boundOf st lo = some l) (h2 : boundOf st hi = some h) (hob : AllP (cutT sz l h)) :
    pureRun P (Instr.sliceBounds false sz sz (lo.map fun x => (valOf (fetch st x)).getD undef) (hi.map fun x => (valOf (fetch st x)).getD undef) none) = some (optN 0 l, optN sz h, sz) := by
  unfold Instr.sliceBounds
  rcases bound_cases h1 with ⟨rfl, rfl⟩ | ⟨y, k, n, rfl, rfl, hy⟩ <;> rcases bound_cases h2 with ⟨rfl, rfl⟩ | ⟨z, k', m, rfl, rfl, hz⟩
  · rfl
  · simp only [cutT] at hob
    simp only [pureRun_bind, Option.map_none, Option.map_some, pureRun_pure, Option.bind_some, hz, Option.getD_some]
    simp only [run_sliceBound (P := P) (k := k') ⟨hob.1, hob.2.1⟩, Option.bind_some]
    rfl
  · simp only [cutT] at hob
    simp only [pureRun_bind, Option.map_none, Option.map_some, pureRun_pure, Option.bind_some, hy, Option.getD_some]
    simp only [run_sliceBound (P := P) (k := k) ⟨hob.1, hob.2.1⟩, Option.bind_some]
    rfl
  · simp only [cutT] at hob
    have h0 := hob.1
    have h3 := hob.2.1
    have h4 := hob.2.2.1
    have h5 : n ≤ (m.toNat : Int) := by omega
    simp only [pureRun_bind, Option.map_none, Option.map_some, pureRun_pure, Option.bind_some, hy, hz, Option.getD_some]
    simp only [run_sliceBound (P := P) (k := k') ⟨(by omega : 0 ≤ m), h4⟩, Option.bind_some, run_sliceBound (P := P) (k := k) (y := m.toNat) ⟨h0, h5⟩]
    rfl

theorem slice_scal {o : Oper} {T : TypeId} {x : Operand} {lo hi : Option Operand} {l h : Option Int} {s : ByteArray} (hop : o.op = .slice T x lo hi none) (hx : valOf (fetch st x) = some (.string s)) (hT : P.underlying T = some .string)
    (h1 : boundOf st lo = some l) (h2 : boundOf st hi = some h) (hob : AllP (cutT s.size l h)) : scalarOf P st o = some (one (.d (.v (.string (s.extract (optN 0 l) (optN s.size h)))))) := by
  have hall : scalOk st o = true := by
    unfold scalOk
    simp only [hop, notSel, Op.operands, Bool.true_and]
    rcases bound_cases h1 with ⟨rfl, rfl⟩ | ⟨y, k, n, rfl, rfl, hy⟩ <;> rcases bound_cases h2 with ⟨rfl, rfl⟩ | ⟨z, k', m, rfl, rfl, hz⟩ <;> simp [*]
  unfold scalarOf
  rw [if_pos hall]
  have hr : pureRun P (Instr.sliceAt T (.string s) (lo.map fun x => (valOf (fetch st x)).getD undef) (hi.map fun x => (valOf (fetch st x)).getD undef) none) = some (.string (s.extract (optN 0 l) (optN s.size h))) := by
    unfold Instr.sliceAt
    rw [pureRun_bind, pureRun_under hT]
    simp only [Option.bind_some]
    unfold Instr.slice
    rw [pureRun_bind, pureRun_under hT]
    simp only [Option.bind_some]
    rw [if_neg (by simp), pureRun_bind, run_sliceBounds h1 h2 hob]
    rfl
  simp only [execOp, hop, pureRun_bind, hx, Option.getD_some, Option.map_none]
  rw [hr]
  rfl

theorem evT_of {o : Oper} {cs : List PV} {s : SVal} {ob : List Prop} (h : evT P st o cs = some (s, ob)) (hob : AllP ob) : evVal P st o = some s := by
  unfold evT at h
  split at h
  · rename_i T x i hop
    unfold evVal
    simp only [hop]
    split at h
    · rename_i l k n hx hi
      simp only [hx, hi]
      exact idxT_of h hob
    · cases h
  · rename_i T x i hop
    split at h
    · rename_i s' k n hT hx hi
      cases h
      obtain ⟨h0, h1, _⟩ := hob
      have hi' := intOf_val hi
      have : evVal P st o = scalarOf P st o := by unfold evVal; simp only [hop]
      rw [this]
      unfold isStr at hT
      split at hT
      · rename_i hu
        have hsome : s'[n.toNat]? = some ((s'[n.toNat]?).getD 0) := by
          have : n.toNat < s'.size := by omega
          simp [this]
        refine scalar_two (r := .int .u8 (at8 s' n)) (c := ⟨false, [.d (.v (.int .u8 (at8 s' n)))]⟩) (by simp [hop, Op.operands]) (by simp [hop, notSel]) hx hi' ?_ rfl
        have hr : pureRun P (Instr.index T (.string s') (.int k n)) = some (.int .u8 (at8 s' n)) := by
          unfold Instr.index
          rw [pureRun_bind]
          show (some (k, n)).bind _ = _
          simp only [Option.bind_some]
          rw [pureRun_bind, pureRun_under hu]
          simp only [Option.bind_some, if_pos h0]
          rw [hsome]
          rfl
        simp only [execOp, hop, pureRun_bind, hx, hi', Option.getD_some]
        rw [hr]
        rfl
      · cases hT
    · cases h
  · rename_i T x lo hi hop
    split at h
    · rename_i s' l h' hx hlo hhi
      split at h
      · rename_i hT
        cases h
        have hv : valOf (fetch st x) = some (.string s') := by rw [hx]; rfl
        unfold isStr at hT
        split at hT
        · rename_i hu
          have := slice_scal hop hv hu hlo hhi hob
          unfold evVal
          simp only [hop, hx]
          exact this
        · cases hT
      · cases h
    · rename_i l' lo' hi' hnot hx hlo hhi
      split at h
      · rename_i e z s' xs he hrow
        split at h
        · rename_i hz
          cases h
          have hz' := Nat.eq_of_beq_eq_true hz
          subst hz'
          have hcut : 0 ≤ lo'.getD 0 ∧ lo'.getD 0 ≤ hi'.getD xs.length ∧ hi'.getD xs.length ≤ xs.length ∧ (hi'.getD xs.length).toNat = optN xs.length hi' ∧ (lo'.getD 0).toNat = optN 0 lo' := by
            cases lo' <;> cases hi' <;> simp only [cutT, AllP, and_true] at hob <;> simp only [Option.getD_none, Option.getD_some, optN] <;> refine ⟨?_, ?_, ?_, ?_, ?_⟩ <;> first | rfl | omega | simp
          unfold evVal
          simp only [hop, hx]
          unfold rowT at hrow
          split at hrow
          · cases hrow
            rw [hlo, hhi]
            simp only [sliceOf, he]
            rw [if_pos ⟨trivial, hcut.1, hcut.2.1, hcut.2.2.1⟩, hcut.2.2.2.1, hcut.2.2.2.2]
          · cases hrow
            rw [hlo, hhi]
            simp only [sliceOf, he]
            rw [if_pos ⟨trivial, hcut.1, hcut.2.1, hcut.2.2.1⟩, hcut.2.2.2.1, hcut.2.2.2.2]
          · cases hrow
        · cases h
      · cases h
    · cases h
  · rename_i op T x y U hop
    split at h
    · rename_i k a k' b hx hy
      have hx' := intOf_val hx
      have hy' := intOf_val hy
      have hev : (op = .eql ∨ op = .neq → False) → evVal P st o = scalarOf P st o := by
        intro hne
        unfold evVal
        simp only [hop]
        cases op <;> first | rfl | exact absurd rfl (fun h => hne (.inl h)) | exact absurd rfl (fun h => hne (.inr h))
      have hgo : ∀ r : Value, pureRun P (binOp op T (.int k a) (.int k' b)) = some r → (∃ k n, r = .int k n) → (op = .eql ∨ op = .neq → False) → evVal P st o = some (one (.d (.v r))) := by
        intro r hr ⟨kk, nn, hrr⟩ hne
        subst hrr
        rw [hev hne]
        refine scalar_two (r := .int kk nn) (c := ⟨false, [.d (.v (.int kk nn))]⟩) (by simp [hop, Op.operands]) (by simp [hop, notSel]) hx' hy' ?_ rfl
        simp only [execOp, hop, pureRun_bind, hx', hy', Option.getD_some]
        have hg : pureRun P (eqGuard op T x y (.int k a) (.int k' b)) = some () := by
          cases op <;> first | rfl | exact absurd rfl (fun h => hne (.inl h)) | exact absurd rfl (fun h => hne (.inr h))
        rw [hg]
        simp only [Option.bind_some, hr, pureRun_pure]
      split at h
      · split at h
        · rename_i hk
          subst hk
          cases h
          refine hgo _ ?_ ⟨_, _, rfl⟩ (by simp)
          simp only [binOp, Op.intDiv]
          rw [if_neg (by simp), if_neg hob.1]
          rfl
        · cases h
      · split at h
        · rename_i hk
          subst hk
          cases h
          refine hgo _ ?_ ⟨_, _, rfl⟩ (by simp)
          simp only [binOp, Op.intDiv]
          rw [if_neg (by simp), if_neg hob.1]
          rfl
        · cases h
      · cases h
        refine hgo _ ?_ ⟨_, _, rfl⟩ (by simp)
        simp only [binOp, Op.shift]
        rw [if_neg (by have := hob.1; omega)]
        rfl
      · cases h
        refine hgo _ ?_ ⟨_, _, rfl⟩ (by simp)
        simp only [binOp, Op.shift]
        rw [if_neg (by have := hob.1; omega)]
        rfl
      · cases h
    · cases h
  · cases h

theorem appT_of {d : Nat} {o : Oper} {st' : St} {ob : List Prop} (h : appT P st d o = some (st', ob)) (hob : AllP ob) : ∃ args ats, o.op = .call { callee := .builtin .append, args := args, argTypes := ats } ∧
    appendOf P st d args.toList ats.toList = some st' := by
  unfold appT at h
  split at h
  · rename_i args ats hop
    refine ⟨args, ats, hop, ?_⟩
    split at h
    · rename_i s x t t' ha ht
      split at h
      · rename_i e n k l r htt hty hs hx
        have htt' := Nat.eq_of_beq_eq_true htt
        subst htt'
        unfold appendOf
        rw [ha, ht]
        simp only [if_true, hty, hs, hx]
        split at h
        · rename_i ys hys
          simp only [hys]
          split at h
          · cases h
            rw [if_pos ⟨hob.1, hob.2.1⟩]
          · rename_i m p s' xs
            split at h
            · rename_i hsn
              cases h
              dsimp only
              rw [if_pos ⟨Nat.eq_of_beq_eq_true hsn, hob.1, hob.2.1⟩]
            · cases h
          · cases h
        · cases h
      · cases h
    · cases h
  · cases h

end
end Go.Ev

namespace Go.Ev

/-- How a piece of code is left. -/
inductive Ex where
  | normal
  | exit (id : Nat)
  | goto (l : Nat)
  | ret

/-- What is claimed: of the operation that yields slot d; of a loop. -/
inductive Hint where
  | b (d : Nat) (q : Bool)
  | i (d : Nat) (n : Int)
  | s (d : Nat) (s : SVal)
  | c (d : Nat) (res : SVal)
  | t (d : Nat) (cs : List PV)
  | loop (ks kb kx bx : List Nat) (ex : Ex) (st : St)
  | drop (ks kb : List Nat)

def isD (o : Option Nat) (d : Nat) : Bool :=
  match o with
  | some x => Nat.beq x d
  | none => false

def evQH (P : Program) (O : CallF) (st : St) (o : Oper) : List Hint → Option (Eff × List Hint × List Prop)
  | .b d q :: r =>
    match isD o.dst d with
    | true =>
      match evQ P O st o with
      | some (.put (.val ⟨false, [.d (.v (.bool x))]⟩)) => some (.put (.val ⟨false, [.d (.v (.bool q))]⟩), r, [x = q])
      | _ => none
    | false => (evQ P O st o).map fun e => (e, .b d q :: r, [])
  | .i d n :: r =>
    match isD o.dst d with
    | true =>
      match evQ P O st o with
      | some (.put (.val ⟨false, [.d (.v (.int k x))]⟩)) => some (.put (.val ⟨false, [.d (.v (.int k n))]⟩), r, [x = n])
      | _ => none
    | false => (evQ P O st o).map fun e => (e, .i d n :: r, [])
  | .s d s :: r =>
    match isD o.dst d with
    | true => some (.put s, r, [evQ P O st o = some (.put s)])
    | false => (evQ P O st o).map fun e => (e, .s d s :: r, [])
  | .c d res :: r =>
    match isD o.dst d with
    | true =>
      match o.op with
      | .call { callee := .value (.func f), args, .. } =>
        match paramsO P f with
        | some ts =>
          match argComps P st args.toList ts with
          | some cs =>
            match cvS d res with
            | some s => some (.put s, r, [CallOK P f cs [] res []])
            | none => none
          | none => none
        | none => none
      | _ => none
    | false => (evQ P O st o).map fun e => (e, .c d res :: r, [])
  | .t d cs :: r =>
    match isD o.dst d with
    | true =>
      match evT P st o cs with
      | some (s, ob) => some (.put s, r, ob)
      | none => none
    | false => (evQ P O st o).map fun e => (e, .t d cs :: r, [])
  | hs => (evQ P O st o).map fun e => (e, hs, [])

def claimed (o : Oper) : List Hint → Bool
  | .b d _ :: _ | .i d _ :: _ | .s d _ :: _ | .c d _ :: _ | .t d _ :: _ => isD o.dst d
  | _ => false

def evOpH (P : Program) (O : CallF) (st : St) (o : Oper) (hs : List Hint) : Option (St × List Hint × List Prop) :=
  match claimed o hs with
  | true =>
    match evQH P O st o hs with
    | some (e, r, ob) => match freshOk st o.dst e with
      | true => some (applyEff st o.dst e, r, ob)
      | false => none
    | none =>
      match hs with
      | .t d _ :: r =>
        match appT P st d o with
        | some (st', ob) => some (st', r, ob)
        | none => none
      | _ => none
  | false => (evOp P O st o).map fun st' => (st', hs, [])

/-- What stands where an operation wasn't wanted. -/
def nixS : SVal := .tup []

def wantedOf (ops : Array Oper) (st : St) (o : Oper) : Option Bool :=
  match o.guard with
  | none => some true
  | some (j, want) =>
    match (ops[j]?).bind (·.dst) with
    | some d =>
      match look st.slots d with
      | some (.val ⟨false, [.d (.v (.bool q))]⟩) => some (q == want)
      | some (.tup []) => some false
      | _ => none
    | none => none

def evSeq (P : Program) (O : CallF) (nt : Nat) (ops : Array Oper) : List Nat → St → List Hint → Option (St × List Hint × List Prop)
  | [], st, hs => some (st, hs, [])
  | i :: r, st, hs =>
    match ops[i]? with
    | none => evSeq P O nt ops r st hs
    | some o =>
      match dstOk nt o.dst, wantedOf ops st o with
      | true, some true =>
        match evOpH P O st o hs with
        | some (st1, hs1, ob1) =>
          match evSeq P O nt ops r st1 hs1 with
          | some (st2, hs2, ob2) => some (st2, hs2, ob1 ++ ob2)
          | none => none
        | none => none
      | true, some false => evSeq P O nt ops r (putO st o.dst nixS) hs
      | _, _ => none

theorem allP_append : ∀ {l r : List Prop}, AllP (l ++ r) → AllP l ∧ AllP r
  | [], _, h => ⟨trivial, h⟩
  | _ :: _, _, h => ⟨⟨h.1, (allP_append h.2).1⟩, (allP_append h.2).2⟩

section
variable {P : Program} {w w' : World} {g g' : Gh} {a : Act} {st : St}

theorem isD_eq {o : Oper} {d : Nat} (h : isD o.dst d = true) : o.dst = some d := by
  cases ho : o.dst with
  | none => simp [isD, ho] at h
  | some y =>
    simp only [isD, ho] at h
    rw [Nat.eq_of_beq_eq_true h]
theorem evQ_of_val {O : CallF} {o : Oper} {d : Nat} {s s' : SVal} {cs : List PV} {ob : List Prop} (hod : o.dst = some d) (ht : evT P st o cs = some (s', ob)) (h : evVal P st o = some s) : evQ P O st o = some (.put s) := by
  unfold evQ
  rw [hod]
  dsimp only
  unfold evT at ht
  split at ht
  · rename_i hop
    rw [hop]
    simp [h]
  · rename_i hop
    rw [hop]
    simp [h]
  · rename_i hop
    rw [hop]
    simp [h]
  · rename_i hop
    rw [hop]
    simp [h]
  · cases ht

theorem evQH_evQ {O : CallF} {o : Oper} {hs hs' : List Hint} {e : Eff} {ob : List Prop} (h : evQH P O st o hs = some (e, hs', ob)) (hob : AllP ob) : QOk P O st o e := by
  unfold evQH at h
  split at h
  · split at h
    · split at h
      · rename_i hq
        cases h
        obtain ⟨rfl, _⟩ := hob
        exact .ev hq
      · cases h
    · simp only [Option.map_eq_some_iff] at h
      obtain ⟨e', h1, h2⟩ := h
      cases h2
      exact .ev h1
  · split at h
    · split at h
      · rename_i hq
        cases h
        obtain ⟨rfl, _⟩ := hob
        exact .ev hq
      · cases h
    · simp only [Option.map_eq_some_iff] at h
      obtain ⟨e', h1, h2⟩ := h
      cases h2
      exact .ev h1
  · split at h
    · cases h
      exact .ev hob.1
    · simp only [Option.map_eq_some_iff] at h
      obtain ⟨e', h1, h2⟩ := h
      cases h2
      exact .ev h1
  · split at h
    · rename_i d res r x hisd
      split at h
      · rename_i f args ats hop
        split at h
        · rename_i ts hts
          split at h
          · rename_i cs hcs
            split at h
            · rename_i s hs
              cases h
              have hod := isD_eq hisd
              exact .call hod hop hts hcs hob.1 hs
            · cases h
          · cases h
        · cases h
      · cases h
    · simp only [Option.map_eq_some_iff] at h
      obtain ⟨e', h1, h2⟩ := h
      cases h2
      exact .ev h1
  · rename_i d cs r
    split at h
    · rename_i hisd
      split at h
      · rename_i s ob' ht
        cases h
        have hod := isD_eq hisd
        exact .ev (evQ_of_val hod ht (evT_of ht hob))
      · cases h
    · simp only [Option.map_eq_some_iff] at h
      obtain ⟨e', h1, h2⟩ := h
      cases h2
      exact .ev h1
  · simp only [Option.map_eq_some_iff] at h
    obtain ⟨e', h1, h2⟩ := h
    cases h2
    exact .ev h1

theorem evOpH_sound {O : CallF} (hO : SoundO P O) (I : Inv w g a st) {o : Oper} {hs hs' : List Hint} {st' : St} {ob : List Prop} (h : evOpH P O st o hs = some (st', hs', ob)) (hob : AllP ob)
    (hd : dstOk a.tmps.size o.dst = true) {next : Act → World → Prop} {Q : Exit → Act → World → Prop}
    (k : ∀ w' g' v, Ext w g w' g' → Inv w' g' (a.put o.dst v) st' → next (a.put o.dst v) w') : o.wp P a w next Q := by
  unfold evOpH at h
  split at h
  · split at h
    · rename_i e r ob' he
      split at h
      · rename_i hfr
        cases h
        exact evQ_sound hO I (evQH_evQ he hob) hd hfr k
      · cases h
    · split at h
      · rename_i d cs r hcl _
        split at h
        · rename_i st1 ob1 ha
          cases h
          have hod := isD_eq (d := d) (o := o) (by first | assumption | simpa [claimed] using hcl)
          obtain ⟨args, ats, hop, h1⟩ := appT_of ha hob
          exact append_wp I hop hod (by rw [hod] at hd; simpa [dstOk] using hd) h1 k
        · cases h
      · cases h
  · simp only [Option.map_eq_some_iff] at h
    obtain ⟨s, h1, h2⟩ := h
    cases h2
    exact evOp_sound hO I h1 hd k

theorem RepS.nix {t : Nat} : RepS w g t nixS Go.undef := ⟨#[], rfl, trivial⟩
theorem wantedOf_eq (I : Inv w g a st) {ops : Array Oper} {o : Oper} {b : Bool} (h : wantedOf ops st o = some b) : Region.wanted o (yielded ops a.tmps) = b := by
  unfold wantedOf at h
  unfold Region.wanted
  split at h
  · rename_i hg
    cases h
    simp [hg]
  · rename_i j want hg
    split at h
    · rename_i d hd
      split at h
      · rename_i q hq
        cases h
        obtain ⟨hlt, hr⟩ := I.slots _ _ hq
        have hv : a.tmps.getD d undef = .bool q := valOf_eq hr rfl
        have hsome : a.tmps[d]? = some (.bool q) := by
          rw [Array.getD_eq_getD_getElem?] at hv
          rw [Array.getElem?_eq_getElem hlt] at hv ⊢
          simpa using hv
        simp only [hg, yielded, hd, Option.bind_some, hsome]
        cases q <;> cases want <;> rfl
      · rename_i hq
        cases h
        obtain ⟨hlt, vs, hr, hnil⟩ := I.slots _ _ hq
        have hvs : vs = #[] := by
          cases hl : vs.toList with
          | nil => exact Array.ext' (by simp [hl])
          | cons x r => rw [hl] at hnil; exact hnil.elim
        subst hvs
        have hsome : a.tmps[d]? = some (.tuple #[]) := by
          rw [Array.getD_eq_getD_getElem?] at hr
          rw [Array.getElem?_eq_getElem hlt] at hr ⊢
          simpa using hr
        simp only [hg, yielded, hd, Option.bind_some, hsome]
        cases want <;> rfl
      · cases h
    · cases h

theorem putO_size (a : Act) (d : Option Nat) (v : Value) : (a.put d v).tmps.size = a.tmps.size := by
  cases d <;> simp [Act.put]

theorem evSeq_sound {O : CallF} (hO : SoundO P O) {nt : Nat} {ops : Array Oper} {Q : Exit → Act → World → Prop} :
    ∀ {l : List Nat} {w : World} {g : Gh} {a : Act} {st st' : St} {hs hs' : List Hint} {ob : List Prop}, Inv w g a st → a.tmps.size = nt →
      evSeq P O nt ops l st hs = some (st', hs', ob) → AllP ob →
      (∀ w' g' a', Ext w g w' g' → Inv w' g' a' st' → a'.tmps.size = nt → Q .normal a' w') → wpOps P ops Q l a w
  | [], w, g, a, st, st', hs, hs', ob, I, hsz, h, hob, k => by
    cases h
    exact k w g a (Ext.refl w g) I hsz
  | i :: r, w, g, a, st, st', hs, hs', ob, I, hsz, h, hob, k => by
    rw [wpOps_cons]
    unfold evSeq at h
    unfold wpOp
    split at h
    · rename_i hi
      simp only [hi]
      exact evSeq_sound hO I hsz h hob k
    · rename_i o hi
      simp only [hi]
      split at h
      · rename_i hd hw
        rw [wantedOf_eq I hw, if_pos rfl]
        left
        split at h
        · rename_i st1 hs1 ob1 h1
          split at h
          · rename_i st2 hs2 ob2 h2
            cases h
            obtain ⟨hob1, hob2⟩ := allP_append hob
            refine evOpH_sound hO I h1 hob1 (by rw [hsz]; exact hd) fun w1 g1 v E1 I1 => ?_
            exact evSeq_sound hO I1 (by rw [putO_size]; exact hsz) h2 hob2 fun w' g' a' E I' hs' => k w' g' a' (E1.trans E) I' hs'
          · cases h
        · cases h
      · rename_i hd hw
        rw [wantedOf_eq I hw, if_neg (by simp)]
        exact evSeq_sound hO (I.putO (by rw [hsz]; exact hd) fun x _ => RepS.nix) (by rw [putO_size]; exact hsz) h hob k
      · cases h

end
end Go.Ev

namespace Go.Ev

def ptrOf : SVal → List (Nat × Nat)
  | .val ⟨false, [.ptr k s _]⟩ => [(k, s)]
  | _ => []
/-- The variables that it reads (a new one's place must be empty). -/
def boxR (st : St) (o : Oper) : List (Nat × Nat) :=
  match o.op with
  | .load _ x => ptrOf (fetch st x)
  | .store _ x _ => ptrOf (fetch st x)
  | .alloc _ | .box _ _ => [(0, o.dst.getD 0)]
  | _ => []

section
variable {P : Program} {st st' : St}

theorem fetchParts_congr : ∀ {l : List (Nat × Operand)}, (∀ p ∈ l, fetch st p.2 = fetch st' p.2) → fetchParts st l = fetchParts st' l
  | [], _ => rfl
  | (i, x) :: r, h => by
    unfold fetchParts
    rw [h (i, x) (by simp), fetchParts_congr fun p hp => h p (by simp [hp])]
theorem capsOf_congr : ∀ {l : List Operand}, (∀ x ∈ l, fetch st x = fetch st' x) → capsOf st l = capsOf st' l
  | [], _ => rfl
  | x :: r, h => by
    unfold capsOf
    rw [h x (by simp), capsOf_congr fun p hp => h p (by simp [hp])]
theorem intOf_congr {x : Operand} (h : fetch st x = fetch st' x) : intOf? st x = intOf? st' x := by unfold intOf?; rw [h]
theorem boundOf_congr {x : Option Operand} (h : ∀ y ∈ x.toList, fetch st y = fetch st' y) : boundOf st x = boundOf st' x := by
  cases x with
  | none => rfl
  | some y => simp only [boundOf]; rw [intOf_congr (h y (by simp))]
theorem argComps_congr : ∀ {l : List Operand} {ts : List TypeId}, (∀ x ∈ l, fetch st x = fetch st' x) → argComps P st l ts = argComps P st' l ts
  | [], _, _ => rfl
  | x :: r, ts, h => by
    unfold argComps
    rw [h x (by simp), argComps_congr fun p hp => h p (by simp [hp])]
theorem callPure_congr {O : CallF} {d : Nat} {f : FuncId} {l : List Operand} (h : ∀ x ∈ l, fetch st x = fetch st' x) : callPure P O st d f l = callPure P O st' d f l := by
  unfold callPure
  split
  · rw [argComps_congr h]
  · rfl
theorem all_congr {α : Type} {l : List α} {p q : α → Bool} (h : ∀ x ∈ l, p x = q x) : l.all p = l.all q := by
  induction l with
  | nil => rfl
  | cons x r ih => simp only [List.all_cons, h x (by simp), ih fun y hy => h y (by simp [hy])]
theorem scalarOf_congr {o : Oper} (h : ∀ x ∈ o.op.operands, fetch st x = fetch st' x) : scalarOf P st o = scalarOf P st' o := by
  unfold scalarOf scalOk
  rw [all_congr (q := fun x => (valOf (fetch st' x)).isSome) fun x hx => by rw [h x (by simpa using hx)]]
  cases hn : notSel o.op with
  | false => simp
  | true =>
    rw [execOp_congr (ρ' := fun x => (valOf (fetch st' x)).getD undef) o (fun cs b e => by rw [e] at hn; simp [notSel] at hn) fun x hx => by rw [h x hx]]
theorem loadOf_congr {T : TypeId} {x : Operand} {l : Leaf} (hx : fetch st x = .val ⟨false, [l]⟩) (hb : ∀ p ∈ ptrOf (fetch st x), boxCells st p.1 p.2 = boxCells st' p.1 p.2) : loadOf P st T l = loadOf P st' T l := by
  unfold loadOf
  split
  · split
    · rename_i k s o
      rw [hb (k, s) (by rw [hx]; simp [ptrOf])]
    · rfl
    · rfl
    · rfl
  · rfl

theorem evVal_congr {o : Oper} (hf : ∀ x ∈ o.op.operands, fetch st x = fetch st' x) (hb : ∀ p ∈ boxR st o, boxCells st p.1 p.2 = boxCells st' p.1 p.2) : evVal P st o = evVal P st' o := by
  unfold evVal
  split
  · rename_i x hop
    rw [hf x (by simp [hop, Op.operands])]
  · rename_i x hop
    rw [hf x (by simp [hop, Op.operands])]
  · rename_i c x y hop
    rw [hf c (by simp [hop, Op.operands]), hf x (by simp [hop, Op.operands]), hf y (by simp [hop, Op.operands])]
  · rename_i T x hop
    rw [← hf x (by simp [hop, Op.operands])]
    split
    · rename_i l hl
      exact loadOf_congr hl (by simpa [boxR, hop] using hb)
    · rfl
  · rename_i T x f hop
    rw [hf x (by simp [hop, Op.operands])]
  · rename_i T x i hop
    rw [hf x (by simp [hop, Op.operands]), intOf_congr (hf i (by simp [hop, Op.operands]))]
  · rename_i x hop
    rw [hf x (by simp [hop, Op.operands])]
  · rename_i T parts hop
    rw [fetchParts_congr fun p hp => hf p.2 (by simp only [hop, Op.operands, List.mem_toArray, List.mem_map]; exact ⟨p, hp, rfl⟩)]
  · rename_i T x f hop
    rw [hf x (by simp [hop, Op.operands])]
  · rename_i x i hop
    rw [hf x (by simp [hop, Op.operands])]
  · rename_i f fi ca hop
    rw [capsOf_congr fun x hx => hf x (by simp only [hop, Op.operands, Array.mem_append]; exact .inl (by simpa using hx)),
      capsOf_congr fun x hx => hf x (by simp only [hop, Op.operands, Array.mem_append]; exact .inr (by simpa using hx))]
  · rename_i T x lo hi hop
    have h0 := hf x (by simp [hop, Op.operands])
    have h1 : boundOf st lo = boundOf st' lo := boundOf_congr fun y hy => hf y (by
      simp only [hop, Op.operands, Array.mem_append]
      exact .inl (.inl (.inr (by simpa using hy))))
    have h2 : boundOf st hi = boundOf st' hi := boundOf_congr fun y hy => hf y (by
      simp only [hop, Op.operands, Array.mem_append]
      exact .inl (.inr (by simpa using hy)))
    rw [h0, h1, h2, scalarOf_congr (o := o) hf]
  · rename_i args ats hop
    have hs := scalarOf_congr (P := P) (o := o) hf
    have h0 : (args[0]?).map (fetch st) = (args[0]?).map (fetch st') := by
      cases h : args[0]? with
      | none => rfl
      | some x =>
        simp only [Option.map_some]
        rw [hf x (by simp only [hop, Op.operands, Call.operands, Array.mem_append]; exact .inr (Array.mem_of_getElem? h))]
    rw [h0, hs]
  · rename_i T x yt hop
    rw [hf x (by simp [hop, Op.operands]), scalarOf_congr (o := o) hf]
  · rename_i T x yt hop
    rw [hf x (by simp [hop, Op.operands]), scalarOf_congr (o := o) hf]
  · rename_i T x y yt _ hop
    rw [hf x (by simp [hop, Op.operands]), hf y (by simp [hop, Op.operands]), scalarOf_congr (o := o) hf]
  · rename_i T x y yt _ hop
    rw [hf x (by simp [hop, Op.operands]), hf y (by simp [hop, Op.operands]), scalarOf_congr (o := o) hf]
  · exact scalarOf_congr hf

theorem evNew_congr {o : Oper} {d : Nat} (hf : ∀ x ∈ o.op.operands, fetch st x = fetch st' x) : evNew P st d o = evNew P st' d o := by
  unfold evNew
  split
  · rfl
  · rename_i T x hop
    rw [hf x (by simp [hop, Op.operands])]
  · rename_i T len parts hop
    rw [fetchParts_congr fun p hp => hf p.2 (by simp only [hop, Op.operands, List.mem_toArray, List.mem_map]; exact ⟨p, hp, rfl⟩)]
  · rfl

theorem storeQ_congr {T : TypeId} {x y : Operand} (hx : fetch st x = fetch st' x) (hy : fetch st y = fetch st' y) (hb : ∀ p ∈ ptrOf (fetch st x), boxCells st p.1 p.2 = boxCells st' p.1 p.2) :
    storeQ P st T x y = storeQ P st' T x y := by
  unfold storeQ
  rw [← hx, ← hy]
  split
  · rename_i k s o c n h1 h2 h3
    rw [hb (k, s) (by rw [h1]; simp [ptrOf])]
  · rfl

theorem valsOf_congr : ∀ {l : List Operand}, (∀ x ∈ l, fetch st x = fetch st' x) → valsOf st l = valsOf st' l
  | [], _ => rfl
  | x :: r, h => by
    unfold valsOf
    rw [h x (by simp), valsOf_congr fun p hp => h p (by simp [hp])]
theorem externQ_congr {f : FuncId} {args : Array Operand} (h : ∀ x ∈ args.toList, fetch st x = fetch st' x) : externQ P st f args = externQ P st' f args := by
  unfold externQ
  rw [valsOf_congr h]

theorem evQ_congr {O : CallF} {o : Oper} (hl : st.boxes.length = st'.boxes.length) (hf : ∀ x ∈ o.op.operands, fetch st x = fetch st' x) (hb : ∀ p ∈ boxR st o, boxCells st p.1 p.2 = boxCells st' p.1 p.2) :
    evQ P O st o = evQ P O st' o := by
  have hnew : ∀ d, newQ P st d o = newQ P st' d o := by
    intro d
    unfold newQ
    rw [evNew_congr hf]
    cases h1 : st.boxes with
    | nil => cases h2 : st'.boxes with
      | nil => rfl
      | cons y ys => rw [h1, h2] at hl; simp at hl
    | cons x xs => cases h2 : st'.boxes with
      | nil => rw [h1, h2] at hl; simp at hl
      | cons y ys => rfl
  unfold evQ
  split
  · split
    · exact hnew _
    · exact hnew _
    · exact hnew _
    · rename_i f args ats hop
      have ha : ∀ x ∈ args.toList, fetch st x = fetch st' x := fun x hx => hf x (by simp only [hop, Op.operands, Call.operands, Array.mem_append]; exact .inr (by simpa using hx))
      rw [callPure_congr ha, externQ_congr ha]
    · rw [evVal_congr hf hb]
  · split
    · rename_i T x y hop
      exact storeQ_congr (hf x (by simp [hop, Op.operands])) (hf y (by simp [hop, Op.operands])) (by simpa [boxR, hop] using hb)
    · rw [evVal_congr hf hb]

theorem qOk_congr {O : CallF} {o : Oper} {e : Eff} (hl : st.boxes.length = st'.boxes.length) (hf : ∀ x ∈ o.op.operands, fetch st x = fetch st' x) (hb : ∀ p ∈ boxR st o, boxCells st p.1 p.2 = boxCells st' p.1 p.2)
    (h : QOk P O st o e) : QOk P O st' o e := by
  cases h with
  | ev h => exact .ev (by rw [← evQ_congr hl hf hb]; exact h)
  | call hd hop ht hc hk hs =>
    refine .call hd hop ht ?_ hk hs
    rw [← argComps_congr fun x hx => hf x (by simp only [hop, Op.operands, Call.operands, Array.mem_append]; exact .inr (by simpa using hx))]
    exact hc

end
end Go.Ev

namespace Go.Ev

/-- What an operation has done: what it has read, where its result stands, what it has changed. -/
structure Rc where
  i : Nat
  rs : List Nat
  br : List (Nat × Nat)
  d : Option Nat
  e : Eff

def slotW (d : Option Nat) : Eff → Option (Nat × SVal)
  | .put s => d.map fun d => (d, s)
  | .new s _ => d.map fun d => (d, s)
  | .store _ _ _ => none
def boxW (d : Option Nat) : Eff → Option ((Nat × Nat) × List Leaf)
  | .put _ => none
  | .new _ ls => some ((0, d.getD 0), ls)
  | .store k s ls => some ((k, s), ls)
def effOk (n : Nat) : Eff → Bool
  | .put _ => true
  | .new _ _ => Nat.blt 0 n
  | .store k _ _ => Nat.blt k n

def opTemps (o : Oper) : List Nat := o.op.operands.toList.filterMap fun | .tmp t => some t | _ => none
def guardT (ops : Array Oper) (o : Oper) : List Nat :=
  match o.guard with
  | some (j, _) => ((ops[j]?).bind (·.dst)).toList
  | none => []

def runQ (P : Program) (O : CallF) (nt : Nat) (ops : Array Oper) : List Nat → St → List Hint → Option (St × List Rc × List Hint × List Prop)
  | [], st, hs => some (st, [], hs, [])
  | i :: r, st, hs =>
    match ops[i]? with
    | none => none
    | some o =>
      match dstOk nt o.dst, wantedOf ops st o with
      | true, some true =>
        match evQH P O st o hs with
        | some (e, hs1, ob1) =>
          match freshOk st o.dst e && effOk st.boxes.length e with
          | true =>
            match runQ P O nt ops r (applyEff st o.dst e) hs1 with
            | some (st', rcs, hs2, ob2) => some (st', ⟨i, opTemps o ++ guardT ops o, boxR st o, o.dst, e⟩ :: rcs, hs2, ob1 ++ ob2)
            | none => none
          | false => none
        | none => none
      | true, some false =>
        match runQ P O nt ops r (putO st o.dst nixS) hs with
        | some (st', rcs, hs2, ob2) => some (st', ⟨i, guardT ops o, [], o.dst, .put nixS⟩ :: rcs, hs2, ob2)
        | none => none
      | _, _ => none

/-! ### Which come ahead of which -/
def orEdges (tbl : List Nat) : List Edge → Nat
  | [] => 0
  | e :: r => if Region.binds .any e then (1 <<< e.on) ||| (tbl.getD e.on 0) ||| orEdges tbl r else orEdges tbl r
def ancTbl : List Oper → List Nat → List Nat
  | [], tbl => tbl
  | o :: r, tbl => ancTbl r (tbl ++ [orEdges tbl o.after.toList])
def edgesOk (i : Nat) : List Edge → Bool
  | [] => true
  | e :: r => (!Region.binds .any e || Nat.blt e.on i) && edgesOk i r
def ancOk (tbl : List Nat) : Nat → List Oper → Bool
  | _, [] => true
  | i, o :: r => Nat.beq (tbl.getD i 0) (orEdges tbl o.after.toList) && edgesOk i o.after.toList && ancOk tbl (i + 1) r
def full (tbl : List Nat) (i : Nat) : Bool := Nat.beq (tbl.getD i 0) (1 <<< i - 1)
/-- From which operation on each one comes behind all before it. -/
def tailFrom (tbl : List Nat) : Nat → Nat
  | 0 => 0
  | n + 1 => if full tbl n then tailFrom tbl n else n + 1
def tailOk (tbl : List Nat) (m : Nat) : Nat → Bool
  | 0 => true
  | n + 1 => Nat.blt n m || (full tbl n && tailOk tbl m n)

def natMem (x : Nat) : List Nat → Bool
  | [] => false
  | y :: r => Nat.beq x y || natMem x r
def pairMem (x : Nat × Nat) : List (Nat × Nat) → Bool
  | [] => false
  | y :: r => (Nat.beq x.1 y.1 && Nat.beq x.2 y.2) || pairMem x r
def offS (d : Option Nat) (l : List Nat) : Bool := match d with | some d => !natMem d l | none => true
def offB (p : Option ((Nat × Nat) × List Leaf)) (l : List (Nat × Nat)) : Bool := match p with | some q => !pairMem q.1 l | none => true
def diffD : Option Nat → Option Nat → Bool
  | some x, some y => !Nat.beq x y
  | _, _ => true
def indep (a b : Rc) : Bool :=
  offS a.d b.rs && offS b.d a.rs && offB (boxW a.d a.e) b.br && offB (boxW b.d b.e) a.br &&
  (match boxW a.d a.e, boxW b.d b.e with
   | some x, some y => !pairMem x.1 [y.1]
   | _, _ => true)
def pairOk (tbl : List Nat) (a b : Rc) : Bool := diffD a.d b.d && (Nat.testBit (tbl.getD b.i 0) a.i || indep a b)
def pairAll (tbl : List Nat) (a : Rc) : List Rc → Bool
  | [] => true
  | b :: r => pairOk tbl a b && pairAll tbl a r
def pairsOk (tbl : List Nat) : List Rc → Bool
  | [] => true
  | a :: r => pairAll tbl a r && pairsOk tbl r

def evDraw (P : Program) (O : CallF) (nt : Nat) (ops : Array Oper) (st : St) (hs : List Hint) : Option (St × List Hint × List Prop) :=
  let tbl := ancTbl ops.toList []
  let m := tailFrom tbl ops.size
  match ancOk tbl 0 ops.toList && tailOk tbl m ops.size && Nat.ble m ops.size with
  | true =>
    match runQ P O nt ops (List.range m) st hs with
    | some (st1, rcs, hs1, ob1) =>
      match pairsOk tbl rcs with
      | true =>
        match evSeq P O nt ops (List.range' m (ops.size - m)) st1 hs1 with
        | some (st2, hs2, ob2) => some (st2, hs2, ob1 ++ ob2)
        | none => none
      | false => none
    | none => none
  | false => none

/-! ### States that are the same to look at -/
structure Same (st st' : St) : Prop where
  s : ∀ t, look st.slots t = look st'.slots t
  b : ∀ k s, boxCells st k s = boxCells st' k s
  n : st.boxes.length = st'.boxes.length

theorem Same.refl (st : St) : Same st st := ⟨fun _ => rfl, fun _ _ => rfl, rfl⟩
theorem Same.symm {x y : St} (h : Same x y) : Same y x := ⟨fun t => (h.s t).symm, fun k s => (h.b k s).symm, h.n.symm⟩
theorem Same.trans {x y z : St} (h : Same x y) (k : Same y z) : Same x z := ⟨fun t => (h.s t).trans (k.s t), fun a b => (h.b a b).trans (k.b a b), h.n.trans k.n⟩

section
variable {P : Program} {w w' : World} {g g' : Gh} {a : Act} {st : St}

theorem cells_frame {st : St} {k s : Nat} {ls : List Leaf} : boxCells st k s = some ls ↔ ∃ f, st.boxes[k]? = some f ∧ look f s = some ls := by
  unfold boxCells
  simp [Option.bind_eq_some_iff]

theorem Inv.same (I : Inv w g a st) {st' : St} (h : Same st st') : Inv w g a st' where
  slots t s hs := I.slots t s (by rw [h.s]; exact hs)
  boxes k f s ls h1 h2 := by
    obtain ⟨f', h3, h4⟩ := cells_frame.1 ((h.b k s).trans (cells_frame.2 ⟨f, h1, h2⟩))
    exact I.boxes k f' s ls h3 h4
  injB := I.injB
  injO := I.injO
  top := I.top
  tagB b k s hb := by
    obtain ⟨f, ls, h1, h2⟩ := I.tagB b k s hb
    obtain ⟨f', h3, h4⟩ := cells_frame.1 ((h.b k s).symm.trans (cells_frame.2 ⟨f, h1, h2⟩))
    exact ⟨f', ls, h3, h4⟩
  defers := I.defers

theorem boxes_setBox_length : ∀ (bs : List Frm) (k s : Nat) (ls : List Leaf), (setBox bs k s ls).length = bs.length
  | [], _, _, _ => rfl
  | _ :: _, 0, _, _ => rfl
  | _ :: r, k + 1, s, ls => by simp [setBox, boxes_setBox_length r k s ls]

theorem apply_slots (st : St) (d : Option Nat) (e : Eff) (t : Nat) : look (applyEff st d e).slots t = match slotW d e with
    | some (x, s) => if x = t then some s else look st.slots t
    | none => look st.slots t := by
  cases e with
  | put s => cases d <;> simp [applyEff, putO, slotW, putS, look_putK]
  | new s ls => cases d <;> simp [applyEff, putO, slotW, putS, look_putK, withBox]
  | store k s ls => rfl

theorem apply_length (st : St) (d : Option Nat) (e : Eff) (he : effOk st.boxes.length e = true) : (applyEff st d e).boxes.length = st.boxes.length := by
  cases e with
  | put s => cases d <;> rfl
  | new s ls =>
    cases hb : st.boxes with
    | nil => simp [effOk, hb, Nat.blt] at he
    | cons f r => cases d <;> simp [applyEff, putO, putS, withBox, hb]
  | store k s ls => simp [applyEff, boxes_setBox_length]

theorem apply_boxes (st : St) (d : Option Nat) (e : Eff) (he : effOk st.boxes.length e = true) (k s : Nat) : boxCells (applyEff st d e) k s = match boxW d e with
    | some ((k', s'), ls) => if k' = k ∧ s' = s then some ls else boxCells st k s
    | none => boxCells st k s := by
  cases e with
  | put x => cases d <;> rfl
  | new x ls =>
    cases hb : st.boxes with
    | nil => simp [effOk, hb, Nat.blt] at he
    | cons f r =>
      have : boxCells (applyEff st d (.new x ls)) k s = boxCells { st with boxes := putK (d.getD 0) ls f :: r } k s := by
        cases d <;> simp [applyEff, putO, putS, withBox, hb, boxCells]
      rw [this]
      unfold boxCells
      simp only [boxW, hb]
      cases k with
      | zero =>
        simp only [List.getElem?_cons_zero, Option.bind_some, look_putK, true_and]
      | succ k => simp
  | store k' s' ls =>
    simp only [applyEff, boxW, boxCells, get_setBox]
    have hk : k' < st.boxes.length := by
      have : k' + 1 ≤ st.boxes.length := by simpa [effOk, Nat.blt] using he
      omega
    by_cases e : k = k'
    · subst e
      have : st.boxes[k]? = some st.boxes[k] := List.getElem?_eq_getElem hk
      simp [this, look_putK]
    · have e' : ¬ k' = k := fun h => e h.symm
      simp [e, e']

theorem apply_same {st st' : St} (h : Same st st') (d : Option Nat) {e : Eff} (he : effOk st.boxes.length e = true) : Same (applyEff st d e) (applyEff st' d e) where
  s t := by
    rw [apply_slots, apply_slots]
    split
    · rw [h.s]
    · exact h.s t
  b k s := by
    rw [apply_boxes _ _ _ he, apply_boxes _ _ _ (by rw [← h.n]; exact he)]
    split
    · rw [h.b]
    · exact h.b k s
  n := by
    rw [apply_length _ _ _ he, apply_length _ _ _ (by rw [← h.n]; exact he)]
    exact h.n

end
end Go.Ev

namespace Go.Ev

/-- The state behind those of the list that L has. -/
def fold (L : Nat → Bool) : List Rc → St → St
  | [], st => st
  | r :: l, st => fold L l (if L r.i then applyEff st r.d r.e else st)

def Effs (n : Nat) (l : List Rc) : Prop := ∀ r ∈ l, effOk n r.e = true

theorem fold_length {n : Nat} (L : Nat → Bool) : ∀ (l : List Rc) (st : St), Effs n l → st.boxes.length = n → (fold L l st).boxes.length = n
  | [], _, _, h => h
  | r :: l, st, he, h => by
    unfold fold
    refine fold_length L l _ (fun x hx => he x (by simp [hx])) ?_
    split
    · rw [apply_length _ _ _ (by rw [h]; exact he r (by simp))]
      exact h
    · exact h
theorem fold_append (L : Nat → Bool) : ∀ (l r : List Rc) (st : St), fold L (l ++ r) st = fold L r (fold L l st)
  | [], _, _ => rfl
  | x :: l, r, st => by simp only [List.cons_append, fold]; exact fold_append L l r _
theorem fold_congr {L L' : Nat → Bool} : ∀ {l : List Rc}, (∀ r ∈ l, L r.i = L' r.i) → ∀ st, fold L l st = fold L' l st
  | [], _, _ => rfl
  | x :: l, h, st => by
    unfold fold
    rw [h x (by simp)]
    exact fold_congr (fun r hr => h r (by simp [hr])) _
theorem fold_same {n : Nat} (L : Nat → Bool) : ∀ {l : List Rc} {st st' : St}, Effs n l → st.boxes.length = n → Same st st' → Same (fold L l st) (fold L l st')
  | [], _, _, _, _, h => h
  | r :: l, st, st', he, hn, h => by
    unfold fold
    refine fold_same L (fun x hx => he x (by simp [hx])) ?_ ?_
    · split
      · rw [apply_length _ _ _ (by rw [hn]; exact he r (by simp))]
        exact hn
      · exact hn
    · split
      · exact apply_same h _ (by rw [hn]; exact he r (by simp))
      · exact h

/-! ### What an operation looks at -/
structure Agree (rs : List Nat) (br : List (Nat × Nat)) (st st' : St) : Prop where
  s : ∀ t ∈ rs, look st.slots t = look st'.slots t
  b : ∀ p ∈ br, boxCells st p.1 p.2 = boxCells st' p.1 p.2
  n : st.boxes.length = st'.boxes.length

theorem Agree.refl (rs : List Nat) (br : List (Nat × Nat)) (st : St) : Agree rs br st st := ⟨fun _ _ => rfl, fun _ _ => rfl, rfl⟩
theorem Agree.trans {rs : List Nat} {br : List (Nat × Nat)} {x y z : St} (h : Agree rs br x y) (k : Agree rs br y z) : Agree rs br x z :=
  ⟨fun t ht => (h.s t ht).trans (k.s t ht), fun p hp => (h.b p hp).trans (k.b p hp), h.n.trans k.n⟩
theorem Same.agree {x y : St} (h : Same x y) (rs : List Nat) (br : List (Nat × Nat)) : Agree rs br x y := ⟨fun t _ => h.s t, fun p _ => h.b p.1 p.2, h.n⟩

theorem natMem_iff {x : Nat} : ∀ {l : List Nat}, natMem x l = true ↔ x ∈ l
  | [] => by simp [natMem]
  | y :: r => by simp [natMem, natMem_iff (l := r)]
theorem pairMem_iff {x : Nat × Nat} : ∀ {l : List (Nat × Nat)}, pairMem x l = true ↔ x ∈ l
  | [] => by simp [pairMem]
  | y :: r => by simp [pairMem, pairMem_iff (l := r), Prod.ext_iff]

theorem Agree.off {rs : List Nat} {br : List (Nat × Nat)} (st : St) {d : Option Nat} {e : Eff} (he : effOk st.boxes.length e = true) (h1 : offS d rs = true) (h2 : offB (boxW d e) br = true) :
    Agree rs br (applyEff st d e) st where
  s t ht := by
    rw [apply_slots]
    split
    · rename_i x s hx
      have : ¬ x = t := by
        intro e'
        subst e'
        cases d with
        | none => cases e <;> simp [slotW] at hx
        | some d =>
          have hd : d = x := by cases e <;> simp [slotW] at hx <;> exact hx.1
          subst hd
          simp only [offS, Bool.not_eq_true'] at h1
          rw [natMem_iff.2 ht] at h1
          cases h1
      rw [if_neg this]
    · rfl
  b p hp := by
    rw [apply_boxes _ _ _ he]
    split
    · rename_i k' s' ls hx
      have : ¬ (k' = p.1 ∧ s' = p.2) := by
        rintro ⟨rfl, rfl⟩
        simp only [hx, offB, Bool.not_eq_true'] at h2
        rw [pairMem_iff.2 hp] at h2
        cases h2
      rw [if_neg this]
    · rfl
  n := apply_length _ _ _ he

theorem Agree.both {rs : List Nat} {br : List (Nat × Nat)} {st st' : St} (h : Agree rs br st st') {d : Option Nat} {e : Eff} (he : effOk st.boxes.length e = true) :
    Agree rs br (applyEff st d e) (applyEff st' d e) where
  s t ht := by
    rw [apply_slots, apply_slots]
    split
    · rw [h.s t ht]
    · exact h.s t ht
  b p hp := by
    rw [apply_boxes _ _ _ he, apply_boxes _ _ _ (by rw [← h.n]; exact he)]
    split
    · rw [h.b p hp]
    · exact h.b p hp
  n := by
    rw [apply_length _ _ _ he, apply_length _ _ _ (by rw [← h.n]; exact he)]
    exact h.n

def Off (rs : List Nat) (br : List (Nat × Nat)) (r : Rc) : Prop := offS r.d rs = true ∧ offB (boxW r.d r.e) br = true

theorem agree_pre {n : Nat} {rs : List Nat} {br : List (Nat × Nat)} {L : Nat → Bool} : ∀ {l : List Rc} {st st' : St}, Effs n l → st.boxes.length = n → (∀ r ∈ l, L r.i = true ∨ Off rs br r) → Agree rs br st st' →
    Agree rs br (fold L l st) (fold (fun _ => true) l st')
  | [], _, _, _, _, _, h => h
  | r :: l, st, st', he, hn, hl, h => by
    unfold fold
    have her : effOk st.boxes.length r.e = true := by rw [hn]; exact he r (by simp)
    have her' : effOk st'.boxes.length r.e = true := by rw [← h.n]; exact her
    refine agree_pre (fun x hx => he x (by simp [hx])) ?_ (fun x hx => hl x (by simp [hx])) ?_
    · split
      · rw [apply_length _ _ _ her]
        exact hn
      · exact hn
    · cases hL : L r.i with
      | true =>
        simp only [if_true]
        exact h.both her
      | false =>
        simp only [if_true]
        rcases hl r (by simp) with h1 | h1
        · rw [hL] at h1
          cases h1
        · have := Agree.off st' her' h1.1 h1.2
          exact h.trans ⟨fun t ht => (this.s t ht).symm, fun p hp => (this.b p hp).symm, this.n.symm⟩

theorem agree_post {n : Nat} {rs : List Nat} {br : List (Nat × Nat)} {L : Nat → Bool} : ∀ {l : List Rc} {st : St}, Effs n l → st.boxes.length = n → (∀ r ∈ l, L r.i = true → Off rs br r) → Agree rs br (fold L l st) st
  | [], st, _, _, _ => Agree.refl rs br st
  | r :: l, st, he, hn, hl => by
    unfold fold
    have her : effOk st.boxes.length r.e = true := by rw [hn]; exact he r (by simp)
    cases hL : L r.i with
    | true =>
      simp only [if_true]
      have h1 := hl r (by simp) hL
      exact (agree_post (fun x hx => he x (by simp [hx])) (by rw [apply_length _ _ _ her]; exact hn) fun x hx => hl x (by simp [hx])).trans (Agree.off st her h1.1 h1.2)
    | false => exact agree_post (fun x hx => he x (by simp [hx])) hn fun x hx => hl x (by simp [hx])

/-! ### One operation past others -/
def Apart (a b : Rc) : Prop :=
  (∀ x y, a.d = some x → b.d = some y → x ≠ y) ∧ (∀ p q, boxW a.d a.e = some p → boxW b.d b.e = some q → p.1 ≠ q.1)

theorem slotW_d {d : Option Nat} {e : Eff} {x : Nat} {s : SVal} (h : slotW d e = some (x, s)) : d = some x := by
  cases d <;> cases e <;> simp [slotW] at h ⊢ <;> exact h.1

theorem apply_comm {st : St} {a b : Rc} (h : Apart a b) (ha : effOk st.boxes.length a.e = true) (hb : effOk st.boxes.length b.e = true) :
    Same (applyEff (applyEff st a.d a.e) b.d b.e) (applyEff (applyEff st b.d b.e) a.d a.e) where
  s t := by
    rw [apply_slots, apply_slots, apply_slots, apply_slots]
    cases h1 : slotW a.d a.e with
    | none => cases h2 : slotW b.d b.e <;> simp
    | some p =>
      cases h2 : slotW b.d b.e with
      | none => simp
      | some q =>
        obtain ⟨x, s⟩ := p
        obtain ⟨y, u⟩ := q
        have := h.1 x y (slotW_d h1) (slotW_d h2)
        simp only []
        by_cases e1 : x = t
        · subst e1
          have : ¬ y = x := fun h => this h.symm
          simp [this]
        · simp [e1]
  b k z := by
    have hb' : effOk (applyEff st a.d a.e).boxes.length b.e = true := by rw [apply_length _ _ _ ha]; exact hb
    have ha' : effOk (applyEff st b.d b.e).boxes.length a.e = true := by rw [apply_length _ _ _ hb]; exact ha
    rw [apply_boxes _ _ _ hb', apply_boxes _ _ _ ha, apply_boxes _ _ _ ha', apply_boxes _ _ _ hb]
    cases h1 : boxW a.d a.e with
    | none => cases h2 : boxW b.d b.e <;> simp
    | some p =>
      cases h2 : boxW b.d b.e with
      | none => simp
      | some q =>
        obtain ⟨⟨x, x'⟩, s⟩ := p
        obtain ⟨⟨y, y'⟩, u⟩ := q
        have := h.2 _ _ h1 h2
        simp only []
        by_cases e1 : x = k ∧ x' = z
        · obtain ⟨rfl, rfl⟩ := e1
          have : ¬ (y = x ∧ y' = x') := by rintro ⟨rfl, rfl⟩; exact this rfl
          simp [this]
        · simp [e1]
  n := by
    have hb' : effOk (applyEff st a.d a.e).boxes.length b.e = true := by rw [apply_length _ _ _ ha]; exact hb
    have ha' : effOk (applyEff st b.d b.e).boxes.length a.e = true := by rw [apply_length _ _ _ hb]; exact ha
    rw [apply_length _ _ _ hb', apply_length _ _ _ ha, apply_length _ _ _ ha', apply_length _ _ _ hb]

theorem apply_past {n : Nat} {L : Nat → Bool} {a : Rc} (ha : effOk n a.e = true) : ∀ {l : List Rc} {st : St}, Effs n l → st.boxes.length = n → (∀ b ∈ l, L b.i = true → Apart b a) →
    Same (applyEff (fold L l st) a.d a.e) (fold L l (applyEff st a.d a.e))
  | [], st, _, _, _ => Same.refl _
  | b :: l, st, he, hn, hl => by
    unfold fold
    have heb : effOk n b.e = true := he b (by simp)
    have hel : Effs n l := fun x hx => he x (by simp [hx])
    cases hL : L b.i with
    | true =>
      simp only [if_true]
      have hn1 : (applyEff st b.d b.e).boxes.length = n := by rw [apply_length _ _ _ (by rw [hn]; exact heb)]; exact hn
      refine (apply_past ha hel hn1 fun x hx => hl x (by simp [hx])).trans (fold_same L hel ?_ ?_)
      · rw [apply_length _ _ _ (by rw [hn1]; exact ha)]
        exact hn1
      · exact apply_comm (hl b (by simp) hL) (by rw [hn]; exact heb) (by rw [hn]; exact ha)
    | false => exact apply_past ha hel hn fun x hx => hl x (by simp [hx])

end Go.Ev

namespace Go.Ev

def RcOk (P : Program) (O : CallF) (nt : Nat) (ops : Array Oper) (st : St) (r : Rc) : Prop :=
  ∃ o, ops[r.i]? = some o ∧ r.d = o.dst ∧ dstOk nt o.dst = true ∧
    ((wantedOf ops st o = some true ∧ QOk P O st o r.e ∧ freshOk st o.dst r.e = true ∧ r.rs = opTemps o ++ guardT ops o ∧ r.br = boxR st o) ∨
     (wantedOf ops st o = some false ∧ r.e = .put nixS ∧ r.rs = guardT ops o))
def RunOk (P : Program) (O : CallF) (nt : Nat) (ops : Array Oper) : List Rc → St → Prop
  | [], _ => True
  | r :: l, st => RcOk P O nt ops st r ∧ RunOk P O nt ops l (applyEff st r.d r.e)

section
variable {P : Program} {O : CallF} {nt : Nat} {ops : Array Oper} {w w' : World} {g g' : Gh} {a : Act} {st : St}

theorem runQ_ok : ∀ {l : List Nat} {st st' : St} {rcs : List Rc} {hs hs' : List Hint} {ob : List Prop}, runQ P O nt ops l st hs = some (st', rcs, hs', ob) → AllP ob →
    RunOk P O nt ops rcs st ∧ rcs.map (·.i) = l ∧ st' = fold (fun _ => true) rcs st ∧ Effs st.boxes.length rcs
  | [], st, st', rcs, hs, hs', ob, h, _ => by
    cases h
    exact ⟨trivial, rfl, rfl, fun _ h => by cases h⟩
  | i :: r, st, st', rcs, hs, hs', ob, h, hob => by
    unfold runQ at h
    split at h
    · cases h
    · rename_i o hi
      split at h
      · rename_i hd hw
        split at h
        · rename_i e hs1 ob1 he
          split at h
          · rename_i hc
            simp only [Bool.and_eq_true] at hc
            split at h
            · rename_i st1 rcs1 hs2 ob2 hr
              cases h
              obtain ⟨hob1, hob2⟩ := allP_append hob
              obtain ⟨h1, h2, h3, h4⟩ := runQ_ok hr hob2
              rw [apply_length _ _ _ hc.2] at h4
              refine ⟨⟨⟨o, hi, rfl, hd, .inl ⟨hw, evQH_evQ he hob1, hc.1, rfl, rfl⟩⟩, h1⟩, by simp [h2], ?_, ?_⟩
              · simp only [fold, if_true]
                exact h3
              · intro x hx
                rcases List.mem_cons.1 hx with rfl | hx
                · exact hc.2
                · exact h4 x hx
            · cases h
          · cases h
        · cases h
      · rename_i hd hw
        split at h
        · rename_i st1 rcs1 hs2 ob2 hr
          cases h
          obtain ⟨h1, h2, h3, h4⟩ := runQ_ok hr hob
          have hlen : (putO st o.dst nixS).boxes.length = st.boxes.length := by cases o.dst <;> rfl
          rw [hlen] at h4
          refine ⟨⟨⟨o, hi, rfl, hd, .inr ⟨hw, rfl, rfl⟩⟩, h1⟩, by simp [h2], ?_, ?_⟩
          · simp only [fold, if_true]
            exact h3
          · intro x hx
            rcases List.mem_cons.1 hx with rfl | hx
            · rfl
            · exact h4 x hx
        · cases h
      · cases h

theorem runOk_split : ∀ {pre post : List Rc} {r : Rc} {st : St}, RunOk P O nt ops (pre ++ r :: post) st → RcOk P O nt ops (fold (fun _ => true) pre st) r
  | [], _, _, _, h => h.1
  | x :: pre, post, r, st, h => by
    simp only [fold, if_true]
    exact runOk_split h.2

/-! ### The table -/
theorem testBit_or_edges {tbl : List Nat} {j : Nat} : ∀ {es : List Edge}, Nat.testBit (orEdges tbl es) j = true → ∃ e ∈ es, Region.binds .any e = true ∧ (e.on = j ∨ Nat.testBit (tbl.getD e.on 0) j = true)
  | [], h => by simp [orEdges] at h
  | e :: r, h => by
    unfold orEdges at h
    split at h
    · rename_i hb
      rw [Nat.testBit_or, Nat.testBit_or, Bool.or_eq_true, Bool.or_eq_true] at h
      rcases h with (h | h) | h
      · rw [Nat.one_shiftLeft, Nat.testBit_two_pow] at h
        exact ⟨e, by simp, hb, .inl (by simpa using h)⟩
      · exact ⟨e, by simp, hb, .inr h⟩
      · obtain ⟨e', h1, h2⟩ := testBit_or_edges h
        exact ⟨e', by simp [h1], h2⟩
    · obtain ⟨e', h1, h2⟩ := testBit_or_edges h
      exact ⟨e', by simp [h1], h2⟩
theorem edgesOk_lt {i : Nat} : ∀ {es : List Edge}, edgesOk i es = true → ∀ e ∈ es, Region.binds .any e = true → e.on < i
  | [], _, _, h, _ => by cases h
  | x :: r, h, e, he, hb => by
    simp only [edgesOk, Bool.and_eq_true, Bool.or_eq_true, Bool.not_eq_true'] at h
    rcases List.mem_cons.1 he with rfl | he
    · rcases h.1 with h1 | h1
      · rw [hb] at h1
        cases h1
      · exact Nat.le_of_ble_eq_true h1
    · exact edgesOk_lt h.2 e he hb
theorem ancOk_spec {tbl : List Nat} : ∀ {l : List Oper} {i : Nat}, ancOk tbl i l = true → ∀ j o, l[j]? = some o → tbl.getD (i + j) 0 = orEdges tbl o.after.toList ∧ edgesOk (i + j) o.after.toList = true
  | [], _, _, j, o, h => by simp at h
  | x :: r, i, h, j, o, ho => by
    simp only [ancOk, Bool.and_eq_true] at h
    cases j with
    | zero =>
      simp only [List.getElem?_cons_zero, Option.some.injEq] at ho
      subst ho
      exact ⟨Nat.eq_of_beq_eq_true h.1.1, h.1.2⟩
    | succ j =>
      simp only [List.getElem?_cons_succ] at ho
      have := ancOk_spec h.2 j o ho
      rwa [show i + 1 + j = i + (j + 1) by omega] at this
theorem tailOk_spec {tbl : List Nat} {m : Nat} : ∀ {n : Nat}, tailOk tbl m n = true → ∀ i, m ≤ i → i < n → ∀ j, j < i → Nat.testBit (tbl.getD i 0) j = true
  | 0, _, i, _, h, _, _ => absurd h (by omega)
  | n + 1, h, i, hm, hi, j, hj => by
    simp only [tailOk, Bool.or_eq_true, Bool.and_eq_true] at h
    rcases h with h | h
    · have : n < m := Nat.le_of_ble_eq_true h
      omega
    · by_cases e : i = n
      · subst e
        have := Nat.eq_of_beq_eq_true h.1
        rw [this, Nat.one_shiftLeft, Nat.testBit_two_pow_sub_one]
        simpa using hj
      · exact tailOk_spec h.2 i hm (by omega) j hj

theorem pairAll_spec {tbl : List Nat} {a : Rc} : ∀ {l : List Rc}, pairAll tbl a l = true → ∀ b ∈ l, pairOk tbl a b = true
  | [], _, _, h => by cases h
  | x :: r, h, b, hb => by
    simp only [pairAll, Bool.and_eq_true] at h
    rcases List.mem_cons.1 hb with rfl | hb
    · exact h.1
    · exact pairAll_spec h.2 b hb
theorem pairsOk_split {tbl : List Nat} : ∀ {pre post : List Rc} {r : Rc}, pairsOk tbl (pre ++ r :: post) = true → (∀ x ∈ pre, pairOk tbl x r = true) ∧ ∀ y ∈ post, pairOk tbl r y = true
  | [], post, r, h => by
    simp only [List.nil_append, pairsOk, Bool.and_eq_true] at h
    exact ⟨fun _ h => (by cases h), pairAll_spec h.1⟩
  | x :: pre, post, r, h => by
    simp only [List.cons_append, pairsOk, Bool.and_eq_true] at h
    obtain ⟨h1, h2⟩ := pairsOk_split h.2
    refine ⟨fun y hy => ?_, h2⟩
    rcases List.mem_cons.1 hy with rfl | hy
    · exact pairAll_spec h.1 r (by simp)
    · exact h1 y hy

theorem diffD_spec {x y : Option Nat} (h : diffD x y = true) : ∀ a b, x = some a → y = some b → a ≠ b := by
  rintro a b rfl rfl rfl
  simp [diffD] at h

structure Ind (a b : Rc) : Prop where
  ab : Off b.rs b.br a
  ba : Off a.rs a.br b
  ap : ∀ p q, boxW a.d a.e = some p → boxW b.d b.e = some q → p.1 ≠ q.1
theorem indep_spec {a b : Rc} (h : indep a b = true) : Ind a b := by
  simp only [indep, Bool.and_eq_true] at h
  refine ⟨⟨h.1.1.1.1, h.1.1.2⟩, ⟨h.1.1.1.2, h.1.2⟩, fun p q hp hq e => ?_⟩
  have := h.2
  rw [hp, hq] at this
  simp only [Bool.not_eq_true'] at this
  rw [pairMem_iff.2 (by simp [e])] at this
  cases this

/-! ### The same to look at, the same done -/
theorem look_guard {st st' : St} {o : Oper} (h : ∀ t ∈ guardT ops o, look st.slots t = look st'.slots t) : wantedOf ops st o = wantedOf ops st' o := by
  unfold wantedOf
  split
  · rfl
  · rename_i j want hg
    split
    · rename_i d hd
      rw [h d (by simp [guardT, hg, hd])]
    · rfl
theorem fetch_agree {st st' : St} {o : Oper} (h : ∀ t ∈ opTemps o, look st.slots t = look st'.slots t) : ∀ x ∈ o.op.operands, fetch st x = fetch st' x := by
  intro x hx
  cases x with
  | tmp t =>
    have : t ∈ opTemps o := by
      unfold opTemps
      rw [List.mem_filterMap]
      exact ⟨.tmp t, by simpa using hx, rfl⟩
    simp only [fetch, h t this]
  | _ => rfl

theorem new_br {o : Oper} {s : SVal} {ls : List Leaf} (h : QOk P O st o (.new s ls)) : (0, o.dst.getD 0) ∈ boxR st o := by
  cases h with
  | ev h =>
    unfold evQ at h
    split at h
    · rename_i d hd
      split at h
      · rename_i T hop
        simp [boxR, hop]
      · rename_i T x hop
        simp [boxR, hop]
      · rename_i T len parts hop
        unfold newQ at h
        split at h
        · cases h
        · split at h
          · cases h
          · rename_i s' ls' hn
            unfold evNew at hn
            simp only [hop] at hn
            split at hn
            · simp only [Option.map_eq_some_iff] at hn
              obtain ⟨l, _, hl⟩ := hn
              cases hl
            · cases hn
          · cases h
      · split at h
        · cases h
        · simp at h
      · simp at h
    · split at h
      · unfold storeQ at h
        split at h
        · split at h
          · split at h
            · cases h
            · cases h
          · cases h
        · cases h
      · simp at h

theorem fresh_agree {st st' : St} {o : Oper} {e : Eff} (hq : QOk P O st o e) (hb : ∀ p ∈ boxR st o, boxCells st p.1 p.2 = boxCells st' p.1 p.2) (hn : st.boxes.length = st'.boxes.length) :
    freshOk st o.dst e = freshOk st' o.dst e := by
  cases e with
  | put _ => rfl
  | store _ _ _ => rfl
  | new s ls =>
    have := hb _ (new_br hq)
    unfold freshOk
    cases h1 : st.boxes with
    | nil =>
      cases h2 : st'.boxes with
      | nil => rfl
      | cons y ys => rw [h1, h2] at hn; simp at hn
    | cons x xs =>
      cases h2 : st'.boxes with
      | nil => rw [h1, h2] at hn; simp at hn
      | cons y ys =>
        simp only [boxCells, h1, h2, List.getElem?_cons_zero, Option.bind_some] at this
        simp only [this]

/-- An operation that is ready does at the state there what it does in the text's order. -/
theorem rc_wp (hO : SoundO P O) {S : St} {r : Rc} (hr : RcOk P O nt ops S r) (ha : Agree r.rs r.br S st) (I : Inv w g a st) (hsz : a.tmps.size = nt)
    {K : Act → World → Prop} {Q : Exit → Act → World → Prop}
    (k : ∀ w' g' a', Ext w g w' g' → Inv w' g' a' (applyEff st r.d r.e) → a'.tmps.size = nt → K a' w') : wpOp P ops Q r.i K a w := by
  obtain ⟨o, hi, hd, hdo, hc⟩ := hr
  unfold wpOp
  simp only [hi]
  rcases hc with ⟨hw, hq, hf, hrs, hbr⟩ | ⟨hw, he, hrs⟩
  · have h1 : wantedOf ops st o = some true := by
      rw [← look_guard (st := S) fun t ht => ha.s t (by rw [hrs]; simp [ht])]
      exact hw
    have hfe := fetch_agree (st := S) (st' := st) (o := o) fun t ht => ha.s t (by rw [hrs]; simp [ht])
    have hbx : ∀ p ∈ boxR S o, boxCells S p.1 p.2 = boxCells st p.1 p.2 := fun p hp => ha.b p (by rw [hbr]; exact hp)
    have h2 : QOk P O st o r.e := qOk_congr ha.n hfe hbx hq
    have h3 : freshOk st o.dst r.e = true := by
      rw [← fresh_agree hq hbx ha.n]
      exact hf
    rw [wantedOf_eq I h1, if_pos rfl]
    left
    refine evQ_sound hO I h2 (by rw [hsz]; exact hdo) h3 fun w1 g1 v E1 I1 => ?_
    rw [← hd] at I1 ⊢
    exact k w1 g1 _ E1 I1 (by rw [putO_size]; exact hsz)
  · have h1 : wantedOf ops st o = some false := by
      rw [← look_guard (st := S) fun t ht => ha.s t (by rw [hrs]; exact ht)]
      exact hw
    rw [wantedOf_eq I h1, if_neg (by simp)]
    refine k w g _ (Ext.refl w g) ?_ (by rw [putO_size]; exact hsz)
    rw [he, hd]
    exact I.putO (by rw [hsz]; exact hdo) fun x _ => RepS.nix

end
end Go.Ev

namespace Go.Ev

def lf (listed : Array Bool) (i : Nat) : Bool := listed.getD i false
def unl (n : Nat) (listed : Array Bool) : Nat := (List.range n).countP fun i => !lf listed i

theorem countP_lt {p q : Nat → Bool} : ∀ {l : List Nat}, (∀ x ∈ l, p x = true → q x = true) → (∃ x ∈ l, q x = true ∧ p x = false) → l.countP p < l.countP q
  | [], _, ⟨x, hx, _⟩ => by cases hx
  | y :: r, h, ⟨x, hx, h1, h2⟩ => by
    rw [List.countP_cons, List.countP_cons]
    have hmono : r.countP p ≤ r.countP q := List.countP_mono_left fun z hz hp => h z (by simp [hz]) hp
    rcases List.mem_cons.1 hx with rfl | hx
    · simp only [h1, h2, if_true]
      have : (if false = true then 1 else 0) = 0 := rfl
      omega
    · have := countP_lt (l := r) (fun z hz => h z (by simp [hz])) ⟨x, hx, h1, h2⟩
      have h3 := h y (by simp)
      cases hp : p y with
      | true => simp only [h3 hp, if_true]; omega
      | false => cases hq : q y <;> simp <;> omega
theorem unl_lt {n : Nat} {listed : Array Bool} {i : Nat} (hs : listed.size = n) (hi : i < n) (h : lf listed i = false) : unl n (listed.setIfInBounds i true) < unl n listed := by
  unfold unl
  refine countP_lt (fun x _ hx => ?_) ⟨i, by simpa using hi, by simp [h], ?_⟩
  · by_cases e : i = x
    · subst e
      simp [h]
    · unfold lf at hx ⊢
      rwa [getD_set_ne _ e] at hx
  · simp [lf, Array.getD_eq_getD_getElem?, hs, hi]
theorem unl_zero {n : Nat} {listed : Array Bool} (h : unl n listed = 0) : ∀ i, i < n → lf listed i = true := by
  intro i hi
  unfold unl at h
  rw [List.countP_eq_zero] at h
  have := h i (by simpa using hi)
  simpa using this
theorem lf_set_self {listed : Array Bool} {i : Nat} (h : i < listed.size) : lf (listed.setIfInBounds i true) i = true := by
  simp [lf, Array.getD_eq_getD_getElem?, h]
theorem lf_set_ne {listed : Array Bool} {i j : Nat} (h : i ≠ j) : lf (listed.setIfInBounds i true) j = lf listed j := by
  unfold lf
  exact getD_set_ne _ h

def Closed (tbl : List Nat) (n : Nat) (listed : Array Bool) : Prop := ∀ i, i < n → lf listed i = true → ∀ j, Nat.testBit (tbl.getD i 0) j = true → lf listed j = true

section
variable {P : Program} {O : CallF} {nt : Nat} {ops : Array Oper} {w w' : World} {g g' : Gh} {a : Act} {st : St}

theorem ready_spec {i : Nat} {listed : Array Bool} (h : i ∈ Region.ready .any ops listed) (hs : listed.size = ops.size) : i < ops.size ∧ lf listed i = false ∧ ∃ o, ops[i]? = some o ∧ ∀ e ∈ o.after.toList, Region.binds .any e = true → lf listed e.on = true := by
  rw [mem_ready] at h
  obtain ⟨h0, o, ho, h1⟩ := h
  have hi : i < ops.size := (Array.getElem?_eq_some_iff.1 ho).1
  refine ⟨hi, ?_, o, ho, fun e he hb => h1 e (by simpa using he) hb⟩
  have hi' : i < listed.size := by omega
  simp only [lf, Array.getD_eq_getD_getElem?, Array.getElem?_eq_getElem hi'] at h0 ⊢
  simpa using h0
theorem ready_of {i : Nat} {listed : Array Bool} {o : Oper} (hs : listed.size = ops.size) (ho : ops[i]? = some o) (h0 : lf listed i = false) (h1 : ∀ e ∈ o.after.toList, Region.binds .any e = true → lf listed e.on = true) :
    i ∈ Region.ready .any ops listed := by
  rw [mem_ready]
  have hi : i < listed.size := by rw [hs]; exact (Array.getElem?_eq_some_iff.1 ho).1
  refine ⟨?_, o, ho, fun e he hb => h1 e (by simpa using he) hb⟩
  simp only [lf, Array.getD_eq_getD_getElem?, Array.getElem?_eq_getElem hi] at h0 ⊢
  simpa using h0

/-- Those that an operation waits for are behind it when it is ready. -/
theorem ready_anc {tbl : List Nat} (hanc : ancOk tbl 0 ops.toList = true) {listed : Array Bool} (hs : listed.size = ops.size) (hcl : Closed tbl ops.size listed) {i : Nat} (h : i ∈ Region.ready .any ops listed) :
    ∀ j, Nat.testBit (tbl.getD i 0) j = true → lf listed j = true := by
  intro j hj
  obtain ⟨hi, h0, o, ho, h1⟩ := ready_spec h hs
  have := ancOk_spec hanc i o (by simpa using ho)
  rw [Nat.zero_add] at this
  rw [this.1] at hj
  obtain ⟨e, he, hb, h2⟩ := testBit_or_edges hj
  have hl := h1 e he hb
  rcases h2 with rfl | h2
  · exact hl
  · exact hcl e.on (by have := edgesOk_lt this.2 e he hb; omega) hl j h2

theorem closed_set {tbl : List Nat} (hanc : ancOk tbl 0 ops.toList = true) {listed : Array Bool} (hs : listed.size = ops.size) (hcl : Closed tbl ops.size listed) {i : Nat} (h : i ∈ Region.ready .any ops listed) :
    Closed tbl ops.size (listed.setIfInBounds i true) := by
  have hi := (ready_spec h hs).1
  have hup : ∀ j, lf listed j = true → lf (listed.setIfInBounds i true) j = true := by
    intro j hj
    by_cases e : i = j
    · subst e
      exact lf_set_self (by omega)
    · rw [lf_set_ne e]
      exact hj
  intro x hx hl j hj
  by_cases e : i = x
  · subst e
    exact hup j (ready_anc hanc hs hcl h j hj)
  · rw [lf_set_ne e] at hl
    exact hup j (hcl x hx hl j hj)

theorem ready_nil {tbl : List Nat} (hanc : ancOk tbl 0 ops.toList = true) {listed : Array Bool} (hs : listed.size = ops.size) (h : Region.ready .any ops listed = []) : ∀ i, i < ops.size → lf listed i = true := by
  intro i
  induction i using Nat.strongRecOn with
  | _ i ih =>
    intro hi
    cases hl : lf listed i with
    | true => rfl
    | false =>
      exfalso
      have ho : ops[i]? = some ops[i] := Array.getElem?_eq_getElem hi
      have hsp := ancOk_spec hanc i ops[i] (by simp)
      have : i ∈ Region.ready .any ops listed := ready_of hs ho hl fun e he hb => by
        have := edgesOk_lt hsp.2 e he hb
        rw [Nat.zero_add] at this
        exact ih e.on this (by omega)
      rw [h] at this
      cases this
theorem ready_all {listed : Array Bool} (hs : listed.size = ops.size) (h : ∀ i, i < ops.size → lf listed i = true) : Region.ready .any ops listed = [] := by
  cases hr : Region.ready .any ops listed with
  | nil => rfl
  | cons x r =>
    have hx : x ∈ Region.ready .any ops listed := by rw [hr]; simp
    obtain ⟨h1, h2, _⟩ := ready_spec hx hs
    rw [h x h1] at h2
    cases h2

/-- The first operation of a list in order. -/
theorem evSeq_first (hO : SoundO P O) {i : Nat} {r : List Nat} {st' : St} {hs hs' : List Hint} {ob : List Prop} (I : Inv w g a st) (hsz : a.tmps.size = nt)
    (h : evSeq P O nt ops (i :: r) st hs = some (st', hs', ob)) (hob : AllP ob) {K : Act → World → Prop} {Q : Exit → Act → World → Prop}
    (k : ∀ w1 g1 a1 st1 hs1 ob1, Ext w g w1 g1 → Inv w1 g1 a1 st1 → a1.tmps.size = nt → evSeq P O nt ops r st1 hs1 = some (st', hs', ob1) → AllP ob1 → K a1 w1) : wpOp P ops Q i K a w := by
  unfold evSeq at h
  unfold wpOp
  split at h
  · rename_i hi
    simp only [hi]
    exact k w g a st hs ob (Ext.refl w g) I hsz h hob
  · rename_i o hi
    simp only [hi]
    split at h
    · rename_i hd hw
      rw [wantedOf_eq I hw, if_pos rfl]
      left
      split at h
      · rename_i st1 hs1 ob1 h1
        split at h
        · rename_i st2 hs2 ob2 h2
          cases h
          obtain ⟨hob1, hob2⟩ := allP_append hob
          exact evOpH_sound hO I h1 hob1 (by rw [hsz]; exact hd) fun w1 g1 v E1 I1 => k w1 g1 _ st1 hs1 ob2 E1 I1 (by rw [putO_size]; exact hsz) h2 hob2
        · cases h
      · cases h
    · rename_i hd hw
      rw [wantedOf_eq I hw, if_neg (by simp)]
      exact k w g _ _ hs ob (Ext.refl w g) (I.putO (by rw [hsz]; exact hd) fun x _ => RepS.nix) (by rw [putO_size]; exact hsz) h hob
    · cases h

theorem tail_sound (hO : SoundO P O) {tbl : List Nat} {m : Nat} (hanc : ancOk tbl 0 ops.toList = true) (htail : tailOk tbl m ops.size = true) {Q : Exit → Act → World → Prop} {st' : St} {hs' : List Hint} {w0 : World} {g0 : Gh}
    (k : ∀ w' g' a', Ext w0 g0 w' g' → Inv w' g' a' st' → a'.tmps.size = nt → Q .normal a' w') :
    ∀ (fuel q j : Nat) {listed : Array Bool} {w : World} {g : Gh} {a : Act} {st : St} {hs : List Hint} {ob : List Prop}, j + q = ops.size → m ≤ j → listed.size = ops.size → unl ops.size listed ≤ fuel →
      (∀ i, i < j → lf listed i = true) → (∀ i, j ≤ i → lf listed i = false) → Closed tbl ops.size listed → Ext w0 g0 w g → Inv w g a st → a.tmps.size = nt →
      evSeq P O nt ops (List.range' j q) st hs = some (st', hs', ob) → AllP ob → wpAny P .any ops Q fuel listed a w := by
  have hdone : ∀ (q j : Nat) {listed : Array Bool} {w : World} {g : Gh} {a : Act} {st : St} {hs : List Hint} {ob : List Prop}, j + q = ops.size → listed.size = ops.size → (∀ i, i < ops.size → lf listed i = true) →
      (∀ i, j ≤ i → lf listed i = false) → Ext w0 g0 w g → Inv w g a st → a.tmps.size = nt → evSeq P O nt ops (List.range' j q) st hs = some (st', hs', ob) → Q .normal a w := by
    intro q j listed w g a st hs ob hj hsz hall hun E I hn h
    cases q with
    | zero =>
      cases h
      exact k w g a E I hn
    | succ q =>
      have h1 := hall j (by omega)
      rw [hun j (Nat.le_refl _)] at h1
      cases h1
  intro fuel
  induction fuel with
  | zero =>
    intro q j listed w g a st hs ob hj hm hsz hu hall hun hcl E I hn h hob
    have hz := unl_zero (Nat.le_zero.1 hu)
    exact ⟨ready_all hsz hz, hdone q j hj hsz hz hun E I hn h⟩
  | succ fuel ih =>
    intro q j listed w g a st hs ob hj hm hsz hu hall hun hcl E I hn h hob
    refine ⟨fun hr => hdone q j hj hsz (ready_nil hanc hsz hr) hun E I hn h, fun i hi => ?_⟩
    obtain ⟨hlt, h0, _⟩ := ready_spec hi hsz
    have hge : j ≤ i := by
      by_cases e : i < j
      · rw [hall i e] at h0
        cases h0
      · omega
    have hij : i = j := by
      by_cases e : i = j
      · exact e
      · exfalso
        have := ready_anc hanc hsz hcl hi j (tailOk_spec htail i (by omega) hlt j (by omega))
        rw [hun j (Nat.le_refl _)] at this
        cases this
    subst hij
    cases q with
    | zero => omega
    | succ q =>
      rw [List.range'_succ] at h
      refine evSeq_first hO I hn h hob fun w1 g1 a1 st1 hs1 ob1 E1 I1 hn1 h1 hob1 => ?_
      refine ih q (i + 1) (by omega) (by omega) (by simpa using hsz) ?_ ?_ ?_ (closed_set hanc hsz hcl hi) (E.trans E1) I1 hn1 h1 hob1
      · have := unl_lt hsz hlt h0
        omega
      · intro x hx
        by_cases e : i = x
        · subst e
          exact lf_set_self (by omega)
        · rw [lf_set_ne e]
          exact hall x (by omega)
      · intro x hx
        rw [lf_set_ne (by omega)]
        exact hun x (by omega)

theorem idx_apart {pre post : List Rc} {r : Rc} {m : Nat} (h : (pre ++ r :: post).map (·.i) = List.range m) : (∀ x ∈ pre, x.i ≠ r.i) ∧ ∀ y ∈ post, y.i ≠ r.i := by
  have hnd : ((pre ++ r :: post).map (·.i)).Nodup := by rw [h]; exact List.nodup_range
  rw [List.map_append, List.map_cons, List.nodup_append] at hnd
  obtain ⟨_, h2, h3⟩ := hnd
  rw [List.nodup_cons] at h2
  refine ⟨fun x hx e => ?_, fun y hy e => ?_⟩
  · exact h3 x.i (List.mem_map.2 ⟨x, hx, rfl⟩) r.i (by simp) e
  · exact h2.1 (List.mem_map.2 ⟨y, hy, e⟩)

theorem any_sound (hO : SoundO P O) {tbl : List Nat} {m : Nat} (hanc : ancOk tbl 0 ops.toList = true) (htail : tailOk tbl m ops.size = true) (hm : m ≤ ops.size) {Q : Exit → Act → World → Prop} {base st' : St} {rcs : List Rc}
    {hs hs' : List Hint} {ob : List Prop} {w0 : World} {g0 : Gh} (hrun : RunOk P O nt ops rcs base) (hidx : rcs.map (·.i) = List.range m) (heff : Effs base.boxes.length rcs) (hpairs : pairsOk tbl rcs = true)
    (hseq : evSeq P O nt ops (List.range' m (ops.size - m)) (fold (fun _ => true) rcs base) hs = some (st', hs', ob)) (hob : AllP ob)
    (k : ∀ w' g' a', Ext w0 g0 w' g' → Inv w' g' a' st' → a'.tmps.size = nt → Q .normal a' w') :
    ∀ (fuel : Nat) {listed : Array Bool} {w : World} {g : Gh} {a : Act} {st : St}, listed.size = ops.size → unl ops.size listed ≤ fuel → (∀ i, m ≤ i → lf listed i = false) → Closed tbl ops.size listed →
      Ext w0 g0 w g → Inv w g a st → Same st (fold (lf listed) rcs base) → a.tmps.size = nt → wpAny P .any ops Q fuel listed a w := by
  have hdone : ∀ {listed : Array Bool} {w : World} {g : Gh} {a : Act} {st : St}, (∀ i, i < ops.size → lf listed i = true) → (∀ i, m ≤ i → lf listed i = false) →
      Ext w0 g0 w g → Inv w g a st → Same st (fold (lf listed) rcs base) → a.tmps.size = nt → Q .normal a w := by
    intro listed w g a st hall hun E I hS hn
    have hme : m = ops.size := by
      by_cases e : m = ops.size
      · exact e
      · have h1 := hall m (by omega)
        rw [hun m (Nat.le_refl _)] at h1
        cases h1
    rw [hme, Nat.sub_self] at hseq
    cases hseq
    refine k w g a E (I.same ?_) hn
    rw [fold_congr (L := fun _ => true) (L' := lf listed)]
    · exact hS
    · intro r hr
      have : r.i ∈ List.range m := by rw [← hidx]; exact List.mem_map.2 ⟨r, hr, rfl⟩
      exact (hall r.i (by rw [List.mem_range] at this; omega)).symm
  intro fuel
  induction fuel with
  | zero =>
    intro listed w g a st hsz hu hun hcl E I hS hn
    have hz := unl_zero (Nat.le_zero.1 hu)
    exact ⟨ready_all hsz hz, hdone hz hun E I hS hn⟩
  | succ fuel ih =>
    intro listed w g a st hsz hu hun hcl E I hS hn
    refine ⟨fun hr => hdone (ready_nil hanc hsz hr) hun E I hS hn, fun i hi => ?_⟩
    obtain ⟨hlt, h0, _⟩ := ready_spec hi hsz
    by_cases him : i < m
    · -- one of the quiet ones
      obtain ⟨r, hr, hri⟩ : ∃ r ∈ rcs, r.i = i := by
        have : i ∈ rcs.map (·.i) := by rw [hidx]; simpa using him
        simpa using this
      obtain ⟨pre, post, hsplit⟩ := List.append_of_mem hr
      subst hri
      rw [hsplit] at hrun hidx heff hpairs hS
      have hL : lf listed r.i = false := h0
      have hrc := runOk_split hrun
      obtain ⟨hp1, hp2⟩ := pairsOk_split hpairs
      obtain ⟨hi1, hi2⟩ := idx_apart hidx
      have hepre : Effs base.boxes.length pre := fun x hx => heff x (by simp [hx])
      have hepost : Effs base.boxes.length post := fun x hx => heff x (by simp [hx])
      have her : effOk base.boxes.length r.e = true := heff r (by simp)
      have hfold : fold (lf listed) (pre ++ r :: post) base = fold (lf listed) post (fold (lf listed) pre base) := by
        rw [fold_append]
        simp only [fold, hL]
        rfl
      have hlen1 : (fold (lf listed) pre base).boxes.length = base.boxes.length := fold_length _ _ _ hepre rfl
      have hindpre : ∀ x ∈ pre, lf listed x.i = true ∨ Off r.rs r.br x := by
        intro x hx
        cases hlx : lf listed x.i with
        | true => exact .inl rfl
        | false =>
          right
          have := hp1 x hx
          simp only [pairOk, Bool.and_eq_true, Bool.or_eq_true] at this
          rcases this.2 with h | h
          · have := ready_anc hanc hsz hcl hi x.i h
            rw [hlx] at this
            cases this
          · exact (indep_spec h).ab
      have hindpost : ∀ y ∈ post, lf listed y.i = true → Ind r y := by
        intro y hy hly
        have := hp2 y hy
        simp only [pairOk, Bool.and_eq_true, Bool.or_eq_true] at this
        rcases this.2 with h | h
        · have hy' : y.i < ops.size := by
            have : y.i ∈ List.range m := by rw [← hidx]; exact List.mem_map.2 ⟨y, by simp [hy], rfl⟩
            rw [List.mem_range] at this
            omega
          have := hcl y.i hy' hly r.i h
          rw [hL] at this
          cases this
        · exact indep_spec h
      have hagree : Agree r.rs r.br (fold (fun _ => true) pre base) st := by
        have h1 := agree_pre (L := lf listed) hepre rfl hindpre (Agree.refl r.rs r.br base)
        have h2 := agree_post (rs := r.rs) (br := r.br) (L := lf listed) hepost hlen1 fun y hy hly => (hindpost y hy hly).ba
        have h3 := (h2.trans h1)
        rw [← hfold] at h3
        have h4 := (hS.agree r.rs r.br).trans h3
        exact ⟨fun t ht => (h4.s t ht).symm, fun p hp => (h4.b p hp).symm, h4.n.symm⟩
      have hstlen : st.boxes.length = base.boxes.length := by
        rw [hS.n]
        exact fold_length _ _ _ heff rfl
      refine rc_wp hO hrc hagree I hn fun w1 g1 a1 E1 I1 hn1 => ?_
      rw [← hsplit] at hrun hidx heff hpairs hS
      refine ih (by simpa using hsz) ?_ ?_ (closed_set hanc hsz hcl hi) (E.trans E1) I1 ?_ hn1
      · have := unl_lt hsz hlt h0
        omega
      · intro x hx
        rw [lf_set_ne (by omega)]
        exact hun x hx
      · have hc1 : fold (lf (listed.setIfInBounds r.i true)) pre base = fold (lf listed) pre base := fold_congr (fun x hx => lf_set_ne fun e => hi1 x hx e.symm) _
        have hc2 : ∀ z, fold (lf (listed.setIfInBounds r.i true)) post z = fold (lf listed) post z := fun z => fold_congr (fun x hx => lf_set_ne fun e => hi2 x hx e.symm) z
        have hnew : fold (lf (listed.setIfInBounds r.i true)) rcs base = fold (lf listed) post (applyEff (fold (lf listed) pre base) r.d r.e) := by
          rw [hsplit, fold_append]
          simp only [fold]
          rw [lf_set_self (by omega), if_pos rfl, hc1, hc2]
        rw [hnew]
        refine (apply_same hS r.d (by rw [hstlen]; exact her)).trans ?_
        rw [hsplit, hfold]
        refine apply_past her hepost hlen1 fun y hy hly => ?_
        have hpo := hp2 y hy
        simp only [pairOk, Bool.and_eq_true] at hpo
        refine ⟨fun p q h1 h2 e => diffD_spec hpo.1 q p h2 h1 e.symm, fun p q h1 h2 e => (hindpost y hy hly).ap q p h2 h1 e.symm⟩
    · -- behind the quiet ones
      have hie : i = m := by
        by_cases e : i = m
        · exact e
        · exfalso
          have := ready_anc hanc hsz hcl hi m (tailOk_spec htail i (by omega) hlt m (by omega))
          rw [hun m (Nat.le_refl _)] at this
          cases this
      subst hie
      have hall : ∀ j, j < i → lf listed j = true := fun j hj => ready_anc hanc hsz hcl hi j (tailOk_spec htail i (by omega) hlt j hj)
      have hst : Same st (fold (fun _ => true) rcs base) := by
        rw [fold_congr (L := fun _ => true) (L' := lf listed)]
        · exact hS
        · intro r hr
          have : r.i ∈ List.range i := by rw [← hidx]; exact List.mem_map.2 ⟨r, hr, rfl⟩
          exact (hall r.i (List.mem_range.1 this)).symm
      have := tail_sound hO hanc htail k (fuel + 1) (ops.size - i) i (by omega) (Nat.le_refl _) hsz hu hall hun hcl E (I.same hst) hn hseq hob
      exact this.2 i hi

theorem evDraw_sound (hO : SoundO P O) (hmix : P.follows .mixedOrders = true) {id : Nat} {Q : Exit → Act → World → Prop} {st' : St} {hs hs' : List Hint} {ob : List Prop} (I : Inv w g a st) (hsz : a.tmps.size = nt)
    (h : evDraw P O nt ops st hs = some (st', hs', ob)) (hob : AllP ob) (k : ∀ w' g' a', Ext w g w' g' → Inv w' g' a' st' → a'.tmps.size = nt → Q .normal a' w') : (Code.region id ops true).wp P Q a w := by
  unfold evDraw at h
  simp only [] at h
  split at h
  · rename_i hc
    simp only [Bool.and_eq_true] at hc
    split at h
    · rename_i st1 rcs hs1 ob1 hq
      split at h
      · rename_i hp
        split at h
        · rename_i st2 hs2 ob2 hseq
          cases h
          obtain ⟨hob1, hob2⟩ := allP_append hob
          obtain ⟨h1, h2, h3, h4⟩ := runQ_ok hq hob1
          subst h3
          refine wp_region_any hmix ?_
          have E0 := Ext.drew w g (w.drawn + 1)
          have U0 : Up w g { w with drawn := w.drawn + 1 } g := ⟨fun _ _ => ⟨rfl, rfl, rfl⟩, fun _ _ _ => rfl⟩
          have I0 : Inv { w with drawn := w.drawn + 1 } g a st := I.up U0 I.injB I.injO I.top I.tagB
          refine any_sound hO hc.1.1 hc.1.2 (Nat.le_of_ble_eq_true hc.2) h1 h2 h4 hp hseq hob2 k ops.size (by simp) ?_ ?_ ?_ E0 I0 ?_ hsz
          · unfold unl
            exact Nat.le_trans List.countP_le_length (by simp)
          · intro i _
            simp [lf, Array.getD_eq_getD_getElem?, Array.getElem?_replicate]
            split <;> rfl
          · intro i hi hl
            simp [lf, Array.getD_eq_getD_getElem?, Array.getElem?_replicate, hi] at hl
          · rw [show fold (lf (Array.replicate ops.size false)) rcs st = fold (fun _ => false) rcs st from fold_congr (fun r _ => by
              simp [lf, Array.getD_eq_getD_getElem?, Array.getElem?_replicate]
              split <;> rfl) st]
            have : ∀ (l : List Rc) (z : St), fold (fun _ => false) l z = z := by
              intro l
              induction l with
              | nil => intro z; rfl
              | cons x r ih => intro z; exact ih z
            rw [this]
            exact Same.refl st
        · cases h
      · cases h
    · cases h
  · cases h

end
end Go.Ev
