/- The evaluator's code, loops and functions: what it tells is a contract of the function; no condition. -/
import Derived.Test.YtadegppnocmcgaaGreatDoorEv2
set_option linter.unusedSimpArgs false
set_option linter.unusedVariables false
namespace Go.Ev

/-! ### Letting slots and variables go -/
def pickK {α : Type} (l : List (Nat × α)) : List Nat → List (Nat × α)
  | [] => []
  | t :: r => match look l t with
    | some x => (t, x) :: pickK l r
    | none => pickK l r
def capsIn (kb : List Nat) : List (Nat × Nat × Nat) → Bool
  | [] => true
  | (k, s, _) :: r => (match k with | 0 => natMem s kb | _ => true) && capsIn kb r
/-- Names a leaf no variable of the frame's own beyond these? -/
def leafIn (kb : List Nat) : Leaf → Bool
  | .ptr 0 s _ => natMem s kb
  | .fn _ fi ca => capsIn kb fi && capsIn kb ca
  | _ => true
def lsIn (kb : List Nat) : List Leaf → Bool
  | [] => true
  | l :: r => leafIn kb l && lsIn kb r
def compsIn (kb : List Nat) : List Comp → Bool
  | [] => true
  | c :: r => lsIn kb c.ls && compsIn kb r
def sIn (kb : List Nat) : SVal → Bool
  | .val c => lsIn kb c.ls
  | .tup cs => compsIn kb cs
def slotsIn (kb : List Nat) : List (Nat × SVal) → Bool
  | [] => true
  | (_, s) :: r => sIn kb s && slotsIn kb r
def frmIn (kb : List Nat) : Frm → Bool
  | [] => true
  | (_, ls) :: r => lsIn kb ls && frmIn kb r
def boxesIn (kb : List Nat) : List Frm → Bool
  | [] => true
  | f :: r => frmIn kb f && boxesIn kb r

def pickB (kb : List Nat) : List Frm → List Frm
  | [] => []
  | f :: r => pickK f kb :: r
def restrict (ks kb : List Nat) (st : St) : Option St :=
  let st' : St := ⟨pickK st.slots ks, pickB kb st.boxes⟩
  match slotsIn kb st'.slots && boxesIn kb st'.boxes with
  | true => some st'
  | false => none

abbrev Run := List Hint → St → Option (Ex × St × List Hint × List Prop)

def isN : Ex → Bool
  | .normal => true
  | _ => false

/-- From here the loop comes to this. -/
inductive LoopTo (f : Run) (ks kb kx bx : List Nat) : St → Ex → St → Prop
  | go {st st0 st1 st2 : St} {ex : Ex} {hs hs' : List Hint} {ob : List Prop} (h1 : restrict ks kb st = some st0) (h2 : f hs st0 = some (.normal, st1, hs', ob)) (h3 : AllP ob) (h4 : LoopTo f ks kb kx bx st1 ex st2) :
      LoopTo f ks kb kx bx st ex st2
  | stop {st st0 st1 st2 : St} {ex : Ex} {hs hs' : List Hint} {ob : List Prop} (h1 : restrict ks kb st = some st0) (h2 : f hs st0 = some (ex, st1, hs', ob)) (h3 : AllP ob) (h4 : isN ex = false)
      (h5 : restrict kx bx st1 = some st2) : LoopTo f ks kb kx bx st ex st2

def jumps (jump : Code → Run) (b : Code) : Nat → Nat → Run
  | 0, _, _, _ => none
  | n + 1, l, hs, st =>
    match findLabel b l with
    | some rest =>
      match jump rest hs st with
      | some (.goto l', st1, hs1, ob1) =>
        match jumps jump b n l' hs1 st1 with
        | some (ex, st2, hs2, ob2) => some (ex, st2, hs2, ob1 ++ ob2)
        | none => none
      | r => r
    | none => none

def evCode (P : Program) (O : CallF) (nt : Nat) (jump : Code → Run) : Code → Run
  | .skip, hs, st => some (.normal, st, hs, [])
  | .label _, hs, st => some (.normal, st, hs, [])
  | .region _ ops draw, hs, st =>
    match (match draw with | true => evDraw P O nt ops st hs | false => evSeq P O nt ops (List.range ops.size) st hs) with
    | some (st1, hs1, ob) => some (.normal, st1, hs1, ob)
    | none => none
  | .seq x y, hs, st =>
    match evCode P O nt jump x hs st with
    | some (.normal, st1, hs1, ob1) =>
      match evCode P O nt jump y hs1 st1 with
      | some (ex, st2, hs2, ob2) => some (ex, st2, hs2, ob1 ++ ob2)
      | none => none
    | r => r
  | .cond c x y, hs, st =>
    match valOf (fetch st c) with
    | some (.bool true) => evCode P O nt jump x hs st
    | some (.bool false) => evCode P O nt jump y hs st
    | _ => none
  | .block id b, hs, st =>
    match evCode P O nt jump b hs st with
    | some (.exit i, st1, hs1, ob) => some ((match Nat.beq i id with | true => .normal | false => .exit i), st1, hs1, ob)
    | r => r
  | .loop b, hs, st =>
    match hs with
    | .loop ks kb kx bx ex st1 :: r => match isN ex with
      | true => none
      | false => some (ex, st1, r, [LoopTo (evCode P O nt jump b) ks kb kx bx st ex st1])
    | _ => none
  | .exit i, hs, st => some (.exit i, st, hs, [])
  | .goto l, hs, st => some (.goto l, st, hs, [])
  | .ret, hs, st => some (.ret, st, hs, [])
  | .scope b, hs, st =>
    match evCode P O nt jump b hs st with
    | some (.goto l, st1, hs1, ob1) =>
      match jumps jump b 20 l hs1 st1 with
      | some (ex, st2, hs2, ob2) => some (ex, st2, hs2, ob1 ++ ob2)
      | none => none
    | r => r
  | .rangeFunc _ _ _ _, _, _ => none
  | .refuse _, _, _ => none

def evN (P : Program) (O : CallF) (nt : Nat) : Nat → Code → Run
  | 0 => evCode P O nt fun _ _ _ => none
  | n + 1 => evCode P O nt (evN P O nt n)

def exOf : Ex → Exit
  | .normal => .normal
  | .exit i => .exit i
  | .goto l => .goto l
  | .ret => .ret

section
variable {P : Program} {O : CallF} {nt : Nat} {w w' : World} {g g' : Gh} {a : Act} {st : St}

theorem look_pickK {α : Type} {l : List (Nat × α)} {t : Nat} {x : α} : ∀ {ks : List Nat}, look (pickK l ks) t = some x → look l t = some x
  | [], h => by simp [pickK, look] at h
  | k :: r, h => by
    unfold pickK at h
    split at h
    · rename_i y hy
      unfold look at h
      split at h
      · rename_i e
        subst e
        rw [hy]
        exact h
      · exact look_pickK h
    · exact look_pickK h
theorem look_pickK_mem {α : Type} {l : List (Nat × α)} {t : Nat} {x : α} : ∀ {ks : List Nat}, t ∈ ks → look l t = some x → look (pickK l ks) t = some x
  | [], h, _ => by cases h
  | k :: r, h, hx => by
    unfold pickK
    by_cases e : k = t
    · subst e
      simp [hx, look]
    · have hr : t ∈ r := by
        rcases List.mem_cons.1 h with h | h
        · exact absurd h.symm e
        · exact h
      split
      · unfold look
        rw [if_neg e]
        exact look_pickK_mem hr hx
      · exact look_pickK_mem hr hx
theorem look_pickK_not {α : Type} {l : List (Nat × α)} {t : Nat} {x : α} : ∀ {ks : List Nat}, look (pickK l ks) t = some x → t ∈ ks
  | [], h => by simp [pickK, look] at h
  | k :: r, h => by
    unfold pickK at h
    split at h
    · rename_i y hy
      unfold look at h
      split at h
      · rename_i e
        simp [e]
      · simp [look_pickK_not h]
    · simp [look_pickK_not h]

/-- The ghosts when the frame's own variables beyond these are let go. -/
def dropG (kb : List Nat) (g : Gh) : Gh where
  own b := match g.own b with
    | .box 0 s => if natMem s kb then .box 0 s else .free
    | x => x
  fr := g.fr

theorem dropG_own (kb : List Nat) (g : Gh) (b : Nat) : (dropG kb g).own b = match g.own b with
    | .box 0 s => if natMem s kb then .box 0 s else .free
    | x => x := rfl
theorem dropG_other {kb : List Nat} {g : Gh} {b : Nat} (h : ∀ s, g.own b ≠ .box 0 s) : (dropG kb g).own b = g.own b := by
  rw [dropG_own]
  split
  · rename_i s hs
    exact absurd hs (h s)
  · rfl
theorem dropG_box {kb : List Nat} {g : Gh} {b k s : Nat} (h : g.own b = .box k s) (hk : k = 0 → natMem s kb = true) : (dropG kb g).own b = .box k s := by
  rw [dropG_own, h]
  cases k with
  | zero => simp [hk rfl]
  | succ k => rfl
theorem dropG_inv {kb : List Nat} {g : Gh} {b : Nat} {x : Own} (h : (dropG kb g).own b = x) (hx : x ≠ .free) : g.own b = x := by
  rw [dropG_own] at h
  split at h
  · rename_i s hs
    split at h
    · rw [hs]
      exact h
    · exact absurd h.symm hx
  · exact h
theorem dropG_rd (kb : List Nat) (g : Gh) (b : Nat) : (dropG kb g).rd b ↔ g.rd b := by
  constructor
  · rintro (h | ⟨p, h⟩)
    · exact .inl (dropG_inv h (by simp))
    · exact .inr ⟨p, dropG_inv h (by simp)⟩
  · rintro (h | ⟨p, h⟩)
    · exact .inl (by rw [dropG_other (by intro s; rw [h]; simp)]; exact h)
    · exact .inr ⟨p, by rw [dropG_other (by intro s; rw [h]; simp)]; exact h⟩
theorem dropG_keeps (kb : List Nat) (w : World) (g : Gh) : Keeps w g w (dropG kb g) := ⟨fun b h => (dropG_rd kb g b).2 h, fun _ _ => Nat.le_refl _, fun _ _ _ _ => rfl⟩

theorem ptr_drop {kb : List Nat} {k s o : Nat} {v : Value} (h : RepPtr g k s o v) (hin : k = 0 → natMem s kb = true) : RepPtr (dropG kb g) k s o v := by
  obtain ⟨b, hb, rfl⟩ := h
  exact ⟨b, dropG_box hb hin, rfl⟩
theorem caps_drop {kb : List Nat} : ∀ {l : List (Nat × Nat × Nat)} {vs : List Value}, RepCaps g l vs → capsIn kb l = true → RepCaps (dropG kb g) l vs
  | [], [], _, _ => trivial
  | [], _ :: _, h, _ => h.elim
  | _ :: _, [], h, _ => h.elim
  | (k, s, o) :: r, v :: vs, h, hin => by
    simp only [capsIn, Bool.and_eq_true] at hin
    exact ⟨ptr_drop h.1 (by rintro rfl; exact hin.1), caps_drop h.2 hin.2⟩
theorem tok_drop {kb : List Nat} {m : Mode} {p : Pos} {s : Nat} {xs : List (List PV)} {v : Value} (h : TokV w g m p s xs v) : TokV w (dropG kb g) m p s xs v := by
  rcases h with h | ⟨b, c, cs, T, hv, ho, hh, hc, hs, hf, hr⟩
  · exact .inl h
  · refine .inr ⟨b, c, cs, T, hv, ?_, hh, hc, hs, hf, RepRow.keep (dropG_keeps kb w g) s b xs _ (fun _ _ _ => rfl) hr⟩
    rw [dropG_other (by intro s; rw [ho]; simp)]
    exact ho
theorem leaf_drop {kb : List Nat} {q : Pos} {l : Leaf} {v : Value} (h : RepLeaf w g q l v) (hin : leafIn kb l = true) : RepLeaf w (dropG kb g) q l v := by
  have K := dropG_keeps kb w g
  cases l with
  | d x => exact RepPV.keep K x v h
  | row m s xs => exact tok_drop h
  | al m p s xs => exact tok_drop h
  | nilS => exact h
  | emp => exact h
  | ptr k s o => exact ptr_drop h (by rintro rfl; exact hin)
  | eptr p i o cs =>
    obtain ⟨b, s, hb, hv, hs, hr⟩ := h
    refine ⟨b, s, ?_, hv, hs, RepCells.keep K b cs _ (fun _ _ _ => rfl) hr⟩
    rw [dropG_other (by intro s; rw [hb]; simp)]
    exact hb
  | fptr cs =>
    obtain ⟨b, o, hv, hb, hf, hr⟩ := h
    exact ⟨b, o, hv, K.rd b hb, hf, RepCells.keep K b cs _ (fun _ _ _ => rfl) hr⟩
  | fn f fi caps =>
    obtain ⟨us, vs, hv, h1, h2⟩ := h
    simp only [leafIn, Bool.and_eq_true] at hin
    exact ⟨us, vs, hv, caps_drop h1 hin.1, caps_drop h2 hin.2⟩
  | it s pos =>
    obtain ⟨r, hv, ho, hh⟩ := h
    refine ⟨r, hv, ?_, hh⟩
    rw [dropG_other (by intro s; rw [ho]; simp)]
    exact ho
  | undef => trivial
theorem ls_drop {kb : List Nat} {mk : Nat → Pos} : ∀ {j : Nat} {ls : List Leaf} {vs : List Value}, RepLs w g mk j ls vs → lsIn kb ls = true → RepLs w (dropG kb g) mk j ls vs
  | _, [], [], _, _ => trivial
  | _, [], _ :: _, h, _ => h.elim
  | _, _ :: _, [], h, _ => h.elim
  | _, _ :: _, _ :: _, h, hin => by
    simp only [lsIn, Bool.and_eq_true] at hin
    exact ⟨leaf_drop h.1 hin.1, ls_drop h.2 hin.2⟩
theorem comp_drop {kb : List Nat} {mk : Nat → Pos} {c : Comp} {v : Value} (h : RepComp w g mk c v) (hin : lsIn kb c.ls = true) : RepComp w (dropG kb g) mk c v := by
  obtain ⟨ag, ls⟩ := c
  cases ag with
  | true => obtain ⟨vs, hv, h⟩ := h; exact ⟨vs, hv, ls_drop h hin⟩
  | false =>
    obtain ⟨l, rfl, h⟩ := h
    simp only [lsIn, Bool.and_eq_true] at hin
    exact ⟨l, rfl, leaf_drop h hin.1⟩
theorem comps_drop {kb : List Nat} {t : Nat} : ∀ {i : Nat} {cs : List Comp} {vs : List Value}, RepComps w g t i cs vs → compsIn kb cs = true → RepComps w (dropG kb g) t i cs vs
  | _, [], [], _, _ => trivial
  | _, [], _ :: _, h, _ => h.elim
  | _, _ :: _, [], h, _ => h.elim
  | _, _ :: _, _ :: _, h, hin => by
    simp only [compsIn, Bool.and_eq_true] at hin
    exact ⟨comp_drop h.1 hin.1, comps_drop h.2 hin.2⟩
theorem s_drop {kb : List Nat} {t : Nat} {s : SVal} {v : Value} (h : RepS w g t s v) (hin : sIn kb s = true) : RepS w (dropG kb g) t s v := by
  cases s with
  | val c => exact comp_drop h hin
  | tup cs => obtain ⟨vs, hv, h⟩ := h; exact ⟨vs, hv, comps_drop h hin⟩

theorem slotsIn_look {kb : List Nat} : ∀ {l : List (Nat × SVal)} {t : Nat} {s : SVal}, slotsIn kb l = true → look l t = some s → sIn kb s = true
  | [], _, _, _, h => by simp [look] at h
  | (k, x) :: r, t, s, hin, h => by
    simp only [slotsIn, Bool.and_eq_true] at hin
    unfold look at h
    split at h
    · cases h; exact hin.1
    · exact slotsIn_look hin.2 h
theorem frmIn_look {kb : List Nat} : ∀ {l : Frm} {t : Nat} {ls : List Leaf}, frmIn kb l = true → look l t = some ls → lsIn kb ls = true
  | [], _, _, _, h => by simp [look] at h
  | (k, x) :: r, t, s, hin, h => by
    simp only [frmIn, Bool.and_eq_true] at hin
    unfold look at h
    split at h
    · cases h; exact hin.1
    · exact frmIn_look hin.2 h
theorem boxesIn_get {kb : List Nat} : ∀ {l : List Frm} {k : Nat} {f : Frm}, boxesIn kb l = true → l[k]? = some f → frmIn kb f = true
  | [], _, _, _, h => by simp at h
  | x :: r, 0, f, hin, h => by
    simp only [boxesIn, Bool.and_eq_true] at hin
    simp only [List.getElem?_cons_zero, Option.some.injEq] at h
    subst h
    exact hin.1
  | x :: r, k + 1, f, hin, h => by
    simp only [boxesIn, Bool.and_eq_true] at hin
    exact boxesIn_get hin.2 (by simpa using h)

theorem pickB_get {kb : List Nat} {bs : List Frm} {k s : Nat} {f : Frm} {ls : List Leaf} (h1 : (pickB kb bs)[k]? = some f) (h2 : look f s = some ls) :
    (∃ f', bs[k]? = some f' ∧ look f' s = some ls) ∧ (k = 0 → s ∈ kb) := by
  cases bs with
  | nil => simp [pickB] at h1
  | cons x r =>
    cases k with
    | zero =>
      simp only [pickB, List.getElem?_cons_zero, Option.some.injEq] at h1
      subst h1
      exact ⟨⟨x, by simp, look_pickK h2⟩, fun _ => look_pickK_not h2⟩
    | succ k =>
      simp only [pickB, List.getElem?_cons_succ] at h1
      exact ⟨⟨f, by simpa using h1, h2⟩, fun h => by cases h⟩
theorem pickB_put {kb : List Nat} {bs : List Frm} {k s : Nat} {f : Frm} {ls : List Leaf} (h1 : bs[k]? = some f) (h2 : look f s = some ls) (h3 : k = 0 → s ∈ kb) :
    ∃ f', (pickB kb bs)[k]? = some f' ∧ look f' s = some ls := by
  cases bs with
  | nil => simp at h1
  | cons x r =>
    cases k with
    | zero =>
      simp only [List.getElem?_cons_zero, Option.some.injEq] at h1
      subst h1
      exact ⟨_, by simp [pickB], look_pickK_mem (h3 rfl) h2⟩
    | succ k => exact ⟨f, by simpa [pickB] using h1, h2⟩

theorem Inv.restrict (I : Inv w g a st) {ks kb : List Nat} {st' : St} (h : Ev.restrict ks kb st = some st') : ∃ g', Inv w g' a st' ∧ Ext w g w g' := by
  unfold Ev.restrict at h
  simp only [] at h
  split at h
  · rename_i hin
    simp only [Bool.and_eq_true] at hin
    cases h
    refine ⟨dropG kb g, ?_, ⟨rfl, rfl, rfl, Nat.le_refl _, dropG_keeps kb w g, ?_, ?_, fun b k s h => dropG_box h (by simp), fun _ => rfl⟩⟩
    · constructor
      · intro t s hs
        obtain ⟨h1, h2⟩ := I.slots t s (look_pickK hs)
        exact ⟨h1, s_drop h2 (slotsIn_look hin.1 hs)⟩
      · intro k f s ls h1 h2
        obtain ⟨⟨f', h3, h4⟩, h5⟩ := pickB_get h1 h2
        obtain ⟨b, vs, T, ho, hh, hr⟩ := I.boxes k f' s ls h3 h4
        exact ⟨b, vs, T, dropG_box ho fun e => natMem_iff.2 (h5 e), hh, ls_drop hr (frmIn_look (boxesIn_get hin.2 h1) h2)⟩
      · intro b b' k s h1 h2
        exact I.injB b b' k s (dropG_inv h1 (by simp)) (dropG_inv h2 (by simp))
      · intro b b' p h1 h2
        exact I.injO b b' p (dropG_inv h1 (by simp)) (dropG_inv h2 (by simp))
      · intro b hb
        rw [dropG_other (by intro s; rw [I.top b hb]; simp)]
        exact I.top b hb
      · intro b k s hb
        have hb' := dropG_inv hb (by simp)
        obtain ⟨f, ls, h1, h2⟩ := I.tagB b k s hb'
        have h3 : k = 0 → s ∈ kb := by
          rintro rfl
          rw [dropG_own, hb'] at hb
          simp only [] at hb
          split at hb
          · rename_i hm
            exact natMem_iff.1 hm
          · cases hb
        obtain ⟨f', h4, h5⟩ := pickB_put h1 h2 h3
        exact ⟨f', ls, h4, h5⟩
      · exact I.defers
    · intro b hb
      refine ⟨rfl, ?_, rfl⟩
      exact dropG_other (by intro s; rcases hb with h | h <;> rw [h] <;> simp)
    · intro b _ hb
      rw [dropG_other (by intro s; rw [hb]; simp)]
      exact hb
  · cases h

end
end Go.Ev

namespace Go

def srounds (P : Program) (c : Code) (Q : Exit → Act → World → Prop) : Nat → Code → Act → World → Prop
  | 0, x, a, w => x.wp P (Exit.noGoto Q) a w
  | n + 1, x, a, w => x.wp P (fun e a' w' => match e with
    | .goto l => ∃ rest, findLabel c l = some rest ∧ srounds P c Q n rest a' w'
    | e => Q e a' w') a w

theorem wp_scope_rounds {P : Program} {Q : Exit → Act → World → Prop} {a : Act} {w : World} {c : Code} (n : Nat) (h : srounds P c Q n c a w) : (Code.scope c).wp P Q a w := by
  intro b k cs
  have key : ∀ n x a w, srounds P c Q n x a w → ∃ e a' w', Q e a' w' ∧ Arrives P (lone (b.at a (.code x :: .inScope c :: k)) cs w) b k cs e a' w' := by
    intro n
    induction n with
    | zero =>
      intro x a w h
      obtain ⟨e, a₁, w₁, hq, harr⟩ := h b (.inScope c :: k) cs
      cases e with
      | normal => exact ⟨.normal, a₁, w₁, hq, Steps.trans harr (.one step_inScope)⟩
      | exit id => exact ⟨.exit id, a₁, w₁, hq, fun k' hk => harr k' (by simp [exitTo, hk])⟩
      | goto l' => exact hq.elim
      | ret => exact ⟨_, a₁, w₁, hq, harr⟩
      | panic ch => exact ⟨_, a₁, w₁, hq, harr⟩
      | outgrown => exact ⟨_, a₁, w₁, hq, harr⟩
    | succ n ih =>
      intro x a w h
      obtain ⟨e, a₁, w₁, hq, harr⟩ := h b (.inScope c :: k) cs
      cases e with
      | normal => exact ⟨.normal, a₁, w₁, hq, Steps.trans harr (.one step_inScope)⟩
      | exit id => exact ⟨.exit id, a₁, w₁, hq, fun k' hk => harr k' (by simp [exitTo, hk])⟩
      | goto l' =>
        obtain ⟨rest, hf, hr⟩ := hq
        have hg : gotoIn l' (.inScope c :: k) = some (.code rest :: .inScope c :: k) := by simp [gotoIn, hf]
        obtain ⟨e₂, a₂, w₂, hq₂, harr₂⟩ := ih rest a₁ w₁ hr
        exact ⟨e₂, a₂, w₂, hq₂, .of_steps (harr _ hg) harr₂⟩
      | ret => exact ⟨_, a₁, w₁, hq, harr⟩
      | panic ch => exact ⟨_, a₁, w₁, hq, harr⟩
      | outgrown => exact ⟨_, a₁, w₁, hq, harr⟩
  obtain ⟨e, a', w', hq, harr⟩ := key n c a w h
  exact ⟨e, a', w', hq, .of_steps (.one step_scope) harr⟩

namespace Ev

def CodeOK (P : Program) (nt : Nat) (run : Run) (c : Code) : Prop :=
  ∀ {hs : List Hint} {st : St} {ex : Ex} {st' : St} {hs' : List Hint} {ob : List Prop} {w : World} {g : Gh} {a : Act} {Q : Exit → Act → World → Prop}, Inv w g a st → a.tmps.size = nt →
    run hs st = some (ex, st', hs', ob) → AllP ob → (∀ w' g' a', Ext w g w' g' → Inv w' g' a' st' → a'.tmps.size = nt → Q (exOf ex) a' w') → c.wp P Q a w

section
variable {P : Program} {O : CallF} {nt : Nat} {w w' : World} {g g' : Gh} {a : Act} {st : St}

theorem loop_rounds {run : Run} {c : Code} (hc : CodeOK P nt run c) {ks kb kx bx : List Nat} {st : St} {ex : Ex} {st' : St} (h : LoopTo run ks kb kx bx st ex st') :
    ∃ n, ∀ {w : World} {g : Gh} {a : Act} {Q : Exit → Act → World → Prop}, Inv w g a st → a.tmps.size = nt → isN ex = false →
      (∀ w' g' a', Ext w g w' g' → Inv w' g' a' st' → a'.tmps.size = nt → Q (exOf ex) a' w') → Code.rounds P c Q n a w := by
  induction h with
  | go h1 h2 h3 _ ih =>
    obtain ⟨n, hn⟩ := ih
    refine ⟨n + 1, fun {w g a Q} I hsz hex k => ?_⟩
    obtain ⟨g1, I1, E1⟩ := I.restrict h1
    refine hc I1 hsz h2 h3 fun w2 g2 a2 E2 I2 hs2 => ?_
    exact hn I2 hs2 hex fun w3 g3 a3 E3 => k w3 g3 a3 ((E1.trans E2).trans E3)
  | stop h1 h2 h3 h4 h5 =>
    rename_i st st0 st1 st2 ex hs hs' ob
    refine ⟨1, fun {w g a Q} I hsz hex k => ?_⟩
    obtain ⟨g1, I1, E1⟩ := I.restrict h1
    refine hc I1 hsz h2 h3 fun w2 g2 a2 E2 I2 hs2 => ?_
    obtain ⟨g3, I3, E3⟩ := I2.restrict h5
    have hq := k w2 g3 a2 ((E1.trans E2).trans E3) I3 hs2
    cases ex with
    | normal => cases h4
    | exit i => exact hq
    | goto l => exact hq
    | ret => exact hq

theorem jumps_sound {jump : Code → Run} (hj : ∀ c, CodeOK P nt (jump c) c) {b : Code} : ∀ {n l : Nat} {hs : List Hint} {st : St} {ex : Ex} {st' : St} {hs' : List Hint} {ob : List Prop} {w : World} {g : Gh} {a : Act} {Q : Exit → Act → World → Prop},
    Inv w g a st → a.tmps.size = nt → jumps jump b n l hs st = some (ex, st', hs', ob) → AllP ob → (∀ w' g' a', Ext w g w' g' → Inv w' g' a' st' → a'.tmps.size = nt → Q (exOf ex) a' w') →
    ∃ rest, findLabel b l = some rest ∧ srounds P b Q n rest a w
  | 0, _, _, _, _, _, _, _, _, _, _, _, _, _, h, _, _ => by cases h
  | n + 1, l, hs, st, ex, st', hs', ob, w, g, a, Q, I, hsz, h, hob, k => by
    unfold jumps at h
    split at h
    · rename_i rest hf
      refine ⟨rest, hf, ?_⟩
      split at h
      · rename_i l' st1 hs1 ob1 h1
        split at h
        · rename_i ex2 st2 hs2 ob2 h2
          cases h
          obtain ⟨hob1, hob2⟩ := allP_append hob
          refine hj rest I hsz h1 hob1 fun w1 g1 a1 E1 I1 hs1 => ?_
          exact jumps_sound hj I1 hs1 h2 hob2 fun w2 g2 a2 E2 => k w2 g2 a2 (E1.trans E2)
        · cases h
      · rename_i hne
        refine hj rest I hsz h hob fun w1 g1 a1 E1 I1 hs1 => ?_
        have hq := k w1 g1 a1 E1 I1 hs1
        cases ex with
        | goto l' => exact absurd h (hne l' st' hs' ob)
        | normal => exact hq
        | exit i => exact hq
        | ret => exact hq
    · cases h

theorem evCode_sound (hO : SoundO P O) (hmix : P.follows .mixedOrders = true) {jump : Code → Run} (hj : ∀ c, CodeOK P nt (jump c) c) : ∀ c, CodeOK P nt (evCode P O nt jump c) c := by
  intro c
  induction c with
  | skip =>
    intro hs st ex st' hs' ob w g a Q I hsz h hob k
    cases h
    exact wp_skip (k w g a (Ext.refl w g) I hsz)
  | label l =>
    intro hs st ex st' hs' ob w g a Q I hsz h hob k
    cases h
    exact wp_label (k w g a (Ext.refl w g) I hsz)
  | region id ops draw =>
    intro hs st ex st' hs' ob w g a Q I hsz h hob k
    unfold evCode at h
    split at h
    · rename_i st1 hs1 ob1 h1
      cases h
      cases draw with
      | true => exact evDraw_sound hO hmix I hsz h1 hob k
      | false => exact wp_region (evSeq_sound hO I hsz h1 hob k)
    · cases h
  | seq x y ihx ihy =>
    intro hs st ex st' hs' ob w g a Q I hsz h hob k
    unfold evCode at h
    split at h
    · rename_i st1 hs1 ob1 h1
      split at h
      · rename_i ex2 st2 hs2 ob2 h2
        cases h
        obtain ⟨hob1, hob2⟩ := allP_append hob
        refine wp_seq (ihx I hsz h1 hob1 fun w1 g1 a1 E1 I1 hs1 => ?_)
        exact ihy I1 hs1 h2 hob2 fun w2 g2 a2 E2 => k w2 g2 a2 (E1.trans E2)
      · cases h
    · rename_i hne
      refine wp_seq (ihx I hsz h hob fun w1 g1 a1 E1 I1 hs1 => ?_)
      have hq := k w1 g1 a1 E1 I1 hs1
      cases ex with
      | normal => exact absurd h (hne st' hs' ob)
      | goto l' => exact hq
      | exit i => exact hq
      | ret => exact hq
  | cond c x y ihx ihy =>
    intro hs st ex st' hs' ob w g a Q I hsz h hob k
    unfold evCode at h
    split at h
    · rename_i hv
      exact wp_cond_true (valOf_eq ((I.fetchF c).toS (t := 0)) hv : a.eval c = _) (ihx I hsz h hob k)
    · rename_i hv
      exact wp_cond_false (valOf_eq ((I.fetchF c).toS (t := 0)) hv : a.eval c = _) (ihy I hsz h hob k)
    · cases h
  | block id b ih =>
    intro hs st ex st' hs' ob w g a Q I hsz h hob k
    unfold evCode at h
    split at h
    · rename_i i st1 hs1 ob1 h1
      cases h
      refine wp_block (ih I hsz h1 hob fun w1 g1 a1 E1 I1 hs1 => ?_)
      have hq := k w1 g1 a1 E1 I1 hs1
      simp only [exOf, Exit.inBlock]
      split
      · rename_i e
        subst e
        simpa [exOf] using hq
      · rename_i e
        rw [show Nat.beq i id = false by cases hb : Nat.beq i id with | false => rfl | true => exact absurd (Nat.eq_of_beq_eq_true hb) e] at hq
        exact hq
    · rename_i hne
      refine wp_block (ih I hsz h hob fun w1 g1 a1 E1 I1 hs1 => ?_)
      have hq := k w1 g1 a1 E1 I1 hs1
      cases ex with
      | normal => exact hq
      | goto l' => exact hq
      | exit i => exact absurd h (hne i st' hs' ob)
      | ret => exact hq
  | loop b ih =>
    intro hs st ex st' hs' ob w g a Q I hsz h hob k
    unfold evCode at h
    split at h
    · split at h
      · cases h
      · rename_i hex
        cases h
        obtain ⟨n, hn⟩ := loop_rounds ih hob.1
        exact wp_loop_rounds n (hn I hsz hex k)
    · cases h
  | rangeFunc f ps x y _ _ =>
    intro hs st ex st' hs' ob w g a Q I hsz h hob k
    cases h
  | exit i =>
    intro hs st ex st' hs' ob w g a Q I hsz h hob k
    cases h
    exact wp_exit (k w g a (Ext.refl w g) I hsz)
  | scope b ih =>
    intro hs st ex st' hs' ob w g a Q I hsz h hob k
    unfold evCode at h
    split at h
    · rename_i l st1 hs1 ob1 h1
      split at h
      · rename_i ex2 st2 hs2 ob2 h2
        cases h
        obtain ⟨hob1, hob2⟩ := allP_append hob
        refine wp_scope_rounds 21 (ih I hsz h1 hob1 fun w1 g1 a1 E1 I1 hs1 => ?_)
        exact jumps_sound hj I1 hs1 h2 hob2 fun w2 g2 a2 E2 => k w2 g2 a2 (E1.trans E2)
      · cases h
    · rename_i hne
      refine wp_scope_rounds 0 (ih I hsz h hob fun w1 g1 a1 E1 I1 hs1 => ?_)
      have hq := k w1 g1 a1 E1 I1 hs1
      cases ex with
      | normal => exact hq
      | goto l' => exact absurd h (hne l' st' hs' ob)
      | exit i => exact hq
      | ret => exact hq
  | goto l =>
    intro hs st ex st' hs' ob w g a Q I hsz h hob k
    cases h
    exact wp_goto (k w g a (Ext.refl w g) I hsz)
  | ret =>
    intro hs st ex st' hs' ob w g a Q I hsz h hob k
    cases h
    exact wp_ret (k w g a (Ext.refl w g) I hsz)
  | refuse s =>
    intro hs st ex st' hs' ob w g a Q I hsz h hob k
    cases h

theorem evN_sound (hO : SoundO P O) (hmix : P.follows .mixedOrders = true) : ∀ n c, CodeOK P nt (evN P O nt n c) c
  | 0, c => evCode_sound hO hmix (fun c {hs st ex st' hs' ob w g a Q} _ _ h => by cases h) c
  | n + 1, c => evCode_sound hO hmix (evN_sound hO hmix n) c

end
end Ev
end Go

namespace Go.Ev

def resOf (P : Program) (st : St) : ResultVar → Option Comp
  | .tmp t => match fetch st (.tmp t) with
    | .val c => some c
    | _ => none
  | .cell a t => match fetch st (.tmp a) with
    | .val ⟨false, [l]⟩ => match l with
      | .ptr _ _ _ => match loadOf P st t l with
        | some (.val c) => some c
        | _ => none
      | _ => none
    | _ => none
def ressOf (P : Program) (st : St) : List ResultVar → Option (List Comp)
  | [] => some []
  | r :: l => match resOf P st r, ressOf P st l with
    | some c, some cs => some (c :: cs)
    | _, _ => none
def resultOf (P : Program) (st : St) (l : List ResultVar) : Option SVal :=
  match ressOf P st l with
  | some [c] => some (.val c)
  | some cs => some (.tup cs)
  | none => none

def isEnd : Ex → Bool
  | .normal => true
  | .ret => true
  | _ => false

/-- A run of a function's body. -/
def evF (P : Program) (O : CallF) (n : Nat) (f : FuncId) (hs : List Hint) (args : List Comp) (outer : List Frm) : Option (SVal × List Frm × List Prop) :=
  match P.funcs[f]? with
  | some fn =>
    match fn.body with
    | some c =>
      match Nat.ble args.length fn.ntmps with
      | true =>
        match evN P O fn.ntmps n c hs ⟨argSlots 0 args, [] :: outer⟩ with
        | some (ex, st, _, ob) =>
          match isEnd ex with
          | true => match resultOf P st fn.results.toList with
            | some r => some (r, st.boxes.tail, ob)
            | none => none
          | false => none
        | none => none
      | false => none
    | none => none
  | none => none

/-- What a function's run gives, told by some claims that hold. -/
def Tells (P : Program) (O : CallF) (f : FuncId) (args : List Comp) (outer : List Frm) (r : SVal) (outer' : List Frm) : Prop :=
  ∃ n hs ob, evF P O n f hs args outer = some (r, outer', ob) ∧ AllP ob

section
variable {P : Program} {O : CallF} {nt : Nat} {w w' : World} {g g' : Gh} {a : Act} {st : St}

def resRun (tmps : Array Value) (r : ResultVar) : Sem Value :=
  match r with
  | .tmp t => pure (tmps.getD t undef)
  | .cell x t => do loadVar t (← asAddr (tmps.getD x undef))
theorem results_eq (fn : Func) (tmps : Array Value) : results fn tmps = (do
    let vs ← fn.results.mapM (resRun tmps)
    pure (if h : vs.size = 1 then vs[0] else .tuple vs)) := rfl

theorem resOf_sound (I : Inv w g a st) {r : ResultVar} {c : Comp} (h : resOf P st r = some c) : ∃ v, (resRun a.tmps r).run P w = .ok v w ∧ ∀ mk, RepComp w g mk c v := by
  cases r with
  | tmp t =>
    simp only [resOf] at h
    split at h
    · rename_i c' hc
      cases h
      have := I.fetchF (.tmp t)
      rw [hc] at this
      exact ⟨_, rfl, this⟩
    · cases h
  | cell x t =>
    simp only [resOf] at h
    split at h
    · rename_i l hl
      split at h
      · rename_i k s o
        split at h
        · rename_i c' hc
          cases h
          have h1 := I.fetchF (.tmp x)
          rw [hl] at h1
          obtain ⟨l', e, h2⟩ := h1 (.slot 0 0)
          simp only [List.cons.injEq, and_true] at e
          subst e
          obtain ⟨u, hrun, hrep⟩ := loadOf_sound I (.slot 0 0 0) h2 hc
          obtain ⟨b, hb, hv⟩ := h2
          refine ⟨u, ?_, hrep⟩
          have hv' : a.tmps.getD x undef = .pointer (some ⟨b, o, none⟩) := hv
          have hv'' : a.eval (.tmp x) = .pointer (some ⟨b, o, none⟩) := hv
          rw [hv''] at hrun
          simp only [resRun, hv']
          simpa [asAddr, Instr.loadAt, Instr.sureAddr] using hrun
        · cases h
      · cases h
    · cases h

theorem ressOf_sound (I : Inv w g a st) : ∀ {l : List ResultVar} {cs : List Comp}, ressOf P st l = some cs →
    ∃ vs : List Value, (l.mapM (resRun a.tmps)).run P w = .ok vs w ∧ RepFs w g cs vs
  | [], cs, h => by
    cases h
    exact ⟨[], rfl, trivial⟩
  | r :: l, cs, h => by
    unfold ressOf at h
    split at h
    · rename_i c cs' hc hcs
      cases h
      obtain ⟨v, h1, h2⟩ := resOf_sound I hc
      obtain ⟨vs, h3, h4⟩ := ressOf_sound I hcs
      refine ⟨v :: vs, ?_, h2, h4⟩
      rw [List.mapM_cons, Sem.run_bind, h1]
      simp only [Result.andThen_ok, Sem.run_bind, h3, Sem.run_pure]
    · cases h

theorem resultOf_sound (I : Inv w g a st) {fn : Func} {s : SVal} (h : resultOf P st fn.results.toList = some s) : ∃ v, (results fn a.tmps).run P w = .ok v w ∧ RepF w g s v := by
  unfold resultOf at h
  have hmap : ∀ {vs : List Value} (f : ResultVar → Sem Value), (fn.results.toList.mapM f).run P w = .ok vs w → (fn.results.mapM f).run P w = .ok vs.toArray w := by
    intro vs f h
    rw [Array.mapM_eq_mapM_toList]
    rw [← bind_pure_comp]
    rw [Sem.run_bind, h]
    rfl
  split at h
  · rename_i c hc
    cases h
    obtain ⟨vs, h1, h2⟩ := ressOf_sound I hc
    cases vs with
    | nil => exact h2.elim
    | cons v r =>
      cases r with
      | nil =>
        refine ⟨v, ?_, h2.1⟩
        rw [results_eq, Sem.run_bind, hmap _ h1]
        simp
      | cons _ _ => exact h2.2.elim
  · rename_i cs hne hc
    cases h
    obtain ⟨vs, h1, h2⟩ := ressOf_sound I hc
    refine ⟨.tuple vs.toArray, ?_, vs.toArray, rfl, h2⟩
    rw [results_eq, Sem.run_bind, hmap _ h1]
    have : vs.length ≠ 1 := by
      intro e
      cases vs with
      | nil => cases e
      | cons v r =>
        cases r with
        | cons _ _ => simp at e
        | nil =>
          cases cs with
          | nil => exact h2.elim
          | cons c cs' =>
            cases cs' with
            | nil => exact hne c rfl
            | cons _ _ => exact h2.2.elim
    simp [this]
  · cases h

theorem tells_ok (hO : SoundO P O) (hmix : P.follows .mixedOrders = true) {f : FuncId} {args : List Comp} {outer : List Frm} {r : SVal} {outer' : List Frm} (h : Tells P O f args outer r outer') : CallOK P f args outer r outer' := by
  obtain ⟨n, hs, ob, h, hob⟩ := h
  intro w g vals fn hfn hvs I
  unfold evF at h
  rw [hfn] at h
  simp only [] at h
  split at h
  · rename_i c hb
    split at h
    · rename_i hle
      split at h
      · rename_i ex st hs' ob' h1
        split at h
        · rename_i hex
          split at h
          · rename_i r' hr
            cases h
            refine calls_of_wp hfn hb (evN_sound hO hmix n c I ?_ h1 hob fun w' g' a' E I' hsz => ?_)
            · have := Nat.le_of_ble_eq_true hle
              simp only [Array.size_append, Array.size_replicate]
              omega
            · obtain ⟨v, h2, h3⟩ := resultOf_sound I' hr
              cases ex with
              | normal => exact ⟨I'.defers, v, h2, v, g', a', st, rfl, E, h3, I', rfl⟩
              | ret => exact ⟨I'.defers, v, h2, v, g', a', st, rfl, E, h3, I', rfl⟩
              | exit i => cases hex
              | goto l => cases hex
          · cases h
        · cases h
      · cases h
    · cases h
  · cases h

end
end Go.Ev

namespace Go.Ev

abbrev i64 (n : Int) : Leaf := .d (.v (.int .i64 n))
abbrev i32 (n : Int) : Leaf := .d (.v (.int .i32 n))
abbrev i16 (n : Int) : Leaf := .d (.v (.int .i16 n))
abbrev i8 (n : Int) : Leaf := .d (.v (.int .i8 n))
abbrev u64 (n : Int) : Leaf := .d (.v (.int .u64 n))
abbrev u32 (n : Int) : Leaf := .d (.v (.int .u32 n))
abbrev u16 (n : Int) : Leaf := .d (.v (.int .u16 n))
abbrev u8 (n : Int) : Leaf := .d (.v (.int .u8 n))
abbrev bo (b : Bool) : Leaf := .d (.v (.bool b))
abbrev tx (s : ByteArray) : Leaf := .d (.v (.string s))
abbrev dr (n : Nat) (xs : List (List PV)) : Leaf := .d (.sl n xs)
abbrev pi64 (n : Int) : PV := .v (.int .i64 n)
abbrev pi32 (n : Int) : PV := .v (.int .i32 n)
abbrev pu64 (n : Int) : PV := .v (.int .u64 n)
abbrev pu32 (n : Int) : PV := .v (.int .u32 n)
abbrev pu8 (n : Int) : PV := .v (.int .u8 n)
abbrev pbo (b : Bool) : PV := .v (.bool b)
abbrev ptx (s : ByteArray) : PV := .v (.string s)
abbrev bs (l : List UInt8) : ByteArray := ⟨⟨l⟩⟩
abbrev sc (l : Leaf) : Comp := ⟨false, [l]⟩
abbrev ag (ls : List Leaf) : Comp := ⟨true, ls⟩

def O0 : CallF := fun _ _ _ => none
theorem sound0 (P : Program) : SoundO P O0 := fun _ _ _ _ _ h => by cases h

theorem ap {p : Prop} {r : List Prop} (h : p) (k : AllP r) : AllP (p :: r) := ⟨h, k⟩
theorem cl (p : Prop) [Decidable p] (h : decide p = true) : p := of_decide_eq_true h
theorem nl : AllP [] := trivial

/-- A callee's truth that is known. -/
theorem cb {P : Program} {f : FuncId} {args : List Comp} {b q : Bool} (k : CallOK P f args [] (.val (sc (bo b))) []) (h : b = q) : CallOK P f args [] (.val (sc (bo q))) [] := h ▸ k

/-- The loops of a code, the outer ones first. -/
def loopsOf : Code → List Code
  | .seq a b => loopsOf a ++ loopsOf b
  | .cond _ a b => loopsOf a ++ loopsOf b
  | .block _ a => loopsOf a
  | .scope a => loopsOf a
  | .loop a => a :: loopsOf a
  | .rangeFunc _ _ a b => loopsOf a ++ loopsOf b
  | _ => []
def bodyOf (P : Program) (f : FuncId) : Code := match P.funcs[f]? with
  | some fn => fn.body.getD .skip
  | none => .skip
def ntOf (P : Program) (f : FuncId) : Nat := match P.funcs[f]? with
  | some fn => fn.ntmps
  | none => 0
def loopOf (P : Program) (f : FuncId) (i : Nat) : Code := (loopsOf (bodyOf P f)).getD i .skip
/-- A round of a loop of a function's. -/
abbrev rnd (P : Program) (f : FuncId) (i : Nat) : Run := evCode P O0 (ntOf P f) (fun _ _ _ => none) (loopOf P f i)

/-- Rounds: each asks q of its values; r tells the next ones, or how it ends. -/
inductive Its {V E : Type} (r : V → V ⊕ E) (q : V → Prop) : V → E → Prop
  | stop {v : V} {e : E} (h1 : q v) (h2 : r v = .inr e) : Its r q v e
  | go {v v' : V} {e : E} (h1 : q v) (h2 : r v = .inl v') (h3 : Its r q v' e) : Its r q v e
/-- What one round does. -/
def Round {V : Type} (f : Run) (ks kb kx bx : List Nat) (L : V → St) (v : V) : V ⊕ (Ex × St) → Prop
  | .inl v' => ∃ hs hs' ob st1, f hs (L v) = some (.normal, st1, hs', ob) ∧ AllP ob ∧ restrict ks kb st1 = some (L v')
  | .inr (ex, st2) => ∃ hs hs' ob st1, f hs (L v) = some (ex, st1, hs', ob) ∧ AllP ob ∧ isN ex = false ∧ restrict kx bx st1 = some st2
def fin (ks kb : List Nat) : Option (Ex × St × List Hint × List Prop) → Option (Ex × Option St × List Prop)
  | some (ex, st, _, ob) => some (ex, restrict ks kb st, ob)
  | none => none
theorem rnd_go {V : Type} {f : Run} {ks kb kx bx : List Nat} {L : V → St} {v v' : V} (hs : List Hint) {ob : List Prop} (h : fin ks kb (f hs (L v)) = some (.normal, some (L v'), ob)) (hob : AllP ob) : Round f ks kb kx bx L v (.inl v') := by
  unfold fin at h
  split at h
  · rename_i ex st1 hs' ob' hf
    simp only [Option.some.injEq, Prod.mk.injEq] at h
    obtain ⟨rfl, h2, rfl⟩ := h
    exact ⟨hs, hs', _, st1, hf, hob, h2⟩
  · cases h
theorem rnd_end {V : Type} {f : Run} {ks kb kx bx : List Nat} {L : V → St} {v : V} {ex : Ex} {st2 : St} (hs : List Hint) {ob : List Prop} (h : fin kx bx (f hs (L v)) = some (ex, some st2, ob)) (hex : isN ex = false) (hob : AllP ob) :
    Round f ks kb kx bx L v (.inr (ex, st2)) := by
  unfold fin at h
  split at h
  · rename_i ex st1 hs' ob' hf
    simp only [Option.some.injEq, Prod.mk.injEq] at h
    obtain ⟨rfl, h2, rfl⟩ := h
    exact ⟨hs, hs', _, st1, hf, hob, hex, h2⟩
  · cases h
theorem its_loop {V : Type} {f : Run} {ks kb kx bx : List Nat} {L : V → St} {r : V → V ⊕ (Ex × St)} {q : V → Prop} (hr : ∀ v, q v → Round f ks kb kx bx L v (r v)) {v : V} {e : Ex × St} (h : Its r q v e) :
    ∀ {st : St}, restrict ks kb st = some (L v) → LoopTo f ks kb kx bx st e.1 e.2 := by
  induction h with
  | stop h1 h2 =>
    intro st hs
    have := hr _ h1
    rw [h2] at this
    obtain ⟨hs', hs'', ob, st1, h3, h4, h5, h6⟩ := this
    exact .stop hs h3 h4 h5 h6
  | go h1 h2 _ ih =>
    intro st hs
    have := hr _ h1
    rw [h2] at this
    obtain ⟨hs', hs'', ob, st1, h3, h4, h5⟩ := this
    exact .go hs h3 h4 (ih h5)

theorem callOK_of {P : Program} (hmix : P.follows .mixedOrders = true) {f : FuncId} {args : List Comp} {outer : List Frm} {r : SVal} {outer' : List Frm} (hs : List Hint) {ob : List Prop}
    (h : evF P O0 0 f hs args outer = some (r, outer', ob)) (hob : AllP ob) : CallOK P f args outer r outer' := tells_ok (sound0 P) hmix ⟨0, hs, ob, h, hob⟩
end Go.Ev

namespace Go.Ev

/-! ### Variables that are made anew -/
def capsOff (ds : List Nat) : List (Nat × Nat × Nat) → Bool
  | [] => true
  | (k, s, _) :: r => (match k with | 0 => !natMem s ds | _ => true) && capsOff ds r
def letLeaf (ds : List Nat) (_ : Pos) (l : Leaf) : Leaf :=
  match l with
  | .ptr 0 s o => match natMem s ds with
    | true => .undef
    | false => .ptr 0 s o
  | .fn f fi ca => match capsOff ds fi && capsOff ds ca with
    | true => .fn f fi ca
    | false => .undef
  | l => l
def keysK {α : Type} : List (Nat × α) → List Nat
  | [] => []
  | (k, _) :: r => k :: keysK r
def minusN (ds : List Nat) : List Nat → List Nat
  | [] => []
  | x :: r => match natMem x ds with
    | true => minusN ds r
    | false => x :: minusN ds r
def anyIn (ds : List Nat) : List Nat → Bool
  | [] => false
  | x :: r => natMem x ds || anyIn ds r
def letgo (ds : List Nat) (st : St) : Option St :=
  match anyIn ds (keysK (st.boxes.headD [])) with
  | false => some st
  | true => restrict (keysK st.slots) (minusN ds (keysK (st.boxes.headD []))) (st.mp (letLeaf ds))

def allocs1 : List Oper → List Nat
  | [] => []
  | o :: r => match o.op, o.dst with
    | .alloc _, some d => d :: allocs1 r
    | .box _ _, some d => d :: allocs1 r
    | _, _ => allocs1 r
/-- The variables that a code makes. -/
def allocsOf : Code → List Nat
  | .region _ ops _ => allocs1 ops.toList
  | .seq a b => allocsOf a ++ allocsOf b
  | .cond _ a b => allocsOf a ++ allocsOf b
  | .block _ a => allocsOf a
  | .scope a => allocsOf a
  | .loop a => allocsOf a
  | _ => []

abbrev RunK := St → Option (Ex × St)
def loopK (ds : List Nat) (run : RunK) : Nat → RunK
  | 0, _ => none
  | n + 1, st =>
    match letgo ds st with
    | some st0 =>
      match run st0 with
      | some (.normal, st1) => loopK ds run n st1
      | r => r
    | none => none
def jumpsK (jump : Code → RunK) (b : Code) : Nat → Nat → RunK
  | 0, _, _ => none
  | n + 1, l, st =>
    match findLabel b l with
    | some rest =>
      match letgo (allocsOf rest) st with
      | some st0 =>
        match jump rest st0 with
        | some (.goto l', st1) => jumpsK jump b n l' st1
        | r => r
      | none => none
    | none => none

def evK (P : Program) (O : CallF) (nt : Nat) (jump : Code → RunK) : Code → RunK
  | .skip, st => some (.normal, st)
  | .label _, st => some (.normal, st)
  | .region _ ops draw, st =>
    match (match draw with | true => evDraw P O nt ops st [] | false => evSeq P O nt ops (List.range ops.size) st []) with
    | some (st1, _, []) => some (.normal, st1)
    | _ => none
  | .seq x y, st =>
    match evK P O nt jump x st with
    | some (.normal, st1) => evK P O nt jump y st1
    | r => r
  | .cond c x y, st =>
    match valOf (fetch st c) with
    | some (.bool true) => evK P O nt jump x st
    | some (.bool false) => evK P O nt jump y st
    | _ => none
  | .block id b, st =>
    match evK P O nt jump b st with
    | some (.exit i, st1) => some ((match Nat.beq i id with | true => .normal | false => .exit i), st1)
    | r => r
  | .loop b, st => loopK (allocsOf b) (evK P O nt jump b) 65536 st
  | .exit i, st => some (.exit i, st)
  | .goto l, st => some (.goto l, st)
  | .ret, st => some (.ret, st)
  | .scope b, st =>
    match evK P O nt jump b st with
    | some (.goto l, st1) => jumpsK jump b 65536 l st1
    | r => r
  | .rangeFunc _ _ _ _, _ => none
  | .refuse _, _ => none
def evKN (P : Program) (O : CallF) (nt : Nat) : Nat → Code → RunK
  | 0 => evK P O nt fun _ _ => none
  | n + 1 => evK P O nt (evKN P O nt n)

def evKF (P : Program) (O : CallF) (n : Nat) : CallF := fun f args outer =>
  match P.funcs[f]? with
  | some fn =>
    match fn.body with
    | some c =>
      match Nat.ble args.length fn.ntmps with
      | true =>
        match evKN P O fn.ntmps n c ⟨argSlots 0 args, [] :: outer⟩ with
        | some (ex, st) =>
          match isEnd ex with
          | true => match resultOf P st fn.results.toList with
            | some r => some (r, st.boxes.tail)
            | none => none
          | false => none
        | none => none
      | false => none
    | none => none
  | none => none
/-- Callees are known by what is proved of them, else entered. -/
def orc (P : Program) (B : CallF) : Nat → CallF
  | 0 => B
  | n + 1 => fun f args outer => match B f args outer with
    | some r => some r
    | none => evKF P (orc P B n) 2 f args outer

section
variable {P : Program} {O : CallF} {nt : Nat} {w w' : World} {g g' : Gh} {a : Act} {st : St}

theorem capsOff_rep {ds : List Nat} {l : List (Nat × Nat × Nat)} {vs : List Value} (h : RepCaps g l vs) : RepCaps g l vs := h

theorem Inv.letgo (I : Inv w g a st) {ds : List Nat} {st' : St} (h : Ev.letgo ds st = some st') : ∃ g', Inv w g' a st' ∧ Ext w g w g' := by
  unfold Ev.letgo at h
  split at h
  · cases h
    exact ⟨g, I, Ext.refl w g⟩
  · refine Inv.restrict (I.mp (fun q l v hl => ?_) (fun b k s h => ⟨h, rfl⟩) (fun b k s h => h) I.injO I.top) h
    cases l with
    | ptr k s o =>
      cases k with
      | zero =>
        simp only [letLeaf]
        split
        · trivial
        · exact hl
      | succ k => exact hl
    | fn f fi ca =>
      simp only [letLeaf]
      split
      · exact hl
      · trivial
    | _ => exact hl

def KOK (P : Program) (nt : Nat) (run : RunK) (c : Code) : Prop :=
  ∀ {st : St} {ex : Ex} {st' : St} {w : World} {g : Gh} {a : Act} {Q : Exit → Act → World → Prop}, Inv w g a st → a.tmps.size = nt →
    run st = some (ex, st') → (∀ w' g' a', Ext w g w' g' → Inv w' g' a' st' → a'.tmps.size = nt → Q (exOf ex) a' w') → c.wp P Q a w

theorem loopK_sound {run : RunK} {c : Code} (hc : KOK P nt run c) {ds : List Nat} : ∀ (n : Nat) {st : St} {ex : Ex} {st' : St} {w : World} {g : Gh} {a : Act} {Q : Exit → Act → World → Prop}, Inv w g a st → a.tmps.size = nt →
    loopK ds run n st = some (ex, st') → (∀ w' g' a', Ext w g w' g' → Inv w' g' a' st' → a'.tmps.size = nt → Q (exOf ex) a' w') → Code.rounds P c Q n a w
  | 0, st, ex, st', w, g, a, Q, I, hsz, h, k => by cases h
  | n + 1, st, ex, st', w, g, a, Q, I, hsz, h, k => by
    unfold loopK at h
    split at h
    · rename_i st0 h0
      obtain ⟨g0, I0, E0⟩ := I.letgo h0
      rw [rounds_succ]
      split at h
      · rename_i st1 h1
        refine hc I0 hsz h1 fun w2 g2 a2 E2 I2 hs2 => ?_
        exact loopK_sound hc n I2 hs2 h fun w3 g3 a3 E3 => k w3 g3 a3 ((E0.trans E2).trans E3)
      · rename_i hne
        refine hc I0 hsz h fun w2 g2 a2 E2 I2 hs2 => ?_
        have hq := k w2 g2 a2 (E0.trans E2) I2 hs2
        cases ex with
        | normal => exact absurd h (hne st')
        | exit i => exact hq
        | goto l => exact hq
        | ret => exact hq
    · cases h

theorem jumpsK_sound {jump : Code → RunK} (hj : ∀ c, KOK P nt (jump c) c) {b : Code} : ∀ (n : Nat) {l : Nat} {st : St} {ex : Ex} {st' : St} {w : World} {g : Gh} {a : Act} {Q : Exit → Act → World → Prop},
    Inv w g a st → a.tmps.size = nt → jumpsK jump b n l st = some (ex, st') → (∀ w' g' a', Ext w g w' g' → Inv w' g' a' st' → a'.tmps.size = nt → Q (exOf ex) a' w') →
    ∃ rest, findLabel b l = some rest ∧ srounds P b Q n rest a w
  | 0, _, _, _, _, _, _, _, _, _, _, h, _ => by cases h
  | n + 1, l, st, ex, st', w, g, a, Q, I, hsz, h, k => by
    unfold jumpsK at h
    split at h
    · rename_i rest hf
      refine ⟨rest, hf, ?_⟩
      split at h
      · rename_i st0 h0
        obtain ⟨g0, I0, E0⟩ := I.letgo h0
        split at h
        · rename_i l' st1 h1
          refine hj rest I0 hsz h1 fun w1 g1 a1 E1 I1 hs1 => ?_
          exact jumpsK_sound hj n I1 hs1 h fun w2 g2 a2 E2 => k w2 g2 a2 ((E0.trans E1).trans E2)
        · rename_i hne
          refine hj rest I0 hsz h fun w1 g1 a1 E1 I1 hs1 => ?_
          have hq := k w1 g1 a1 (E0.trans E1) I1 hs1
          cases ex with
          | goto l' => exact absurd h (hne l' st')
          | normal => exact hq
          | exit i => exact hq
          | ret => exact hq
      · cases h
    · cases h

theorem evK_sound (hO : SoundO P O) (hmix : P.follows .mixedOrders = true) {jump : Code → RunK} (hj : ∀ c, KOK P nt (jump c) c) : ∀ c, KOK P nt (evK P O nt jump c) c := by
  intro c
  induction c with
  | skip =>
    intro st ex st' w g a Q I hsz h k
    cases h
    exact wp_skip (k w g a (Ext.refl w g) I hsz)
  | label l =>
    intro st ex st' w g a Q I hsz h k
    cases h
    exact wp_label (k w g a (Ext.refl w g) I hsz)
  | region id ops draw =>
    intro st ex st' w g a Q I hsz h k
    unfold evK at h
    split at h
    · rename_i st1 hs1 h1
      cases h
      cases draw with
      | true => exact evDraw_sound hO hmix I hsz h1 trivial k
      | false => exact wp_region (evSeq_sound hO I hsz h1 trivial k)
    · cases h
  | seq x y ihx ihy =>
    intro st ex st' w g a Q I hsz h k
    unfold evK at h
    split at h
    · rename_i st1 h1
      refine wp_seq (ihx I hsz h1 fun w1 g1 a1 E1 I1 hs1 => ?_)
      exact ihy I1 hs1 h fun w2 g2 a2 E2 => k w2 g2 a2 (E1.trans E2)
    · rename_i hne
      refine wp_seq (ihx I hsz h fun w1 g1 a1 E1 I1 hs1 => ?_)
      have hq := k w1 g1 a1 E1 I1 hs1
      cases ex with
      | normal => exact absurd h (hne st')
      | goto l' => exact hq
      | exit i => exact hq
      | ret => exact hq
  | cond c x y ihx ihy =>
    intro st ex st' w g a Q I hsz h k
    unfold evK at h
    split at h
    · rename_i hv
      exact wp_cond_true (valOf_eq ((I.fetchF c).toS (t := 0)) hv : a.eval c = _) (ihx I hsz h k)
    · rename_i hv
      exact wp_cond_false (valOf_eq ((I.fetchF c).toS (t := 0)) hv : a.eval c = _) (ihy I hsz h k)
    · cases h
  | block id b ih =>
    intro st ex st' w g a Q I hsz h k
    unfold evK at h
    split at h
    · rename_i i st1 h1
      cases h
      refine wp_block (ih I hsz h1 fun w1 g1 a1 E1 I1 hs1 => ?_)
      have hq := k w1 g1 a1 E1 I1 hs1
      simp only [exOf, Exit.inBlock]
      split
      · rename_i e
        subst e
        simpa [exOf] using hq
      · rename_i e
        rw [show Nat.beq i id = false by cases hb : Nat.beq i id with | false => rfl | true => exact absurd (Nat.eq_of_beq_eq_true hb) e] at hq
        exact hq
    · rename_i hne
      refine wp_block (ih I hsz h fun w1 g1 a1 E1 I1 hs1 => ?_)
      have hq := k w1 g1 a1 E1 I1 hs1
      cases ex with
      | normal => exact hq
      | goto l' => exact hq
      | exit i => exact absurd h (hne i st')
      | ret => exact hq
  | loop b ih =>
    intro st ex st' w g a Q I hsz h k
    unfold evK at h
    exact wp_loop_rounds _ (loopK_sound ih _ I hsz h k)
  | rangeFunc f ps x y _ _ =>
    intro st ex st' w g a Q I hsz h k
    cases h
  | exit i =>
    intro st ex st' w g a Q I hsz h k
    cases h
    exact wp_exit (k w g a (Ext.refl w g) I hsz)
  | scope b ih =>
    intro st ex st' w g a Q I hsz h k
    unfold evK at h
    split at h
    · rename_i l st1 h1
      refine wp_scope_rounds 65537 (ih I hsz h1 fun w1 g1 a1 E1 I1 hs1 => ?_)
      exact jumpsK_sound hj _ I1 hs1 h fun w2 g2 a2 E2 => k w2 g2 a2 (E1.trans E2)
    · rename_i hne
      refine wp_scope_rounds 0 (ih I hsz h fun w1 g1 a1 E1 I1 hs1 => ?_)
      have hq := k w1 g1 a1 E1 I1 hs1
      cases ex with
      | normal => exact hq
      | goto l' => exact absurd h (hne l' st')
      | exit i => exact hq
      | ret => exact hq
  | goto l =>
    intro st ex st' w g a Q I hsz h k
    cases h
    exact wp_goto (k w g a (Ext.refl w g) I hsz)
  | ret =>
    intro st ex st' w g a Q I hsz h k
    cases h
    exact wp_ret (k w g a (Ext.refl w g) I hsz)
  | refuse s =>
    intro st ex st' w g a Q I hsz h k
    cases h

theorem evKN_sound (hO : SoundO P O) (hmix : P.follows .mixedOrders = true) : ∀ n c, KOK P nt (evKN P O nt n c) c
  | 0, c => evK_sound hO hmix (fun c {st ex st' w g a Q} _ _ h => by cases h) c
  | n + 1, c => evK_sound hO hmix (evKN_sound hO hmix n) c

theorem evKF_sound (hO : SoundO P O) (hmix : P.follows .mixedOrders = true) (n : Nat) : SoundO P (evKF P O n) := by
  intro f args outer r outer' h
  intro w g vals fn hfn hvs I
  unfold evKF at h
  rw [hfn] at h
  simp only [] at h
  split at h
  · rename_i c hb
    split at h
    · rename_i hle
      split at h
      · rename_i ex st h1
        split at h
        · rename_i hex
          split at h
          · rename_i r' hr
            cases h
            refine calls_of_wp hfn hb (evKN_sound hO hmix n c I ?_ h1 fun w' g' a' E I' hsz => ?_)
            · have := Nat.le_of_ble_eq_true hle
              simp only [Array.size_append, Array.size_replicate]
              omega
            · obtain ⟨v, h2, h3⟩ := resultOf_sound I' hr
              cases ex with
              | normal => exact ⟨I'.defers, v, h2, v, g', a', st, rfl, E, h3, I', rfl⟩
              | ret => exact ⟨I'.defers, v, h2, v, g', a', st, rfl, E, h3, I', rfl⟩
              | exit i => cases hex
              | goto l => cases hex
          · cases h
        · cases h
      · cases h
    · cases h
  · cases h

theorem orc_sound {B : CallF} (hB : SoundO P B) (hmix : P.follows .mixedOrders = true) : ∀ n, SoundO P (orc P B n)
  | 0 => hB
  | n + 1 => by
    intro f args outer r outer' h
    unfold orc at h
    split at h
    · rename_i x hx
      cases h
      exact hB _ _ _ _ _ hx
    · exact evKF_sound (orc_sound hB hmix n) hmix 2 _ _ _ _ _ h

/-- What a run to the end shows. -/
theorem callOK_run {B : CallF} (hB : SoundO P B) (hmix : P.follows .mixedOrders = true) (n : Nat) {f : FuncId} {args : List Comp} {outer : List Frm} {r : SVal} {outer' : List Frm} (h : orc P B n f args outer = some (r, outer')) :
    CallOK P f args outer r outer' := orc_sound hB hmix n _ _ _ _ _ h
end
end Go.Ev

namespace Go.Ev

section
variable {P : Program} {w w' : World} {g g' : Gh} {a : Act} {st : St}

/-- One slot reads otherwise, too. -/
theorem Inv.reslot {c c' : Comp} {bx : List Frm} {a : Act} (I : Inv w g a ⟨argSlots 0 [c], bx⟩) (h : ∀ v, RepComp w g (.slot 0 0) c v → RepComp w g (.slot 0 0) c' v) : Inv w g a ⟨argSlots 0 [c'], bx⟩ where
  slots t s hs := by
    simp only [argSlots, look] at hs
    split at hs
    · rename_i e
      subst e
      cases hs
      obtain ⟨h1, h2⟩ := I.slots 0 (.val c) (by simp [argSlots, look])
      exact ⟨h1, h _ h2⟩
    · cases hs
  boxes := I.boxes
  injB := I.injB
  injO := I.injO
  top := I.top
  tagB := I.tagB
  defers := I.defers

theorem callOK_empty {f : FuncId} {n : Nat} {outer outer' : List Frm} {r : SVal} (h1 : CallOK P f [sc .nilS] outer r outer') (h2 : CallOK P f [sc .emp] outer r outer') : CallOK P f [sc (dr n [])] outer r outer' := by
  intro w g vals fn hfn hvs I
  obtain ⟨_, l, hl, hr⟩ := I.slots 0 (.val (sc (dr n []))) (by simp [argSlots, look])
  simp only [List.cons.injEq, and_true] at hl
  subst hl
  rw [RepLeaf, RepPV] at hr
  obtain ⟨A, c, hv, _, hc, _⟩ := hr
  cases A with
  | none =>
    obtain rfl := hc rfl
    refine h1 w g vals fn hfn (by simpa using hvs) ⟨fun t s hs => ?_, I.boxes, I.injB, I.injO, I.top, I.tagB, I.defers⟩
    simp only [argSlots, look] at hs
    split at hs
    · rename_i e
      subst e
      cases hs
      exact ⟨(I.slots 0 (.val (sc (dr n []))) (by simp [argSlots, look])).1, _, rfl, hv⟩
    · cases hs
  | some ad =>
    refine h2 w g vals fn hfn (by simpa using hvs) ⟨fun t s hs => ?_, I.boxes, I.injB, I.injO, I.top, I.tagB, I.defers⟩
    simp only [argSlots, look] at hs
    split at hs
    · rename_i e
      subst e
      cases hs
      exact ⟨(I.slots 0 (.val (sc (dr n []))) (by simp [argSlots, look])).1, _, rfl, ad, c, hv⟩
    · cases hs

abbrev cloneR (n : Nat) (xs : List (List PV)) : SVal := .val (sc (.al .tip (.slot 2 0 0) n xs))
def CloneOK (P : Program) (f n k : Nat) : Prop := ∀ xs : List (List PV), xs.length * k ≤ 140737488355328 → xs.length ≤ 9223372036854775807 → CallOK P f [sc (dr n xs)] [] (cloneR n xs) []

theorem clone_ok {f n k d : Nat} (hmix : P.follows .mixedOrders = true) (h1 : evKF P O0 0 f [sc .nilS] [] = some (cloneR n [], [])) (h2 : evKF P O0 0 f [sc .emp] [] = some (cloneR n [], []))
    (h3 : ∀ x r, evF P O0 0 f [.t d []] [sc (dr n (x :: r))] [] = some (cloneR n ([] ++ (x :: r)), [], [(([] : List (List PV)).length + (x :: r).length) * k ≤ 140737488355328, ([] : List (List PV)).length + (x :: r).length ≤ 9223372036854775807])) : CloneOK P f n k := by
  intro xs hk hl
  cases xs with
  | nil => exact callOK_empty (evKF_sound (sound0 P) hmix 0 _ _ _ _ _ h1) (evKF_sound (sound0 P) hmix 0 _ _ _ _ _ h2)
  | cons x r => exact callOK_of hmix _ (h3 x r) ⟨by simpa using hk, by simpa using hl, trivial⟩

/-- What is proved of copies, as an oracle. -/
def cloneB (ids : List (Nat × (Nat × Nat))) : CallF := fun f args outer =>
  match look ids f with
  | some (n, k) =>
    match args, outer with
    | [⟨false, [.d (.sl m xs)]⟩], [] =>
      match Nat.beq m n && Nat.ble (xs.length * k) 140737488355328 && Nat.ble xs.length 9223372036854775807 with
      | true => some (cloneR n xs, [])
      | false => none
    | _, _ => none
  | none => none
def CloneAll (P : Program) : List (Nat × (Nat × Nat)) → Prop
  | [] => True
  | (f, n, k) :: r => CloneOK P f n k ∧ CloneAll P r
theorem cloneAll_look : ∀ {ids : List (Nat × (Nat × Nat))} {f n k : Nat}, CloneAll P ids → look ids f = some (n, k) → CloneOK P f n k
  | [], _, _, _, _, h => by cases h
  | (f', n', k') :: r, f, n, k, h, hl => by
    simp only [look] at hl
    split at hl
    · rename_i e
      subst e
      cases hl
      exact h.1
    · exact cloneAll_look h.2 hl
theorem cloneB_sound {ids : List (Nat × (Nat × Nat))} (h : CloneAll P ids) : SoundO P (cloneB ids) := by
  intro f args outer r outer' hb
  unfold cloneB at hb
  split at hb
  · rename_i n k hl
    split at hb
    · rename_i m xs
      split at hb
      · rename_i hc
        cases hb
        simp only [Bool.and_eq_true] at hc
        obtain rfl := Nat.eq_of_beq_eq_true hc.1.1
        exact cloneAll_look h hl xs (Nat.le_of_ble_eq_true hc.1.2) (Nat.le_of_ble_eq_true hc.2)
      · cases hb
    · cases hb
  · cases hb
end
end Go.Ev

namespace Go.Ev

def beqV : Value → Value → Bool
  | .int k a, .int k' b => decide (k = k') && decide (a = b)
  | .bool a, .bool b => match a, b with
    | true, true => true
    | false, false => true
    | _, _ => false
  | .string a, .string b => decide (a = b)
  | _, _ => false
mutual
def beqPV : PV → PV → Bool
  | .v x, .v y => beqV x y
  | .sl n xs, .sl m ys => Nat.beq n m && beqRow xs ys
  | _, _ => false
def beqRow : List (List PV) → List (List PV) → Bool
  | [], [] => true
  | x :: r, y :: s => beqPVs x y && beqRow r s
  | _, _ => false
def beqPVs : List PV → List PV → Bool
  | [], [] => true
  | x :: r, y :: s => beqPV x y && beqPVs r s
  | _, _ => false
end
def beqLeaf : Leaf → Leaf → Bool
  | .d x, .d y => beqPV x y
  | .row .tip n xs, .row .tip m ys => Nat.beq n m && beqRow xs ys
  | .fn f [] [], .fn f' [] [] => Nat.beq f f'
  | _, _ => false
def beqLs : List Leaf → List Leaf → Bool
  | [], [] => true
  | x :: r, y :: s => beqLeaf x y && beqLs r s
  | _, _ => false
def beqB : Bool → Bool → Bool
  | true, true => true
  | false, false => true
  | _, _ => false
def beqComps : List Comp → List Comp → Bool
  | [], [] => true
  | x :: r, y :: s => beqB x.agg y.agg && beqLs x.ls y.ls && beqComps r s
  | _, _ => false

theorem beqV_eq {x y : Value} (h : beqV x y = true) : x = y := by
  unfold beqV at h
  split at h
  · simp only [Bool.and_eq_true, decide_eq_true_eq] at h
    rw [h.1, h.2]
  · split at h <;> first | rfl | cases h
  · simp only [decide_eq_true_eq] at h
    rw [h]
  · cases h
mutual
theorem beqPV_eq : ∀ {x y : PV}, beqPV x y = true → x = y
  | .v x, .v y, h => by rw [beqPV] at h; rw [beqV_eq h]
  | .sl n xs, .sl m ys, h => by
    rw [beqPV, Bool.and_eq_true] at h
    rw [Nat.eq_of_beq_eq_true h.1, beqRow_eq h.2]
  | .v _, .sl _ _, h => by simp [beqPV] at h
  | .sl _ _, .v _, h => by simp [beqPV] at h
theorem beqRow_eq : ∀ {x y : List (List PV)}, beqRow x y = true → x = y
  | [], [], _ => rfl
  | x :: r, y :: s, h => by
    rw [beqRow, Bool.and_eq_true] at h
    rw [beqPVs_eq h.1, beqRow_eq h.2]
  | [], _ :: _, h => by simp [beqRow] at h
  | _ :: _, [], h => by simp [beqRow] at h
theorem beqPVs_eq : ∀ {x y : List PV}, beqPVs x y = true → x = y
  | [], [], _ => rfl
  | x :: r, y :: s, h => by
    rw [beqPVs, Bool.and_eq_true] at h
    rw [beqPV_eq h.1, beqPVs_eq h.2]
  | [], _ :: _, h => by simp [beqPVs] at h
  | _ :: _, [], h => by simp [beqPVs] at h
end
theorem beqLeaf_eq {x y : Leaf} (h : beqLeaf x y = true) : x = y := by
  unfold beqLeaf at h
  split at h
  · rw [beqPV_eq h]
  · rw [Bool.and_eq_true] at h
    rw [Nat.eq_of_beq_eq_true h.1, beqRow_eq h.2]
  · rw [Nat.eq_of_beq_eq_true h]
  · cases h
theorem beqLs_eq : ∀ {x y : List Leaf}, beqLs x y = true → x = y
  | [], [], _ => rfl
  | x :: r, y :: s, h => by
    rw [beqLs, Bool.and_eq_true] at h
    rw [beqLeaf_eq h.1, beqLs_eq h.2]
  | [], _ :: _, h => by simp [beqLs] at h
  | _ :: _, [], h => by simp [beqLs] at h
theorem beqB_eq {x y : Bool} (h : beqB x y = true) : x = y := by cases x <;> cases y <;> first | rfl | cases h
theorem beqComps_eq : ∀ {x y : List Comp}, beqComps x y = true → x = y
  | [], [], _ => rfl
  | ⟨a, l⟩ :: r, ⟨b, m⟩ :: s, h => by
    rw [beqComps, Bool.and_eq_true, Bool.and_eq_true] at h
    obtain ⟨⟨h1, h2⟩, h3⟩ := h
    obtain rfl := beqB_eq h1
    obtain rfl := beqLs_eq h2
    rw [beqComps_eq h3]
  | [], _ :: _, h => by simp [beqComps] at h
  | _ :: _, [], h => by simp [beqComps] at h

structure Memo where
  f : Nat
  args : List Comp
  res : SVal
def memoB (B : CallF) : List Memo → CallF
  | [] => B
  | m :: r => fun f args outer =>
    match Nat.beq m.f f, outer with
    | true, [] => match beqComps m.args args with
      | true => some (m.res, [])
      | false => memoB B r f args outer
    | _, _ => memoB B r f args outer
def MemoAll (P : Program) : List Memo → Prop
  | [] => True
  | m :: r => CallOK P m.f m.args [] m.res [] ∧ MemoAll P r
theorem memoB_sound {P : Program} {B : CallF} (hB : SoundO P B) : ∀ {l : List Memo}, MemoAll P l → SoundO P (memoB B l)
  | [], _ => hB
  | m :: r, h => by
    intro f args outer res outer' hm
    unfold memoB at hm
    split at hm
    · rename_i hf
      split at hm
      · rename_i ha
        cases hm
        obtain rfl := Nat.eq_of_beq_eq_true hf
        obtain rfl := beqComps_eq ha
        exact h.1
      · exact memoB_sound hB h.2 _ _ _ _ _ hm
    · exact memoB_sound hB h.2 _ _ _ _ _ hm
end Go.Ev

namespace Go.Ev

/-- All that is there may be seen. -/
def topG (w : World) : Gh where
  own b := if b < w.heap.size then .imm else .free
  fr b := match w.heap[b]? with
    | some (.cells cs _ _) => cs.size
    | _ => 0

theorem top_grown {w w' : World} {g' : Gh} (E : Ext w (topG w) w' g') : RowKit.Grown w w' := by
  refine ⟨⟨E.os, E.output, fun i hi => ?_⟩, E.frz, E.size⟩
  rw [(E.imm i (.inl (by simp [topG, hi]))).1]
  exact (World.keptBut_refl w (fun _ => False)).2.2 i hi

theorem inG_top (w : World) : inG false [] (topG w) = topG w := by
  unfold inG topG
  simp only [Gh.mk.injEq, and_true]
  funext b
  split <;> rfl

theorem top_inv {w : World} {cs : List Comp} {vals : Array Value} (h : RepArgs w (topG w) 0 cs vals.toList) (n : Nat) :
    Inv w (topG w) ⟨vals ++ Array.replicate n Go.undef, []⟩ ⟨argSlots 0 cs, [[]]⟩ := by
  have I0 : Inv w (topG w) ⟨#[], []⟩ ⟨[], []⟩ := by
    constructor
    · intro t s hs; cases hs
    · intro k f s ls h1 h2; simp at h1
    · intro b b' k s hb
      simp only [topG] at hb
      split at hb <;> cases hb
    · intro b b' p hb
      simp only [topG] at hb
      split at hb <;> cases hb
    · intro b hb
      simp only [topG]
      rw [if_neg (by omega)]
    · intro b k s hb
      simp only [topG] at hb
      split at hb <;> cases hb
    · rfl
  have := entry_inv (pass := false) (D := []) I0 (by intro p q h; cases h) (by rw [inG_top]; exact h) n
  rw [inG_top] at this
  exact this

/-- A call whose result is a scalar. -/
theorem top_call {P : Program} {f : FuncId} {fn : Func} {cs : List Comp} {vals : Array Value} {x : Value} (hk : CallOK P f cs [] (.val (sc (.d (.v x)))) []) (hfn : P.funcs[f]? = some fn) (w : World)
    (h : RepArgs w (topG w) 0 cs vals.toList) : Calls P f vals w fun e w' => e = .returned x ∧ RowKit.Grown w w' := by
  refine (hk w (topG w) vals fn hfn (by simpa using h.length'.symm) (top_inv h _)).mono ?_
  rintro e w' ⟨v, g', a', st', rfl, E, hrep, _, _⟩
  obtain ⟨l, hl, hr⟩ := hrep (.slot 0 0)
  simp only [List.cons.injEq, and_true] at hl
  subst hl
  exact ⟨by rw [hr.1], top_grown E⟩

theorem rep_scal {w : World} {g : Gh} {mk : Nat → Pos} {x : Value} (h : scal x = true) : RepComp w g mk (sc (.d (.v x))) x := ⟨_, rfl, rfl, h⟩
end Go.Ev
