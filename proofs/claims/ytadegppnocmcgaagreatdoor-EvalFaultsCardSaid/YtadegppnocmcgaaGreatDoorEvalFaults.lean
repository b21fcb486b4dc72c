/- The tied card of the law EvalFaults: for every input it tells true; no condition beyond the card's own. -/
import Derived.Test.YtadegppnocmcgaaGreatDoorRow
import Derived.Test.YtadegppnocmcgaaGreatDoorFb
import Derived.Test.YtadegppnocmcgaaGreatDoorEv3
set_option linter.unusedVariables false
namespace Go.Ev
theorem errs_at (x : Int) (h0 : 0 ≤ x) (h1 : x ≤ 255) : 0 ≤ IntKind.i64.wrap (x.tmod 7) ∧ ∃ e, errs7[(IntKind.i64.wrap (x.tmod 7)).toNat]? = some [pi64 e] := by
  rw [Int.tmod_eq_emod_of_nonneg h0]
  have h2 : 0 ≤ x % 7 ∧ x % 7 < 7 := by omega
  have hw : IntKind.i64.wrap (x % 7) = x % 7 := IntWalk.i64_in _ (by omega)
  rw [hw]
  refine ⟨h2.1, ?_⟩
  generalize x % 7 = r at h2
  obtain ⟨h3, h4⟩ := h2
  have h5 : r = 0 ∨ r = 1 ∨ r = 2 ∨ r = 3 ∨ r = 4 ∨ r = 5 ∨ r = 6 := by omega
  rcases h5 with rfl | rfl | rfl | rfl | rfl | rfl | rfl <;> exact ⟨_, rfl⟩
theorem op_at (x : Int) (h0 : 0 ≤ x) (h1 : x ≤ 255) : IntKind.i64.wrap (1 + IntKind.i64.wrap (x.tmod 3)) = 1 ∨ IntKind.i64.wrap (1 + IntKind.i64.wrap (x.tmod 3)) = 2 ∨ IntKind.i64.wrap (1 + IntKind.i64.wrap (x.tmod 3)) = 3 := by
  rw [Int.tmod_eq_emod_of_nonneg h0]
  have hw : IntKind.i64.wrap (x % 3) = x % 3 := IntWalk.i64_in _ (by omega)
  rw [hw]
  have hw2 : IntKind.i64.wrap (1 + x % 3) = 1 + x % 3 := IntWalk.i64_in _ (by omega)
  rw [hw2]
  omega
theorem faults_all (a b op : Int) (ha : 0 ≤ a ∧ a ≤ 255) (hb : 0 ≤ b ∧ b ≤ 255) (ho : 0 ≤ op ∧ op ≤ 255) :
    CallOK PG f_cashbooklaw15_EvalFaults [sc (u8 a), sc (u8 b), sc (u8 op)] [] (.val (sc (bo true))) [] := by
  obtain ⟨h1, e1, h2⟩ := errs_at a ha.1 ha.2
  obtain ⟨h3, e2, h4⟩ := errs_at b hb.1 hb.2
  exact faults_ev a b op e1 e2 _ h1 h2 h3 h4 rfl (op_at op ho.1 ho.2)
end Go.Ev
namespace Go.Proofs.YtadegppnocmcgaaGreatDoor.evalFaults
open Go.ChangeShapes Go.WideShapes Go.ChangeAt Go.RowKit Go.Ev
set_option linter.unusedVariables false
theorem u8_range {a : Int} (h : (Lit.int .u8 a).wf = true) : 0 ≤ a ∧ a ≤ 255 := by
  have h1 : (decide (IntKind.u8.min ≤ a) && decide (a ≤ IntKind.u8.max)) = true := h
  simp only [Bool.and_eq_true, decide_eq_true_eq] at h1
  have e1 : IntKind.u8.min = 0 := rfl
  have e2 : IntKind.u8.max = 255 := rfl
  omega
theorem walk (a0 : Int) (a1 : Int) (a2 : Int) (w0 : (Lit.int .u8 a0).wf = true) (w1 : (Lit.int .u8 a1).wf = true) (w2 : (Lit.int .u8 a2).wf = true) (w : World) :
    Calls Tryz.prog 7 #[.int .u8 a0, .int .u8 a1, .int .u8 a2] w fun e w' => e = .returned (.bool true) ∧ Grown w w' :=
  top_call (x := .bool true) (faults_all a0 a1 a2 (u8_range w0) (u8_range w1) (u8_range w2)) Tryz.func7 w ⟨rep_scal rfl, rep_scal rfl, rep_scal rfl, trivial⟩
set_option maxRecDepth 100000 in
theorem lifted (os : Os) (started : os.Started) (H : Type) (enc : TypeId × Value → H) :
    ReturnsInHanded {} Tryz.checked os 7 .any (fun w args => (Rows.evalFaultsSpec.pre enc Tryz.prog Tryz.f7 [] false w args ∧ laidMetH Tryz.prog Rows.evalFaultsRow.laid w) ∧ sizedMet enc Tryz.prog Tryz.f7 (OpenSpec.ofChange Rows.evalFaultsSpec) false w args)
      (Rows.evalFaultsSpec.post enc Tryz.prog Tryz.f7 false true false false) := by
  refine returnsInHanded_of_change_and (C := Tryz.checked) (X := fun w _ => laidMetH Tryz.prog Rows.evalFaultsRow.laid w) (fun _ _ _ hh h => h.of_heap hh) own started (by kernel_rfl) Tryz.func7
    (ChangeSpec.witness_shaped (enc := enc) (C := Tryz.checked) (os := os) (X := fun w _ => laidMetH Tryz.prog Rows.evalFaultsRow.laid w) false (start0 os) #[.int .u8 0, .int .u8 0, .int .u8 0] 8 rfl (start_shaped os _) (by kernel_rfl) (by kernel_rfl) (by kernel_rfl) (start_met os _)) ?_
  intro W base args ds gs before hval0 hW _ _ hL _
  have hval : ∀ (j : Nat) t v, Tryz.f7.params[j]? = some t → args[j]? = some v → Value.okWide Tryz.prog W .any base t v := hval0
  have hW' := hW
  obtain ⟨p, q, hA0, hV, rfl, hfz, hnd⟩ := hW
  have hA : DataW.TrodAll enc Tryz.prog W 0 (fun _ => true) true Tryz.f7.params.toList args.toList ds p := hA0
  rw [Tryz.params7] at hA hval
  obtain ⟨v0, vs0, d0, ds0, p0, q0, hargs, rfl, rfl, h0, r0⟩ := trodAll_cons hA
  obtain ⟨v1, vs1, d1, ds1, p1, q1, rfl, rfl, rfl, h1, r1⟩ := trodAll_cons r0
  obtain ⟨v2, vs2, d2, ds2, p2, q2, rfl, rfl, rfl, h2, r2⟩ := trodAll_cons r1
  obtain ⟨rfl, rfl, rfl⟩ := trodAll_nil r2
  obtain rfl : args = #[v0, v1, v2] := by cases args; simp_all
  obtain ⟨rfl, rfl⟩ := trodVars_none hV
  obtain ⟨a0, rfl, rfl, rfl, w0⟩ := open_int Tryz.underlying5 (hval 0 5 v0 rfl rfl) h0
  obtain ⟨a1, rfl, rfl, rfl, w1⟩ := open_int Tryz.underlying5 (hval 1 5 v1 rfl rfl) h1
  obtain ⟨a2, rfl, rfl, rfl, w2⟩ := open_int Tryz.underlying5 (hval 2 5 v2 rfl rfl) h2
  clear hA0 hval0
  simp only [List.append_nil] at hW'
  refine (walk a0 a1 a2 w0 w1 w2 W).mono fun e W' ⟨he, hg⟩ => ?_
  subst he
  exact ⟨_, rfl, post_of_same (pa := []) (pv := []) hW' (fun _ _ _ => (trodAll_cons_mk (shut_bool Tryz.underlying4 _) trodAll_mk0)) (fun sp _ => (trodAll_cons_mk (shut_int Tryz.underlying5 w0) (trodAll_cons_mk (shut_int Tryz.underlying5 w1) (trodAll_cons_mk (shut_int Tryz.underlying5 w2) trodAll_mk0)))) (fun _ _ => rfl) rfl
    (hg.frame _) hg.2.1 (ok_one (by kernel_rfl) rfl (okWide_bool_mk Tryz.underlying4 _))⟩

theorem over : Rows.EvalFaultsSaid :=
  OpenClaim.holds_of_wide 7 Tryz.f7 rfl rfl rfl rfl rfl rfl rfl ⟨rfl, rfl, rfl, rfl, rfl⟩ rfl rfl rfl rfl rfl (by kernel_rfl) Tryz.func7 (by kernel_rfl)
    (of_decide_eq_true (by kernel_rfl)) (by unfold Func.isWrapper; first | (rw [if_pos (by decide +kernel)]; kernel_rfl) | (rw [if_neg (by decide +kernel)]; exact ⟨rfl, rfl⟩))
    (fun os started H enc _ => lifted os started H enc)

/-- The statement. -/
theorem evalFaults_holds : Rows.EvalFaultsCardSaid :=
  Claim7.holds_tied_plain_at .later [] [.data, .data, .data, .data, .pinned] true (true, "3ab7f190d40ce05f461bb41e3ab0af37e34b29a8334aa2d0c7af581e086ae3ba") false
    over (fun _ h => by cases h) (by kernel_rfl) (fun _ h => by cases h) evalFaults_row_tie rfl ⟨rfl, rfl⟩ (by kernel_rfl) rfl
    (fun f fn hf hfn => by
      obtain rfl : f = 7 := Option.some.inj ((show Tryz.prog.funcNamed "cashbook/cashbooklaw15.EvalFaults" = some 7 by kernel_rfl).symm.trans hf) |>.symm
      obtain rfl : fn = Tryz.f7 := (Option.some.inj (Tryz.func7.symm.trans hfn)).symm
      exact ⟨by kernel_rfl, fun j t ht => by
        rw [Tryz.params7] at ht
        have h3 : t = 5 := by
          rcases j with _ | _ | _ | j
          · simpa using ht.symm
          · simpa using ht.symm
          · simpa using ht.symm
          · simp at ht
        subst h3
        exact (show Tryz.prog.wantsStandIn 5 = false by kernel_rfl)⟩)
    (by kernel_rfl)
#print axioms evalFaults_holds
end Go.Proofs.YtadegppnocmcgaaGreatDoor.evalFaults
