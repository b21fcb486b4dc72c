/- What eval.Eval tells of signs between two errors' values, of IFERROR and ISERROR; no condition. -/
import Derived.Test.YtadegppnocmcgaaGreatDoorKn
namespace Go.Ev
set_option maxRecDepth 1000000
set_option linter.unusedVariables false
/-- No text. -/
abbrev e0 : ByteArray := bs []
/-- A value's cells. -/
abbrev vF (e : Int) : Comp := ag [i64 4, i64 0, i64 0, tx e0, bo false, i64 e]
abbrev vN (n : Int) : Comp := ag [i64 1, i64 n, i64 0, tx e0, bo false, i64 0]
/-- A constant's. -/
abbrev xF (e : Int) : Comp := ag [i64 1, i64 4, i64 0, i64 0, tx e0, bo false, i64 e, i64 0, i64 0, bo false, bo false, i64 0, i64 0, bo false, bo false, i64 0, i64 0, dr 18 []]
abbrev pF (e : Int) : List PV := [pi64 1, pi64 4, pi64 0, pi64 0, ptx e0, pbo false, pi64 e, pi64 0, pi64 0, pbo false, pbo false, pi64 0, pi64 0, pbo false, pbo false, pi64 0, pi64 0, .sl 18 []]
abbrev xN (n : Int) : Comp := ag [i64 1, i64 1, i64 n, i64 0, tx e0, bo false, i64 0, i64 0, i64 0, bo false, bo false, i64 0, i64 0, bo false, bo false, i64 0, i64 0, dr 18 []]
abbrev pN (n : Int) : List PV := [pi64 1, pi64 1, pi64 n, pi64 0, ptx e0, pbo false, pi64 0, pi64 0, pi64 0, pbo false, pbo false, pi64 0, pi64 0, pbo false, pbo false, pi64 0, pi64 0, .sl 18 []]
abbrev xK (kind op : Int) (l : List (List PV)) : Comp := ag [i64 kind, i64 0, i64 0, i64 0, tx e0, bo false, i64 0, i64 0, i64 0, bo false, bo false, i64 0, i64 0, bo false, bo false, i64 0, i64 op, dr 18 l]
abbrev pK (kind op : Int) (l : List (List PV)) : List PV := [pi64 kind, pi64 0, pi64 0, pi64 0, ptx e0, pbo false, pi64 0, pi64 0, pi64 0, pbo false, pbo false, pi64 0, pi64 0, pbo false, pbo false, pi64 0, pi64 op, .sl 18 l]
abbrev env1 : Comp := ag [i64 1, dr 9 [], dr 18 []]
abbrev at0 : Comp := ag [i64 0, i64 0, i64 0]

theorem k_val_Fault (e : Int) : CallOK PG f_val_Fault [sc (i64 e)] [] (.val (vF e)) [] := callOK_run (sound0 PG) mix 2 (by kernel_rfl)
theorem k_cashbooklaw14_P : CallOK PG f_cashbooklaw14_P [sc (i64 0), sc (i64 0), sc (i64 0)] [] (.val at0) [] := callOK_run (sound0 PG) mix 4 (by kernel_rfl)
theorem k_cashbooklaw9_N (n : Int) : CallOK PG f_cashbooklaw9_N [sc (i64 n)] [] (.val (vN n)) [] := callOK_run (sound0 PG) mix 4 (by kernel_rfl)
abbrev xN' (n : Int) : Comp := ag [i64 1, i64 1, i64 n, i64 0, tx e0, bo false, i64 0, i64 0, i64 0, bo false, bo false, i64 0, i64 0, bo false, bo false, i64 0, i64 0, .al .tip (.box 0 2 17) 18 []]
abbrev xK' (kind op : Int) (l : List (List PV)) : Comp := ag [i64 kind, i64 0, i64 0, i64 0, tx e0, bo false, i64 0, i64 0, i64 0, bo false, bo false, i64 0, i64 0, bo false, bo false, i64 0, i64 op, .al .tip (.box 0 6 17) 18 l]
theorem k_cashbooklaw10_Num (n : Int) : CallOK PG f_cashbooklaw10_Num [sc (i64 n)] [] (.val (xN' n)) [] := callOK_run (sound0 PG) mix 4 (by kernel_rfl)
theorem k_cashbooklaw10_Bin (k e1 e2 : Int) : CallOK PG f_cashbooklaw10_Bin [sc (i64 k), xF e1, xF e2] [] (.val (xK' 8 k [pF e1, pF e2])) [] := callOK_of mix [] (by kernel_rfl) nl
theorem k_cashbooklaw10_Bina (k n e2 : Int) : CallOK PG f_cashbooklaw10_Bin [sc (i64 k), xN n, xF e2] [] (.val (xK' 8 k [pN n, pF e2])) [] := callOK_of mix [] (by kernel_rfl) nl
theorem k_cashbooklaw10_Call (op : Int) (l : List (List PV)) : CallOK PG f_cashbooklaw10_Call [sc (i64 op), sc (dr 18 l)] [] (.val (xK 9 op l)) [] := callOK_of mix [] (by kernel_rfl) nl
theorem k_cashbooklaw15_known : CallOK PG f_cashbooklaw15_known [] [] (.val (sc (bo true))) [] := kn_m13
/-- A sign between two errors tells the left one. -/
theorem k_eval_Eval (e1 e2 k : Int) : CallOK PG f_eval_Eval [xK 8 k [pF e1, pF e2], env1, at0] [] (.val (vF e1)) [] := callOK_run (sound0 PG) mix 30 (by kernel_rfl)
theorem k_eval_Evala (e2 k : Int) : CallOK PG f_eval_Eval [xK 8 k [pN 1, pF e2], env1, at0] [] (.val (vF e2)) [] := callOK_run (sound0 PG) mix 30 (by kernel_rfl)
theorem k_eval_u1 (e : Int) : CallOK PG f_eval_Eval [xK 7 1 [pF e], env1, at0] [] (.val (vF e)) [] := callOK_run (sound0 PG) mix 30 (by kernel_rfl)
theorem k_eval_u2 (e : Int) : CallOK PG f_eval_Eval [xK 7 2 [pF e], env1, at0] [] (.val (vF e)) [] := callOK_run (sound0 PG) mix 30 (by kernel_rfl)
theorem k_eval_u3 (e : Int) : CallOK PG f_eval_Eval [xK 7 3 [pF e], env1, at0] [] (.val (vF e)) [] := callOK_run (sound0 PG) mix 30 (by kernel_rfl)
theorem k_eval_Evalb (m e : Int) (h : m = 1 ∨ m = 2 ∨ m = 3) : CallOK PG f_eval_Eval [xK 7 m [pF e], env1, at0] [] (.val (vF e)) [] := by
  rcases h with rfl | rfl | rfl
  · exact k_eval_u1 e
  · exact k_eval_u2 e
  · exact k_eval_u3 e
/-- IFERROR stops it. -/
theorem k_eval_Evalc (e1 e2 k : Int) : CallOK PG f_eval_Eval [xK 9 23 [pK 8 k [pF e1, pF e2], pN 7], env1, at0] [] (.val (vN 7)) [] := callOK_run (sound0 PG) mix 30 (by kernel_rfl)
/-- ISERROR tells it. -/
theorem k_eval_Evald (e : Int) : CallOK PG f_eval_Eval [xK 9 22 [pF e], env1, at0] [] (.val (ag [i64 3, i64 0, i64 0, tx e0, bo true, i64 0])) [] := callOK_run (sound0 PG) mix 30 (by kernel_rfl)
end Go.Ev
