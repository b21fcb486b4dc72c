/- What the law EvalFaults tells where its three bytes pick two errors and a sign; conditions: what they pick. -/
import Derived.Test.YtadegppnocmcgaaGreatDoorFa
namespace Go.Ev
set_option maxRecDepth 1000000
abbrev errs7 : List (List PV) := [[pi64 0], [pi64 7], [pi64 15], [pi64 23], [pi64 29], [pi64 36], [pi64 42]]
theorem faults_ev (a b op e1 e2 m : Int) (h1 : 0 ≤ IntKind.i64.wrap (a.tmod 7)) (h2 : errs7[(IntKind.i64.wrap (a.tmod 7)).toNat]? = some [pi64 e1])
    (h3 : 0 ≤ IntKind.i64.wrap (b.tmod 7)) (h4 : errs7[(IntKind.i64.wrap (b.tmod 7)).toNat]? = some [pi64 e2]) (h5 : IntKind.i64.wrap (1 + IntKind.i64.wrap (op.tmod 3)) = m) (h6 : m = 1 ∨ m = 2 ∨ m = 3) :
    CallOK PG f_cashbooklaw15_EvalFaults [sc (u8 a), sc (u8 b), sc (u8 op)] [] (.val (sc (bo true))) [] :=
  have q1 : ((e1 == e1) && true) = true := by simp
  have q2 : ((e2 == e2) && true) = true := by simp
  callOK_of mix [.c 13 (.val (sc (bo true))), .t 20 [pi64 e1], .c 22 (.val (vF e1)), .t 28 [pi64 e2], .c 30 (.val (vF e2)), .c 33 (.val at0),
    .c 41 (.val (xK' 8 (IntKind.i64.wrap (1 + IntKind.i64.wrap (op.tmod 12))) [pF e1, pF e2])), .c 44 (.val (vF e1)), .b 47 true,
    .c 50 (.val (xN' 1)), .c 52 (.val (xK' 8 (IntKind.i64.wrap (1 + IntKind.i64.wrap (op.tmod 12))) [pN 1, pF e2])), .c 55 (.val (vF e2)), .b 58 true,
    .i 64 m, .c 70 (.val (vF e1)), .b 73 true,
    .c 79 (.val (xK' 8 (IntKind.i64.wrap (1 + IntKind.i64.wrap (op.tmod 12))) [pF e1, pF e2])), .c 80 (.val (xN' 7)), .c 82 (.val (xK 9 23 [pK 8 (IntKind.i64.wrap (1 + IntKind.i64.wrap (op.tmod 12))) [pF e1, pF e2], pN 7])), .c 85 (.val (vN 7)), .c 86 (.val (vN 7)),
    .c 92 (.val (xK 9 22 [pF e1])), .c 95 (.val (ag [i64 3, i64 0, i64 0, tx e0, bo true, i64 0]))] (by kernel_rfl)
    (ap k_cashbooklaw15_known (ap h1 (ap h2 (ap (k_val_Fault e1) (ap h3 (ap h4 (ap (k_val_Fault e2) (ap k_cashbooklaw14_P
    (ap (k_cashbooklaw10_Bin (IntKind.i64.wrap (1 + IntKind.i64.wrap (op.tmod 12))) e1 e2) (ap (k_eval_Eval e1 e2 (IntKind.i64.wrap (1 + IntKind.i64.wrap (op.tmod 12)))) (ap q1
    (ap (k_cashbooklaw10_Num 1) (ap (k_cashbooklaw10_Bina (IntKind.i64.wrap (1 + IntKind.i64.wrap (op.tmod 12))) 1 e2) (ap (k_eval_Evala e2 (IntKind.i64.wrap (1 + IntKind.i64.wrap (op.tmod 12)))) (ap q2
    (ap h5 (ap (k_eval_Evalb m e1 h6) (ap q1
    (ap (k_cashbooklaw10_Bin (IntKind.i64.wrap (1 + IntKind.i64.wrap (op.tmod 12))) e1 e2) (ap (k_cashbooklaw10_Num 7) (ap (k_cashbooklaw10_Call 23 [pK 8 (IntKind.i64.wrap (1 + IntKind.i64.wrap (op.tmod 12))) [pF e1, pF e2], pN 7]) (ap (k_eval_Evalc e1 e2 (IntKind.i64.wrap (1 + IntKind.i64.wrap (op.tmod 12)))) (ap (k_cashbooklaw9_N 7)
    (ap (k_cashbooklaw10_Call 22 [pF e1]) (ap (k_eval_Evald e1) nl)))))))))))))))))))))))))
end Go.Ev
