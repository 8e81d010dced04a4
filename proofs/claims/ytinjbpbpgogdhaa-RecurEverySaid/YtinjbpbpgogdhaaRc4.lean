import Derived.Test.YtinjbpbpgogdhaaRc3
namespace Go.Proofs.Ytinjbpbpgogdhaa.Own
open Go.RowKit Go.Proofs.YtinjbpbpgogdhaaW.PrintWords Go.Proofs.YtinjbpbpgogdhaaW.PrintLast Go.Proofs.YtinjbpbpgogdhaaW.PrintMore
set_option linter.unusedVariables false
/-- row, told. -/
def rule_row.f (l0 : List Int) (a1 : Int) (a2 : Bool) : Option Bool := if l0.length ≤ 10000 ∧ 0 ≤ a1 ∧ a1 ≤ 1000 then some (rowB l0 a1 a2) else none
theorem rule_row.calls (A0 : Option Addr) (c0 : Nat) (l0 : List Int) (a1 : Int) (a2 : Bool) (r : Bool) (w : World) (hr0 : Kd.C (Kd.int .i64) w A0 l0.length l0) (hc0 : l0.length ≤ c0) (h : rule_row.f l0 a1 a2 = some r) :
    Calls Try.prog 34 #[.slice A0 l0.length c0, .int .i64 a1, .bool a2] w fun e w' => e = .returned (.bool r) ∧ Below w.heap.size w w' := by
  unfold rule_row.f at h
  split at h
  · rename_i hc
    obtain rfl := Option.some.inj h
    exact row_any w l0 A0 c0 a1 a2 hr0 hc.1 hc.2.1 hc.2.2
  · cases h
/-- daysMay, told. -/
def rule_daysMay.f (a0_0 : Int) (a0_1 : Int) (a0_2 : Int) (a0_3 : Int) (l0_4 : List Int) (l0_5 : List Int) (l0_6 : List (S58)) (l0_7 : List Int) (a0_8 : Int) : Option Bool := if l0_6.length ≤ 10000 ∧ l0_4.length ≤ 10000 then some (daysB a0_0 l0_4 l0_6) else none
theorem rule_daysMay.calls (a0_0 : Int) (a0_1 : Int) (a0_2 : Int) (a0_3 : Int) (A0_4 : Option Addr) (c0_4 : Nat) (l0_4 : List Int) (A0_5 : Option Addr) (c0_5 : Nat) (l0_5 : List Int) (A0_6 : Option Addr) (c0_6 : Nat) (l0_6 : List (S58)) (A0_7 : Option Addr) (c0_7 : Nat) (l0_7 : List Int) (a0_8 : Int) (r : Bool) (w : World) (hr0_4 : Kd.C (Kd.int .i64) w A0_4 l0_4.length l0_4) (hc0_4 : l0_4.length ≤ c0_4) (hr0_5 : Kd.C (Kd.int .i64) w A0_5 l0_5.length l0_5) (hc0_5 : l0_5.length ≤ c0_5) (hr0_6 : Kd.C k58 w A0_6 l0_6.length l0_6) (hc0_6 : l0_6.length ≤ c0_6) (hr0_7 : Kd.C (Kd.int .i64) w A0_7 l0_7.length l0_7) (hc0_7 : l0_7.length ≤ c0_7) (h : rule_daysMay.f a0_0 a0_1 a0_2 a0_3 l0_4 l0_5 l0_6 l0_7 a0_8 = some r) :
    Calls Try.prog 35 #[.agg #[.int .i64 a0_0, .int .i64 a0_1, .int .i64 a0_2, .int .i64 a0_3, .slice A0_4 l0_4.length c0_4, .slice A0_5 l0_5.length c0_5, .slice A0_6 l0_6.length c0_6, .slice A0_7 l0_7.length c0_7, .int .i64 a0_8]] w fun e w' => e = .returned (.bool r) ∧ Below w.heap.size w w' := by
  unfold rule_daysMay.f at h
  split at h
  · rename_i hc
    obtain rfl := Option.some.inj h
    exact daysMay_any a0_0 a0_1 a0_2 a0_3 a0_8 A0_4 A0_5 A0_6 A0_7 c0_4 c0_5 c0_6 c0_7 l0_4 l0_5 l0_7 l0_6 w hr0_4 hr0_6 hc.1 hc.2
  · cases h
end Go.Proofs.Ytinjbpbpgogdhaa.Own
