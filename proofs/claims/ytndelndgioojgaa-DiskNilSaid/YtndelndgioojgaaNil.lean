/-
  THE WALKS of a nil disk: each method at nil. No condition.
-/
import Derived.Test.YtndelndgioojgaaRows
import Derived.WalkKit
import Derived.WalkSpells
import Derived.WalkLawsBesides
namespace Go.Proofs.Ytndelndgioojgaa
open Go.RowKit
theorem on_nil (w : World) : Calls Try.prog 10 #[.pointer none] w fun e w' => e = .returned (.bool false) ∧ w = w' := by
  go_enter Try.func10, Try.ntmps10
  go_wp2
  go_ret
  exact ⟨rfl, rfl⟩
theorem fall_nil (n : Int) (w : World) : Calls Try.prog 4 #[.pointer none, .int .i64 n] w fun e w' => e = .returned (.tuple #[]) ∧ w = w' := by
  go_enter Try.func4, Try.ntmps4
  go_wp2_with (((with_reducible refine (on_nil _).mono ?_); rintro e w' ⟨rfl, rfl⟩))
  first | go_end0 | refine bodyPost_ret (results_none rfl _ _ _) rfl ?_
  exact ⟨rfl, rfl⟩
theorem fuse_nil (n k : Int) (w : World) : Calls Try.prog 5 #[.pointer none, .int .i64 n, .int .i64 k] w fun e w' => e = .returned (.tuple #[]) ∧ w = w' := by
  go_enter Try.func5, Try.ntmps5
  go_wp2
  go_end0
  exact ⟨rfl, rfl⟩
theorem back_nil (w : World) : Calls Try.prog 6 #[.pointer none] w fun e w' => e = .returned (.tuple #[]) ∧ w = w' := by
  go_enter Try.func6, Try.ntmps6
  go_wp2
  go_end0
  exact ⟨rfl, rfl⟩
theorem read_nil (a n : Int) (w : World) : Calls Try.prog 7 #[.pointer none, .int .i64 a, .int .i64 n] w fun e w' => e = .returned (.tuple #[.slice none 0 0, .int .i64 12]) ∧ w = w' := by
  go_enter Try.func7, Try.ntmps7
  go_wp2_with (((with_reducible refine (on_nil _).mono ?_); rintro e w' ⟨rfl, rfl⟩))
  go_ret2
  exact ⟨rfl, rfl⟩
theorem size_nil (w : World) : Calls Try.prog 9 #[.pointer none] w fun e w' => e = .returned (.int .i64 0) ∧ w = w' := by
  go_enter Try.func9, Try.ntmps9
  go_wp2
  go_ret
  exact ⟨rfl, rfl⟩
theorem write_nil (a : Int) (v : Value) (w : World) : Calls Try.prog 11 #[.pointer none, .int .i64 a, v] w fun e w' => e = .returned (.int .i64 12) ∧ w = w' := by
  go_enter Try.func11, Try.ntmps11
  go_wp2_with (((with_reducible refine (on_nil _).mono ?_); rintro e w' ⟨rfl, rfl⟩))
  go_ret
  exact ⟨rfl, rfl⟩
theorem sync_nil (w : World) : Calls Try.prog 12 #[.pointer none] w fun e w' => e = .returned (.int .i64 12) ∧ w = w' := by
  go_enter Try.func12, Try.ntmps12
  go_wp2_with (((with_reducible refine (on_nil _).mono ?_); rintro e w' ⟨rfl, rfl⟩))
  go_ret
  exact ⟨rfl, rfl⟩
set_option maxHeartbeats 1000000 in
set_option maxRecDepth 100000 in
theorem law_any (hfix : ∀ w : World, Calls Try.prog 8 #[] w fun e w' => e = .returned (.bool true) ∧ Below w.heap.size w w') (a n : Int) (ad : Option Addr) (len cap : Nat) (w : World) :
    Calls Try.prog 3 #[.int .i64 a, .int .i64 n, .slice ad len cap] w fun e w' => e = .returned (.bool true) ∧ Below w.heap.size w w' := by
  go_enter Try.func3, Try.ntmps3
  go_wp2_with (first
    | ((with_reducible refine (fall_nil _ _).mono ?_); rintro e w' ⟨rfl, rfl⟩)
    | ((with_reducible refine (fuse_nil _ _ _).mono ?_); rintro e w' ⟨rfl, rfl⟩)
    | ((with_reducible refine (back_nil _).mono ?_); rintro e w' ⟨rfl, rfl⟩)
    | ((with_reducible refine (read_nil _ _ _).mono ?_); rintro e w' ⟨rfl, rfl⟩)
    | ((with_reducible refine (size_nil _).mono ?_); rintro e w' ⟨rfl, rfl⟩)
    | ((with_reducible refine (on_nil _).mono ?_); rintro e w' ⟨rfl, rfl⟩)
    | ((with_reducible refine (write_nil _ _ _).mono ?_); rintro e w' ⟨rfl, rfl⟩)
    | ((with_reducible refine (sync_nil _).mono ?_); rintro e w' ⟨rfl, rfl⟩)
    | ((with_reducible refine (hfix _).mono ?_); rintro e w1 ⟨rfl, hb⟩))
  go_ret
  exact ⟨rfl, hb⟩
end Go.Proofs.Ytndelndgioojgaa
