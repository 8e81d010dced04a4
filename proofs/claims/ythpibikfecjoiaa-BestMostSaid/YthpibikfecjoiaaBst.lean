import Derived.Test.YthpibikfecjoiaaBst9
namespace Go.Proofs.Ythpibikfecjoiaa.Own
open Go.RowKit Go.Proofs.YthpibikfecjoiaaW.PrintWords Go.Proofs.YthpibikfecjoiaaW.PrintLast Go.Proofs.YthpibikfecjoiaaW.PrintMore
set_option linter.unusedVariables false
set_option linter.unusedSimpArgs false
def chooseP (l : List S33) (can : List Bool) (seats : Int) (apart : List S39) : BSt :=
  visP (fun x j => fitsB (canP l.length can) seats (nbP apart) l x j) l (restRow l (canP l.length can) 0) l.length 0 [] 0 ⟨0, [], 0, false⟩
def best_Choose.f (l0 : List S33) (l1 : List Bool) (a2 : Int) (l3 : List S39) : Option (Int × List Int × Int) :=
  if l0.length ≤ 16 ∧ l3.length ≤ 1000000 then some ((chooseP l0 l1 a2 l3).bw, (chooseP l0 l1 a2 l3).us, (chooseP l0 l1 a2 l3).vis) else none
theorem best_Choose.calls (A0 : Option Addr) (c0 : Nat) (l0 : List S33) (A1 : Option Addr) (c1 : Nat) (l1 : List Bool) (a2 : Int) (A3 : Option Addr) (c3 : Nat) (l3 : List S39) (r1 : Int) (r2 : List Int) (r3 : Int) (w : World)
    (hr0 : Kd.C k33 w A0 l0.length l0) (hc0 : l0.length ≤ c0) (hr1 : Kd.C Kd.bool w A1 l1.length l1) (hc1 : l1.length ≤ c1) (hr3 : Kd.C k39 w A3 l3.length l3) (hc3 : l3.length ≤ c3)
    (h : best_Choose.f l0 l1 a2 l3 = some (r1, r2, r3)) :
    Calls Try.prog 8 #[.slice A0 l0.length c0, .slice A1 l1.length c1, .int .i64 a2, .slice A3 l3.length c3] w fun e w' => ∃ v1_ : Value, e = .returned (.agg #[.int .i64 r1, v1_, .int .i64 r3]) ∧ Kd.R (Kd.int .u32) 31 w' w.heap.size (fun _ => True) v1_ r2 ∧ Below w.heap.size w w' := by
  unfold best_Choose.f at h
  split at h
  · rename_i hh
    cases h
    exact choose_any w hr0 hc0 hr1 hc1 hr3 hc3 hh.1 hh.2
  · cases h
end Go.Proofs.Ythpibikfecjoiaa.Own
