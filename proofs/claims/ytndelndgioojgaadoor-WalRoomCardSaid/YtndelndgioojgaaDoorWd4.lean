import Derived.Test.YtndelndgioojgaaDoorWd3
namespace Go.Proofs.YtndelndgioojgaaDoor.Own
open Go.RowKit Go.Proofs.YtndelndgioojgaaDoorW.PrintWords Go.Proofs.YtndelndgioojgaaDoorW.PrintLast Go.Proofs.YtndelndgioojgaaDoorW.PrintMore
set_option linter.unusedVariables false
def IsRow (k : IntKind) (w : World) (a : Option Addr) (len cap : Nat) (zs : List Int) : Prop :=
  (a = none ∧ len = 0 ∧ cap = 0 ∧ zs = []) ∨
  ∃ x, a = some x ∧ len ≤ cap ∧ cap ≤ maxLen ∧ zs.length = cap ∧ (∀ i, i < zs.length → w.cell? (x.add i) = some (.int k (zs.getD i 0))) ∧ ∀ n ∈ zs, (Lit.int k n).wf = true
theorem walRoom_row (a0 : Int) (a1 : Option Addr) (len1 cap1 : Nat) (z1 : List Int) (w : World) (w0 : (Lit.int .u16 a0).wf = true) (w1 : IsRow .u8 w a1 len1 cap1 z1) (HT : Aside0 (Tbl w)) :
    Calls Tryd.prog 3 #[.int .u16 a0, .slice a1 len1 cap1] w fun e w' => e = .returned (.bool true) ∧ Below w.heap.size w w' := by
  obtain ⟨l1, rfl, hr1, hm1, hw1, hc1⟩ := ReadsInt.ofRowC w1
  have h := wf_u16 w0
  exact walRoom_any h.1 h.2 (Kd.C_of_reads (d := (0 : Int)) (h1 := fun _ => rfl) hr1) hc1 (fun x hx => wf_u8 (hw1 x hx)) HT.out
end Go.Proofs.YtndelndgioojgaaDoor.Own
