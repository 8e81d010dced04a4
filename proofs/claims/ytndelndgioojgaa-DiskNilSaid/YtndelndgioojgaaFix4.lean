import Derived.Test.YtndelndgioojgaaFix3
import Derived.Test.YtndelndgioojgaaNil
namespace Go.Proofs.Ytndelndgioojgaa
open Go.RowKit Go.Proofs.YtndelndgioojgaaW.PrintWords Go.Proofs.YtndelndgioojgaaW.PrintLast Go.Proofs.YtndelndgioojgaaW.PrintMore
set_option linter.unusedVariables false
set_option linter.unusedSimpArgs false
def ClonePost (w : World) (e : Ending) (w' : World) : Prop := ∃ v : Value, e = .returned v ∧ Kd.R (Kd.int .u8) 5 w' w.heap.size (fun _ => True) v [0, 5, 0, 0] ∧ Below w.heap.size w w'
theorem clone_05 {E : Nat} (w : World) (h : w.heap[E]? = some (.cells zs05.toArray 5 (0, 0))) : Calls Try.prog 14 #[.slice (some ⟨E, 0, none⟩) 4 4] w (ClonePost w) := by
  have hr : ReadsInt w .u8 (some ⟨E, 0, none⟩) [(0 : Int), 5, 0, 0].length [0, 5, 0, 0] := ⟨rfl, by decide, fun _ => ⟨_, rfl, fun j hj => by
    have h2 : j = 0 ∨ j = 1 ∨ j = 2 ∨ j = 3 := by simp at hj; omega
    rcases h2 with rfl | rfl | rfl | rfl
    · exact blk_cell h 0
    · exact blk_cell h 1
    · exact blk_cell h 2
    · exact blk_cell h 3⟩⟩
  exact Own.slices_Clone_byte_byte.calls (some ⟨E, 0, none⟩) 4 [0, 5, 0, 0] [0, 5, 0, 0] w (Kd.C_of_reads (d := (0 : Int)) (h1 := fun _ => rfl) hr) (Nat.le_refl _) (by rfl)
def ReadPost (w : World) (e : Ending) (w' : World) : Prop := ∃ v : Value, e = .returned (.tuple #[v, .int .i64 0]) ∧ (∃ A c, v = .slice A 4 c) ∧ Sem.run Try.prog (convert 22 9 v) w' = .ok (.string ⟨#[0, 5, 0, 0]⟩) w' ∧ Below w.heap.size w w'
set_option maxHeartbeats 1000000 in
set_option maxRecDepth 100000 in
theorem read_04 {p S E : Nat} {cs : List Value} {wt : Value} {f k : Int} (w : World) (h : DiskAt w p S E cs zs05 wt false f k) : Calls Try.prog 7 #[.pointer (some ⟨p, 0, none⟩), .int .i64 0, .int .i64 4] w (ReadPost w) := by
  obtain ⟨hp, hS, hE, n1, n2, n3⟩ := h
  have c0 := blk_cell hp 0
  have c1 := blk_cell hp 1
  have c3 := blk_cell hp 3
  simp at c0 c1 c3
  have HE := Lib.hid hE
  clear hp hS hE
  go_enter Try.func7, Try.ntmps7
  go_wp2_with (first
    | ((with_reducible refine (on_at _ c3).mono ?_); rintro e w' ⟨rfl, rfl⟩)
    | ((with_reducible refine (in_at _ _ _ c0 (by omega) (by omega) (by omega) (by omega) (by omega)).mono ?_); rintro e w' ⟨rfl, rfl⟩)
    | ((with_reducible refine (clone_05 _ HE.out).mono ?_); rintro e w' ⟨v, rfl, hR, hb⟩; obtain ⟨A, c, rfl, hc, _⟩ := Kd.R_reads hR))
  go_ret2
  exact ⟨_, rfl, ⟨_, _, rfl⟩, (own_string (P := Try.prog) Try.underlying22 Try.underlying5 Try.underlying9 (Kd.own_of_R hR)), hb⟩
set_option maxHeartbeats 1000000 in
set_option maxRecDepth 100000 in
theorem fixed_any (w : World) : Calls Try.prog 8 #[] w fun e w' => e = .returned (.bool true) ∧ Below w.heap.size w w' := by
  go_enter Try.func8, Try.ntmps8
  go_wp2_with (first
    | ((with_reducible refine (new_4 _).mono ?_); rintro e w1 ⟨p, S, E, rfl, hd1, hp, hS, hE, hb1⟩))
  obtain ⟨hd1p, hd1S, hd1E, n1, n2, n3⟩ := hd1
  have hlE := (Array.getElem?_eq_some_iff.1 hd1E).1
  have hlp := (Array.getElem?_eq_some_iff.1 hd1p).1
  have hdA : DiskAt (w1.alloc (.cells #[.int .u8 5, .int .u8 6] 5)) p S E zs4 zs4 (.slice none 0 0) false (-1) 0 := ⟨keep_alloc hd1p _, keep_alloc hd1S _, keep_alloc hd1E _, n1, n2, n3⟩
  have hB : (w1.alloc (.cells #[.int .u8 5, .int .u8 6] 5)).heap[w1.heap.size]? = some (.cells #[.int .u8 5, .int .u8 6] 5 (0, 0)) := by show (w1.heap.push _)[w1.heap.size]? = _; simp
  have hbA : Below w.heap.size w (w1.alloc (.cells #[.int .u8 5, .int .u8 6] 5)) := hb1.alloc hb1.size _
  have HBA := Lib.hid hbA
  have H0 := Lib.hid hbA.size
  clear hbA hb1
  refine (write_1 (B := w1.heap.size) _ hdA hB (by omega) (by omega) w.heap.size ⟨hp, hS, hE⟩ H0.out).mono ?_
  clear hdA hB hd1p hd1S hd1E hlE hlp
  rintro e w2 ⟨rfl, g, cg, cur, q, cq, curq, hd2, hg, hcur, hq, hcurq, hcg, hb2⟩
  have HB2 := Lib.hid (HBA.out.trans hb2)
  have HD2 := Lib.hid hd2
  have HG := Lib.hid hg
  have HC := Lib.hid hcur
  have HQ := Lib.hid hq
  have HCQ := Lib.hid hcurq
  clear hb2 hd2 hg hcur hq hcurq
  go_wp2_with fail
  refine (fall_1 _ HD2.out HG.out HC.out HQ.out HCQ.out w.heap.size ⟨hp, hS, hE⟩ HB2.out.size hcg).mono ?_
  rintro e w3 ⟨rfl, hd3, hb3⟩
  have HB3 := Lib.hid (HB2.out.trans hb3)
  have HD3 := Lib.hid hd3
  clear hd3 hb3
  go_wp2_with fail
  refine (back_at _ HD3.out w.heap.size hp).mono ?_
  rintro e w4 ⟨rfl, hd4, hb4⟩
  have HB4 := Lib.hid (HB3.out.trans hb4)
  have HD4 := Lib.hid hd4
  clear hd4 hb4
  go_wp2_with fail
  refine (read_04 _ HD4.out).mono ?_
  rintro e w5 ⟨v, rfl, ⟨A, c, rfl⟩, hcv, hb5⟩
  have HB5 := Lib.hid (HB4.out.trans (hb5.mono HB4.out.size))
  clear hb5
  go_wp2
  go_ret
  exact ⟨rfl, HB5.out⟩
theorem nil_any (a n : Int) (ad : Option Addr) (len cap : Nat) (w : World) :
    Calls Try.prog 3 #[.int .i64 a, .int .i64 n, .slice ad len cap] w fun e w' => e = .returned (.bool true) ∧ Below w.heap.size w w' := law_any fixed_any a n ad len cap w
end Go.Proofs.Ytndelndgioojgaa
