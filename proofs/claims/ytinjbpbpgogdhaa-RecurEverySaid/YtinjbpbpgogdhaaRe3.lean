import Derived.Test.YtinjbpbpgogdhaaRe2
namespace Go.Proofs.Ytinjbpbpgogdhaa.Own
open Go.RowKit Go.Shelf Go.Proofs.YtinjbpbpgogdhaaW.PrintWords Go.Proofs.YtinjbpbpgogdhaaW.PrintLast Go.Proofs.YtinjbpbpgogdhaaW.PrintMore
set_option linter.unusedVariables false
set_option linter.unusedSimpArgs false
set_option maxHeartbeats 4000000 in
set_option maxRecDepth 100000 in
/-- walk, where it makes a walker. -/
theorem walk_yes {a0 a1 a2 a3 a8 : Int} {A4 A5 A6 A7 : Option Addr} {c4 c5 c6 c7 : Nat} {l4 l5 l7 : List Int} {l6 : List S58} {Y M D : Int} (start : Int) (w : World) (hR : RC w A4 A5 A6 A7 c4 c5 c6 c7 l4 l5 l7 l6) (hm : mayB a0 a1 a2 a3 l4 l5 l6 l7 a8 = true)
    (hs0 : 0 ≤ start) (hs1 : start < 158310720) (hd : civil_Date.f 3000 (start / 1440) = some (Y, M, D, true)) :
    Calls Try.prog 14 #[.agg #[.int .i64 a0, .int .i64 a1, .int .i64 a2, .int .i64 a3, .slice A4 l4.length c4, .slice A5 l5.length c5, .slice A6 l6.length c6, .slice A7 l7.length c7, .int .i64 a8], .int .i64 start] w fun e w' => ∃ g, e = .returned (.tuple #[.pointer (some ⟨g, 0, none⟩), .bool true]) ∧ Wk0 w w' g a0 a1 a2 a3 a8 A4 A5 A6 A7 c4 c5 c6 c7 l4 l5 l7 l6 (start / 1440) Y M D (start % 1440) := by
  have HR := Lib.hid hR
  clear hR
  obtain ⟨day, hday⟩ : ∃ t, t = start / 1440 := ⟨_, rfl⟩
  obtain ⟨mi, hmi⟩ : ∃ t, t = start % 1440 := ⟨_, rfl⟩
  have ht : Int.tdiv start 1440 = day := by rw [hday]; exact Int.tdiv_eq_ediv_of_nonneg hs0
  have ht2 : Int.tmod start 1440 = mi := by rw [hmi]; exact Int.tmod_eq_emod_of_nonneg hs0
  have hdb : 0 ≤ day ∧ day < 109938 := by omega
  have hmb : 0 ≤ mi ∧ mi < 1440 := by omega
  rw [← hday] at hd ⊢
  rw [← hmi]
  clear hday hmi
  have k1 : wrap64 day = day := IntWalk.wrap64_in _ (by omega)
  have k2 : wrap64 mi = mi := by clear k1; exact IntWalk.wrap64_in _ (by omega)
  go_enter Try.func14, Try.ntmps14
  go_upto_region 1 with (fail)
  have H1 : Hid ((w.alloc (.cells #[.int .i64 a0, .int .i64 a1, .int .i64 a2, .int .i64 a3, .slice A4 l4.length c4, .slice A5 l5.length c5, .slice A6 l6.length c6, .slice A7 l7.length c7, .int .i64 a8] 25)).heap[w.heap.size]? = some (.cells #[.int .i64 a0, .int .i64 a1, .int .i64 a2, .int .i64 a3, .slice A4 l4.length c4, .slice A5 l5.length c5, .slice A6 l6.length c6, .slice A7 l7.length c7, .int .i64 a8] 25 (0, 0))) := Lib.hid (alloc_blk _ _ _)
  have HB1 : Hid (Below w.heap.size w (w.alloc (.cells #[.int .i64 a0, .int .i64 a1, .int .i64 a2, .int .i64 a3, .slice A4 l4.length c4, .slice A5 l5.length c5, .slice A6 l6.length c6, .slice A7 l7.length c7, .int .i64 a8] 25))) := Lib.hid below_new_
  obtain ⟨g1, hg1⟩ : ∃ x, x = w.heap.size := ⟨_, rfl⟩
  rw [← hg1] at H1 ⊢
  clear hg1
  generalize w.alloc (.cells #[.int .i64 a0, .int .i64 a1, .int .i64 a2, .int .i64 a3, .slice A4 l4.length c4, .slice A5 l5.length c5, .slice A6 l6.length c6, .slice A7 l7.length c7, .int .i64 a8] 25) = w1 at H1 HB1 ⊢
  have HMY := Lib.hid (rule_May_yes w1 (HR.out.below HB1.out) hm)
  have HDT := Lib.hid (fun W => civil_Date.calls 3000 day Y M D true W hd)
  clear hm hd
  have q0 := cell_eq (blk_cell H1.out 0) rfl
  have q1 := cell_eq (blk_cell H1.out 1) rfl
  have q2 := cell_eq (blk_cell H1.out 2) rfl
  have q3 := cell_eq (blk_cell H1.out 3) rfl
  have q4 := cell_eq (blk_cell H1.out 4) rfl
  have q5 := cell_eq (blk_cell H1.out 5) rfl
  have q6 := cell_eq (blk_cell H1.out 6) rfl
  have q7 := cell_eq (blk_cell H1.out 7) rfl
  have q8 := cell_eq (blk_cell H1.out 8) rfl
  go_upto_region 3 with (first | ((with_reducible refine HMY.out.mono ?_); rintro e w2 ⟨rfl, hb2⟩; have HB2 := Lib.hid hb2; clear hb2))
  have H2 := Lib.hid (keep_below HB2.out H1.out)
  have HB02 := Lib.hid (HB1.out.trans (HB2.out.mono HB1.out.size))
  clear q0 q1 q2 q3 q4 q5 q6 q7 q8
  go_upto_region 5 with (first | ((with_reducible refine (HDT.out _).mono ?_); rintro e w3 ⟨rfl, hb3⟩; have HB3 := Lib.hid hb3; clear hb3))
  have H4 : Hid ((w3.alloc (.cells #[.int .i64 Y, .int .i64 M, .int .i64 D] 37)).heap[g1]? = some (.cells #[.int .i64 a0, .int .i64 a1, .int .i64 a2, .int .i64 a3, .slice A4 l4.length c4, .slice A5 l5.length c5, .slice A6 l6.length c6, .slice A7 l7.length c7, .int .i64 a8] 25 (0, 0))) := Lib.hid (keep_alloc (keep_below HB3.out H2.out) _)
  have H5 : Hid ((w3.alloc (.cells #[.int .i64 Y, .int .i64 M, .int .i64 D] 37)).heap[w3.heap.size]? = some (.cells #[.int .i64 Y, .int .i64 M, .int .i64 D] 37 (0, 0))) := Lib.hid (alloc_blk _ _ _)
  have HB4 : Hid (Below w.heap.size w (w3.alloc (.cells #[.int .i64 Y, .int .i64 M, .int .i64 D] 37))) := Lib.hid (HB02.out.trans ((HB3.out.trans ((below_new_ (o := (.cells #[.int .i64 Y, .int .i64 M, .int .i64 D] 37))).mono HB3.out.size)).mono HB02.out.size))
  obtain ⟨g3, hg3⟩ : ∃ x, x = w3.heap.size := ⟨_, rfl⟩
  rw [← hg3] at H5 ⊢
  clear hg3
  generalize w3.alloc (.cells #[.int .i64 Y, .int .i64 M, .int .i64 D] 37) = w4 at H4 H5 HB4 ⊢
  have q0 := cell_eq (blk_cell H4.out 0) rfl
  have q1 := cell_eq (blk_cell H4.out 1) rfl
  have q2 := cell_eq (blk_cell H4.out 2) rfl
  have q3 := cell_eq (blk_cell H4.out 3) rfl
  have q4 := cell_eq (blk_cell H4.out 4) rfl
  have q5 := cell_eq (blk_cell H4.out 5) rfl
  have q6 := cell_eq (blk_cell H4.out 6) rfl
  have q7 := cell_eq (blk_cell H4.out 7) rfl
  have q8 := cell_eq (blk_cell H4.out 8) rfl
  have r0 := cell_eq (blk_cell H5.out 0) rfl
  have r1 := cell_eq (blk_cell H5.out 1) rfl
  have r2 := cell_eq (blk_cell H5.out 2) rfl
  go_wp2
  go_ret2
  refine ⟨w4.heap.size, rfl, alloc_blk _ _ _, HR.out, HB4.out.trans (below_new_.mono HB4.out.size), HB4.out.size⟩
end Go.Proofs.Ytinjbpbpgogdhaa.Own
