import Derived.Test.YthpibikfecjoiaaBst2
namespace Go.Proofs.Ythpibikfecjoiaa.Own
open Go.RowKit Go.Proofs.YthpibikfecjoiaaW.PrintWords Go.Proofs.YthpibikfecjoiaaW.PrintLast Go.Proofs.YthpibikfecjoiaaW.PrintMore
set_option linter.unusedVariables false
set_option linter.unusedSimpArgs false
/-- What fits reads of a search: p its block, C the block of who can come. -/
structure FitsIn (w : World) (p C : Nat) (i seats : Int) (aA nA : Option Addr) (ad : Addr) (apart : List S39) (l : List S33) (can : List Bool) (now : List Int) (ac lc nc : Nat) : Prop where
  h0 : w.cell? ⟨p, 0, none⟩ = some (.slice (some ad) l.length lc)
  h1 : w.cell? ⟨p, 1, none⟩ = some (.slice (some ⟨C, 0, none⟩) l.length l.length)
  h2 : w.cell? ⟨p, 2, none⟩ = some (.int .i64 seats)
  h3 : w.cell? ⟨p, 3, none⟩ = some (.slice aA apart.length ac)
  h5 : w.cell? ⟨p, 5, none⟩ = some (.slice nA now.length nc)
  hl : w.cell? (ad.add (i.toNat * 2)) = some (.int .u32 (rd_T33 l i).f0)
  hc : w.cell? ⟨C, i.toNat, none⟩ = some (.bool (can.getD i.toNat false))
  ha : Kd.C k39 w aA apart.length apart
  hac : apart.length ≤ ac
  hn : Kd.C (Kd.int .u32) w nA now.length now
  hp : 0 ≤ i
  hi : i < (l.length : Int)
  hz : now.length ≤ 1000
theorem FitsIn.below {w w1 : World} {p C : Nat} {i seats : Int} {aA nA : Option Addr} {ad : Addr} {apart : List S39} {l : List S33} {can : List Bool} {now : List Int} {ac lc nc : Nat} (h : FitsIn w p C i seats aA nA ad apart l can now ac lc nc) (hb : Below w.heap.size w w1) : FitsIn w1 p C i seats aA nA ad apart l can now ac lc nc :=
  ⟨pw_cell_below hb h.h0, pw_cell_below hb h.h1, pw_cell_below hb h.h2, pw_cell_below hb h.h3, pw_cell_below hb h.h5, pw_cell_below hb h.hl, pw_cell_below hb h.hc, Kd.C_below h.ha hb, h.hac, Kd.C_below h.hn hb, h.hp, h.hi, h.hz⟩
def fitsB (can : List Bool) (seats : Int) (nb : Int → Int → Bool) (l : List S33) (now : List Int) (i : Int) : Bool :=
  can.getD i.toNat false && (!(decide (seats ≥ 0) && decide ((now.length : Int) ≥ seats)) && !(now.any fun x => nb x (rd_T33 l i).f0))
set_option maxHeartbeats 2000000 in
set_option maxRecDepth 100000 in
theorem fits_any {p C : Nat} {i seats : Int} {aA nA : Option Addr} {ad : Addr} {apart : List S39} {l : List S33} {can : List Bool} {now : List Int} {ac lc nc k : Nat} {nb : Int → Int → Bool} (w : World)
    (h : FitsIn w p C i seats aA nA ad apart l can now ac lc nc) (hnb0 : ∀ a b, best_not.f k apart a b = some (nb a b)) :
    Calls Try.prog 19 #[.pointer (some ⟨p, 0, none⟩), .int .i64 i] w fun e w' => e = .returned (.bool (fitsB can seats nb l now i)) ∧ Below w.heap.size w w' := by
  have H := Lib.hid h
  have HNB := Lib.hid hnb0
  clear hnb0 h
  have hp := H.out.hp
  have hi := H.out.hi
  go_enter Try.func19, Try.ntmps19
  go_wp2
  have HW3 : Below w.heap.size w ((w.alloc (.cells #[.pointer (some ⟨p, 0, none⟩)] 40)).alloc (.cells #[.int .i64 i] 3)) := ((Below.refl _ _).alloc (Nat.le_refl _) _).alloc (by simp) _
  have e1 : ((w.alloc (.cells #[.pointer (some ⟨p, 0, none⟩)] 40)).alloc (.cells #[.int .i64 i] 3)).heap[w.heap.size]? = some (.cells #[.pointer (some ⟨p, 0, none⟩)] 40 (0, 0)) := keep_alloc (by show (w.heap.push _)[w.heap.size]? = _; simp) _
  have e2 : ((w.alloc (.cells #[.pointer (some ⟨p, 0, none⟩)] 40)).alloc (.cells #[.int .i64 i] 3)).heap[w.heap.size + 1]? = some (.cells #[.int .i64 i] 3 (0, 0)) := by
    show ((w.heap.push _).push _)[w.heap.size + 1]? = _
    rw [Array.getElem?_push, Array.size_push, if_pos rfl]
  have G := H.out.below HW3
  have g1 : World.cell? _ ⟨w.heap.size, 0, none⟩ = some (.pointer (some ⟨p, 0, none⟩)) := blk_cell e1 0
  have g2 : World.cell? _ ⟨w.heap.size + 1, 0, none⟩ = some (.int .i64 i) := blk_cell e2 0
  obtain ⟨k0, k1, k2, k3, k5, kl, kc, ka, kac, kn, _, _, kz⟩ := G
  have KN := Lib.hid kn
  have KA := Lib.hid ka
  have HW := Lib.hid HW3
  clear e1 e2 kn ka HW3
  generalize (w.alloc (.cells #[.pointer (some ⟨p, 0, none⟩)] 40)).alloc (.cells #[.int .i64 i] 3) = w3 at k0 k1 k2 k3 k5 kl kc KA KN HW g1 g2 ⊢
  generalize w.heap.size + 1 = b2 at g2 ⊢
  obtain ⟨b1, hb1⟩ : ∃ b1, b1 = w.heap.size := ⟨_, rfl⟩
  have FT : Hid (FitsAt w3 p b1 b2 i aA ad apart l ac lc) := Lib.hid ⟨by rw [hb1]; exact g1, g2, k3, k0, kl, KA.out, kac, hp, hi⟩
  rw [← hb1] at g1 ⊢
  have HB1 := Lib.hid hb1
  clear hb1
  cases hcan : can.getD i.toNat false with
  | false =>
    rw [hcan] at kc
    have HC := Lib.hid hcan
    clear hcan
    go_quiet (fail)
    go_wp2
    go_ret
    exact ⟨by unfold fitsB; rw [HC.out]; rfl, pw_below_drewN HW.out nq⟩
  | true =>
    rw [hcan] at kc
    have HC := Lib.hid hcan
    clear hcan
    by_cases hs : 0 ≤ seats
    · by_cases hl : seats ≤ (now.length : Int)
      · go_quiet (fail)
        go_wp2
        go_ret
        exact ⟨by unfold fitsB; rw [HC.out, decide_eq_true (show seats ≥ 0 from hs), decide_eq_true (show (now.length : Int) ≥ seats from hl)]; rfl, pw_below_drewN HW.out nq⟩
      · have hd : decide (seats ≤ (now.length : Int)) = false := decide_eq_false hl
        go_quiet (fail)
        have HW4 : Hid (Below w3.heap.size w3 (w3.drewN nq)) := Lib.hid (pw_below_drewN (Below.refl _ _) nq)
        have FT4 := Lib.hid (FT.out.below HW4.out)
        have KN4 := Lib.hid (Kd.C_below KN.out HW4.out)
        have HX4 := Lib.hid (pw_below_drewN HW.out nq)
        have k5' := pw_cell_below HW4.out k5
        have g1' := pw_cell_below HW4.out g1
        clear k0 k1 k2 k3 k5 kl kc g1 g2
        generalize w3.drewN nq = w4 at HW4 FT4 KN4 HX4 k5' g1' ⊢
        go_wp2_with (first | ((with_reducible refine (has_any w4 FT4.out HNB.out now nA nc KN4.out kz).mono ?_); rintro e w5 ⟨rfl, hb5⟩))
        go_ret
        refine ⟨?_, HX4.out.trans (hb5.mono HX4.out.size)⟩
        unfold fitsB
        rw [HC.out, decide_eq_true (show seats ≥ 0 from hs), decide_eq_false (show ¬ (now.length : Int) ≥ seats from by omega)]
        rfl
    · have hd : decide (0 ≤ seats) = false := decide_eq_false hs
      go_quiet (fail)
      have HW4 : Hid (Below w3.heap.size w3 (w3.drewN nq)) := Lib.hid (pw_below_drewN (Below.refl _ _) nq)
      have FT4 := Lib.hid (FT.out.below HW4.out)
      have KN4 := Lib.hid (Kd.C_below KN.out HW4.out)
      have HX4 := Lib.hid (pw_below_drewN HW.out nq)
      have k5' := pw_cell_below HW4.out k5
      have g1' := pw_cell_below HW4.out g1
      clear k0 k1 k2 k3 k5 kl kc g1 g2
      generalize w3.drewN nq = w4 at HW4 FT4 KN4 HX4 k5' g1' ⊢
      go_wp2_with (first | ((with_reducible refine (has_any w4 FT4.out HNB.out now nA nc KN4.out kz).mono ?_); rintro e w5 ⟨rfl, hb5⟩))
      go_ret
      refine ⟨?_, HX4.out.trans (hb5.mono HX4.out.size)⟩
      unfold fitsB
      rw [HC.out, decide_eq_false (show ¬ seats ≥ 0 from by omega)]
      rfl
end Go.Proofs.Ythpibikfecjoiaa.Own
