import Derived.Test.YtinjbpbpgogdhaaRd2
namespace Go.Proofs.Ytinjbpbpgogdhaa.Own
open Go.RowKit Go.Proofs.YtinjbpbpgogdhaaW.PrintWords Go.Proofs.YtinjbpbpgogdhaaW.PrintLast Go.Proofs.YtinjbpbpgogdhaaW.PrintMore
set_option linter.unusedVariables false
set_option linter.unusedSimpArgs false
/-- Is the day at a place kept? -/
def plB (l7 : List Int) (n : Int) (j : Int) : Bool := hasI l7 (j + 1) || hasI l7 (j - n)
/-- Of the first so many days those at the places told. -/
def placesG (l7 l : List Int) : Nat → List Int
  | 0 => []
  | j + 1 => placesG l7 l j ++ (if plB l7 (l.length : Int) (j : Int) = true then [rd l (j : Int)] else [])
/-- places, told. -/
def placesL (l7 l : List Int) : List Int := if l7.length = 0 then l else placesG l7 l l.length
theorem placesG_len (l7 l : List Int) : ∀ k, (placesG l7 l k).length ≤ k
  | 0 => Nat.zero_le _
  | k + 1 => by
    have := placesG_len l7 l k
    unfold placesG
    rw [List.length_append]
    split <;> simp <;> omega
theorem placesG_no {l7 l : List Int} {k : Nat} (h : plB l7 (l.length : Int) (k : Int) = false) : placesG l7 l (k + 1) = placesG l7 l k := by
  show placesG l7 l k ++ (if plB l7 (l.length : Int) (k : Int) = true then [rd l (k : Int)] else []) = _
  rw [h, if_neg (by simp), List.append_nil]
theorem placesG_yes {l7 l : List Int} {k : Nat} (h : plB l7 (l.length : Int) (k : Int) = true) : placesG l7 l (k + 1) = placesG l7 l k ++ [rd l (k : Int)] := by
  show placesG l7 l k ++ (if plB l7 (l.length : Int) (k : Int) = true then [rd l (k : Int)] else []) = _
  rw [h, if_pos rfl]
def PlacesPost (w0 w : World) (xs : List Int) (e : Ending) (w' : World) : Prop :=
  ∃ v', e = .returned v' ∧ Kd.R (Kd.int .i64) 3 w' w0.heap.size (fun _ => True) v' xs ∧ Kept w w' (fun _ => False) ∧ Below w0.heap.size w0 w'
def PlRel (w0 w : World) (l7 l : List Int) (i o : Value) (wr : World) : Prop :=
  ∃ (j : Nat), j ≤ l.length ∧ i = .int .i64 (j : Int) ∧ Hid (Kd.R (Kd.int .i64) 3 wr w0.heap.size (fun _ => True) o (placesG l7 l j)) ∧ Hid (Kept w wr (fun _ => False)) ∧ Hid (Below w0.heap.size w0 wr) ∧ Hid (∀ k, o.ownBlock = some k → w.heap.size ≤ k)
theorem kept_below {w W : World} (h : Kept w W (fun _ => False)) {b : Nat} {o : Obj} (hb : w.heap[b]? = some o) : W.heap[b]? = some o := (h.2 b (heap_lt hb) (fun h => h)).trans hb
theorem own_step2 {o v1 : Value} {a b : Nat} (h : ∀ k, o.ownBlock = some k → a ≤ k) (hat : v1.ownBlock = o.ownBlock ∨ ∃ q, v1.ownBlock = some q ∧ b ≤ q) (hab : a ≤ b) : ∀ k, v1.ownBlock = some k → a ≤ k := by
  intro k hk
  rcases hat with h1 | ⟨q, h1, h2⟩
  · exact h k (h1.symm.trans hk)
  · have : q = k := Option.some.inj (h1.symm.trans hk)
    omega
set_option maxHeartbeats 8000000 in
set_option maxRecDepth 100000 in
theorem places_any {w0 : World} {g : Nat} {a0 a1 a2 a3 a8 : Int} {A4 A5 A6 A7 : Option Addr} {c4 c5 c6 c7 : Nat} {l4 l5 l7 : List Int} {l6 : List S58} {day sy sm sd mi : Int} (v : Value) (l : List Int) (w : World) (hW : Wk0 w0 w g a0 a1 a2 a3 a8 A4 A5 A6 A7 c4 c5 c6 c7 l4 l5 l7 l6 day sy sm sd mi)
    (hR : Kd.R (Kd.int .i64) 3 w w0.heap.size (fun _ => True) v l) (hl : l.length ≤ 100000) :
    Calls Try.prog 40 #[.pointer (some ⟨g, 0, none⟩), v] w (PlacesPost w0 w (placesL l7 l)) := by
  have HW := Lib.hid hW
  have HR := Lib.hid hR
  have hn7 := hW.rc.n7
  have q7 := cell_eq (blk_cell hW.hg 7) rfl
  clear hW hR
  obtain ⟨vA, vc, rfl, hx1, hx2⟩ := Kd.R_reads HR.out
  clear hx1 hx2
  by_cases e7 : l7.length = 0
  · have e7i : (l7.length : Int) = 0 := by omega
    have HP : Hid (placesL l7 l = l) := Lib.hid (by unfold placesL; rw [if_pos e7])
    go_enter Try.func40, Try.ntmps40
    go_wp2
    go_ret
    rw [HP.out]
    exact ⟨_, rfl, HR.out, Kept.refl _ _, HW.out.hb⟩
  · have e7i : ((l7.length : Int) == 0) = false := by rw [Bool.eq_false_iff]; intro h; have := eq_of_beq h; omega
    have HP : Hid (placesL l7 l = placesG l7 l l.length) := Lib.hid (by unfold placesL; rw [if_neg e7])
    go_enter Try.func40, Try.ntmps40
    go_wp2
    go_loopw [18, 5] (fun i' o wr => PlRel w0 w l7 l i' o wr) (fun i' _ _ => l.length - (intOf i').toNat)
    case atStart => exact ⟨0, Nat.zero_le _, rfl, Lib.hid (Kd.R_nil _ _ _ _ _), Lib.hid (Kept.refl _ _), Lib.hid HW.out.hb, Lib.hid (fun k hk => by cases hk)⟩
    case round =>
    clear q7
    obtain ⟨j, hj, rfl, hRr, HK, HB, HOW⟩ := hrel
    obtain ⟨cur, hcur⟩ : ∃ x, x = placesG l7 l j := ⟨_, rfl⟩
    rw [← hcur] at hRr
    have hcl : cur.length ≤ 100000 := by
      have h1 := placesG_len l7 l j
      rw [hcur]
      omega
    have HCUR := Lib.hid hcur
    clear hcur
    obtain ⟨oA, oc, rfl, hx1, hx2⟩ := Kd.R_reads hRr.out
    clear hx1 hx2
    have HWr : Hid (Wk0 w0 wr g a0 a1 a2 a3 a8 A4 A5 A6 A7 c4 c5 c6 c7 l4 l5 l7 l6 day sy sm sd mi) := Lib.hid ⟨kept_below HK.out HW.out.hg, HW.out.rc, HB.out, HW.out.ng⟩
    by_cases hlt : j < l.length
    · have HRl : Hid (Kd.R (Kd.int .i64) 3 wr w0.heap.size (fun _ => True) (.slice vA l.length vc) l) := Lib.hid (Kd.R_kept HR.out HK.out (fun k _ h => h))
      obtain ⟨ad, rfl, hc1⟩ := Kd.at_int (Kd.R_reads' HRl.out).2.2 (j : Int) (by omega) (by omega)
      rw [Int.toNat_natCast] at hc1
      obtain ⟨x, hx⟩ : ∃ x, x = rd l (j : Int) := ⟨_, rfl⟩
      rw [← hx] at hc1
      have HX := Lib.hid hx
      clear hx
      have q7 := cell_eq (blk_cell HWr.out.hg 7) rfl
      have hw1 : wrap64 ((j : Int) + 1) = (j : Int) + 1 := IntWalk.wrap64_in _ (by omega)
      have hw2 : wrap64 ((j : Int) - (l.length : Int)) = (j : Int) - (l.length : Int) := IntWalk.wrap64_in _ (by clear hw1; omega)
      have HH1 : Hid (∀ W, Below wr.heap.size wr W → Calls Try.prog 48 #[.slice A7 l7.length c7, .int .i64 ((j : Int) + 1)] W fun e w' => e = .returned (.bool (hasI l7 ((j : Int) + 1))) ∧ Below W.heap.size W w') := Lib.hid (fun W hW => has_any W l7 A7 c7 _ (HWr.out.below hW).wk.rc.h7 HWr.out.rc.k7 (by clear hw1 hw2; omega))
      have HH2 : Hid (∀ W, Below wr.heap.size wr W → Calls Try.prog 48 #[.slice A7 l7.length c7, .int .i64 ((j : Int) - (l.length : Int))] W fun e w' => e = .returned (.bool (hasI l7 ((j : Int) - (l.length : Int)))) ∧ Below W.heap.size W w') := Lib.hid (fun W hW => has_any W l7 A7 c7 _ (HWr.out.below hW).wk.rc.h7 HWr.out.rc.k7 (by clear hw1 hw2; omega))
      have HQ0 : Hid (Below wr.heap.size wr wr) := Lib.hid (Below.refl _ _)
      have HQ7 : Hid (∀ W, Below wr.heap.size wr W → W.cell? ⟨g, 7, none⟩ = some (.slice A7 l7.length c7)) := Lib.hid (fun W hW => cell_eq (blk_cell (HWr.out.below hW).hg 7) rfl)
      cases h1 : hasI l7 ((j : Int) + 1) with
      | true =>
        have HPB : Hid (plB l7 (l.length : Int) (j : Int) = true) := Lib.hid (by unfold plB; rw [h1]; rfl)
        rw [h1] at HH1
        clear h1 HH2
        go_upto_region 8 with (first | ((with_reducible refine (HH1.out _ HQ0.out).mono ?_); rintro e w4 ⟨rfl, hb4⟩; have HB4 := Lib.hid hb4; clear hb4))
        have HR5 := Lib.hid (Kd.R_below hRr.out HB4.out)
        have HBW5 := Lib.hid (HB.out.trans (HB4.out.mono HB.out.size))
        have HK5 := Lib.hid (HK.out.below HB4.out)
        have HSZ := Lib.hid HB4.out.size
        have HSW := Lib.hid HK.out.1
        go_wp2_with (((with_reducible refine gate_builtin (b := .append) (xs := #[.tmp 43, .tmp 45]) rfl ?_); (try (refine gate_guard (by rfl) ?_; dsimp only)); at_builtin; refine Kd.R_append (W := w4) (w0 := w0) (Kd.int .i64) w0.heap.size rfl (.tmp 43) (.tmp 45) 22 3 (.int .i64 0) 8 rfl Try.underlying22 info3_ rfl (by decide) (by decide) (.slice oA cur.length oc) cur x [.int .i64 x] (fun _ => True) (fun _ => False) rfl rfl rfl (fun _ h => h.elim) (fun _ _ => trivial) HR5.out HBW5.out HBW5.out.size (by clear hw1 hw2; omega) ?_; intro v1 w6 hR6 hb6 hg6 hat6; obtain ⟨cur2, hcur2⟩ : ∃ y, y = cur ++ [x] := ⟨_, rfl⟩; rw [← hcur2] at hR6; have HC2 := Lib.hid hcur2; clear hcur2; have HR6 := Lib.hid hR6; have HB6 := Lib.hid hb6; have HG6 := Lib.hid hg6; have HAT := Lib.hid hat6; clear hR6 hb6 hg6 hat6; obtain ⟨A1, c1, rfl, hx1, hx2⟩ := Kd.R_reads HR6.out; clear hx1 hx2))
        go_roundw
        case rel => exact ⟨j + 1, by omega, by go_num, Lib.hid (by rw [placesG_yes HPB.out, ← HCUR.out, ← HX.out, ← HC2.out]; exact HR6.out), Lib.hid (Kept.of_grown HG6.out HK5.out (fun k hk => .inr (HOW.out k hk))), HB6, Lib.hid (own_step2 HOW.out HAT.out (Nat.le_trans HSW.out HSZ.out))⟩
        case measure => simp [intOf]; omega
      | false =>
        cases h2 : hasI l7 ((j : Int) - (l.length : Int)) with
        | true =>
          have HPB : Hid (plB l7 (l.length : Int) (j : Int) = true) := Lib.hid (by unfold plB; rw [h2, Bool.or_true])
          rw [h1] at HH1
          rw [h2] at HH2
          clear h1 h2
          go_upto_region 8 with (first | ((with_reducible refine (HH1.out _ HQ0.out).mono ?_); rintro e w3 ⟨rfl, hb3⟩; have HB3 := Lib.hid hb3; clear hb3; have q73 := HQ7.out _ HB3.out) | ((with_reducible refine (HH2.out _ HB3.out).mono ?_); rintro e w4 ⟨rfl, hb4⟩; have HB4 := Lib.hid (HB3.out.trans (hb4.mono HB3.out.size)); clear hb4))
          have HR5 := Lib.hid (Kd.R_below hRr.out HB4.out)
          have HBW5 := Lib.hid (HB.out.trans (HB4.out.mono HB.out.size))
          have HK5 := Lib.hid (HK.out.below HB4.out)
          have HSZ := Lib.hid HB4.out.size
          have HSW := Lib.hid HK.out.1
          go_wp2_with (((with_reducible refine gate_builtin (b := .append) (xs := #[.tmp 43, .tmp 45]) rfl ?_); (try (refine gate_guard (by rfl) ?_; dsimp only)); at_builtin; refine Kd.R_append (W := w4) (w0 := w0) (Kd.int .i64) w0.heap.size rfl (.tmp 43) (.tmp 45) 22 3 (.int .i64 0) 8 rfl Try.underlying22 info3_ rfl (by decide) (by decide) (.slice oA cur.length oc) cur x [.int .i64 x] (fun _ => True) (fun _ => False) rfl rfl rfl (fun _ h => h.elim) (fun _ _ => trivial) HR5.out HBW5.out HBW5.out.size (by clear hw1 hw2; omega) ?_; intro v1 w6 hR6 hb6 hg6 hat6; obtain ⟨cur2, hcur2⟩ : ∃ y, y = cur ++ [x] := ⟨_, rfl⟩; rw [← hcur2] at hR6; have HC2 := Lib.hid hcur2; clear hcur2; have HR6 := Lib.hid hR6; have HB6 := Lib.hid hb6; have HG6 := Lib.hid hg6; have HAT := Lib.hid hat6; clear hR6 hb6 hg6 hat6; obtain ⟨A1, c1, rfl, hx1, hx2⟩ := Kd.R_reads HR6.out; clear hx1 hx2))
          go_roundw
          case rel => exact ⟨j + 1, by omega, by go_num, Lib.hid (by rw [placesG_yes HPB.out, ← HCUR.out, ← HX.out, ← HC2.out]; exact HR6.out), Lib.hid (Kept.of_grown HG6.out HK5.out (fun k hk => .inr (HOW.out k hk))), HB6, Lib.hid (own_step2 HOW.out HAT.out (Nat.le_trans HSW.out HSZ.out))⟩
          case measure => simp [intOf]; omega
        | false =>
          have HPB : Hid (plB l7 (l.length : Int) (j : Int) = false) := Lib.hid (by unfold plB; rw [h1, h2]; rfl)
          rw [h1] at HH1
          rw [h2] at HH2
          clear h1 h2
          go_upto_region 9 with (first | ((with_reducible refine (HH1.out _ HQ0.out).mono ?_); rintro e w3 ⟨rfl, hb3⟩; have HB3 := Lib.hid hb3; clear hb3; have q73 := HQ7.out _ HB3.out) | ((with_reducible refine (HH2.out _ HB3.out).mono ?_); rintro e w4 ⟨rfl, hb4⟩; have HB4 := Lib.hid (HB3.out.trans (hb4.mono HB3.out.size)); clear hb4))
          go_wp2
          go_roundw
          case rel => exact ⟨j + 1, by omega, by go_num, Lib.hid (by rw [placesG_no HPB.out, ← HCUR.out]; exact Kd.R_below hRr.out HB4.out), Lib.hid (HK.out.below HB4.out), Lib.hid (HB.out.trans (HB4.out.mono HB.out.size)), HOW⟩
          case measure => simp [intOf]; omega
    · obtain rfl : j = l.length := by omega
      go_wp2
      go_ret
      rw [HP.out, ← HCUR.out]
      exact ⟨_, rfl, hRr.out, HK.out, HB.out⟩
end Go.Proofs.Ytinjbpbpgogdhaa.Own
