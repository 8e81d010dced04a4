import Derived.Test.YtinjbpbpgogdhaaRd1
namespace Go.Proofs.Ytinjbpbpgogdhaa.Own
open Go.RowKit Go.Proofs.YtinjbpbpgogdhaaW.PrintWords Go.Proofs.YtinjbpbpgogdhaaW.PrintLast Go.Proofs.YtinjbpbpgogdhaaW.PrintMore
set_option linter.unusedVariables false
set_option linter.unusedSimpArgs false
/-- The days from one on, so many, that are right; none ahead of the calendar. -/
def daysF (P : Int → Bool) (fr : Int) (many : Nat) : List Int := daysL P (fr + many - (if fr < 0 then 0 else fr)).toNat (if fr < 0 then 0 else fr)
/-- The days of a year's first months that are right. -/
def yearL (P : Int → Bool) (l4 : List Int) (y : Int) : Nat → List Int
  | 0 => []
  | k + 1 => monthL P l4 (yearL P l4 y k) y ((k : Int) + 1)
theorem wdZ_bd (x : Int) : 0 ≤ wdZ x ∧ wdZ x ≤ 6 := by
  unfold wdZ
  have h1 := Int.tmod_lt_of_pos x (show (0 : Int) < 7 by decide)
  have h2 : -7 < Int.tmod x 7 := by
    have := Int.lt_tmod_of_pos x (show (0 : Int) < 7 by decide)
    omega
  have hw : wrap64 (Int.tmod x 7 + 7) = Int.tmod x 7 + 7 := IntWalk.wrap64_in _ (by omega)
  rw [hw, Int.tmod_eq_emod_of_nonneg (by omega)]
  omega
/-- The days of a period, told; whether there are more. -/
def periodL (a0 a8 : Int) (l4 : List Int) (P : Int → Bool) (day sy sm st : Int) : List Int × Bool :=
  if a0 = 1 then (daysF P (day + st) 1, decide (day + st < 109938))
  else if a0 = 2 then (daysF P (day - wdZ (wdZ day - a8) + 7 * st) 7, decide (day - wdZ (wdZ day - a8) + 7 * st < 109938))
  else if a0 = 3 then (monthL P l4 [] ((12 * sy + sm - 1 + st) / 12) ((12 * sy + sm - 1 + st) % 12 + 1), decide ((12 * sy + sm - 1 + st) / 12 ≤ 2200))
  else (yearL P l4 (sy + st) 12, decide (sy + st ≤ 2200))
def PeriodPost (w0 w : World) (r : List Int × Bool) (e : Ending) (w' : World) : Prop :=
  ∃ v, e = .returned (.tuple #[v, .bool r.2]) ∧ Kd.R (Kd.int .i64) 3 w' w0.heap.size (fun _ => True) v r.1 ∧ Kept w w' (fun _ => False) ∧ Below w0.heap.size w0 w'
theorem none_own {w w' : World} (h : Kept w w' (fun k => some k = (Value.slice none 0 0).ownBlock)) : Kept w w' (fun _ => False) := h.mono (fun k hk => by cases hk)
theorem of_below {w w' : World} (h : Below w.heap.size w w') : Kept w w' (fun _ => False) := (Kept.refl w _).below h
theorem monthL_len (P : Int → Bool) (l4 xs : List Int) (y m : Int) : (monthL P l4 xs y m).length ≤ xs.length + 31 := by
  unfold monthL
  have h1 := daysL_len P (len y m).toNat (num y m 1)
  have h2 := len_bd y m
  split
  · rw [List.length_append]
    omega
  · omega
theorem yearL_len (P : Int → Bool) (l4 : List Int) (y : Int) : ∀ k, (yearL P l4 y k).length ≤ 31 * k
  | 0 => Nat.zero_le _
  | k + 1 => by
    have h1 := yearL_len P l4 y k
    have h2 := monthL_len P l4 (yearL P l4 y k) y ((k : Int) + 1)
    show (monthL P l4 (yearL P l4 y k) y ((k : Int) + 1)).length ≤ _
    omega
def YearRel (w0 w : World) (P : Int → Bool) (l4 : List Int) (y : Int) (i o : Value) (wr : World) : Prop :=
  ∃ j : Nat, j ≤ 12 ∧ i = .int .i64 (j : Int) ∧ Hid (Kd.R (Kd.int .i64) 3 wr w0.heap.size (fun _ => True) o (yearL P l4 y j)) ∧ Hid (Kept w wr (fun _ => False)) ∧ Hid (Below w0.heap.size w0 wr) ∧ Hid (∀ k, o.ownBlock = some k → w.heap.size ≤ k)
set_option maxHeartbeats 8000000 in
set_option maxRecDepth 100000 in
theorem period_any {w0 : World} {g : Nat} {a0 a1 a2 a3 a8 : Int} {A4 A5 A6 A7 : Option Addr} {c4 c5 c6 c7 : Nat} {l4 l5 l7 : List Int} {l6 : List S58} {day sy sm sd mi : Int} (k st : Int) (w : World) (hW : Wk0 w0 w g a0 a1 a2 a3 a8 A4 A5 A6 A7 c4 c5 c6 c7 l4 l5 l7 l6 day sy sm sd mi)
    (ha0 : 1 ≤ a0 ∧ a0 ≤ 4) (ha8 : 0 ≤ a8 ∧ a8 ≤ 6) (hst : k * a1 = st) (hs0 : 0 ≤ st) (hs1 : st ≤ 100000000) (hd0 : 0 ≤ day) (hd1 : day ≤ 109938) (hy0 : 1900 ≤ sy) (hy1 : sy ≤ 2200) (hm0 : 1 ≤ sm) (hm1 : sm ≤ 12) :
    Calls Try.prog 39 #[.pointer (some ⟨g, 0, none⟩), .int .i64 k] w (PeriodPost w0 w (periodL a0 a8 l4 (dayB a0 l4 l5 l6 day sm sd) day sy sm st)) := by
  have HW := Lib.hid hW
  have q0 := cell_eq (blk_cell hW.hg 0) rfl
  have q1 := cell_eq (blk_cell hW.hg 1) rfl
  have q10 := cell_eq (blk_cell hW.hg 10) rfl
  obtain ⟨P, hP⟩ : ∃ P, P = dayB a0 l4 l5 l6 day sm sd := ⟨_, rfl⟩
  have HP := Lib.hid hP
  rw [← hP]
  clear hP hW
  have j0 : IntKind.i64.wrap (k * a1) = st := by rw [hst]; exact IntWalk.i64_in _ (by omega)
  have k0 : wrap64 (k * a1) = st := by clear j0; rw [hst]; exact IntWalk.wrap64_in _ (by omega)
  have HST := Lib.hid hst
  clear hst
  by_cases e1 : a0 = 1
  · subst e1
    go_enter Try.func39, Try.ntmps39
    go_upto_region 4 with (fail)
    clear j0 k0 q0 q1 q10
    refine pe4_wp (n0 := day + st) (K := 1) HW (by omega) (by omega) hs0 (by omega) (by rw [if_neg (by omega)]) (by omega) (Lib.hid fun c a N v w h => by cases N <;> exact h) (Lib.hid ?_)
    intro d26 d27 d28 d29 d30 d31 d32 d33 d34 d35 d36 d37 d38 d39 d40 v w2 HR2 HW2 HK2
    go_wp2
    go_ret2
    refine ⟨v, ?_, ?_, none_own HK2.out, HW2.out.hb⟩
    · unfold periodL
      rw [if_pos rfl]
      first | done | rfl
    · unfold periodL
      rw [if_pos rfl]
      have h := HR2.out
      rw [List.nil_append, ← HP.out] at h
      unfold daysF
      rw [if_neg (by omega), show (day + st + ((1 : Nat) : Int) - (day + st)).toNat = 1 from by omega]
      exact h
  · by_cases e2 : a0 = 2
    · subst e2
      obtain ⟨f, hf⟩ : ∃ f, f = day - wdZ (wdZ day - a8) + 7 * st := ⟨_, rfl⟩
      have hw1 := wdZ_bd (wdZ day - a8)
      have hfb : -7 ≤ f ∧ f ≤ 701000000 := by omega
      have HF := Lib.hid hf
      have HDY : Hid (∀ W, Below w.heap.size w W → Calls Try.prog 45 #[.pointer (some ⟨g, 0, none⟩), .slice none 0 0, .int .i64 f, .int .i64 7] W (RowPost w0 W (.slice none 0 0) ([] ++ daysF P f 7))) := Lib.hid (fun W hW => by
        rw [HP.out]
        exact days_any (.slice none 0 0) [] f _ _ 7 W (HW.out.below hW) (Kd.R_nil _ _ _ _ _) (Nat.zero_le _) (by omega) (by omega) (by decide) rfl rfl)
      clear hf
      go_enter Try.func39, Try.ntmps39
      go_upto_region 6 with (fail)
      clear j0 k0 q0 q1 q10
      refine pe6_wp HW (by omega) (by omega) hs0 hs1 ha8 wdZ_bd (Lib.hid fun c a N v w h => by cases N <;> exact h) (Lib.hid ?_)
      rw [← HF.out]
      intro d43 d44 d45 d46 d47 d48 d49 d50 d51 d52 d53 d54 d55 d56 d57 d58 d59 d60 d61 d62 w2 HB2
      go_wp2_with (first | ((with_reducible refine (HDY.out _ HB2.out).mono ?_); rintro e w4 ⟨v', rfl, hR4, hk4, hb4, ho4⟩; have HR4 := Lib.hid hR4; have HK4 := Lib.hid hk4; have HB4 := Lib.hid hb4; clear hR4 hk4 hb4 ho4))
      go_ret2
      refine ⟨v', ?_, ?_, (of_below HB2.out).then_ (none_own HK4.out) (fun k hk => hk.elim), HB4.out⟩
      · unfold periodL
        rw [if_neg (by decide), if_pos rfl, ← HF.out]
        first | done | rfl
      · unfold periodL
        rw [if_neg (by decide), if_pos rfl, ← HF.out]
        exact HR4.out
    · by_cases e3 : a0 = 3
      · subst e3
        obtain ⟨nn, hnn⟩ : ∃ f, f = 12 * sy + sm - 1 + st := ⟨_, rfl⟩
        have hn0 : 0 ≤ nn := by omega
        have hn1 : nn ≤ 200000000 := by omega
        have HNN := Lib.hid hnn
        have HMO : Hid (∀ W, Below w.heap.size w W → Calls Try.prog 47 #[.pointer (some ⟨g, 0, none⟩), .slice none 0 0, .int .i64 (nn / 12), .int .i64 (nn % 12 + 1)] W (RowPost w0 W (.slice none 0 0) (monthL P l4 [] (nn / 12) (nn % 12 + 1)))) := Lib.hid (fun W hW => by
          rw [HP.out]
          exact month_any (.slice none 0 0) [] _ _ W (HW.out.below hW) (Kd.R_nil _ _ _ _ _) (Nat.zero_le _))
        clear hnn
        go_enter Try.func39, Try.ntmps39
        go_upto_region 9 with (fail)
        clear j0 k0 q0 q1 q10
        refine pe9_wp HW (by omega) (by omega) hm0 hm1 hs0 (by omega) (Lib.hid fun c a N v w h => by cases N <;> exact h) (Lib.hid ?_)
        rw [← HNN.out]
        intro d70 d71 d72 d73 d74 d75 d76 d77 d78 d79 d80 d81 d82 d83 d84 w2 HB2
        have k1 : wrap64 (nn % 12 + 1) = nn % 12 + 1 := IntWalk.wrap64_in _ (by omega)
        go_wp2_with (first | ((with_reducible refine (HMO.out _ HB2.out).mono ?_); rintro e w4 ⟨v', rfl, hR4, hk4, hb4, ho4⟩; have HR4 := Lib.hid hR4; have HK4 := Lib.hid hk4; have HB4 := Lib.hid hb4; clear hR4 hk4 hb4 ho4))
        go_ret2
        refine ⟨v', ?_, ?_, (of_below HB2.out).then_ (none_own HK4.out) (fun k hk => hk.elim), HB4.out⟩
        · unfold periodL
          rw [if_neg (by decide), if_neg (by decide), if_pos rfl, ← HNN.out]
          first | done | rfl
        · unfold periodL
          rw [if_neg (by decide), if_neg (by decide), if_pos rfl, ← HNN.out]
          exact HR4.out
      · obtain rfl : a0 = 4 := by omega
        obtain ⟨yy, hyy⟩ : ∃ f, f = sy + st := ⟨_, rfl⟩
        have k9 : wrap64 (sy + st) = yy := by clear j0 k0; rw [hyy]; exact IntWalk.wrap64_in _ (by omega)
        have j9 : IntKind.i64.wrap (sy + st) = yy := by clear j0 k0 k9; rw [hyy]; exact IntWalk.i64_in _ (by omega)
        have HYY := Lib.hid hyy
        clear hyy
        go_enter Try.func39, Try.ntmps39
        go_wp2
        go_loopw [102, 10] (fun i' o wr => YearRel w0 w P l4 yy i' o wr) (fun i' _ _ => 12 - (intOf i').toNat)
        case atStart => exact ⟨0, by decide, rfl, Lib.hid (Kd.R_nil _ _ _ _ _), Lib.hid (Kept.refl _ _), Lib.hid HW.out.hb, Lib.hid (fun k hk => by cases hk)⟩
        case round =>
        clear j0 k0 j9 k9
        obtain ⟨j, hj, rfl, HRr, HKr, HBr, HOr⟩ := hrel
        by_cases hlt : j < 12
        · have hll := yearL_len P l4 yy j
          obtain ⟨cur, hcur⟩ : ∃ x, x = yearL P l4 yy j := ⟨_, rfl⟩
          rw [← hcur] at HRr hll
          obtain ⟨oA, oc, rfl, hx1, hx2⟩ := Kd.R_reads HRr.out
          clear hx1 hx2
          have HCU := Lib.hid hcur
          clear hcur
          have HWr : Hid (Wk0 w0 wr g 4 a1 a2 a3 a8 A4 A5 A6 A7 c4 c5 c6 c7 l4 l5 l7 l6 day sy sm sd mi) := Lib.hid ⟨(HKr.out.2 g (heap_lt HW.out.hg) (fun h => h)).trans HW.out.hg, HW.out.rc, HBr.out, HW.out.ng⟩
          have HMO : Hid (Calls Try.prog 47 #[.pointer (some ⟨g, 0, none⟩), .slice oA cur.length oc, .int .i64 yy, .int .i64 ((j : Int) + 1)] wr (RowPost w0 wr (.slice oA cur.length oc) (monthL P l4 cur yy ((j : Int) + 1)))) := Lib.hid (by
            rw [HP.out]
            exact month_any (.slice oA cur.length oc) cur yy ((j : Int) + 1) wr HWr.out HRr.out (by omega))
          have k1 : wrap64 ((j : Int) + 1) = (j : Int) + 1 := IntWalk.wrap64_in _ (by omega)
          go_wp2_with (first | ((with_reducible refine HMO.out.mono ?_); rintro e w4 ⟨v', rfl, hR4, hk4, hb4, ho4⟩; have HR4 := Lib.hid hR4; have HK4 := Lib.hid hk4; have HB4 := Lib.hid hb4; have HO4 := Lib.hid ho4; clear hR4 hk4 hb4 ho4))
          go_roundw
          case rel => exact ⟨j + 1, by omega, by go_num, Lib.hid (by show Kd.R _ _ _ _ _ _ (monthL P l4 (yearL P l4 yy j) yy ((j : Int) + 1)); rw [← HCU.out]; exact HR4.out), Lib.hid (HKr.out.then_ HK4.out (fun k hk => .inr (HOr.out k hk.symm))), HB4, Lib.hid (fun k hk => (HO4.out k hk).elim (fun h => HOr.out k h.symm) (fun h => Nat.le_trans HKr.out.1 h))⟩
          case measure => simp [intOf]; omega
        · obtain rfl : j = 12 := by omega
          obtain ⟨oA, oc, rfl, hx1, hx2⟩ := Kd.R_reads HRr.out
          clear hx1 hx2
          go_wp2
          go_ret2
          refine ⟨.slice oA (yearL P l4 yy 12).length oc, ?_, ?_, HKr.out, HBr.out⟩
          · unfold periodL
            rw [if_neg (by decide), if_neg (by decide), if_neg (by decide), ← HYY.out]
            first | done | rfl
          · unfold periodL
            rw [if_neg (by decide), if_neg (by decide), if_neg (by decide), ← HYY.out]
            exact HRr.out
end Go.Proofs.Ytinjbpbpgogdhaa.Own
