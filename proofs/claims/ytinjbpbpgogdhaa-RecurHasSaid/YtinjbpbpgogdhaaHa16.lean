-- own text: texts of this session merged by a program of it (merge.py), declarations that nothing reaches left out (prune.py)
import Derived.Test.YtinjbpbpgogdhaaHa14
import Derived.Test.YtinjbpbpgogdhaaHa08
section
namespace Go.Proofs.Ytinjbpbpgogdhaa.Own
open Go.RowKit Go.Proofs.YtinjbpbpgogdhaaW.PrintWords Go.Proofs.YtinjbpbpgogdhaaW.PrintLast Go.Proofs.YtinjbpbpgogdhaaW.PrintMore
set_option linter.unusedVariables false
set_option linter.unusedSimpArgs false
theorem wrap_id {n : Int} (h : -9223372036854775808 ≤ n) (h2 : n ≤ 9223372036854775807) : wrap64 n = n := by unfold wrap64; omega
theorem tmod0 (y c : Int) : Int.tmod y c = 0 ↔ y % c = 0 := by
  constructor
  · intro h; exact Int.emod_eq_zero_of_dvd (Int.dvd_of_tmod_eq_zero h)
  · intro h; exact Int.tmod_eq_zero_of_dvd (Int.dvd_of_emod_eq_zero h)
theorem pos_rounds {k : Nat} (h : 1 ≤ k) : ∃ m, k = m + 1 := ⟨k - 1, by omega⟩

def lp (y : Int) : Bool := decide ((y % 4 = 0 ∧ y % 100 ≠ 0) ∨ y % 400 = 0)
theorem civil_Leap_f (y : Int) : civil_Leap.f y = some (lp y) := by
  unfold civil_Leap.f lp
  simp only [tmod0]
  have e : ∀ x : Int, (Int.tmod x 400 == 0) = decide (x % 400 = 0) := fun x => by
    by_cases h : x % 400 = 0
    · simp [h, (tmod0 x 400).2 h]
    · have h' : ¬ Int.tmod x 400 = 0 := fun q => h ((tmod0 x 400).1 q)
      simp [h, h']
  simp only [e]
  by_cases h4 : y % 4 = 0 <;> by_cases h100 : y % 100 = 0 <;> by_cases h400 : y % 400 = 0 <;> simp [h4, h100, h400]

def len (y m : Int) : Int := if m = 2 then (if lp y = true then 29 else 28) else if m = 4 ∨ m = 6 ∨ m = 9 ∨ m = 11 then 30 else if 1 ≤ m ∧ m ≤ 12 then 31 else 0
theorem civil_Length_f {k : Nat} (hk : 1 ≤ k) (y m : Int) : civil_Length.f k y m = some (len y m) := by
  obtain ⟨k, rfl⟩ := pos_rounds hk
  unfold civil_Length.f len
  simp only [civil_Leap_f, Option.bind_some, civil_Length.j0]
  by_cases h2 : m = 2
  · subst h2; simp; split <;> rfl
  · simp only [if_neg h2]
    by_cases h4 : m = 4
    · subst h4; simp
    · by_cases h6 : m = 6
      · subst h6; simp
      · by_cases h9 : m = 9
        · subst h9; simp
        · by_cases h11 : m = 11
          · subst h11; simp
          · simp only [h4, h6, h9, h11, if_false, false_or]
            by_cases h : 1 ≤ m ∧ m ≤ 12
            · have : m = 1 ∨ m = 3 ∨ m = 5 ∨ m = 7 ∨ m = 8 ∨ m = 10 ∨ m = 12 := by omega
              rcases this with rfl | rfl | rfl | rfl | rfl | rfl | rfl <;> simp
            · have e : (m == 11) = false := by simpa using h11
              rw [if_neg (by simp [e]), if_neg (by omega), if_neg (by omega), if_neg (by omega), if_neg (by omega), if_neg (by omega), if_neg (by omega), if_neg (by omega), if_neg h]
theorem len_bd (y m : Int) : 0 ≤ len y m ∧ len y m ≤ 31 := by unfold len; repeat (split <;> try omega)
theorem len_pos {y m : Int} (h : 1 ≤ len y m) : 1 ≤ m ∧ m ≤ 12 := by
  unfold len at h
  repeat (split at h <;> try omega)
theorem len_lo {y m : Int} (h : 1 ≤ m) (h2 : m ≤ 12) : 28 ≤ len y m := by
  unfold len
  repeat (split <;> try omega)

def Ok (y m d : Int) : Prop := 1900 ≤ y ∧ y ≤ 2200 ∧ 1 ≤ m ∧ m ≤ 12 ∧ 1 ≤ d ∧ d ≤ len y m
instance (y m d : Int) : Decidable (Ok y m d) := by unfold Ok; infer_instance
theorem civil_May_f {k : Nat} (hk : 1 ≤ k) (y m d : Int) : civil_May.f k y m d = some (decide (Ok y m d)) := by
  unfold civil_May.f
  rw [civil_Length_f hk]
  simp only [Option.bind_some]
  have hl := @len_pos y m
  by_cases h1 : 1900 ≤ y
  · rw [if_pos h1]
    by_cases h2 : y ≤ 2200
    · rw [if_pos h2]
      by_cases h3 : 1 ≤ d
      · rw [if_pos h3]
        congr 1
        refine decide_eq_decide.2 ⟨fun h => ?_, fun h => h.2.2.2.2.2⟩
        have := hl (by omega)
        exact ⟨h1, h2, this.1, this.2, h3, h⟩
      · rw [if_neg h3]; congr 1; exact (decide_eq_false (fun h => h3 h.2.2.2.2.1)).symm
    · rw [if_neg h2]; congr 1; exact (decide_eq_false (fun h => h2 h.2.1)).symm
  · rw [if_neg h1]; congr 1; exact (decide_eq_false (fun h => h1 h.1)).symm

def eraZ (y : Int) : Int := 365 * y + y / 4 - y / 100 + y / 400
def mar (m : Int) : Int := (153 * m + 2) / 5
theorem civil_era_f {y : Int} (h0 : 0 ≤ y) (h1 : y ≤ 1000000000) : civil_era.f y = some (eraZ y) := by
  unfold civil_era.f eraZ
  rw [Int.tdiv_eq_ediv_of_nonneg h0, Int.tdiv_eq_ediv_of_nonneg h0, Int.tdiv_eq_ediv_of_nonneg h0]
  congr 1
  unfold wrap64
  omega
theorem civil_march_f {m : Int} (h0 : 0 ≤ m) (h1 : m ≤ 1000000000) : civil_march.f m = some (mar m) := by
  unfold civil_march.f mar
  have e : wrap64 (wrap64 (153 * m) + 2) = 153 * m + 2 := by unfold wrap64; omega
  rw [e, Int.tdiv_eq_ediv_of_nonneg (by omega)]
  congr 1
  unfold wrap64
  omega
theorem civil_first_f : civil_first.f = some 693901 := by
  unfold civil_first.f
  rw [civil_era_f (by omega) (by omega), civil_march_f (by omega) (by omega)]
  simp only [Option.bind_some]
  rw [show eraZ 1899 = 693595 from by decide, show mar 10 = 306 from by decide, wrap_id (by omega) (by omega)]
  rfl
def num (y m d : Int) : Int := (if m < 3 then eraZ (y - 1) + mar (m + 9) else eraZ y + mar (m - 3)) + d - 1 - 693901
theorem era_bd {y : Int} (h0 : 1899 ≤ y) (h1 : y ≤ 2200) : 693595 ≤ eraZ y ∧ eraZ y ≤ 804000 := by unfold eraZ; omega
theorem mar_bd {m : Int} (h0 : 0 ≤ m) (h1 : m ≤ 11) : 0 ≤ mar m ∧ mar m ≤ 337 := by unfold mar; omega
theorem civil_Number_ok {k : Nat} (hk : 1 ≤ k) {y m d : Int} (h : Ok y m d) : civil_Number.f k y m d = some (num y m d, true) := by
  have hd := h
  obtain ⟨h1, h2, h3, h4, h5, h6⟩ := h
  have hl := len_bd y m
  unfold civil_Number.f civil_shifted.f num
  rw [civil_May_f hk]
  simp only [Option.bind_some, decide_eq_true hd, if_true]
  by_cases hm : m < 3
  · have e1 : wrap64 (y - 1) = y - 1 := wrap_id (by omega) (by omega)
    have e2 : wrap64 (m + 9) = m + 9 := wrap_id (by omega) (by omega)
    have b1 := era_bd (y := y - 1) (by omega) (by omega)
    have b2 := mar_bd (m := m + 9) (by omega) (by omega)
    rw [if_pos hm, if_pos hm]
    simp only [Option.bind_some, e1, e2]
    rw [civil_era_f (by omega) (by omega), civil_march_f (by omega) (by omega), civil_first_f]
    simp only [Option.bind_some]
    congr 2
    unfold wrap64
    omega
  · have e2 : wrap64 (m - 3) = m - 3 := wrap_id (by omega) (by omega)
    have b1 := era_bd (y := y) (by omega) (by omega)
    have b2 := mar_bd (m := m - 3) (by omega) (by omega)
    rw [if_neg hm, if_neg hm]
    simp only [Option.bind_some, e2]
    rw [civil_era_f (by omega) (by omega), civil_march_f (by omega) (by omega), civil_first_f]
    simp only [Option.bind_some]
    congr 2
    unfold wrap64
    omega
theorem civil_Number_no {k : Nat} (hk : 1 ≤ k) {y m d : Int} (h : ¬ Ok y m d) : civil_Number.f k y m d = some (0, false) := by
  unfold civil_Number.f
  rw [civil_May_f hk]
  simp [h]
theorem ref_Leap_f (y : Int) : vespersref01_Leap.f y = some (lp y) := by
  unfold vespersref01_Leap.f lp
  simp only [tmod0]
  have e : ∀ x : Int, (Int.tmod x 100 != 0) = decide (x % 100 ≠ 0) := fun x => by
    by_cases h : x % 100 = 0
    · simp [h, (tmod0 x 100).2 h]
    · have h' : ¬ Int.tmod x 100 = 0 := fun q => h ((tmod0 x 100).1 q)
      simp [h, h']
  simp only [e]
  by_cases h4 : y % 4 = 0 <;> by_cases h100 : y % 100 = 0 <;> by_cases h400 : y % 400 = 0 <;> simp [h4, h100, h400]
theorem ref_Length_f {k : Nat} (hk : 1 ≤ k) (y m : Int) : vespersref01_Length.f k y m = some (len y m) := by
  obtain ⟨k, rfl⟩ := pos_rounds hk
  unfold vespersref01_Length.f len
  simp only [ref_Leap_f, Option.bind_some, vespersref01_Length.j0]
  by_cases h1 : m < 1
  · rw [if_pos h1, if_pos trivial, if_neg (by omega), if_neg (by omega), if_neg (by omega)]
  · rw [if_neg h1]
    by_cases h12 : m > 12
    · rw [if_pos (by simpa using h12), if_neg (by omega), if_neg (by omega), if_neg (by omega)]
    · rw [if_neg (by simpa using h12)]
      have : m = 1 ∨ m = 2 ∨ m = 3 ∨ m = 4 ∨ m = 5 ∨ m = 6 ∨ m = 7 ∨ m = 8 ∨ m = 9 ∨ m = 10 ∨ m = 11 ∨ m = 12 := by omega
      rcases this with rfl | rfl | rfl | rfl | rfl | rfl | rfl | rfl | rfl | rfl | rfl | rfl
      case inr.inl =>
        cases lp y <;> simp [wrap64, rd]
      all_goals simp [wrap64, rd]
theorem ref_May_f {k : Nat} (hk : 1 ≤ k) (y m d : Int) : vespersref01_May.f k y m d = some (decide (Ok y m d)) := by
  unfold vespersref01_May.f
  rw [ref_Length_f hk]
  simp only [Option.bind_some]
  by_cases h1 : 1900 ≤ y
  · rw [if_pos h1]
    by_cases h2 : y ≤ 2200
    · rw [if_pos h2]
      by_cases h3 : 1 ≤ m
      · rw [if_pos h3]
        by_cases h4 : m ≤ 12
        · rw [if_pos h4]
          by_cases h5 : 1 ≤ d
          · rw [if_pos h5]
            congr 1
            exact decide_eq_decide.2 ⟨fun h => ⟨h1, h2, h3, h4, h5, h⟩, fun h => h.2.2.2.2.2⟩
          · rw [if_neg h5]; congr 1; exact (decide_eq_false (fun h => h5 h.2.2.2.2.1)).symm
        · rw [if_neg h4]; congr 1; exact (decide_eq_false (fun h => h4 h.2.2.2.1)).symm
      · rw [if_neg h3]; congr 1; exact (decide_eq_false (fun h => h3 h.2.2.1)).symm
    · rw [if_neg h2]; congr 1; exact (decide_eq_false (fun h => h2 h.2.1)).symm
  · rw [if_neg h1]; congr 1; exact (decide_eq_false (fun h => h1 h.1)).symm

/-- days ahead of a month, in its year -/
def cm (y m : Int) : Int := if m < 3 then 31 * (m - 1) else 59 + (if lp y = true then 1 else 0) + mar (m - 3)
theorem cm_succ {y m : Int} (h1 : 1 ≤ m) (h2 : m ≤ 11) : cm y (m + 1) = cm y m + len y m := by
  have : m = 1 ∨ m = 2 ∨ m = 3 ∨ m = 4 ∨ m = 5 ∨ m = 6 ∨ m = 7 ∨ m = 8 ∨ m = 9 ∨ m = 10 ∨ m = 11 := by omega
  unfold cm len mar
  rcases this with rfl | rfl | rfl | rfl | rfl | rfl | rfl | rfl | rfl | rfl | rfl <;> cases lp y <;> simp
theorem cm_bd {y m : Int} (h1 : 1 ≤ m) (h2 : m ≤ 12) : 0 ≤ cm y m ∧ cm y m ≤ 336 := by
  unfold cm mar
  split <;> (try split) <;> omega
def lpi (y : Int) : Int := if lp y = true then 1 else 0
theorem era_succ (y : Int) : eraZ y = eraZ (y - 1) + 365 + lpi y := by
  unfold eraZ lpi lp
  by_cases h : (y % 4 = 0 ∧ y % 100 ≠ 0) ∨ y % 400 = 0
  · rw [if_pos (decide_eq_true h)]; omega
  · rw [if_neg (by simpa using h)]; omega
theorem num_eq {y m d : Int} (h1 : 1 ≤ m) (h2 : m ≤ 12) : num y m d = d - 1 + cm y m + (eraZ (y - 1) - 693595) := by
  unfold num cm
  by_cases h : m < 3
  · rw [if_pos h, if_pos h]
    have : m = 1 ∨ m = 2 := by omega
    rcases this with rfl | rfl <;> (unfold mar; omega)
  · rw [if_neg h, if_neg h, era_succ y]
    unfold lpi
    omega
theorem ref_l1 (m d : Int) (n : Nat) : ∀ (k : Nat) (x z y : Int), n < k → 1900 ≤ z → z ≤ y → y ≤ 2200 → y - z = n → 0 ≤ x → x + (eraZ (y - 1) - eraZ (z - 1)) ≤ 1000000000 →
    vespersref01_Number.l1 k x z y m d = some (x + (eraZ (y - 1) - eraZ (z - 1)), true) := by
  induction n with
  | zero =>
    intro k x z y hk h1 h2 h3 hn h0 hb
    obtain ⟨k, rfl⟩ := pos_rounds (k := k) (by omega)
    obtain rfl : z = y := by omega
    unfold vespersref01_Number.l1
    rw [if_neg (by omega)]
    congr 2
    omega
  | succ n ih =>
    intro k x z y hk h1 h2 h3 hn h0 hb
    obtain ⟨k, rfl⟩ := pos_rounds (k := k) (by omega)
    have hs := era_succ z
    have hm : eraZ z ≤ eraZ (y - 1) := by unfold eraZ; omega
    unfold vespersref01_Number.l1
    rw [if_pos (by omega), ref_Leap_f]
    simp only [Option.bind_some]
    have e3 : wrap64 (z + 1) = z + 1 := wrap_id (by omega) (by omega)
    by_cases hl : lp z = true
    · have hi : lpi z = 1 := by unfold lpi; rw [if_pos hl]
      have e1 : wrap64 (x + 365) = x + 365 := wrap_id (by omega) (by omega)
      have e2 : wrap64 (x + 365 + 1) = x + 365 + 1 := wrap_id (by omega) (by omega)
      rw [if_pos hl, e1, e2, e3, ih k (x + 365 + 1) (z + 1) y (by omega) (by omega) (by omega) (by omega) (by omega) (by omega) (by rw [show z + 1 - 1 = z from by omega]; omega)]
      rw [show z + 1 - 1 = z from by omega]
      congr 2; omega
    · have hi : lpi z = 0 := by unfold lpi; rw [if_neg hl]
      have e1 : wrap64 (x + 365) = x + 365 := wrap_id (by omega) (by omega)
      rw [if_neg hl, e1, e3, ih k (x + 365) (z + 1) y (by omega) (by omega) (by omega) (by omega) (by omega) (by omega) (by rw [show z + 1 - 1 = z from by omega]; omega)]
      rw [show z + 1 - 1 = z from by omega]
      congr 2; omega
theorem ref_l0 (d : Int) (n : Nat) : ∀ (k : Nat) (x z y m : Int), n + 400 < k → 1 ≤ z → z ≤ m → m ≤ 12 → 1900 ≤ y → y ≤ 2200 → m - z = n → 0 ≤ x → x ≤ 1000 - cm y m + cm y z →
    vespersref01_Number.l0 k x z y m d = some (x + (cm y m - cm y z) + (eraZ (y - 1) - 693595), true) := by
  induction n with
  | zero =>
    intro k x z y m hk h1 h2 h3 h4 h5 hn h0 hb
    obtain ⟨k, rfl⟩ := pos_rounds (k := k) (by omega)
    obtain rfl : z = m := by omega
    have b := era_bd (y := y - 1) (by omega) (by omega)
    unfold vespersref01_Number.l0
    rw [if_neg (by omega), ref_l1 z d (y - 1900).toNat k x 1900 y (by omega) (by omega) (by omega) (by omega) (by omega) (by omega) (by rw [show eraZ (1900 - 1) = 693595 from by decide]; omega)]
    rw [show eraZ (1900 - 1) = 693595 from by decide]
    congr 2; omega
  | succ n ih =>
    intro k x z y m hk h1 h2 h3 h4 h5 hn h0 hb
    obtain ⟨k, rfl⟩ := pos_rounds (k := k) (by omega)
    have hs := cm_succ (y := y) (m := z) (by omega) (by omega)
    have hl := len_bd y z
    have hc := cm_bd (y := y) (m := m) (by omega) (by omega)
    have hc2 := cm_bd (y := y) (m := z) (by omega) (by omega)
    unfold vespersref01_Number.l0
    rw [if_pos (by omega), ref_Length_f (by omega)]
    simp only [Option.bind_some]
    have e1 : wrap64 (x + len y z) = x + len y z := wrap_id (by omega) (by omega)
    have e3 : wrap64 (z + 1) = z + 1 := wrap_id (by omega) (by omega)
    rw [e1, e3, ih k (x + len y z) (z + 1) y m (by omega) (by omega) (by omega) (by omega) (by omega) (by omega) (by omega) (by omega) (by omega)]
    congr 2; omega
theorem ref_Number_ok {k : Nat} (hk : 500 ≤ k) {y m d : Int} (h : Ok y m d) : vespersref01_Number.f k y m d = some (num y m d, true) := by
  have hd := h
  obtain ⟨h1, h2, h3, h4, h5, h6⟩ := h
  have hl := len_bd y m
  have hc := cm_bd (y := y) (m := m) (by omega) (by omega)
  have hc1 : cm y 1 = 0 := by unfold cm; simp
  unfold vespersref01_Number.f
  rw [ref_May_f (by omega)]
  simp only [Option.bind_some, decide_eq_true hd, if_true]
  rw [wrap_id (n := d - 1) (by omega) (by omega), ref_l0 d (m - 1).toNat k (d - 1) 1 y m (by omega) (by omega) (by omega) (by omega) (by omega) (by omega) (by omega) (by omega) (by omega),
    num_eq h3 h4, hc1]
  congr 2; omega
theorem era_mono {a b : Int} (h : a < b) : eraZ a + 365 ≤ eraZ b := by unfold eraZ; omega
/-- the year that begins in March, and how far into it -/
theorem num_march {y m d : Int} (h : Ok y m d) : ∃ Y M : Int, 0 ≤ M ∧ M ≤ 11 ∧ (Y = if m < 3 then y - 1 else y) ∧ (M = if m < 3 then m + 9 else m - 3) ∧ num y m d + 693901 = eraZ Y + mar M + (d - 1) ∧
    mar M + (d - 1) < 365 + lpi (Y + 1) ∧ 0 ≤ d - 1 ∧ (M < 11 → mar M + (d - 1) < mar (M + 1)) := by
  obtain ⟨h1, h2, h3, h4, h5, h6⟩ := h
  have hm : m = 1 ∨ m = 2 ∨ m = 3 ∨ m = 4 ∨ m = 5 ∨ m = 6 ∨ m = 7 ∨ m = 8 ∨ m = 9 ∨ m = 10 ∨ m = 11 ∨ m = 12 := by omega
  unfold num
  refine ⟨_, _, ?_, ?_, rfl, rfl, ?_, ?_, by omega, ?_⟩
  · split <;> omega
  · split <;> omega
  · split <;> omega
  · unfold len at h6
    rcases hm with rfl | rfl | rfl | rfl | rfl | rfl | rfl | rfl | rfl | rfl | rfl | rfl
    case inr.inl =>
      simp at h6 ⊢
      unfold lpi mar
      cases hl : lp y <;> simp [hl] at h6 ⊢ <;> omega
    all_goals
      simp at h6
      unfold lpi mar
      simp
      split <;> omega
  · unfold len at h6
    rcases hm with rfl | rfl | rfl | rfl | rfl | rfl | rfl | rfl | rfl | rfl | rfl | rfl
    case inr.inl => intro h; simp at h
    all_goals
      simp at h6
      unfold mar
      simp
      try omega
theorem num_inj {y m d y' m' d' : Int} (h : Ok y m d) (h' : Ok y' m' d') (e : num y m d = num y' m' d') : y = y' ∧ m = m' ∧ d = d' := by
  obtain ⟨Y, M, a1, a2, a3, a4, a5, a6, a7, a8⟩ := num_march h
  obtain ⟨Y', M', b1, b2, b3, b4, b5, b6, b7, b8⟩ := num_march h'
  obtain ⟨h1, h2, h3, h4, h5, h6⟩ := h
  obtain ⟨h1', h2', h3', h4', h5', h6'⟩ := h'
  have m1 := mar_bd a1 a2
  have m2 := mar_bd b1 b2
  have s1 := era_succ (Y + 1)
  have s2 := era_succ (Y' + 1)
  rw [show Y + 1 - 1 = Y from by omega] at s1
  rw [show Y' + 1 - 1 = Y' from by omega] at s2
  have hY : Y = Y' := by
    rcases Int.lt_trichotomy Y Y' with c | c | c
    · exfalso
      by_cases q : Y + 1 = Y'
      · subst q; omega
      · have := era_mono (a := Y + 1) (b := Y') (by omega); omega
    · exact c
    · exfalso
      by_cases q : Y' + 1 = Y
      · subst q; omega
      · have := era_mono (a := Y' + 1) (b := Y) (by omega); omega
  subst hY
  have hM : M = M' := by
    have mm : ∀ {p q : Int}, p < q → mar (p + 1) ≤ mar q := fun h => by unfold mar; omega
    rcases Int.lt_trichotomy M M' with c | c | c
    · exfalso; have := a8 (by omega); have := mm c; omega
    · exact c
    · exfalso; have := b8 (by omega); have := mm c; omega
  subst hM
  by_cases c : m < 3 <;> by_cases c' : m' < 3 <;> simp [c] at a3 a4 <;> simp [c'] at b3 b4 <;> refine ⟨?_, ?_, ?_⟩ <;> omega

theorem march_day {rest : Int} (h0 : 0 ≤ rest) (h1 : rest ≤ 365) : 0 ≤ (5 * rest + 2) / 153 ∧ (5 * rest + 2) / 153 ≤ 11 ∧ mar ((5 * rest + 2) / 153) ≤ rest ∧ rest < mar ((5 * rest + 2) / 153 + 1) := by
  unfold mar; omega
/-- back from a March year -/
theorem ok_of_march {N Y rest M : Int} (hn : N = eraZ Y + rest) (hN : 693901 ≤ N) (hN2 : N < 693901 + 109938) (h0 : 0 ≤ rest) (h1 : rest < 365 + lpi (Y + 1)) (hM : M = (5 * rest + 2) / 153) :
    Ok (if M ≥ 10 then Y + 1 else Y) (if M ≥ 10 then M - 9 else M + 3) (rest - mar M + 1) ∧ num (if M ≥ 10 then Y + 1 else Y) (if M ≥ 10 then M - 9 else M + 3) (rest - mar M + 1) = N - 693901 := by
  have hl : lpi (Y + 1) = 0 ∨ lpi (Y + 1) = 1 := by unfold lpi; split <;> simp
  have hd := march_day h0 (by omega)
  rw [← hM] at hd
  have hY : 1899 ≤ Y ∧ Y ≤ 2200 := by unfold eraZ at hn; omega
  have hY2 : Y = 1899 → 10 ≤ M := by
    intro e; subst e
    have : eraZ 1899 = 693595 := by decide
    omega
  have hY3 : Y = 2200 → M < 10 := by
    intro e; subst e
    have : eraZ 2200 = 803533 := by decide
    omega
  clear hM
  constructor
  · unfold Ok
    by_cases c : M ≥ 10
    · rw [if_pos c, if_pos c]
      refine ⟨by omega, by omega, by omega, by omega, by omega, ?_⟩
      have : M = 10 ∨ M = 11 := by omega
      unfold len
      rcases this with rfl | rfl
      · unfold mar at hd ⊢; simp; omega
      · unfold mar at hd ⊢; unfold lpi at h1; simp; split <;> simp_all <;> omega
    · rw [if_neg c, if_neg c]
      refine ⟨by omega, by omega, by omega, by omega, by omega, ?_⟩
      have : M = 0 ∨ M = 1 ∨ M = 2 ∨ M = 3 ∨ M = 4 ∨ M = 5 ∨ M = 6 ∨ M = 7 ∨ M = 8 ∨ M = 9 := by omega
      unfold len
      rcases this with rfl | rfl | rfl | rfl | rfl | rfl | rfl | rfl | rfl | rfl <;> (unfold mar at hd ⊢; simp; omega)
  · unfold num
    by_cases c : M ≥ 10
    · rw [if_pos c, if_pos c, if_pos (by omega), show Y + 1 - 1 = Y from by omega, show M - 9 + 9 = M from by omega]; omega
    · rw [if_neg c, if_neg c, if_neg (by omega), show M + 3 - 3 = M from by omega]; omega

theorem date_l0 (N : Int) (hN : 693901 ≤ N) (hN2 : N < 693901 + 109938) (n : Nat) : ∀ (k : Nat) (y : Int), n < k → 1899 ≤ y → y ≤ 3000 → y - 1899 = n → N < eraZ (y + 1) →
    ∃ Y M D : Int, civil_Date.l0 k N y = some (Y, M, D, true) ∧ Ok Y M D ∧ num Y M D = N - 693901 := by
  induction n with
  | zero =>
    intro k y hk h1 h2 hn hb
    obtain ⟨k, rfl⟩ := pos_rounds (k := k) (by omega)
    obtain rfl : y = 1899 := by omega
    have e0 : eraZ 1899 = 693595 := by decide
    have e1 : eraZ (1899 + 1) = 693960 := by decide
    have hl : lpi (1899 + 1) = 0 := by decide
    have hx := ok_of_march (N := N) (Y := 1899) (rest := N - 693595) (by omega) hN hN2 (by omega) (by omega) rfl
    unfold civil_Date.l0
    rw [civil_era_f (by omega) (by omega), e0]
    simp only [Option.bind_some]
    rw [if_neg (by omega)]
    have w1 : wrap64 (N - 693595) = N - 693595 := wrap_id (by omega) (by omega)
    have w2 : wrap64 (5 * (N - 693595)) = 5 * (N - 693595) := wrap_id (by omega) (by omega)
    have w3 : wrap64 (5 * (N - 693595) + 2) = 5 * (N - 693595) + 2 := wrap_id (by omega) (by omega)
    rw [w1, w2, w3, Int.tdiv_eq_ediv_of_nonneg (by omega), wrap_id (n := (5 * (N - 693595) + 2) / 153) (by omega) (by omega), civil_march_f (by omega) (by omega)]
    simp only [Option.bind_some]
    have b := mar_bd (m := (5 * (N - 693595) + 2) / 153) (by omega) (by omega)
    rw [wrap_id (n := N - 693595 - mar ((5 * (N - 693595) + 2) / 153)) (by omega) (by omega), wrap_id (n := N - 693595 - mar ((5 * (N - 693595) + 2) / 153) + 1) (by omega) (by omega),
      wrap_id (n := (5 * (N - 693595) + 2) / 153 - 9) (by omega) (by omega), wrap_id (n := (5 * (N - 693595) + 2) / 153 + 3) (by omega) (by omega), wrap_id (n := (1899 : Int) + 1) (by omega) (by omega)]
    by_cases c : (5 * (N - 693595) + 2) / 153 ≥ 10
    · rw [if_pos c]
      rw [if_pos c, if_pos c] at hx
      exact ⟨_, _, _, rfl, hx.1, hx.2⟩
    · rw [if_neg c]
      rw [if_neg c, if_neg c] at hx
      exact ⟨_, _, _, rfl, hx.1, hx.2⟩
  | succ n ih =>
    intro k y hk h1 h2 hn hb
    obtain ⟨k, rfl⟩ := pos_rounds (k := k) (by omega)
    unfold civil_Date.l0
    rw [civil_era_f (by omega) (by omega)]
    simp only [Option.bind_some]
    by_cases hgt : eraZ y > N
    · rw [if_pos hgt, wrap_id (n := y - 1) (by omega) (by omega)]
      exact ih k (y - 1) (by omega) (by omega) (by omega) (by omega) (by rw [show y - 1 + 1 = y from by omega]; omega)
    · rw [if_neg hgt]
      have hs := era_succ (y + 1)
      rw [show y + 1 - 1 = y from by omega] at hs
      have hl : lpi (y + 1) = 0 ∨ lpi (y + 1) = 1 := by unfold lpi; split <;> simp
      have hx := ok_of_march (N := N) (Y := y) (rest := N - eraZ y) (by omega) hN hN2 (by omega) (by omega) rfl
      generalize hr : N - eraZ y = rest at *
      have w2 : wrap64 (5 * rest) = 5 * rest := wrap_id (by omega) (by omega)
      have w3 : wrap64 (5 * rest + 2) = 5 * rest + 2 := wrap_id (by omega) (by omega)
      rw [wrap_id (n := rest) (by omega) (by omega), w2, w3, Int.tdiv_eq_ediv_of_nonneg (by omega), wrap_id (n := (5 * rest + 2) / 153) (by omega) (by omega), civil_march_f (by omega) (by omega)]
      simp only [Option.bind_some]
      have b := mar_bd (m := (5 * rest + 2) / 153) (by omega) (by omega)
      rw [wrap_id (n := rest - mar ((5 * rest + 2) / 153)) (by omega) (by omega), wrap_id (n := rest - mar ((5 * rest + 2) / 153) + 1) (by omega) (by omega),
        wrap_id (n := (5 * rest + 2) / 153 - 9) (by omega) (by omega), wrap_id (n := (5 * rest + 2) / 153 + 3) (by omega) (by omega), wrap_id (n := y + 1) (by omega) (by omega)]
      by_cases c : (5 * rest + 2) / 153 ≥ 10
      · rw [if_pos c]
        rw [if_pos c, if_pos c] at hx
        exact ⟨_, _, _, rfl, hx.1, hx.2⟩
      · rw [if_neg c]
        rw [if_neg c, if_neg c] at hx
        exact ⟨_, _, _, rfl, hx.1, hx.2⟩
theorem civil_Date_ok {k : Nat} (hk : 3000 ≤ k) {n : Int} (h0 : 0 ≤ n) (h1 : n < 109938) : ∃ Y M D : Int, civil_Date.f k n = some (Y, M, D, true) ∧ Ok Y M D ∧ num Y M D = n := by
  obtain ⟨k, rfl⟩ := pos_rounds (k := k) (by omega)
  unfold civil_Date.f
  rw [if_neg (by omega), decide_eq_false (by omega)]
  rw [civil_Date.j0, if_neg (by simp), civil_first_f]
  simp only [Option.bind_some]
  rw [wrap_id (n := n + 693901) (by omega) (by omega), Int.tdiv_eq_ediv_of_nonneg (by omega), wrap_id (n := (n + 693901) / 365) (by omega) (by omega)]
  obtain ⟨Y, M, D, a, b, c⟩ := date_l0 (n + 693901) (by omega) (by omega) ((n + 693901) / 365 - 1899).toNat k ((n + 693901) / 365) (by omega) (by omega) (by omega) (by omega) (by unfold eraZ; omega)
  exact ⟨Y, M, D, a, b, by omega⟩
theorem civil_Date_no {k : Nat} (hk : 1 ≤ k) {n : Int} (h : n < 0 ∨ 109938 ≤ n) : civil_Date.f k n = some (0, 0, 0, false) := by
  obtain ⟨k, rfl⟩ := pos_rounds (k := k) (by omega)
  unfold civil_Date.f
  by_cases h0 : n < 0
  · rw [if_pos h0]; rw [civil_Date.j0, if_pos rfl]
  · rw [if_neg h0, decide_eq_true (by omega)]; rw [civil_Date.j0, if_pos rfl]
theorem num_bd {y m d : Int} (h : Ok y m d) : 0 ≤ num y m d ∧ num y m d < 109938 := by
  obtain ⟨h1, h2, h3, h4, h5, h6⟩ := h
  have c := cm_bd (y := y) (m := m) h3 h4
  rw [num_eq h3 h4]
  have e : eraZ (y - 1) = eraZ (1899) + (eraZ (y-1) - 693595) := by rw [show eraZ 1899 = 693595 from by decide]; omega
  have hl := len_bd y m
  have a : cm y m + len y m ≤ 365 + lpi y := by
    have hm : m = 1 ∨ m = 2 ∨ m = 3 ∨ m = 4 ∨ m = 5 ∨ m = 6 ∨ m = 7 ∨ m = 8 ∨ m = 9 ∨ m = 10 ∨ m = 11 ∨ m = 12 := by omega
    unfold cm len lpi mar
    rcases hm with rfl | rfl | rfl | rfl | rfl | rfl | rfl | rfl | rfl | rfl | rfl | rfl <;> cases lp y <;> simp
  have s := era_succ y
  have e1 : eraZ y ≤ 803533 := by unfold eraZ; omega
  have e2 : 693595 ≤ eraZ (y - 1) := by unfold eraZ; omega
  omega
theorem civil_Date_num {k : Nat} (hk : 3000 ≤ k) {y m d : Int} (h : Ok y m d) : civil_Date.f k (num y m d) = some (y, m, d, true) := by
  have b := num_bd h
  obtain ⟨Y, M, D, a1, a2, a3⟩ := civil_Date_ok hk b.1 b.2
  obtain ⟨rfl, rfl, rfl⟩ := num_inj a2 h a3
  exact a1
end Go.Proofs.Ytinjbpbpgogdhaa.Own
end
