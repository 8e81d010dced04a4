/-
  THE PLAIN LAW of CivilMonths: leap years and months' lengths of the program are the document's, for any year and month. No condition.
-/
import Derived.Test.YtoigdebcpmgknaaOwnx2
import Derived.Test.YtoigdebcpmgknaaOwnx3
namespace Go.Proofs.Ytoigdebcpmgknaa.Pure
open Go.RowKit Go.Proofs.Ytoigdebcpmgknaa.Own Go.Proofs.YtoigdebcpmgknaaW.PrintWords Go.Proofs.YtoigdebcpmgknaaW.PrintLast
set_option linter.unusedVariables false
set_option linter.unusedSimpArgs false

theorem wf64 {a : Int} (h : (Lit.int .i64 a).wf = true) : -9223372036854775808 ≤ a ∧ a ≤ 9223372036854775807 := by
  simp only [Lit.wf, Bool.and_eq_true, decide_eq_true_eq] at h
  have h1 : IntKind.i64.min = -9223372036854775808 := by decide
  have h2 : IntKind.i64.max = 9223372036854775807 := by decide
  rw [h1, h2] at h
  exact h
theorem wrap_id {n : Int} (h : -9223372036854775808 ≤ n) (h2 : n ≤ 9223372036854775807) : wrap64 n = n := by unfold wrap64; omega
theorem tmod0 (y c : Int) : Int.tmod y c = 0 ↔ y % c = 0 := by
  constructor
  · intro h; exact Int.emod_eq_zero_of_dvd (Int.dvd_of_tmod_eq_zero h)
  · intro h; exact Int.tmod_eq_zero_of_dvd (Int.dvd_of_emod_eq_zero h)
theorem pos_rounds {k : Nat} (h : 1 ≤ k) : ∃ m, k = m + 1 := ⟨k - 1, by omega⟩

def lp (y : Int) : Bool := decide ((y % 4 = 0 ∧ y % 100 ≠ 0) ∨ y % 400 = 0)
theorem civil_Leap_f (y : Int) : civil_Leap.f y = some (lp y) := by
  unfold civil_Leap.f lp
  simp only [tmod0]
  have e : ∀ x : Int, (Int.tmod x 400 == 0) = decide (x % 400 = 0) := fun x => by
    by_cases h : x % 400 = 0
    · simp [h, (tmod0 x 400).2 h]
    · have h' : ¬ Int.tmod x 400 = 0 := fun q => h ((tmod0 x 400).1 q)
      simp [h, h']
  simp only [e]
  by_cases h4 : y % 4 = 0 <;> by_cases h100 : y % 100 = 0 <;> by_cases h400 : y % 400 = 0 <;> simp [h4, h100, h400]

def len (y m : Int) : Int := if m = 2 then (if lp y = true then 29 else 28) else if m = 4 ∨ m = 6 ∨ m = 9 ∨ m = 11 then 30 else if 1 ≤ m ∧ m ≤ 12 then 31 else 0
theorem civil_Length_f {k : Nat} (hk : 1 ≤ k) (y m : Int) : civil_Length.f k y m = some (len y m) := by
  obtain ⟨k, rfl⟩ := pos_rounds hk
  unfold civil_Length.f len
  simp only [civil_Leap_f, Option.bind_some, civil_Length.j0]
  by_cases h2 : m = 2
  · subst h2; simp; split <;> rfl
  · simp only [if_neg h2]
    by_cases h4 : m = 4
    · subst h4; simp
    · by_cases h6 : m = 6
      · subst h6; simp
      · by_cases h9 : m = 9
        · subst h9; simp
        · by_cases h11 : m = 11
          · subst h11; simp
          · simp only [h4, h6, h9, h11, if_false, false_or]
            by_cases h : 1 ≤ m ∧ m ≤ 12
            · have : m = 1 ∨ m = 3 ∨ m = 5 ∨ m = 7 ∨ m = 8 ∨ m = 10 ∨ m = 12 := by omega
              rcases this with rfl | rfl | rfl | rfl | rfl | rfl | rfl <;> simp
            · have e : (m == 11) = false := by simpa using h11
              rw [if_neg (by simp [e]), if_neg (by omega), if_neg (by omega), if_neg (by omega), if_neg (by omega), if_neg (by omega), if_neg (by omega), if_neg (by omega), if_neg h]
theorem len_bd (y m : Int) : 0 ≤ len y m ∧ len y m ≤ 31 := by unfold len; repeat (split <;> try omega)
theorem len_pos {y m : Int} (h : 1 ≤ len y m) : 1 ≤ m ∧ m ≤ 12 := by
  unfold len at h
  repeat (split at h <;> try omega)
theorem len_lo {y m : Int} (h : 1 ≤ m) (h2 : m ≤ 12) : 28 ≤ len y m := by
  unfold len
  repeat (split <;> try omega)

def Ok (y m d : Int) : Prop := 1900 ≤ y ∧ y ≤ 2200 ∧ 1 ≤ m ∧ m ≤ 12 ∧ 1 ≤ d ∧ d ≤ len y m
instance (y m d : Int) : Decidable (Ok y m d) := by unfold Ok; infer_instance
theorem civil_May_f {k : Nat} (hk : 1 ≤ k) (y m d : Int) : civil_May.f k y m d = some (decide (Ok y m d)) := by
  unfold civil_May.f
  rw [civil_Length_f hk]
  simp only [Option.bind_some]
  have hl := @len_pos y m
  by_cases h1 : 1900 ≤ y
  · rw [if_pos h1]
    by_cases h2 : y ≤ 2200
    · rw [if_pos h2]
      by_cases h3 : 1 ≤ d
      · rw [if_pos h3]
        congr 1
        refine decide_eq_decide.2 ⟨fun h => ?_, fun h => h.2.2.2.2.2⟩
        have := hl (by omega)
        exact ⟨h1, h2, this.1, this.2, h3, h⟩
      · rw [if_neg h3]; congr 1; exact (decide_eq_false (fun h => h3 h.2.2.2.2.1)).symm
    · rw [if_neg h2]; congr 1; exact (decide_eq_false (fun h => h2 h.2.1)).symm
  · rw [if_neg h1]; congr 1; exact (decide_eq_false (fun h => h1 h.1)).symm

def eraZ (y : Int) : Int := 365 * y + y / 4 - y / 100 + y / 400
def mar (m : Int) : Int := (153 * m + 2) / 5
theorem civil_era_f {y : Int} (h0 : 0 ≤ y) (h1 : y ≤ 1000000000) : civil_era.f y = some (eraZ y) := by
  unfold civil_era.f eraZ
  rw [Int.tdiv_eq_ediv_of_nonneg h0, Int.tdiv_eq_ediv_of_nonneg h0, Int.tdiv_eq_ediv_of_nonneg h0]
  congr 1
  unfold wrap64
  omega
theorem civil_march_f {m : Int} (h0 : 0 ≤ m) (h1 : m ≤ 1000000000) : civil_march.f m = some (mar m) := by
  unfold civil_march.f mar
  have e : wrap64 (wrap64 (153 * m) + 2) = 153 * m + 2 := by unfold wrap64; omega
  rw [e, Int.tdiv_eq_ediv_of_nonneg (by omega)]
  congr 1
  unfold wrap64
  omega
theorem civil_first_f : civil_first.f = some 693901 := by
  unfold civil_first.f
  rw [civil_era_f (by omega) (by omega), civil_march_f (by omega) (by omega)]
  simp only [Option.bind_some]
  rw [show eraZ 1899 = 693595 from by decide, show mar 10 = 306 from by decide, wrap_id (by omega) (by omega)]
  rfl
def num (y m d : Int) : Int := (if m < 3 then eraZ (y - 1) + mar (m + 9) else eraZ y + mar (m - 3)) + d - 1 - 693901
theorem era_bd {y : Int} (h0 : 1899 ≤ y) (h1 : y ≤ 2200) : 693595 ≤ eraZ y ∧ eraZ y ≤ 804000 := by unfold eraZ; omega
theorem mar_bd {m : Int} (h0 : 0 ≤ m) (h1 : m ≤ 11) : 0 ≤ mar m ∧ mar m ≤ 337 := by unfold mar; omega
theorem civil_Number_ok {k : Nat} (hk : 1 ≤ k) {y m d : Int} (h : Ok y m d) : civil_Number.f k y m d = some (num y m d, true) := by
  have hd := h
  obtain ⟨h1, h2, h3, h4, h5, h6⟩ := h
  have hl := len_bd y m
  unfold civil_Number.f civil_shifted.f num
  rw [civil_May_f hk]
  simp only [Option.bind_some, decide_eq_true hd, if_true]
  by_cases hm : m < 3
  · have e1 : wrap64 (y - 1) = y - 1 := wrap_id (by omega) (by omega)
    have e2 : wrap64 (m + 9) = m + 9 := wrap_id (by omega) (by omega)
    have b1 := era_bd (y := y - 1) (by omega) (by omega)
    have b2 := mar_bd (m := m + 9) (by omega) (by omega)
    rw [if_pos hm, if_pos hm]
    simp only [Option.bind_some, e1, e2]
    rw [civil_era_f (by omega) (by omega), civil_march_f (by omega) (by omega), civil_first_f]
    simp only [Option.bind_some]
    congr 2
    unfold wrap64
    omega
  · have e2 : wrap64 (m - 3) = m - 3 := wrap_id (by omega) (by omega)
    have b1 := era_bd (y := y) (by omega) (by omega)
    have b2 := mar_bd (m := m - 3) (by omega) (by omega)
    rw [if_neg hm, if_neg hm]
    simp only [Option.bind_some, e2]
    rw [civil_era_f (by omega) (by omega), civil_march_f (by omega) (by omega), civil_first_f]
    simp only [Option.bind_some]
    congr 2
    unfold wrap64
    omega
theorem civil_Number_no {k : Nat} (hk : 1 ≤ k) {y m d : Int} (h : ¬ Ok y m d) : civil_Number.f k y m d = some (0, false) := by
  unfold civil_Number.f
  rw [civil_May_f hk]
  simp [h]
theorem weekday_f (n : Int) : civil_Weekday.f n = some (n % 7) := by
  unfold civil_Weekday.f
  congr 1
  have h1 : -7 < Int.tmod n 7 ∧ Int.tmod n 7 < 7 := ⟨Int.lt_tmod_of_pos n (by omega), Int.tmod_lt_of_pos n (by omega)⟩
  have h2 : Int.tmod n 7 = n - 7 * (Int.tdiv n 7) := by have := Int.tmod_add_mul_tdiv n 7; omega
  rw [wrap_id (by omega) (by omega), Int.tmod_eq_emod_of_nonneg (by omega)]
  omega
theorem fixed_f {k : Nat} (hk : 1 ≤ k) : vesperslaw01_fixed.f k = some true := by
  unfold vesperslaw01_fixed.f
  rw [civil_Number_ok hk (by decide)]
  have e : num 2000 2 29 = 36583 := by decide
  simp only [Option.bind_some, e, if_true, weekday_f]
  rfl
theorem ref_Leap_f (y : Int) : vespersref01_Leap.f y = some (lp y) := by
  unfold vespersref01_Leap.f lp
  simp only [tmod0]
  have e : ∀ x : Int, (Int.tmod x 100 != 0) = decide (x % 100 ≠ 0) := fun x => by
    by_cases h : x % 100 = 0
    · simp [h, (tmod0 x 100).2 h]
    · have h' : ¬ Int.tmod x 100 = 0 := fun q => h ((tmod0 x 100).1 q)
      simp [h, h']
  simp only [e]
  by_cases h4 : y % 4 = 0 <;> by_cases h100 : y % 100 = 0 <;> by_cases h400 : y % 400 = 0 <;> simp [h4, h100, h400]
theorem ref_Length_f {k : Nat} (hk : 1 ≤ k) (y m : Int) : vespersref01_Length.f k y m = some (len y m) := by
  obtain ⟨k, rfl⟩ := pos_rounds hk
  unfold vespersref01_Length.f len
  simp only [ref_Leap_f, Option.bind_some, vespersref01_Length.j0]
  by_cases h1 : m < 1
  · rw [if_pos h1, if_pos trivial, if_neg (by omega), if_neg (by omega), if_neg (by omega)]
  · rw [if_neg h1]
    by_cases h12 : m > 12
    · rw [if_pos (by simpa using h12), if_neg (by omega), if_neg (by omega), if_neg (by omega)]
    · rw [if_neg (by simpa using h12)]
      have : m = 1 ∨ m = 2 ∨ m = 3 ∨ m = 4 ∨ m = 5 ∨ m = 6 ∨ m = 7 ∨ m = 8 ∨ m = 9 ∨ m = 10 ∨ m = 11 ∨ m = 12 := by omega
      rcases this with rfl | rfl | rfl | rfl | rfl | rfl | rfl | rfl | rfl | rfl | rfl | rfl
      case inr.inl =>
        cases lp y <;> simp [wrap64, rd]
      all_goals simp [wrap64, rd]
theorem months_law (y m : Int) : ∃ k, vesperslaw01_CivilMonths.f k y m = some true := by
  refine ⟨1, ?_⟩
  unfold vesperslaw01_CivilMonths.f
  rw [fixed_f (by omega), civil_Leap_f, ref_Leap_f, civil_Length_f (by omega), ref_Length_f (by omega)]
  simp
theorem CivilMonths : vesperslaw01_CivilMonths.Pure := by
  intro y m _ _
  exact months_law y m
end Go.Proofs.Ytoigdebcpmgknaa.Pure
