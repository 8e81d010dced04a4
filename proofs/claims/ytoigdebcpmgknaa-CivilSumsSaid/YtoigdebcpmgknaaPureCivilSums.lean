/-
  THE PLAIN LAW of CivilSums: the sum and the product of any two numbers are told just if there are such, for any two numbers. No condition.
-/
import Derived.Test.YtoigdebcpmgknaaOwnx11
import Derived.Laws.BitsLemmas
namespace Go.Proofs.Ytoigdebcpmgknaa.Pure
open Go.RowKit Go.Proofs.Ytoigdebcpmgknaa.Own Go.Proofs.YtoigdebcpmgknaaW.PrintWords Go.Proofs.YtoigdebcpmgknaaW.PrintLast
set_option linter.unusedVariables false
set_option linter.unusedSimpArgs false

theorem wf64 {a : Int} (h : (Lit.int .i64 a).wf = true) : -9223372036854775808 ≤ a ∧ a ≤ 9223372036854775807 := by
  simp only [Lit.wf, Bool.and_eq_true, decide_eq_true_eq] at h
  have h1 : IntKind.i64.min = -9223372036854775808 := by decide
  have h2 : IntKind.i64.max = 9223372036854775807 := by decide
  rw [h1, h2] at h
  exact h
theorem wrap_id {n : Int} (h : -9223372036854775808 ≤ n) (h2 : n ≤ 9223372036854775807) : wrap64 n = n := by unfold wrap64; omega
theorem tmod0 (y c : Int) : Int.tmod y c = 0 ↔ y % c = 0 := by
  constructor
  · intro h; exact Int.emod_eq_zero_of_dvd (Int.dvd_of_tmod_eq_zero h)
  · intro h; exact Int.tmod_eq_zero_of_dvd (Int.dvd_of_emod_eq_zero h)
theorem pos_rounds {k : Nat} (h : 1 ≤ k) : ∃ m, k = m + 1 := ⟨k - 1, by omega⟩

def lp (y : Int) : Bool := decide ((y % 4 = 0 ∧ y % 100 ≠ 0) ∨ y % 400 = 0)
theorem civil_Leap_f (y : Int) : civil_Leap.f y = some (lp y) := by
  unfold civil_Leap.f lp
  simp only [tmod0]
  have e : ∀ x : Int, (Int.tmod x 400 == 0) = decide (x % 400 = 0) := fun x => by
    by_cases h : x % 400 = 0
    · simp [h, (tmod0 x 400).2 h]
    · have h' : ¬ Int.tmod x 400 = 0 := fun q => h ((tmod0 x 400).1 q)
      simp [h, h']
  simp only [e]
  by_cases h4 : y % 4 = 0 <;> by_cases h100 : y % 100 = 0 <;> by_cases h400 : y % 400 = 0 <;> simp [h4, h100, h400]

def len (y m : Int) : Int := if m = 2 then (if lp y = true then 29 else 28) else if m = 4 ∨ m = 6 ∨ m = 9 ∨ m = 11 then 30 else if 1 ≤ m ∧ m ≤ 12 then 31 else 0
theorem civil_Length_f {k : Nat} (hk : 1 ≤ k) (y m : Int) : civil_Length.f k y m = some (len y m) := by
  obtain ⟨k, rfl⟩ := pos_rounds hk
  unfold civil_Length.f len
  simp only [civil_Leap_f, Option.bind_some, civil_Length.j0]
  by_cases h2 : m = 2
  · subst h2; simp; split <;> rfl
  · simp only [if_neg h2]
    by_cases h4 : m = 4
    · subst h4; simp
    · by_cases h6 : m = 6
      · subst h6; simp
      · by_cases h9 : m = 9
        · subst h9; simp
        · by_cases h11 : m = 11
          · subst h11; simp
          · simp only [h4, h6, h9, h11, if_false, false_or]
            by_cases h : 1 ≤ m ∧ m ≤ 12
            · have : m = 1 ∨ m = 3 ∨ m = 5 ∨ m = 7 ∨ m = 8 ∨ m = 10 ∨ m = 12 := by omega
              rcases this with rfl | rfl | rfl | rfl | rfl | rfl | rfl <;> simp
            · have e : (m == 11) = false := by simpa using h11
              rw [if_neg (by simp [e]), if_neg (by omega), if_neg (by omega), if_neg (by omega), if_neg (by omega), if_neg (by omega), if_neg (by omega), if_neg (by omega), if_neg h]
theorem len_bd (y m : Int) : 0 ≤ len y m ∧ len y m ≤ 31 := by unfold len; repeat (split <;> try omega)
theorem len_pos {y m : Int} (h : 1 ≤ len y m) : 1 ≤ m ∧ m ≤ 12 := by
  unfold len at h
  repeat (split at h <;> try omega)
theorem len_lo {y m : Int} (h : 1 ≤ m) (h2 : m ≤ 12) : 28 ≤ len y m := by
  unfold len
  repeat (split <;> try omega)

def Ok (y m d : Int) : Prop := 1900 ≤ y ∧ y ≤ 2200 ∧ 1 ≤ m ∧ m ≤ 12 ∧ 1 ≤ d ∧ d ≤ len y m
instance (y m d : Int) : Decidable (Ok y m d) := by unfold Ok; infer_instance
theorem civil_May_f {k : Nat} (hk : 1 ≤ k) (y m d : Int) : civil_May.f k y m d = some (decide (Ok y m d)) := by
  unfold civil_May.f
  rw [civil_Length_f hk]
  simp only [Option.bind_some]
  have hl := @len_pos y m
  by_cases h1 : 1900 ≤ y
  · rw [if_pos h1]
    by_cases h2 : y ≤ 2200
    · rw [if_pos h2]
      by_cases h3 : 1 ≤ d
      · rw [if_pos h3]
        congr 1
        refine decide_eq_decide.2 ⟨fun h => ?_, fun h => h.2.2.2.2.2⟩
        have := hl (by omega)
        exact ⟨h1, h2, this.1, this.2, h3, h⟩
      · rw [if_neg h3]; congr 1; exact (decide_eq_false (fun h => h3 h.2.2.2.2.1)).symm
    · rw [if_neg h2]; congr 1; exact (decide_eq_false (fun h => h2 h.2.1)).symm
  · rw [if_neg h1]; congr 1; exact (decide_eq_false (fun h => h1 h.1)).symm

def eraZ (y : Int) : Int := 365 * y + y / 4 - y / 100 + y / 400
def mar (m : Int) : Int := (153 * m + 2) / 5
theorem civil_era_f {y : Int} (h0 : 0 ≤ y) (h1 : y ≤ 1000000000) : civil_era.f y = some (eraZ y) := by
  unfold civil_era.f eraZ
  rw [Int.tdiv_eq_ediv_of_nonneg h0, Int.tdiv_eq_ediv_of_nonneg h0, Int.tdiv_eq_ediv_of_nonneg h0]
  congr 1
  unfold wrap64
  omega
theorem civil_march_f {m : Int} (h0 : 0 ≤ m) (h1 : m ≤ 1000000000) : civil_march.f m = some (mar m) := by
  unfold civil_march.f mar
  have e : wrap64 (wrap64 (153 * m) + 2) = 153 * m + 2 := by unfold wrap64; omega
  rw [e, Int.tdiv_eq_ediv_of_nonneg (by omega)]
  congr 1
  unfold wrap64
  omega
theorem civil_first_f : civil_first.f = some 693901 := by
  unfold civil_first.f
  rw [civil_era_f (by omega) (by omega), civil_march_f (by omega) (by omega)]
  simp only [Option.bind_some]
  rw [show eraZ 1899 = 693595 from by decide, show mar 10 = 306 from by decide, wrap_id (by omega) (by omega)]
  rfl
def num (y m d : Int) : Int := (if m < 3 then eraZ (y - 1) + mar (m + 9) else eraZ y + mar (m - 3)) + d - 1 - 693901
theorem era_bd {y : Int} (h0 : 1899 ≤ y) (h1 : y ≤ 2200) : 693595 ≤ eraZ y ∧ eraZ y ≤ 804000 := by unfold eraZ; omega
theorem mar_bd {m : Int} (h0 : 0 ≤ m) (h1 : m ≤ 11) : 0 ≤ mar m ∧ mar m ≤ 337 := by unfold mar; omega
theorem civil_Number_ok {k : Nat} (hk : 1 ≤ k) {y m d : Int} (h : Ok y m d) : civil_Number.f k y m d = some (num y m d, true) := by
  have hd := h
  obtain ⟨h1, h2, h3, h4, h5, h6⟩ := h
  have hl := len_bd y m
  unfold civil_Number.f civil_shifted.f num
  rw [civil_May_f hk]
  simp only [Option.bind_some, decide_eq_true hd, if_true]
  by_cases hm : m < 3
  · have e1 : wrap64 (y - 1) = y - 1 := wrap_id (by omega) (by omega)
    have e2 : wrap64 (m + 9) = m + 9 := wrap_id (by omega) (by omega)
    have b1 := era_bd (y := y - 1) (by omega) (by omega)
    have b2 := mar_bd (m := m + 9) (by omega) (by omega)
    rw [if_pos hm, if_pos hm]
    simp only [Option.bind_some, e1, e2]
    rw [civil_era_f (by omega) (by omega), civil_march_f (by omega) (by omega), civil_first_f]
    simp only [Option.bind_some]
    congr 2
    unfold wrap64
    omega
  · have e2 : wrap64 (m - 3) = m - 3 := wrap_id (by omega) (by omega)
    have b1 := era_bd (y := y) (by omega) (by omega)
    have b2 := mar_bd (m := m - 3) (by omega) (by omega)
    rw [if_neg hm, if_neg hm]
    simp only [Option.bind_some, e2]
    rw [civil_era_f (by omega) (by omega), civil_march_f (by omega) (by omega), civil_first_f]
    simp only [Option.bind_some]
    congr 2
    unfold wrap64
    omega
theorem civil_Number_no {k : Nat} (hk : 1 ≤ k) {y m d : Int} (h : ¬ Ok y m d) : civil_Number.f k y m d = some (0, false) := by
  unfold civil_Number.f
  rw [civil_May_f hk]
  simp [h]
theorem weekday_f (n : Int) : civil_Weekday.f n = some (n % 7) := by
  unfold civil_Weekday.f
  congr 1
  have h1 : -7 < Int.tmod n 7 ∧ Int.tmod n 7 < 7 := ⟨Int.lt_tmod_of_pos n (by omega), Int.tmod_lt_of_pos n (by omega)⟩
  have h2 : Int.tmod n 7 = n - 7 * (Int.tdiv n 7) := by have := Int.tmod_add_mul_tdiv n 7; omega
  rw [wrap_id (by omega) (by omega), Int.tmod_eq_emod_of_nonneg (by omega)]
  omega
theorem fixed_f {k : Nat} (hk : 1 ≤ k) : vesperslaw01_fixed.f k = some true := by
  unfold vesperslaw01_fixed.f
  rw [civil_Number_ok hk (by decide)]
  have e : num 2000 2 29 = 36583 := by decide
  simp only [Option.bind_some, e, if_true, weekday_f]
  rfl
theorem u64_wrap (n : Int) : IntKind.u64.wrap n = n % 18446744073709551616 := by simp [IntKind.wrap, IntKind.bits, IntKind.signed]
theorem u64_low {x : Int} (h0 : 0 ≤ x) (h1 : x < 18446744073709551616) : Go.bits .and .u64 x 4294967295 = x % 4294967296 := by
  have := bits_mask .u64 64 (by decide) (fun n h0 h1 => by rw [u64_wrap]; omega) 32 (by decide) x h0 (by simpa using h1)
  simpa using this
theorem mul_le_sq {x y : Int} (hx0 : 0 ≤ x) (hx : x ≤ 4294967295) (hy0 : 0 ≤ y) (hy : y ≤ 4294967295) : 0 ≤ x * y ∧ x * y ≤ 18446744065119617025 := by
  refine ⟨Int.mul_nonneg hx0 hy0, ?_⟩
  have := Int.mul_le_mul hx hy hy0 (by omega)
  omega
theorem mul64_f {a b : Int} (ha0 : 0 ≤ a) (ha : a < 18446744073709551616) (hb0 : 0 ≤ b) (hb : b < 18446744073709551616) :
    bits_Mul64.f a b = some (a * b / 18446744073709551616, a * b % 18446744073709551616) := by
  have e : a * b = (a / 4294967296) * (b / 4294967296) * 18446744073709551616 + ((a / 4294967296) * (b % 4294967296) + (a % 4294967296) * (b / 4294967296)) * 4294967296 + (a % 4294967296) * (b % 4294967296) := by
    have h1 : a = a / 4294967296 * 4294967296 + a % 4294967296 := by omega
    have h2 : b = b / 4294967296 * 4294967296 + b % 4294967296 := by omega
    generalize a / 4294967296 = p at *
    generalize a % 4294967296 = q at *
    generalize b / 4294967296 = r at *
    generalize b % 4294967296 = s at *
    subst h1 h2
    simp only [Int.add_mul, Int.mul_add]
    have e1 : p * 4294967296 * (r * 4294967296) = p * r * 18446744073709551616 := by
      rw [Int.mul_assoc, ← Int.mul_assoc 4294967296 r, Int.mul_comm 4294967296 r, Int.mul_assoc r, ← Int.mul_assoc p r]; rfl
    have e2 : p * 4294967296 * s = p * s * 4294967296 := by rw [Int.mul_assoc, Int.mul_comm 4294967296 s, Int.mul_assoc]
    have e3 : q * (r * 4294967296) = q * r * 4294967296 := by rw [Int.mul_assoc]
    rw [e1, e2, e3]; omega
  have b11 := mul_le_sq (x := a / 4294967296) (y := b / 4294967296) (by omega) (by omega) (by omega) (by omega)
  have b10 := mul_le_sq (x := a / 4294967296) (y := b % 4294967296) (by omega) (by omega) (by omega) (by omega)
  have b01 := mul_le_sq (x := a % 4294967296) (y := b / 4294967296) (by omega) (by omega) (by omega) (by omega)
  have b00 := mul_le_sq (x := a % 4294967296) (y := b % 4294967296) (by omega) (by omega) (by omega) (by omega)
  unfold bits_Mul64.f
  rw [u64_low ha0 ha, u64_low hb0 hb]
  generalize (a / 4294967296) * (b / 4294967296) = p11 at *
  generalize (a / 4294967296) * (b % 4294967296) = p10 at *
  generalize (a % 4294967296) * (b / 4294967296) = p01 at *
  generalize (a % 4294967296) * (b % 4294967296) = p00 at *
  rw [e]
  simp only [u64_wrap]
  have m1 : p00 % 18446744073709551616 = p00 := Int.emod_eq_of_lt (by omega) (by omega)
  have m2 : p10 % 18446744073709551616 = p10 := Int.emod_eq_of_lt (by omega) (by omega)
  have m3 : (p10 + p00 / 4294967296) % 18446744073709551616 = p10 + p00 / 4294967296 := Int.emod_eq_of_lt (by omega) (by omega)
  rw [m1, m2, m3, u64_low (by omega) (by omega)]
  congr 2
  omega
def mag (a : Int) : Int := if a < 0 then -a else a
theorem size_f {a : Int} (h0 : -9223372036854775808 ≤ a) (h1 : a ≤ 9223372036854775807) : civil_size.f a = some (mag a) := by
  unfold civil_size.f mag
  by_cases h : a < 0
  · rw [if_pos h, if_pos h]
    have e1 : wrap64 (a + 1) = a + 1 := wrap_id (by omega) (by omega)
    have e2 : wrap64 (-(a + 1)) = -(a + 1) := wrap_id (by omega) (by omega)
    rw [e1, e2]
    simp only [u64_wrap]
    congr 1; omega
  · rw [if_neg h, if_neg h]
    simp only [u64_wrap]
    congr 1; omega
theorem mag_mul (a b : Int) : mag a * mag b = if (decide (a < 0) != decide (b < 0)) = true then -(a * b) else a * b := by
  unfold mag
  by_cases ha : a < 0 <;> by_cases hb : b < 0 <;> simp [ha, hb, Int.neg_mul, Int.mul_neg]
theorem sign_mul {a b : Int} : (if (decide (a < 0) != decide (b < 0)) = true then -(a * b) else a * b) ≥ 0 := by
  rw [← mag_mul]
  apply Int.mul_nonneg <;> (unfold mag; split <;> omega)
theorem Mul_f {k : Nat} (hk : 1 ≤ k) {a b : Int} (ha : -9223372036854775808 ≤ a) (ha1 : a ≤ 9223372036854775807) (hb : -9223372036854775808 ≤ b) (hb1 : b ≤ 9223372036854775807) :
    civil_Mul.f k a b = some (if -9223372036854775808 ≤ a * b ∧ a * b ≤ 9223372036854775807 then (a * b, true) else (0, false)) := by
  obtain ⟨k, rfl⟩ := pos_rounds hk
  have hm := mag_mul a b
  have hs := @sign_mul a b
  have hma : 0 ≤ mag a ∧ mag a < 18446744073709551616 := by unfold mag; split <;> omega
  have hmb : 0 ≤ mag b ∧ mag b < 18446744073709551616 := by unfold mag; split <;> omega
  unfold civil_Mul.f
  rw [size_f ha ha1, size_f hb hb1]
  simp only [Option.bind_some]
  rw [mul64_f hma.1 hma.2 hmb.1 hmb.2]
  simp only [Option.bind_some]
  rw [hm]
  generalize hneg : (decide (a < 0) != decide (b < 0)) = ng at *
  generalize a * b = p at *
  cases ng with
  | true =>
    simp only [if_true] at hs ⊢
    by_cases h1 : -p / 18446744073709551616 > 0
    · rw [if_pos h1, civil_Mul.j0, if_pos rfl, if_neg (by omega)]
    · rw [if_neg h1]
      have e : -p % 18446744073709551616 = -p := Int.emod_eq_of_lt hs (by omega)
      rw [e]
      by_cases h2 : -p > 9223372036854775808
      · rw [if_pos h2, civil_Mul.j0, if_pos rfl, if_neg (by omega)]
      · rw [if_neg h2, civil_Mul.j0, if_neg (by simp), if_pos rfl]
        by_cases h3 : -p > 0
        · rw [if_pos h3, if_pos (by omega), u64_wrap, show (-p - 1) % 18446744073709551616 = -p - 1 from Int.emod_eq_of_lt (by omega) (by omega), wrap_id (n := -p - 1) (by omega) (by omega),
            wrap_id (n := -(-p - 1)) (by omega) (by omega), wrap_id (n := -(-p - 1) - 1) (by omega) (by omega)]
          congr 2; omega
        · rw [if_neg h3, if_pos (by omega), wrap_id (n := -p) (by omega) (by omega)]
          congr 2; omega
  | false =>
    simp only [Bool.false_eq_true, if_false] at hs ⊢
    by_cases h1 : p / 18446744073709551616 > 0
    · rw [if_pos h1, civil_Mul.j0, if_pos rfl, if_neg (by omega)]
    · rw [if_neg h1]
      have e : p % 18446744073709551616 = p := Int.emod_eq_of_lt hs (by omega)
      rw [e]
      by_cases h2 : p > 9223372036854775808
      · rw [if_pos h2, civil_Mul.j0, if_pos rfl, if_neg (by omega)]
      · rw [if_neg h2, civil_Mul.j0]
        by_cases h3 : p = 9223372036854775808
        · rw [if_pos (by simp [h3]), if_neg (by omega)]
        · rw [if_neg (by simpa using h3), if_neg (by simp), if_pos (by omega), wrap_id (n := p) (by omega) (by omega)]
theorem Add_f {a b : Int} (ha : -9223372036854775808 ≤ a) (ha1 : a ≤ 9223372036854775807) (hb : -9223372036854775808 ≤ b) (hb1 : b ≤ 9223372036854775807) :
    civil_Add.f a b = some (if -9223372036854775808 ≤ a + b ∧ a + b ≤ 9223372036854775807 then (a + b, true) else (0, false)) := by
  have e1 : b > 0 → wrap64 (9223372036854775807 - b) = 9223372036854775807 - b := fun _ => wrap_id (by omega) (by omega)
  have e2 : b < 0 → wrap64 (-9223372036854775808 - b) = -9223372036854775808 - b := fun _ => wrap_id (by omega) (by omega)
  have e3 : -9223372036854775808 ≤ a + b ∧ a + b ≤ 9223372036854775807 → wrap64 (a + b) = a + b := fun h => wrap_id h.1 h.2
  unfold civil_Add.f
  by_cases hp : b > 0
  · rw [if_pos hp, e1 hp]
    by_cases h : a > 9223372036854775807 - b
    · rw [if_pos h, if_neg (by omega)]
    · rw [if_neg h, if_neg (by omega), e3 (by omega), if_pos (by omega)]
  · rw [if_neg hp]
    by_cases hn : b < 0
    · rw [if_pos hn, e2 hn]
      by_cases h : a < -9223372036854775808 - b
      · rw [if_pos h, if_neg (by omega)]
      · rw [if_neg h, e3 (by omega), if_pos (by omega)]
    · rw [if_neg hn, e3 (by omega), if_pos (by omega)]
/-- what the wrapped product divided by b says -/
theorem wrap_div {a b : Int} (hb0 : b ≠ 0) (ha : -9223372036854775807 ≤ a) (ha1 : a ≤ 9223372036854775807) (hb : -9223372036854775807 ≤ b) (hb1 : b ≤ 9223372036854775807) :
    wrap64 (Int.tdiv (wrap64 (a * b)) b) = a ↔ -9223372036854775808 ≤ a * b ∧ a * b ≤ 9223372036854775807 := by
  constructor
  · intro h
    have hr : -9223372036854775808 ≤ wrap64 (a * b) ∧ wrap64 (a * b) ≤ 9223372036854775807 := by unfold wrap64; omega
    obtain ⟨q, hq⟩ : ∃ q, wrap64 (a * b) = a * b + 18446744073709551616 * q := ⟨-((a * b + 9223372036854775808) / 18446744073709551616), by unfold wrap64; omega⟩
    by_cases h1 : b = -1
    · subst h1; omega
    have ht : -9223372036854775808 ≤ Int.tdiv (wrap64 (a * b)) b ∧ Int.tdiv (wrap64 (a * b)) b ≤ 9223372036854775807 := by
      have hn := Int.natAbs_tdiv (wrap64 (a * b)) b
      have hle : (wrap64 (a * b)).natAbs / b.natAbs ≤ (wrap64 (a * b)).natAbs := Nat.div_le_self _ _
      by_cases hx : b = 1
      · subst hx; rw [Int.tdiv_one]; exact hr
      · have h2 : 2 ≤ b.natAbs := by omega
        have hle2 : (wrap64 (a * b)).natAbs / b.natAbs ≤ (wrap64 (a * b)).natAbs / 2 := Nat.div_le_div_left h2 (by omega)
        have hn2 : ((wrap64 (a * b)).tdiv b).natAbs = (wrap64 (a * b)).natAbs / b.natAbs := hn
        omega
    rw [wrap_id ht.1 ht.2] at h
    have hm := Int.tmod_add_mul_tdiv (wrap64 (a * b)) b
    rw [h] at hm
    have hlt : ((wrap64 (a * b)).tmod b).natAbs < b.natAbs := by
      rw [Int.natAbs_tmod]; exact Nat.mod_lt _ (by omega)
    have hc : b * a = a * b := Int.mul_comm _ _
    generalize a * b = p at *
    omega
  · intro h
    rw [wrap_id h.1 h.2, Int.mul_tdiv_cancel _ hb0, wrap_id (by omega) (by omega)]
theorem neg_prod {a b : Int} (ha : a ≠ 0) (hb : b ≠ 0) : (decide (a < 0) != decide (b < 0)) = decide (a * b < 0) := by
  rcases Int.lt_trichotomy a 0 with h | h | h
  · rcases Int.lt_trichotomy b 0 with h' | h' | h'
    · have := Int.mul_pos_of_neg_of_neg h h'; simp [h, h']; omega
    · exact absurd h' hb
    · have := Int.mul_neg_of_neg_of_pos h h'; simp [h, this]; omega
  · exact absurd h ha
  · rcases Int.lt_trichotomy b 0 with h' | h' | h'
    · have := Int.mul_neg_of_pos_of_neg h h'; simp [h', this]; omega
    · exact absurd h' hb
    · have := Int.mul_pos h h'
      have q1 : ¬ a < 0 := by omega
      have q2 : ¬ b < 0 := by omega
      have q3 : ¬ a * b < 0 := by omega
      simp [q1, q2, q3]
theorem sums_j0 {k : Nat} (hk : 5 ≤ k) {a b : Int} (ha : -9223372036854775808 ≤ a) (ha1 : a ≤ 9223372036854775807) (hb : -9223372036854775808 ≤ b) (hb1 : b ≤ 9223372036854775807) :
    vesperslaw01_CivilSums.j0 k a b false = some true := by
  obtain ⟨k, rfl⟩ := pos_rounds (k := k) (by omega)
  rw [vesperslaw01_CivilSums.j0, if_neg (by simp), Mul_f (by omega) ha ha1 hb hb1]
  simp only [Option.bind_some]
  obtain ⟨k, rfl⟩ := pos_rounds (k := k) (by omega)
  by_cases h0 : a = 0
  · subst h0
    rw [if_pos rfl, vesperslaw01_CivilSums.j1, if_pos rfl, fixed_f (by omega)]
    simp
  rw [if_neg h0]
  by_cases h1 : b = 0
  · subst h1
    simp only [beq_self_eq_true]
    rw [vesperslaw01_CivilSums.j1, if_pos rfl, fixed_f (by omega)]
    simp
  rw [show (b == 0) = false from by simpa using h1, vesperslaw01_CivilSums.j1, if_neg (by simp)]
  obtain ⟨k, rfl⟩ := pos_rounds (k := k) (by omega)
  by_cases h2 : a = -9223372036854775808
  · subst h2
    rw [if_pos rfl, vesperslaw01_CivilSums.j2, if_pos rfl, if_neg (by omega), fixed_f (by omega)]
    simp only [Option.bind_some, if_true]
    by_cases h3 : b = 1
    · subst h3; simp
    · have hnf : ¬ (-9223372036854775808 ≤ -9223372036854775808 * b ∧ -9223372036854775808 * b ≤ 9223372036854775807) := by omega
      simp [hnf, h3]
  rw [if_neg h2]
  by_cases h3 : b = -9223372036854775808
  · subst h3
    simp only [beq_self_eq_true]
    rw [vesperslaw01_CivilSums.j2, if_pos rfl, fixed_f (by omega)]
    simp only [Option.bind_some, if_true]
    by_cases h4 : a = 1
    · subst h4; simp
    · have hnf : ¬ (-9223372036854775808 ≤ a * -9223372036854775808 ∧ a * -9223372036854775808 ≤ 9223372036854775807) := by omega
      simp [hnf, h4]
  rw [show (b == -9223372036854775808) = false from by simpa using h3, vesperslaw01_CivilSums.j2, if_neg (by simp), if_neg h1, fixed_f (by omega)]
  have hw := wrap_div h1 (a := a) (by omega) (by omega) (by omega) (by omega)
  have hn := neg_prod h0 h1
  simp only [Option.bind_some, if_true]
  by_cases hf : -9223372036854775808 ≤ a * b ∧ a * b ≤ 9223372036854775807
  · have hw2 := hw.2 hf
    have e := wrap_id hf.1 hf.2
    rw [e] at hw2 ⊢
    simp only [if_pos hf, hw2, if_true, beq_self_eq_true]
    by_cases hm : a * b = -9223372036854775808
    · rw [if_pos hm, if_pos]
      rw [hn]; exact decide_eq_true (by omega)
    · rw [if_neg hm]
  · have hw2 : ¬ wrap64 (Int.tdiv (wrap64 (a * b)) b) = a := fun h => hf (hw.1 h)
    have hw3 : (wrap64 (Int.tdiv (wrap64 (a * b)) b) == a) = false := by simpa using hw2
    simp only [if_neg hf, hw2, hw3, if_false, Bool.false_eq_true, beq_self_eq_true, if_true]
    split <;> (try split) <;> rfl
theorem sums_law (a b : Int) (ha : -9223372036854775808 ≤ a) (ha1 : a ≤ 9223372036854775807) (hb : -9223372036854775808 ≤ b) (hb1 : b ≤ 9223372036854775807) :
    ∃ k, vesperslaw01_CivilSums.f k a b = some true := by
  refine ⟨10, ?_⟩
  have hj := sums_j0 (k := 10) (by omega) ha ha1 hb hb1
  unfold vesperslaw01_CivilSums.f
  rw [Add_f ha ha1 hb hb1]
  simp only [Option.bind_some]
  by_cases hf : -9223372036854775808 ≤ a + b ∧ a + b ≤ 9223372036854775807
  · rw [if_pos hf, wrap_id hf.1 hf.2]
    by_cases hp : b ≥ 0
    · rw [if_pos hp, if_pos (by omega)]
      simpa using hj
    · rw [if_neg hp, if_pos (by omega), decide_eq_true (by omega)]
      simpa using hj
  · rw [if_neg hf]
    by_cases hp : b ≥ 0
    · have hw : ¬ wrap64 (a + b) ≥ a := by unfold wrap64; omega
      rw [if_pos hp, if_neg hw, if_neg (by omega)]
      simpa using hj
    · have hw : ¬ wrap64 (a + b) < a := by unfold wrap64; omega
      rw [if_neg hp, if_pos (by omega), decide_eq_false hw]
      simpa using hj
theorem CivilSums : vesperslaw01_CivilSums.Pure := by
  intro a b ha hb
  exact sums_law a b (wf64 ha).1 (wf64 ha).2 (wf64 hb).1 (wf64 hb).2
end Go.Proofs.Ytoigdebcpmgknaa.Pure
