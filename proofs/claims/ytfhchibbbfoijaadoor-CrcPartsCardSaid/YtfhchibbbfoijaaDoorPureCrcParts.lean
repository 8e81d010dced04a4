/-
  THE PLAIN LAW of CrcParts: the sum of bytes is that of them one by one, whichever way they are cut; a byte more makes another one than another byte more. No condition.
-/
import Derived.Test.YtfhchibbbfoijaaDoorOwnx4
namespace Go.Proofs.YtfhchibbbfoijaaDoor.Pure
open Go.RowKit Go.Proofs.YtfhchibbbfoijaaDoor.Own Go.Proofs.YtfhchibbbfoijaaDoorW.PrintWords Go.Proofs.YtfhchibbbfoijaaDoorW.PrintLast Go.Proofs.YtfhchibbbfoijaaDoorW.PrintMore
set_option linter.unusedVariables false
set_option linter.unusedSimpArgs false

/-- one bit of the sum -/
def st (x : Nat) : Nat := x / 2 ^^^ (if x % 2 = 1 then 3988292384 else 0)
def sts : Nat → Nat → Nat
  | 0, x => x
  | n + 1, x => sts n (st x)

theorem st_lin (a b : Nat) : st (a ^^^ b) = st a ^^^ st b := by
  unfold st
  have h1 : (a ^^^ b) / 2 = a / 2 ^^^ b / 2 := by
    have := Nat.shiftRight_xor_distrib (a := a) (b := b) (i := 1)
    simpa [Nat.shiftRight_eq_div_pow] using this
  have h2 : (a ^^^ b) % 2 = (a + b) % 2 := by
    have h3 := @Nat.xor_mod_two_pow a b 1
    simp only [Nat.pow_one] at h3
    rw [h3]
    rcases Nat.mod_two_eq_zero_or_one a with ha | ha <;> rcases Nat.mod_two_eq_zero_or_one b with hb | hb <;> rw [ha, hb] <;> (show _ = _; simp; omega)
  rw [h1, h2]
  rcases Nat.mod_two_eq_zero_or_one a with ha | ha <;> rcases Nat.mod_two_eq_zero_or_one b with hb | hb
  · rw [if_neg (by omega), if_neg (by omega), if_neg (by omega)]; simp
  · rw [if_pos (by omega), if_neg (by omega), if_pos (by omega)]; simp [Nat.xor_assoc]
  · rw [if_pos (by omega), if_pos (by omega), if_neg (by omega)]; simp only [Nat.xor_zero]; rw [Nat.xor_assoc, Nat.xor_assoc, Nat.xor_comm (b / 2)]
  · rw [if_neg (by omega), if_pos (by omega), if_pos (by omega)]
    rw [Nat.xor_assoc (a / 2) 3988292384, Nat.xor_comm 3988292384 (b / 2 ^^^ 3988292384), Nat.xor_assoc (b / 2), Nat.xor_self]
    simp only [Nat.xor_zero]

theorem sts_lin (n a b : Nat) : sts n (a ^^^ b) = sts n a ^^^ sts n b := by
  induction n generalizing a b with
  | zero => rfl
  | succ n ih => simp only [sts]; rw [st_lin, ih]

theorem sts_add (m n x : Nat) : sts (m + n) x = sts n (sts m x) := by
  induction m generalizing x with
  | zero => simp [sts]
  | succ m ih => rw [Nat.succ_add]; simp only [sts]; exact ih _

theorem st_double (x : Nat) : st (2 * x) = x := by
  unfold st; rw [if_neg (by omega)]; simp

theorem sts_pow (n x : Nat) : sts n (2 ^ n * x) = x := by
  induction n generalizing x with
  | zero => simp [sts]
  | succ n ih =>
    simp only [sts]
    rw [Nat.pow_succ, Nat.mul_comm (2 ^ n) 2, Nat.mul_assoc, st_double, ih]

theorem add_xor (n x y : Nat) (hy : y < 2 ^ n) : 2 ^ n * x + y = 2 ^ n * x ^^^ y := by
  apply Nat.eq_of_testBit_eq
  intro j
  rw [Nat.testBit_xor, Nat.testBit_two_pow_mul_add x hy j, Nat.testBit_two_pow_mul]
  by_cases h : j < n
  · rw [if_pos h]
    have : ¬ n ≤ j := by omega
    simp [this]
  · rw [if_neg h]
    have h' : n ≤ j := by omega
    have : y.testBit j = false := Nat.testBit_lt_two_pow (Nat.lt_of_lt_of_le hy (Nat.pow_le_pow_right (by decide) h'))
    simp [h', this]

theorem sts_split (n x y : Nat) (hy : y < 2 ^ n) : sts n (2 ^ n * x + y) = x ^^^ sts n y := by
  rw [add_xor n x y hy, sts_lin, sts_pow]

def tab (k : Nat) : Nat := [0, 498536548, 997073096, 651767980, 1994146192, 1802195444, 1303535960, 1342533948, 3988292384, 4027552580, 3604390888, 3412177804, 2607071920, 2262029012, 2685067896, 3183342108].getD k 0

theorem tab_sts (k : Nat) (h : k < 16) : sts 4 k = tab k := by
  have : ∀ k : Fin 16, sts 4 k.1 = tab k.1 := by decide
  exact this ⟨k, h⟩

theorem nib_sts (r : Nat) : r / 16 ^^^ tab (r % 16) = sts 4 r := by
  have h : r = 2 ^ 4 * (r / 16) + r % 16 := by omega
  conv => rhs; rw [h]
  rw [sts_split 4 _ _ (by omega), tab_sts _ (by omega)]

theorem st_lt (x n : Nat) (hn : 2 ^ 32 ≤ 2 ^ n) (h : x < 2 ^ n) : st x < 2 ^ n := by
  unfold st
  apply Nat.xor_lt_two_pow
  · omega
  · split <;> omega
theorem st_lt32 (x : Nat) (h : x < 4294967296) : st x < 4294967296 := st_lt x 32 (Nat.le_refl _) h
theorem sts_lt32 (n x : Nat) (h : x < 4294967296) : sts n x < 4294967296 := by
  induction n generalizing x with
  | zero => exact h
  | succ n ih => exact ih _ (st_lt32 x h)

theorem st_zero (x : Nat) (hx : x < 4294967296) (h : st x = 0) : x = 0 := by
  unfold st at h
  by_cases ho : x % 2 = 1
  · rw [if_pos ho] at h
    have : x / 2 = 3988292384 := by
      have h2 := congrArg (· ^^^ 3988292384) h
      simpa [Nat.xor_assoc] using h2
    omega
  · rw [if_neg ho] at h
    simp at h; omega
theorem sts_zero (n x : Nat) (hx : x < 4294967296) (h : sts n x = 0) : x = 0 := by
  induction n generalizing x with
  | zero => exact h
  | succ n ih => exact st_zero x hx (ih _ (st_lt32 x hx) h)
theorem sts_inj (n x y : Nat) (hx : x < 4294967296) (hy : y < 4294967296) (h : sts n x = sts n y) : x = y := by
  have h1 : sts n (x ^^^ y) = 0 := by rw [sts_lin, h, Nat.xor_self]
  have h2 := sts_zero n _ (Nat.xor_lt_two_pow (n := 32) hx hy) h1
  have h3 := congrArg (· ^^^ y) h2
  simpa [Nat.xor_assoc] using h3

/-- the row behind bytes -/
def row (r : Nat) : List Nat → Nat
  | [] => r
  | c :: l => row (sts 8 (r ^^^ c)) l
theorem row_append (r : Nat) (a b : List Nat) : row r (a ++ b) = row (row r a) b := by
  induction a generalizing r with
  | nil => rfl
  | cons c a ih => exact ih _
theorem row_lt (r : Nat) (l : List Nat) (hr : r < 4294967296) (hl : ∀ c ∈ l, c < 256) : row r l < 4294967296 := by
  induction l generalizing r with
  | nil => exact hr
  | cons c l ih =>
    refine ih _ (sts_lt32 _ _ (Nat.xor_lt_two_pow (n := 32) hr ?_)) (fun c hc => hl c (List.mem_cons_of_mem _ hc))
    have := hl c List.mem_cons_self
    omega

/-- bytes as one number, the low one first -/
def nm : List Nat → Nat
  | [] => 0
  | c :: l => 2 ^ 8 * nm l + c
theorem row_nm (r : Nat) (l : List Nat) (hl : ∀ c ∈ l, c < 256) : row r l = sts (8 * l.length) (r ^^^ nm l) := by
  induction l generalizing r with
  | nil => simp [row, nm, sts]
  | cons c l ih =>
    have hc : c < 2 ^ 8 := hl c List.mem_cons_self
    simp only [row, nm, List.length_cons]
    rw [ih _ (fun c hc => hl c (List.mem_cons_of_mem _ hc)), show 8 * (l.length + 1) = 8 + 8 * l.length from by omega, sts_add, add_xor 8 _ _ hc,
      Nat.xor_comm (2 ^ 8 * nm l) c, ← Nat.xor_assoc, sts_lin 8 (r ^^^ c), sts_pow]

theorem nm_bit (l : List Nat) (hl : ∀ c ∈ l, c < 256) (j : Nat) : (nm l).testBit j = (l.getD (j / 8) 0).testBit (j % 8) := by
  induction l generalizing j with
  | nil => simp [nm]
  | cons c l ih =>
    have hc : c < 2 ^ 8 := hl c List.mem_cons_self
    simp only [nm]
    rw [Nat.testBit_two_pow_mul_add _ hc]
    by_cases h : j < 8
    · rw [if_pos h, show j / 8 = 0 from by omega, show j % 8 = j from by omega]; rfl
    · rw [if_neg h, ih (fun c hc => hl c (List.mem_cons_of_mem _ hc)), show j / 8 = (j - 8) / 8 + 1 from by omega, show j % 8 = (j - 8) % 8 from by omega]
      simp

theorem nm_set (l : List Nat) (hl : ∀ c ∈ l, c < 256) (k m : Nat) (hk : k < l.length) (hm : m < 8) :
    nm (l.set k (l.getD k 0 ^^^ 2 ^ m)) = nm l ^^^ 2 ^ (8 * k + m) := by
  have hlk : l.getD k 0 < 256 := by
    rw [List.getD_eq_getElem?_getD, List.getElem?_eq_getElem hk]; exact hl _ (List.getElem_mem hk)
  have hnew : l.getD k 0 ^^^ 2 ^ m < 2 ^ 8 := Nat.xor_lt_two_pow hlk (Nat.pow_lt_pow_right (by decide) hm)
  apply Nat.eq_of_testBit_eq
  intro j
  rw [nm_bit _ ?_ j, Nat.testBit_xor, nm_bit l hl j, Nat.testBit_two_pow]
  · by_cases h : j / 8 = k
    · subst h
      have : (l.set (j / 8) (l.getD (j / 8) 0 ^^^ 2 ^ m)).getD (j / 8) 0 = l.getD (j / 8) 0 ^^^ 2 ^ m := by
        rw [List.getD_eq_getElem?_getD, List.getElem?_set_self hk]; rfl
      rw [this, Nat.testBit_xor, Nat.testBit_two_pow]
      congr 1
      exact decide_eq_decide.2 (by omega)
    · have : (l.set k (l.getD k 0 ^^^ 2 ^ m)).getD (j / 8) 0 = l.getD (j / 8) 0 := by
        rw [List.getD_eq_getElem?_getD, List.getElem?_set_ne (fun e => h e.symm), ← List.getD_eq_getElem?_getD]
      rw [this]
      have : decide (8 * k + m = j) = false := decide_eq_false (by omega)
      rw [this, Bool.xor_false]
  · intro c hc
    rcases List.mem_or_eq_of_mem_set hc with hc | rfl
    · exact hl c hc
    · exact hnew

theorem low_succ (t i : Nat) : t % 2 ^ (i + 1) = t % 2 ^ i ^^^ (if t.testBit i then 2 ^ i else 0) := by
  apply Nat.eq_of_testBit_eq
  intro j
  rw [Nat.testBit_xor, Nat.testBit_mod_two_pow, Nat.testBit_mod_two_pow]
  by_cases h : t.testBit i
  · rw [if_pos h, Nat.testBit_two_pow]
    by_cases e : i = j
    · subst e; simp [h]
    · have : (decide (j < i + 1)) = decide (j < i) := decide_eq_decide.2 (by omega)
      rw [this]; simp [e]
  · rw [if_neg h]
    by_cases e : i = j
    · subst e; simp [h]
    · have : (decide (j < i + 1)) = decide (j < i) := decide_eq_decide.2 (by omega)
      rw [this]; simp

/-- what a burst does -/
theorem burst (b own : List Nat) (hb : ∀ c ∈ b, c < 256) (ho : ∀ c ∈ own, c < 256) (hlen : own.length = b.length) (from_ turn : Nat) (ht : turn < 4294967296) (h0 : turn ≠ 0)
    (hf : from_ ≤ 8 * b.length) (h : nm own = nm b ^^^ 2 ^ from_ * turn) (r : Nat) : row r own ≠ row r b := by
  rw [row_nm r own ho, row_nm r b hb, hlen, h, ← Nat.xor_assoc, sts_lin]
  intro e
  have h1 : sts (8 * b.length) (2 ^ from_ * turn) = 0 := by
    have := congrArg (sts (8 * b.length) (r ^^^ nm b) ^^^ ·) e
    simpa [← Nat.xor_assoc] using this
  rw [show 8 * b.length = from_ + (8 * b.length - from_) from by omega, sts_add, sts_pow] at h1
  exact h0 (sts_zero _ _ ht h1)
theorem row_inj (r x y : Nat) (hr : r < 4294967296) (hx : x < 256) (hy : y < 256) (h : row r [x] = row r [y]) : x = y := by
  simp only [row] at h
  have := sts_inj 8 _ _ (Nat.xor_lt_two_pow (n := 32) hr (by omega)) (Nat.xor_lt_two_pow (n := 32) hr (by omega)) h
  have := congrArg (r ^^^ ·) this
  simpa [← Nat.xor_assoc] using this
theorem wf_u8 {a : Int} (h : (Lit.int .u8 a).wf = true) : 0 ≤ a ∧ a ≤ 255 := by
  simp only [Lit.wf, Bool.and_eq_true, decide_eq_true_eq] at h
  have h1 : IntKind.u8.min = 0 := by decide
  have h2 : IntKind.u8.max = 255 := by decide
  rw [h1, h2] at h
  exact h
theorem wf_u16 {a : Int} (h : (Lit.int .u16 a).wf = true) : 0 ≤ a ∧ a ≤ 65535 := by
  simp only [Lit.wf, Bool.and_eq_true, decide_eq_true_eq] at h
  have h1 : IntKind.u16.min = 0 := by decide
  have h2 : IntKind.u16.max = 65535 := by decide
  rw [h1, h2] at h
  exact h
theorem wf_u32 {a : Int} (h : (Lit.int .u32 a).wf = true) : 0 ≤ a ∧ a ≤ 4294967295 := by
  simp only [Lit.wf, Bool.and_eq_true, decide_eq_true_eq] at h
  have h1 : IntKind.u32.min = 0 := by decide
  have h2 : IntKind.u32.max = 4294967295 := by decide
  rw [h1, h2] at h
  exact h
theorem wrap_id {n : Int} (h : -9223372036854775808 ≤ n) (h2 : n ≤ 9223372036854775807) : wrap64 n = n := by unfold wrap64; omega
theorem pos_rounds {k : Nat} (h : 1 ≤ k) : ∃ m, k = m + 1 := ⟨k - 1, by omega⟩
theorem max_u32 : IntKind.u32.max = 4294967295 := by decide
theorem xorN (a b : Nat) (ha : a < 4294967296) (hb : b < 4294967296) : bits .xor .u32 (a : Int) (b : Int) = ((a ^^^ b : Nat) : Int) := by
  have hx : a ^^^ b < 4294967296 := Nat.xor_lt_two_pow (n := 32) ha hb
  have ha' : a % 2 ^ IntKind.u32.bits = a := Nat.mod_eq_of_lt ha
  have hb' : b % 2 ^ IntKind.u32.bits = b := Nat.mod_eq_of_lt hb
  simp only [bits, BitVec.ofInt_natCast, BitVec.toNat_xor, BitVec.toNat_ofNat, ha', hb']
  rw [u32_wrap]
  omega
theorem andN (x : Nat) (h : x < 4294967296) : bits .and .u32 (x : Int) 15 = ((x % 16 : Nat) : Int) := by
  have hx : (x : Int) < 2 ^ 32 := by
    have : ((2 : Int) ^ 32) = 4294967296 := by decide
    omega
  have := bits_mask .u32 32 (by decide) (fun n h0 h1 => by rw [u32_wrap]; omega) 4 (by decide) (x : Int) (by omega) hx
  have e : bits .and .u32 (x : Int) 15 = (x : Int) % 16 := by simpa using this
  rw [e]; omega
theorem tabZ_tab (k : Nat) (h : k < 16) : tabZ k = (tab k : Int) := by
  have : ∀ k : Fin 16, tabZ k.1 = (tab k.1 : Int) := by decide
  exact this ⟨k, h⟩
theorem tab_lt (k : Nat) (h : k < 16) : tab k < 4294967296 := by
  have : ∀ k : Fin 16, tab k.1 < 4294967296 := by decide
  exact this ⟨k, h⟩
theorem nibN (r : Nat) (h : r < 4294967296) : nibZ (r : Int) = (sts 4 r : Nat) := by
  unfold nibZ
  rw [andN r h, Int.toNat_natCast, tabZ_tab _ (by omega), show (r : Int) / 16 = ((r / 16 : Nat) : Int) from by omega, xorN _ _ (by omega) (tab_lt _ (by omega)), nib_sts]
theorem stepN (r c : Nat) (h : r < 4294967296) (hc : c < 256) : stepZ (r : Int) (c : Int) = (sts 8 (r ^^^ c) : Nat) := by
  have hx : r ^^^ c < 4294967296 := Nat.xor_lt_two_pow (n := 32) h (by omega)
  unfold stepZ
  rw [xorN r c h (by omega), nibN _ hx, nibN _ (sts_lt32 _ _ hx), ← sts_add]
/-- bytes as numbers -/
def B (l : List Int) : List Nat := l.map Int.toNat
theorem B_lt {l : List Int} (h : ∀ x ∈ l, 0 ≤ x ∧ x ≤ 255) : ∀ c ∈ B l, c < 256 := by
  intro c hc
  unfold B at hc
  obtain ⟨x, hx, rfl⟩ := List.mem_map.1 hc
  have := h x hx
  omega
theorem rowN (r : Nat) (l : List Int) (hr : r < 4294967296) (h : ∀ x ∈ l, 0 ≤ x ∧ x ≤ 255) : rowZ (r : Int) l = (row r (B l) : Nat) := by
  induction l generalizing r with
  | nil => rfl
  | cons c l ih =>
    have hc := h c List.mem_cons_self
    have e : c = ((c.toNat : Nat) : Int) := by omega
    have hx : r ^^^ c.toNat < 4294967296 := Nat.xor_lt_two_pow (n := 32) hr (by omega)
    show rowZ (stepZ (r : Int) c) l = _
    rw [show stepZ (r : Int) c = stepZ (r : Int) ((c.toNat : Nat) : Int) from by rw [← e], stepN r _ hr (by omega), ih _ (sts_lt32 _ _ hx) (fun x hx => h x (List.mem_cons_of_mem _ hx))]
    rfl
theorem not32 (x : Nat) (h : x < 4294967296) : 4294967295 ^^^ x = 4294967295 - x := by
  have e : (BitVec.allOnes 32 ^^^ BitVec.ofNat 32 x) = ~~~ (BitVec.ofNat 32 x) := BitVec.allOnes_xor
  have e2 := congrArg BitVec.toNat e
  rw [BitVec.toNat_xor, BitVec.toNat_not, BitVec.toNat_allOnes, BitVec.toNat_ofNat, Nat.mod_eq_of_lt (by simpa using h)] at e2
  simpa using e2
/-- the sum with bytes more -/
def moreN (s : Nat) (b : List Nat) : Nat := 4294967295 - row (4294967295 - s) b
theorem moreN_lt (s : Nat) (b : List Nat) : moreN s b < 4294967296 := by unfold moreN; omega
theorem More_f (s : Nat) (l : List Int) (hs : s < 4294967296) (h : ∀ x ∈ l, 0 ≤ x ∧ x ≤ 255) : crc_More.f (s : Int) l = some ((moreN s (B l) : Nat) : Int) := by
  have hr : row (4294967295 - s) (B l) < 4294967296 := row_lt _ _ (by omega) (B_lt h)
  unfold crc_More.f moreN
  rw [if_pos h, max_u32, show (4294967295 : Int) = ((4294967295 : Nat) : Int) from rfl, xorN _ _ (by omega) hs, not32 s hs, rowN _ _ (by omega) h, xorN _ _ (by omega) hr, not32 _ hr]
theorem Sum_f (l : List Int) (h : ∀ x ∈ l, 0 ≤ x ∧ x ≤ 255) : crc_Sum.f l = some ((moreN 0 (B l) : Nat) : Int) := by
  have e := More_f 0 l (by omega) h
  unfold crc_Sum.f
  rw [show (0 : Int) = ((0 : Nat) : Int) from rfl, e]
  rfl
theorem more_append (s : Nat) (a b : List Nat) (hs : s < 4294967296) (ha : ∀ c ∈ a, c < 256) : moreN (moreN s a) b = moreN s (a ++ b) := by
  have hr : row (4294967295 - s) a < 4294967296 := row_lt _ _ (by omega) ha
  unfold moreN
  rw [row_append]
  congr 2
  omega
theorem more_nil (s : Nat) (hs : s < 4294967296) : moreN s [] = s := by unfold moreN; show 4294967295 - (4294967295 - s) = s; omega
theorem B_append (a b : List Int) : B (a ++ b) = B a ++ B b := List.map_append
theorem fixed_f : vesperslaw04_fixed.f = some true := by
  unfold vesperslaw04_fixed.f
  rw [Sum_f _ (by decide)]
  simp only [Option.bind_some]
  have e : moreN 0 (B [49, 50, 51, 52, 53, 54, 55, 56, 57]) = 3421780262 := by decide +kernel
  rw [e]
  rfl
theorem more_inj (s : Nat) (x y : Int) (hs : s < 4294967296) (hx : 0 ≤ x ∧ x ≤ 255) (hy : 0 ≤ y ∧ y ≤ 255) : (((moreN s (B [x]) : Nat) : Int) == ((moreN s (B [y]) : Nat) : Int)) = (x == y) := by
  by_cases e : x = y
  · subst e; simp
  · have : ¬ ((moreN s (B [x]) : Nat) : Int) = ((moreN s (B [y]) : Nat) : Int) := by
      intro q
      apply e
      have eB : ∀ z : Int, B [z] = [z.toNat] := fun _ => rfl
      rw [eB, eB] at q
      have lx : ∀ c ∈ [x.toNat], c < 256 := by
        intro c hc
        rw [List.mem_singleton] at hc
        omega
      have ly : ∀ c ∈ [y.toNat], c < 256 := by
        intro c hc
        rw [List.mem_singleton] at hc
        omega
      unfold moreN at q
      generalize hs' : 4294967295 - s = s' at q
      have l1 := row_lt s' [x.toNat] (by omega) lx
      have l2 := row_lt s' [y.toNat] (by omega) ly
      have q2 : row s' [x.toNat] = row s' [y.toNat] := by
        generalize row s' [x.toNat] = u at *
        generalize row s' [y.toNat] = v at *
        omega
      have := row_inj _ _ _ (by omega) (by omega) (by omega) q2
      omega
    rw [beq_eq_false_iff_ne.2 this, beq_eq_false_iff_ne.2 e]
theorem parts_l0 (l : List Int) (hl : l.length ≤ 3000) (h : ∀ x ∈ l, 0 ≤ x ∧ x ≤ 255) (x y c : Int) (hx : 0 ≤ x ∧ x ≤ 255) (hy : 0 ≤ y ∧ y ≤ 255) (hc : 0 ≤ c ∧ c ≤ l.length) (n : Nat) : ∀ (k i : Nat), n < k → i ≤ l.length → l.length - i = n →
    vesperslaw04_CrcParts.l0 k l x y c ((moreN 0 (B (l.take i)) : Nat) : Int) l (l.length : Int) (i : Int) = some true := by
  induction n with
  | zero =>
    intro k i hk hi hn
    obtain ⟨k, rfl⟩ := pos_rounds (k := k) (by omega)
    obtain rfl : i = l.length := by omega
    have ht : ∀ z ∈ l.take c.toNat, 0 ≤ z ∧ z ≤ 255 := fun z hz => h z (List.mem_of_mem_take hz)
    have hd : ∀ z ∈ l.drop c.toNat, 0 ≤ z ∧ z ≤ 255 := fun z hz => h z (List.mem_of_mem_drop hz)
    rw [vesperslaw04_CrcParts.l0, if_neg (by omega), Sum_f l h, fixed_f, List.take_length, Sum_f _ ht]
    simp only [Option.bind_some, if_true]
    rw [if_pos hc.1, if_pos hc.2, More_f _ _ (moreN_lt _ _) hd, More_f _ [x] (moreN_lt _ _) (by simpa using hx), More_f _ [y] (moreN_lt _ _) (by simpa using hy)]
    simp only [Option.bind_some]
    rw [more_append 0 _ _ (by omega) (B_lt ht), ← B_append, List.take_append_drop, if_pos rfl, more_inj _ x y (moreN_lt _ _) hx hy]
    simp
  | succ n ih =>
    intro k i hk hi hn
    obtain ⟨k, rfl⟩ := pos_rounds (k := k) (by omega)
    have hlt : i < l.length := by omega
    have hr : rd l (i : Int) = l[i] := by unfold rd; rw [Int.toNat_natCast, List.getD_eq_getElem?_getD, List.getElem?_eq_getElem hlt]; rfl
    have he := h l[i] (List.getElem_mem hlt)
    have ht : ∀ z ∈ l.take i, 0 ≤ z ∧ z ≤ 255 := fun z hz => h z (List.mem_of_mem_take hz)
    rw [vesperslaw04_CrcParts.l0, if_pos (by omega), if_pos (by omega), if_pos (by omega), hr, More_f _ _ (moreN_lt _ _) (by simpa using he)]
    simp only [Option.bind_some]
    rw [more_append 0 _ _ (by omega) (B_lt ht), ← B_append, ← List.take_succ_eq_append_getElem hlt, wrap_id (n := (i : Int) + 1) (by omega) (by omega), show (i : Int) + 1 = ((i + 1 : Nat) : Int) from by omega]
    exact ih k (i + 1) (by omega) (by omega) (by omega)
theorem CrcParts : vesperslaw04_CrcParts.Pure := by
  intro l a1 x y _ _ hl h1 hx hy
  have h := fun x hx => wf_u8 (hl x hx)
  have h1 := wf_u16 h1
  have hx := wf_u8 hx
  have hy := wf_u8 hy
  refine ⟨3001, ?_⟩
  unfold vesperslaw04_CrcParts.f
  by_cases hlen : (l.length : Int) > 3000
  · rw [if_pos hlen, fixed_f]; rfl
  · have e := wrap_id (n := (l.length : Int) + 1) (by omega) (by omega)
    have e1 := wrap_id (n := a1) (by omega) (by omega)
    rw [if_neg hlen, e, e1, if_neg (by omega), Int.tmod_eq_emod_of_nonneg h1.1]
    have hm : 0 ≤ a1 % ((l.length : Int) + 1) ∧ a1 % ((l.length : Int) + 1) ≤ l.length := ⟨Int.emod_nonneg _ (by omega), by have := Int.emod_lt_of_pos a1 (show (0 : Int) < (l.length : Int) + 1 from by omega); omega⟩
    have e0 : ((moreN 0 (B (l.take 0)) : Nat) : Int) = 0 := by rw [show B (l.take 0) = [] from rfl, more_nil 0 (by omega)]; rfl
    have := parts_l0 l (by omega) h x y _ hx hy hm l.length 3001 0 (by omega) (by omega) (by omega)
    rw [e0] at this
    exact this
end Go.Proofs.YtfhchibbbfoijaaDoor.Pure
