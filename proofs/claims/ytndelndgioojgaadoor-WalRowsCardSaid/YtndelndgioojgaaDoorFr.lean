import Derived.Test.YtndelndgioojgaaDoorOwnx1
import Derived.Lib.Bytes
namespace Go.Proofs.YtndelndgioojgaaDoor.Own
open Go.RowKit Go.Proofs.YtndelndgioojgaaDoorW.PrintWords Go.Proofs.YtndelndgioojgaaDoorW.PrintLast Go.Proofs.YtndelndgioojgaaDoorW.PrintMore
set_option linter.unusedVariables false
set_option linter.unusedSimpArgs false
/-- one bit of the sum -/
def st (x : Nat) : Nat := x / 2 ^^^ (if x % 2 = 1 then 3988292384 else 0)
def sts : Nat → Nat → Nat
  | 0, x => x
  | n + 1, x => sts n (st x)

theorem st_lin (a b : Nat) : st (a ^^^ b) = st a ^^^ st b := by
  unfold st
  have h1 : (a ^^^ b) / 2 = a / 2 ^^^ b / 2 := by
    have := Nat.shiftRight_xor_distrib (a := a) (b := b) (i := 1)
    simpa [Nat.shiftRight_eq_div_pow] using this
  have h2 : (a ^^^ b) % 2 = (a + b) % 2 := by
    have h3 := @Nat.xor_mod_two_pow a b 1
    simp only [Nat.pow_one] at h3
    rw [h3]
    rcases Nat.mod_two_eq_zero_or_one a with ha | ha <;> rcases Nat.mod_two_eq_zero_or_one b with hb | hb <;> rw [ha, hb] <;> (show _ = _; simp; omega)
  rw [h1, h2]
  rcases Nat.mod_two_eq_zero_or_one a with ha | ha <;> rcases Nat.mod_two_eq_zero_or_one b with hb | hb
  · rw [if_neg (by omega), if_neg (by omega), if_neg (by omega)]; simp
  · rw [if_pos (by omega), if_neg (by omega), if_pos (by omega)]; simp [Nat.xor_assoc]
  · rw [if_pos (by omega), if_pos (by omega), if_neg (by omega)]; simp only [Nat.xor_zero]; rw [Nat.xor_assoc, Nat.xor_assoc, Nat.xor_comm (b / 2)]
  · rw [if_neg (by omega), if_pos (by omega), if_pos (by omega)]
    rw [Nat.xor_assoc (a / 2) 3988292384, Nat.xor_comm 3988292384 (b / 2 ^^^ 3988292384), Nat.xor_assoc (b / 2), Nat.xor_self]
    simp only [Nat.xor_zero]

theorem sts_lin (n a b : Nat) : sts n (a ^^^ b) = sts n a ^^^ sts n b := by
  induction n generalizing a b with
  | zero => rfl
  | succ n ih => simp only [sts]; rw [st_lin, ih]

theorem sts_add (m n x : Nat) : sts (m + n) x = sts n (sts m x) := by
  induction m generalizing x with
  | zero => simp [sts]
  | succ m ih => rw [Nat.succ_add]; simp only [sts]; exact ih _

theorem st_double (x : Nat) : st (2 * x) = x := by
  unfold st; rw [if_neg (by omega)]; simp

theorem sts_pow (n x : Nat) : sts n (2 ^ n * x) = x := by
  induction n generalizing x with
  | zero => simp [sts]
  | succ n ih =>
    simp only [sts]
    rw [Nat.pow_succ, Nat.mul_comm (2 ^ n) 2, Nat.mul_assoc, st_double, ih]

theorem add_xor (n x y : Nat) (hy : y < 2 ^ n) : 2 ^ n * x + y = 2 ^ n * x ^^^ y := by
  apply Nat.eq_of_testBit_eq
  intro j
  rw [Nat.testBit_xor, Nat.testBit_two_pow_mul_add x hy j, Nat.testBit_two_pow_mul]
  by_cases h : j < n
  · rw [if_pos h]
    have : ¬ n ≤ j := by omega
    simp [this]
  · rw [if_neg h]
    have h' : n ≤ j := by omega
    have : y.testBit j = false := Nat.testBit_lt_two_pow (Nat.lt_of_lt_of_le hy (Nat.pow_le_pow_right (by decide) h'))
    simp [h', this]

theorem sts_split (n x y : Nat) (hy : y < 2 ^ n) : sts n (2 ^ n * x + y) = x ^^^ sts n y := by
  rw [add_xor n x y hy, sts_lin, sts_pow]

def tab (k : Nat) : Nat := [0, 498536548, 997073096, 651767980, 1994146192, 1802195444, 1303535960, 1342533948, 3988292384, 4027552580, 3604390888, 3412177804, 2607071920, 2262029012, 2685067896, 3183342108].getD k 0

theorem tab_sts (k : Nat) (h : k < 16) : sts 4 k = tab k := by
  have : ∀ k : Fin 16, sts 4 k.1 = tab k.1 := by decide
  exact this ⟨k, h⟩

theorem nib_sts (r : Nat) : r / 16 ^^^ tab (r % 16) = sts 4 r := by
  have h : r = 2 ^ 4 * (r / 16) + r % 16 := by omega
  conv => rhs; rw [h]
  rw [sts_split 4 _ _ (by omega), tab_sts _ (by omega)]

theorem st_lt (x n : Nat) (hn : 2 ^ 32 ≤ 2 ^ n) (h : x < 2 ^ n) : st x < 2 ^ n := by
  unfold st
  apply Nat.xor_lt_two_pow
  · omega
  · split <;> omega
theorem st_lt32 (x : Nat) (h : x < 4294967296) : st x < 4294967296 := st_lt x 32 (Nat.le_refl _) h
theorem sts_lt32 (n x : Nat) (h : x < 4294967296) : sts n x < 4294967296 := by
  induction n generalizing x with
  | zero => exact h
  | succ n ih => exact ih _ (st_lt32 x h)

theorem st_zero (x : Nat) (hx : x < 4294967296) (h : st x = 0) : x = 0 := by
  unfold st at h
  by_cases ho : x % 2 = 1
  · rw [if_pos ho] at h
    have : x / 2 = 3988292384 := by
      have h2 := congrArg (· ^^^ 3988292384) h
      simpa [Nat.xor_assoc] using h2
    omega
  · rw [if_neg ho] at h
    simp at h; omega
theorem sts_zero (n x : Nat) (hx : x < 4294967296) (h : sts n x = 0) : x = 0 := by
  induction n generalizing x with
  | zero => exact h
  | succ n ih => exact st_zero x hx (ih _ (st_lt32 x hx) h)
theorem sts_inj (n x y : Nat) (hx : x < 4294967296) (hy : y < 4294967296) (h : sts n x = sts n y) : x = y := by
  have h1 : sts n (x ^^^ y) = 0 := by rw [sts_lin, h, Nat.xor_self]
  have h2 := sts_zero n _ (Nat.xor_lt_two_pow (n := 32) hx hy) h1
  have h3 := congrArg (· ^^^ y) h2
  simpa [Nat.xor_assoc] using h3

/-- the row behind bytes -/
def row (r : Nat) : List Nat → Nat
  | [] => r
  | c :: l => row (sts 8 (r ^^^ c)) l
theorem row_append (r : Nat) (a b : List Nat) : row r (a ++ b) = row (row r a) b := by
  induction a generalizing r with
  | nil => rfl
  | cons c a ih => exact ih _
theorem row_lt (r : Nat) (l : List Nat) (hr : r < 4294967296) (hl : ∀ c ∈ l, c < 256) : row r l < 4294967296 := by
  induction l generalizing r with
  | nil => exact hr
  | cons c l ih =>
    refine ih _ (sts_lt32 _ _ (Nat.xor_lt_two_pow (n := 32) hr ?_)) (fun c hc => hl c (List.mem_cons_of_mem _ hc))
    have := hl c List.mem_cons_self
    omega

/-- bytes as one number, the low one first -/
def nm : List Nat → Nat
  | [] => 0
  | c :: l => 2 ^ 8 * nm l + c
theorem row_nm (r : Nat) (l : List Nat) (hl : ∀ c ∈ l, c < 256) : row r l = sts (8 * l.length) (r ^^^ nm l) := by
  induction l generalizing r with
  | nil => simp [row, nm, sts]
  | cons c l ih =>
    have hc : c < 2 ^ 8 := hl c List.mem_cons_self
    simp only [row, nm, List.length_cons]
    rw [ih _ (fun c hc => hl c (List.mem_cons_of_mem _ hc)), show 8 * (l.length + 1) = 8 + 8 * l.length from by omega, sts_add, add_xor 8 _ _ hc,
      Nat.xor_comm (2 ^ 8 * nm l) c, ← Nat.xor_assoc, sts_lin 8 (r ^^^ c), sts_pow]

theorem nm_bit (l : List Nat) (hl : ∀ c ∈ l, c < 256) (j : Nat) : (nm l).testBit j = (l.getD (j / 8) 0).testBit (j % 8) := by
  induction l generalizing j with
  | nil => simp [nm]
  | cons c l ih =>
    have hc : c < 2 ^ 8 := hl c List.mem_cons_self
    simp only [nm]
    rw [Nat.testBit_two_pow_mul_add _ hc]
    by_cases h : j < 8
    · rw [if_pos h, show j / 8 = 0 from by omega, show j % 8 = j from by omega]; rfl
    · rw [if_neg h, ih (fun c hc => hl c (List.mem_cons_of_mem _ hc)), show j / 8 = (j - 8) / 8 + 1 from by omega, show j % 8 = (j - 8) % 8 from by omega]
      simp

theorem nm_set (l : List Nat) (hl : ∀ c ∈ l, c < 256) (k m : Nat) (hk : k < l.length) (hm : m < 8) :
    nm (l.set k (l.getD k 0 ^^^ 2 ^ m)) = nm l ^^^ 2 ^ (8 * k + m) := by
  have hlk : l.getD k 0 < 256 := by
    rw [List.getD_eq_getElem?_getD, List.getElem?_eq_getElem hk]; exact hl _ (List.getElem_mem hk)
  have hnew : l.getD k 0 ^^^ 2 ^ m < 2 ^ 8 := Nat.xor_lt_two_pow hlk (Nat.pow_lt_pow_right (by decide) hm)
  apply Nat.eq_of_testBit_eq
  intro j
  rw [nm_bit _ ?_ j, Nat.testBit_xor, nm_bit l hl j, Nat.testBit_two_pow]
  · by_cases h : j / 8 = k
    · subst h
      have : (l.set (j / 8) (l.getD (j / 8) 0 ^^^ 2 ^ m)).getD (j / 8) 0 = l.getD (j / 8) 0 ^^^ 2 ^ m := by
        rw [List.getD_eq_getElem?_getD, List.getElem?_set_self hk]; rfl
      rw [this, Nat.testBit_xor, Nat.testBit_two_pow]
      congr 1
      exact decide_eq_decide.2 (by omega)
    · have : (l.set k (l.getD k 0 ^^^ 2 ^ m)).getD (j / 8) 0 = l.getD (j / 8) 0 := by
        rw [List.getD_eq_getElem?_getD, List.getElem?_set_ne (fun e => h e.symm), ← List.getD_eq_getElem?_getD]
      rw [this]
      have : decide (8 * k + m = j) = false := decide_eq_false (by omega)
      rw [this, Bool.xor_false]
  · intro c hc
    rcases List.mem_or_eq_of_mem_set hc with hc | rfl
    · exact hl c hc
    · exact hnew

theorem low_succ (t i : Nat) : t % 2 ^ (i + 1) = t % 2 ^ i ^^^ (if t.testBit i then 2 ^ i else 0) := by
  apply Nat.eq_of_testBit_eq
  intro j
  rw [Nat.testBit_xor, Nat.testBit_mod_two_pow, Nat.testBit_mod_two_pow]
  by_cases h : t.testBit i
  · rw [if_pos h, Nat.testBit_two_pow]
    by_cases e : i = j
    · subst e; simp [h]
    · have : (decide (j < i + 1)) = decide (j < i) := decide_eq_decide.2 (by omega)
      rw [this]; simp [e]
  · rw [if_neg h]
    by_cases e : i = j
    · subst e; simp [h]
    · have : (decide (j < i + 1)) = decide (j < i) := decide_eq_decide.2 (by omega)
      rw [this]; simp

/-- what a burst does -/
theorem burst (b own : List Nat) (hb : ∀ c ∈ b, c < 256) (ho : ∀ c ∈ own, c < 256) (hlen : own.length = b.length) (from_ turn : Nat) (ht : turn < 4294967296) (h0 : turn ≠ 0)
    (hf : from_ ≤ 8 * b.length) (h : nm own = nm b ^^^ 2 ^ from_ * turn) (r : Nat) : row r own ≠ row r b := by
  rw [row_nm r own ho, row_nm r b hb, hlen, h, ← Nat.xor_assoc, sts_lin]
  intro e
  have h1 : sts (8 * b.length) (2 ^ from_ * turn) = 0 := by
    have := congrArg (sts (8 * b.length) (r ^^^ nm b) ^^^ ·) e
    simpa [← Nat.xor_assoc] using this
  rw [show 8 * b.length = from_ + (8 * b.length - from_) from by omega, sts_add, sts_pow] at h1
  exact h0 (sts_zero _ _ ht h1)
theorem row_inj (r x y : Nat) (hr : r < 4294967296) (hx : x < 256) (hy : y < 256) (h : row r [x] = row r [y]) : x = y := by
  simp only [row] at h
  have := sts_inj 8 _ _ (Nat.xor_lt_two_pow (n := 32) hr (by omega)) (Nat.xor_lt_two_pow (n := 32) hr (by omega)) h
  have := congrArg (r ^^^ ·) this
  simpa [← Nat.xor_assoc] using this
theorem wf_u8 {a : Int} (h : (Lit.int .u8 a).wf = true) : 0 ≤ a ∧ a ≤ 255 := by
  simp only [Lit.wf, Bool.and_eq_true, decide_eq_true_eq] at h
  have h1 : IntKind.u8.min = 0 := by decide
  have h2 : IntKind.u8.max = 255 := by decide
  rw [h1, h2] at h
  exact h
theorem wf_u16 {a : Int} (h : (Lit.int .u16 a).wf = true) : 0 ≤ a ∧ a ≤ 65535 := by
  simp only [Lit.wf, Bool.and_eq_true, decide_eq_true_eq] at h
  have h1 : IntKind.u16.min = 0 := by decide
  have h2 : IntKind.u16.max = 65535 := by decide
  rw [h1, h2] at h
  exact h
theorem wf_u32 {a : Int} (h : (Lit.int .u32 a).wf = true) : 0 ≤ a ∧ a ≤ 4294967295 := by
  simp only [Lit.wf, Bool.and_eq_true, decide_eq_true_eq] at h
  have h1 : IntKind.u32.min = 0 := by decide
  have h2 : IntKind.u32.max = 4294967295 := by decide
  rw [h1, h2] at h
  exact h
theorem wrap_id {n : Int} (h : -9223372036854775808 ≤ n) (h2 : n ≤ 9223372036854775807) : wrap64 n = n := by unfold wrap64; omega
theorem pos_rounds {k : Nat} (h : 1 ≤ k) : ∃ m, k = m + 1 := ⟨k - 1, by omega⟩
theorem max_u32 : IntKind.u32.max = 4294967295 := by decide
theorem xorN (a b : Nat) (ha : a < 4294967296) (hb : b < 4294967296) : bits .xor .u32 (a : Int) (b : Int) = ((a ^^^ b : Nat) : Int) := by
  have hx : a ^^^ b < 4294967296 := Nat.xor_lt_two_pow (n := 32) ha hb
  have ha' : a % 2 ^ IntKind.u32.bits = a := Nat.mod_eq_of_lt ha
  have hb' : b % 2 ^ IntKind.u32.bits = b := Nat.mod_eq_of_lt hb
  simp only [bits, BitVec.ofInt_natCast, BitVec.toNat_xor, BitVec.toNat_ofNat, ha', hb']
  rw [u32_wrap]
  omega
theorem andN (x : Nat) (h : x < 4294967296) : bits .and .u32 (x : Int) 15 = ((x % 16 : Nat) : Int) := by
  have hx : (x : Int) < 2 ^ 32 := by
    have : ((2 : Int) ^ 32) = 4294967296 := by decide
    omega
  have := bits_mask .u32 32 (by decide) (fun n h0 h1 => by rw [u32_wrap]; omega) 4 (by decide) (x : Int) (by omega) hx
  have e : bits .and .u32 (x : Int) 15 = (x : Int) % 16 := by simpa using this
  rw [e]; omega
theorem tabZ_tab (k : Nat) (h : k < 16) : tabZ k = (tab k : Int) := by
  have : ∀ k : Fin 16, tabZ k.1 = (tab k.1 : Int) := by decide
  exact this ⟨k, h⟩
theorem tab_lt (k : Nat) (h : k < 16) : tab k < 4294967296 := by
  have : ∀ k : Fin 16, tab k.1 < 4294967296 := by decide
  exact this ⟨k, h⟩
theorem nibN (r : Nat) (h : r < 4294967296) : nibZ (r : Int) = (sts 4 r : Nat) := by
  unfold nibZ
  rw [andN r h, Int.toNat_natCast, tabZ_tab _ (by omega), show (r : Int) / 16 = ((r / 16 : Nat) : Int) from by omega, xorN _ _ (by omega) (tab_lt _ (by omega)), nib_sts]
theorem stepN (r c : Nat) (h : r < 4294967296) (hc : c < 256) : stepZ (r : Int) (c : Int) = (sts 8 (r ^^^ c) : Nat) := by
  have hx : r ^^^ c < 4294967296 := Nat.xor_lt_two_pow (n := 32) h (by omega)
  unfold stepZ
  rw [xorN r c h (by omega), nibN _ hx, nibN _ (sts_lt32 _ _ hx), ← sts_add]
/-- bytes as numbers -/
def B (l : List Int) : List Nat := l.map Int.toNat
theorem B_lt {l : List Int} (h : ∀ x ∈ l, 0 ≤ x ∧ x ≤ 255) : ∀ c ∈ B l, c < 256 := by
  intro c hc
  unfold B at hc
  obtain ⟨x, hx, rfl⟩ := List.mem_map.1 hc
  have := h x hx
  omega
theorem rowN (r : Nat) (l : List Int) (hr : r < 4294967296) (h : ∀ x ∈ l, 0 ≤ x ∧ x ≤ 255) : rowZ (r : Int) l = (row r (B l) : Nat) := by
  induction l generalizing r with
  | nil => rfl
  | cons c l ih =>
    have hc := h c List.mem_cons_self
    have e : c = ((c.toNat : Nat) : Int) := by omega
    have hx : r ^^^ c.toNat < 4294967296 := Nat.xor_lt_two_pow (n := 32) hr (by omega)
    show rowZ (stepZ (r : Int) c) l = _
    rw [show stepZ (r : Int) c = stepZ (r : Int) ((c.toNat : Nat) : Int) from by rw [← e], stepN r _ hr (by omega), ih _ (sts_lt32 _ _ hx) (fun x hx => h x (List.mem_cons_of_mem _ hx))]
    rfl
theorem not32 (x : Nat) (h : x < 4294967296) : 4294967295 ^^^ x = 4294967295 - x := by
  have e : (BitVec.allOnes 32 ^^^ BitVec.ofNat 32 x) = ~~~ (BitVec.ofNat 32 x) := BitVec.allOnes_xor
  have e2 := congrArg BitVec.toNat e
  rw [BitVec.toNat_xor, BitVec.toNat_not, BitVec.toNat_allOnes, BitVec.toNat_ofNat, Nat.mod_eq_of_lt (by simpa using h)] at e2
  simpa using e2
/-- the sum with bytes more -/
def moreN (s : Nat) (b : List Nat) : Nat := 4294967295 - row (4294967295 - s) b
theorem moreN_lt (s : Nat) (b : List Nat) : moreN s b < 4294967296 := by unfold moreN; omega
theorem More_f (s : Nat) (l : List Int) (hs : s < 4294967296) (h : ∀ x ∈ l, 0 ≤ x ∧ x ≤ 255) : crc_More.f (s : Int) l = some ((moreN s (B l) : Nat) : Int) := by
  have hr : row (4294967295 - s) (B l) < 4294967296 := row_lt _ _ (by omega) (B_lt h)
  unfold crc_More.f moreN
  rw [if_pos h, max_u32, show (4294967295 : Int) = ((4294967295 : Nat) : Int) from rfl, xorN _ _ (by omega) hs, not32 s hs, rowN _ _ (by omega) h, xorN _ _ (by omega) hr, not32 _ hr]
theorem Sum_f (l : List Int) (h : ∀ x ∈ l, 0 ≤ x ∧ x ≤ 255) : crc_Sum.f l = some ((moreN 0 (B l) : Nat) : Int) := by
  have e := More_f 0 l (by omega) h
  unfold crc_Sum.f
  rw [show (0 : Int) = ((0 : Nat) : Int) from rfl, e]
  rfl
theorem more_append (s : Nat) (a b : List Nat) (hs : s < 4294967296) (ha : ∀ c ∈ a, c < 256) : moreN (moreN s a) b = moreN s (a ++ b) := by
  have hr : row (4294967295 - s) a < 4294967296 := row_lt _ _ (by omega) ha
  unfold moreN
  rw [row_append]
  congr 2
  omega
theorem more_nil (s : Nat) (hs : s < 4294967296) : moreN s [] = s := by unfold moreN; show 4294967295 - (4294967295 - s) = s; omega
theorem B_append (a b : List Int) : B (a ++ b) = B a ++ B b := List.map_append
theorem B_get {l : List Int} (h : ∀ x ∈ l, 0 ≤ x ∧ x ≤ 255) (i : Nat) (hi : i < l.length) : (((B l).getD i 0 : Nat) : Int) = l.getD i 0 := by
  have := h l[i] (List.getElem_mem hi)
  unfold B
  rw [List.getD_eq_getElem?_getD, List.getD_eq_getElem?_getD, List.getElem?_map, List.getElem?_eq_getElem hi]
  simp
  omega
/-- bytes -/
def By (l : List Int) : Prop := ∀ x ∈ l, 0 ≤ x ∧ x ≤ 255
theorem by_app {a b : List Int} : By (a ++ b) ↔ By a ∧ By b := by
  unfold By
  constructor
  · intro h; exact ⟨fun x hx => h x (List.mem_append_left _ hx), fun x hx => h x (List.mem_append_right _ hx)⟩
  · intro h x hx
    rcases List.mem_append.1 hx with q | q
    · exact h.1 x q
    · exact h.2 x q
theorem by_take {l : List Int} (h : By l) (n : Nat) : By (l.take n) := fun x hx => h x (List.mem_of_mem_take hx)
theorem by_drop {l : List Int} (h : By l) (n : Nat) : By (l.drop n) := fun x hx => h x (List.mem_of_mem_drop hx)
/-- a number's bytes, the low one first -/
def four (n : Int) : List Int := [n % 256, n / 256 % 256, n / 65536 % 256, n / 16777216 % 256]
theorem four_len (n : Int) : (four n).length = 4 := rfl
theorem four_by (n : Int) : By (four n) := by
  intro x hx
  simp only [four, List.mem_cons, List.not_mem_nil, or_false] at hx
  omega
def get4 (l : List Int) : Int := rd l 0 + 256 * rd l 1 + 65536 * rd l 2 + 16777216 * rd l 3
theorem get4_four {n : Int} (h0 : 0 ≤ n) (h1 : n ≤ 4294967295) (l : List Int) : get4 (four n ++ l) = n := by
  show n % 256 + 256 * (n / 256 % 256) + 65536 * (n / 65536 % 256) + 16777216 * (n / 16777216 % 256) = n
  omega
theorem split4 {l : List Int} (h : By l) (h4 : 4 ≤ l.length) : l = four (get4 l) ++ l.drop 4 ∧ 0 ≤ get4 l ∧ get4 l ≤ 4294967295 := by
  match l, h4 with
  | a :: b :: c :: d :: t, _ =>
    have ha := h a (by simp)
    have hb := h b (by simp)
    have hc := h c (by simp)
    have hd := h d (by simp)
    have e : get4 (a :: b :: c :: d :: t) = a + 256 * b + 65536 * c + 16777216 * d := rfl
    rw [e]
    refine ⟨?_, by omega, by omega⟩
    show a :: b :: c :: d :: t = [_, _, _, _] ++ t
    simp only [List.cons_append, List.nil_append, List.cons.injEq, and_true]
    omega
theorem four_inj {a b : Int} (ha : 0 ≤ a ∧ a ≤ 4294967295) (hb : 0 ≤ b ∧ b ≤ 4294967295) {x y : List Int} (h : four a ++ x = four b ++ y) : a = b ∧ x = y := by
  have h2 := List.append_inj h rfl
  refine ⟨?_, h2.2⟩
  rw [← get4_four ha.1 ha.2 [], ← get4_four hb.1 hb.2 [], h2.1]
theorem orN (j a b : Nat) (k : IntKind) (hj : j ≤ k.bits) (hk : ∀ n : Int, 0 ≤ n → n < 2 ^ j → k.wrap n = n) (i : Nat) (ha : a < 2 ^ i) (hab : 2 ^ i * b < 2 ^ j) (haj : a < 2 ^ j) :
    bits .or k (a : Int) ((2 ^ i * b : Nat) : Int) = ((2 ^ i * b + a : Nat) : Int) := by
  rw [(bits_nat k j hj hk a _ haj hab).2, Nat.or_comm, ← Nat.two_pow_add_eq_or_of_lt ha]
theorem wrapsu32 : ∀ n : Int, 0 ≤ n → n < 2 ^ 32 → IntKind.u32.wrap n = n := fun n h0 h1 => by
  have : ((2 : Int) ^ 32) = 4294967296 := by decide
  rw [u32_wrap]; omega
theorem get_f {l : List Int} (h : By l) (h4 : 4 ≤ l.length) : frame_get.f l = some (get4 l) := by
  match l, h4 with
  | a :: b :: c :: d :: t, _ =>
    have ha := h a (by simp)
    have hb := h b (by simp)
    have hc := h c (by simp)
    have hd := h d (by simp)
    have hl : ((a :: b :: c :: d :: t).length : Int) = t.length + 4 := by simp; omega
    unfold frame_get.f get4
    rw [hl, if_pos (by omega), if_pos (by omega), if_pos (by omega), if_pos (by omega)]
    show some (Go.bits .or .u32 (Go.bits .or .u32 (Go.bits .or .u32 (a % 4294967296) ((b % 4294967296 * 256) % 4294967296)) ((c % 4294967296 * 65536) % 4294967296)) ((d % 4294967296 * 16777216) % 4294967296)) = some (a + 256 * b + 65536 * c + 16777216 * d)
    obtain ⟨a, rfl⟩ := Int.eq_ofNat_of_zero_le ha.1
    obtain ⟨b, rfl⟩ := Int.eq_ofNat_of_zero_le hb.1
    obtain ⟨c, rfl⟩ := Int.eq_ofNat_of_zero_le hc.1
    obtain ⟨d, rfl⟩ := Int.eq_ofNat_of_zero_le hd.1
    have e1 : ((a : Int) % 4294967296) = (a : Int) := by omega
    have e2 : (((b : Int) % 4294967296 * 256) % 4294967296) = ((2 ^ 8 * b : Nat) : Int) := by omega
    have e3 : (((c : Int) % 4294967296 * 65536) % 4294967296) = ((2 ^ 16 * c : Nat) : Int) := by omega
    have e4 : (((d : Int) % 4294967296 * 16777216) % 4294967296) = ((2 ^ 24 * d : Nat) : Int) := by omega
    rw [e1, e2, e3, e4, orN 32 a b .u32 (by decide) wrapsu32 8 (by omega) (by omega) (by omega), orN 32 _ c .u32 (by decide) wrapsu32 16 (by omega) (by omega) (by omega),
      orN 32 _ d .u32 (by decide) wrapsu32 24 (by omega) (by omega) (by omega)]
    congr 1
    omega
theorem Gen_f {l : List Int} (h : By l) : frame_Gen.f l = some (if l.length < 16 then 0 else get4 (l.drop 4)) := by
  unfold frame_Gen.f
  by_cases hl : (l.length : Int) < 16
  · rw [if_pos hl, if_pos (by omega)]
  · rw [if_neg hl, if_pos (by omega), get_f (by_drop h 4) (by rw [List.length_drop]; omega), if_neg (by omega)]
    rfl
/-- the sum -/
def sm (l : List Int) : Int := ((moreN 0 (B l) : Nat) : Int)
theorem sm_bd (l : List Int) : 0 ≤ sm l ∧ sm l ≤ 4294967295 := by
  have := moreN_lt 0 (B l)
  unfold sm
  omega
def body (g m : Int) (p : List Int) : List Int := four (p.length : Int) ++ (four g ++ (four m ++ p))
def fr (g m : Int) (p : List Int) : List Int := body g m p ++ four (sm (body g m p))
theorem body_len (g m : Int) (p : List Int) : (body g m p).length = 12 + p.length := by unfold body; simp [four_len]; omega
theorem fr_len (g m : Int) (p : List Int) : (fr g m p).length = 16 + p.length := by unfold fr; simp [body_len, four_len]; omega
theorem body_by {g m : Int} {p : List Int} (h : By p) : By (body g m p) := by unfold body; exact by_app.2 ⟨four_by _, by_app.2 ⟨four_by _, by_app.2 ⟨four_by _, h⟩⟩⟩
theorem fr_by {g m : Int} {p : List Int} (h : By p) : By (fr g m p) := by_app.2 ⟨body_by h, four_by _⟩
def U (n : Int) : Prop := 0 ≤ n ∧ n ≤ 4294967295
theorem fr_inj {g m g' m' : Int} {p p' r r' : List Int} (hg : U g) (hm : U m) (hg' : U g') (hm' : U m') (hp : p.length ≤ 1048576) (hp' : p'.length ≤ 1048576) (h : fr g m p ++ r = fr g' m' p' ++ r') :
    g = g' ∧ m = m' ∧ p = p' ∧ r = r' := by
  unfold fr body at h
  simp only [List.append_assoc] at h
  obtain ⟨e1, h⟩ := four_inj ⟨by omega, by omega⟩ ⟨by omega, by omega⟩ h
  obtain ⟨e2, h⟩ := four_inj hg hg' h
  obtain ⟨e3, h⟩ := four_inj hm hm' h
  have h2 := List.append_inj h (by omega)
  obtain ⟨e4, h⟩ := h2
  subst e2 e3 e4
  exact ⟨rfl, rfl, rfl, (four_inj (sm_bd _) (sm_bd _) h).2⟩
theorem put_f {l : List Int} (n : Int) (hl : l.length ≤ 100000000) : frame_put.f l n = some (l ++ four n) := by
  unfold frame_put.f
  simp only [Option.bind_some]
  rw [if_pos (by simp; omega)]
  rfl
theorem Put_f {k : Nat} (hk : 1 ≤ k) {g m : Int} {p : List Int} (h : By p) : frame_Put.f k g m p = some (if g = 0 ∨ 1048576 < p.length then ([], 2) else (fr g m p, 0)) := by
  obtain ⟨k, rfl⟩ := pos_rounds hk
  unfold frame_Put.f
  by_cases hg : g = 0
  · rw [if_pos hg, frame_Put.j0, if_pos rfl, if_pos (Or.inl hg)]
  · rw [if_neg hg]
    by_cases hp : (p.length : Int) > 1048576
    · rw [decide_eq_true hp, frame_Put.j0, if_pos rfl, if_pos (Or.inr (by omega))]
    · have e1 : ((p.length : Int)) % 4294967296 = p.length := by omega
      rw [decide_eq_false hp, frame_Put.j0, if_neg (by simp), e1, put_f _ (by simp), if_neg (by omega)]
      simp only [Option.bind_some, List.nil_append]
      rw [put_f _ (by simp [four_len])]
      simp only [Option.bind_some]
      rw [put_f _ (by simp [four_len])]
      simp only [Option.bind_some]
      have hb : four (p.length : Int) ++ four g ++ four m ++ p = body g m p := by unfold body; simp
      rw [if_pos (by simp [four_len]; omega), hb, Sum_f _ (body_by h)]
      simp only [Option.bind_some]
      rw [put_f _ (by rw [body_len]; omega)]
      rfl
/-- what a frame's beginning says of bytes -/
theorem tail4 {l : List Int} (h : By l) (n : Nat) (hn : n + 4 ≤ l.length) : l.drop n = four (get4 (l.drop n)) ++ l.drop (n + 4) := by
  have := (split4 (by_drop h n) (by rw [List.length_drop]; omega)).1
  rw [List.drop_drop] at this
  exact this
theorem parts_of {l : List Int} (h : By l) (n : Nat) (hn : n + 16 ≤ l.length) (e : get4 l = n) (es : sm (l.take (12 + n)) = get4 (l.drop (12 + n))) :
    l = fr (get4 (l.drop 4)) (get4 (l.drop 8)) ((l.take (12 + n)).drop 12) ++ l.drop (16 + n) := by
  have t0 := (split4 h (by omega)).1
  have t4 := tail4 h 4 (by omega)
  have t8 := tail4 h 8 (by omega)
  have tn := tail4 h (12 + n) (by omega)
  have hp : ((l.take (12 + n)).drop 12).length = n := by rw [List.length_drop, List.length_take]; omega
  have hmid : l.drop 12 = (l.take (12 + n)).drop 12 ++ l.drop (12 + n) := by
    have e0 := (List.take_append_drop (12 + n) l).symm
    conv => lhs; rw [e0]
    rw [List.drop_append_of_le_length (by rw [List.length_take]; omega)]
  have hfull : l = body (get4 (l.drop 4)) (get4 (l.drop 8)) ((l.take (12 + n)).drop 12) ++ l.drop (12 + n) := by
    unfold body
    rw [hp, ← e]
    simp only [List.append_assoc]
    rw [← hmid, ← t8, ← t4, ← t0]
  have hbody : body (get4 (l.drop 4)) (get4 (l.drop 8)) ((l.take (12 + n)).drop 12) = l.take (12 + n) := by
    have e0 := (List.take_append_drop (12 + n) l)
    rw [hfull] at e0
    have := List.append_inj (hfull.symm.trans (List.take_append_drop (12 + n) l).symm) (by rw [body_len, hp, List.length_take]; omega)
    exact this.1
  unfold fr
  rw [hbody, es, List.append_assoc, show 16 + n = 12 + n + 4 from by omega, ← tn, List.take_append_drop]
theorem clone_f {l : List Int} (hl : l.length ≤ 100000000) : slices_Clone_byte_byte.f l = some l := by
  unfold slices_Clone_byte_byte.f
  simp only [Option.bind_some, List.length_nil, List.nil_append]
  rw [if_pos (by omega)]
/-- what Get tests -/
def Good (l : List Int) (g m : Int) : Prop := g ≠ 0 ∧ 16 ≤ l.length ∧ get4 (l.drop 4) = g ∧ get4 (l.drop 8) = m ∧ get4 l ≤ 1048576 ∧ get4 l + 16 ≤ l.length ∧ sm (l.take (12 + (get4 l).toNat)) = get4 (l.drop (12 + (get4 l).toNat))
instance (l : List Int) (g m : Int) : Decidable (Good l g m) := by unfold Good; infer_instance
theorem Get_f {k : Nat} (hk : 2 ≤ k) {l : List Int} (h : By l) (hl : l.length ≤ 10000000) (g m : Int) :
    frame_Get.f k l g m = some (if Good l g m then ((l.take (12 + (get4 l).toNat)).drop 12, get4 l + 16, true) else ([], 0, false)) := by
  obtain ⟨k, rfl⟩ := pos_rounds (k := k) (by omega)
  obtain ⟨k, rfl⟩ := pos_rounds (k := k) (by omega)
  have hno : ¬ Good l g m → frame_Get.j0 (k + 1 + 1) l true = some (if Good l g m then ((l.take (12 + (get4 l).toNat)).drop 12, get4 l + 16, true) else ([], 0, false)) := by
    intro q; rw [frame_Get.j0, if_pos rfl, if_neg q]
  have hno1 : ¬ Good l g m → frame_Get.j1 (k + 1) l (get4 l) true = some (if Good l g m then ((l.take (12 + (get4 l).toNat)).drop 12, get4 l + 16, true) else ([], 0, false)) := by
    intro q; rw [frame_Get.j1, if_pos rfl, if_neg q]
  unfold frame_Get.f
  by_cases c1 : g = 0
  · rw [if_pos c1]; exact hno (fun q => q.1 c1)
  · rw [if_neg c1, Gen_f h]
    simp only [Option.bind_some]
    by_cases c2 : l.length < 16
    · rw [if_pos c2, if_neg (fun e => c1 e.symm)]; exact hno (fun q => by have := q.2.1; omega)
    · rw [if_neg c2]
      by_cases c3 : get4 (l.drop 4) = g
      · rw [if_pos c3, if_pos (by omega), get_f (by_drop h 8) (by rw [List.length_drop]; omega)]
        simp only [Option.bind_some]
        by_cases c4 : get4 (l.drop 8) = m
        · rw [show (get4 (l.drop 8) != m) = false from by simp [c4], frame_Get.j0, if_neg (by simp), get_f h (by omega)]
          simp only [Option.bind_some]
          have hn := (split4 h (by omega)).2
          by_cases c5 : get4 l > 1048576
          · rw [if_pos c5]; exact hno1 (fun q => by have := q.2.2.2.2.1; omega)
          · rw [if_neg c5, wrap_id (n := get4 l) (by omega) (by omega), wrap_id (n := (l.length : Int) - 12) (by omega) (by omega), wrap_id (n := (l.length : Int) - 12 - 4) (by omega) (by omega)]
            by_cases c6 : get4 l > (l.length : Int) - 12 - 4
            · rw [decide_eq_true c6]; exact hno1 (fun q => by have := q.2.2.2.2.2.1; omega)
            · have e12 : (12 + get4 l).toNat = 12 + (get4 l).toNat := by omega
              rw [decide_eq_false c6, frame_Get.j1, if_neg (by simp), wrap_id (n := get4 l) (by omega) (by omega), wrap_id (n := 12 + get4 l) (by omega) (by omega), if_pos (by omega), if_pos (by omega), e12,
                Sum_f _ (by_take h _), get_f (by_drop h _) (by rw [List.length_drop]; omega)]
              simp only [Option.bind_some]
              by_cases c7 : sm (l.take (12 + (get4 l).toNat)) = get4 (l.drop (12 + (get4 l).toNat))
              · have hG : Good l g m := ⟨c1, by omega, c3, c4, by omega, by omega, c7⟩
                rw [show ((moreN 0 (B (l.take (12 + (get4 l).toNat))) : Nat) : Int) = sm (l.take (12 + (get4 l).toNat)) from rfl, if_pos c7, if_pos (by omega), clone_f (by rw [List.length_drop, List.length_take]; omega), if_pos hG]
                simp only [Option.bind_some]
                rw [wrap_id (n := 12 + get4 l + 4) (by omega) (by omega)]
                congr 3
                omega
              · rw [show ((moreN 0 (B (l.take (12 + (get4 l).toNat))) : Nat) : Int) = sm (l.take (12 + (get4 l).toNat)) from rfl, if_neg c7, if_neg (fun q => c7 q.2.2.2.2.2.2)]
        · rw [show (get4 (l.drop 8) != m) = true from by simpa using c4]
          exact hno (fun q => c4 q.2.2.2.1)
      · rw [if_neg c3]; exact hno (fun q => c3 q.2.2.1)
/-- the tests say just that bytes begin with a frame -/
theorem good_iff {l : List Int} (h : By l) (g m : Int) (hg : U g) (hm : U m) : Good l g m ↔ g ≠ 0 ∧ ∃ p r, p.length ≤ 1048576 ∧ l = fr g m p ++ r := by
  constructor
  · intro q
    obtain ⟨a, b, c, d, e, f, s⟩ := q
    have hn := (split4 h (by omega)).2
    have hp := parts_of h (get4 l).toNat (by omega) (by omega) s
    rw [c, d] at hp
    exact ⟨a, _, _, by rw [List.length_drop, List.length_take]; omega, hp⟩
  · intro q
    obtain ⟨a, p, r, hp, rfl⟩ := q
    have hbp : By (fr g m p) := (by_app.1 h).1
    have e0 : fr g m p ++ r = four (p.length : Int) ++ (four g ++ (four m ++ (p ++ (four (sm (body g m p)) ++ r)))) := by unfold fr body; simp only [List.append_assoc]
    have g0 : get4 (fr g m p ++ r) = p.length := by rw [e0]; exact get4_four (by omega) (by omega) _
    have g4 : get4 ((fr g m p ++ r).drop 4) = g := by rw [e0]; exact get4_four hg.1 hg.2 _
    have g8 : get4 ((fr g m p ++ r).drop 8) = m := by rw [e0]; exact get4_four hm.1 hm.2 _
    have e1 : fr g m p ++ r = body g m p ++ (four (sm (body g m p)) ++ r) := by unfold fr; rw [List.append_assoc]
    have hbl := body_len g m p
    have en : (12 + (get4 (fr g m p ++ r)).toNat) = (body g m p).length := by rw [g0, hbl]; omega
    refine ⟨a, by rw [List.length_append, fr_len]; omega, g4, g8, by rw [g0]; omega, by rw [g0, List.length_append, fr_len]; omega, ?_⟩
    rw [en, e1, List.take_left, List.drop_left, get4_four (sm_bd _).1 (sm_bd _).2]
theorem Get_yes {k : Nat} (hk : 2 ≤ k) {g m : Int} {p r : List Int} (hg : U g) (hm : U m) (h0 : g ≠ 0) (hp : p.length ≤ 1048576) (hb : By p) (hr : By r) (hl : r.length ≤ 1000000) :
    frame_Get.f k (fr g m p ++ r) g m = some (p, (p.length : Int) + 16, true) := by
  have h : By (fr g m p ++ r) := by_app.2 ⟨fr_by hb, hr⟩
  have e0 : fr g m p ++ r = four (p.length : Int) ++ (four g ++ (four m ++ (p ++ (four (sm (body g m p)) ++ r)))) := by unfold fr body; simp only [List.append_assoc]
  have g0 : get4 (fr g m p ++ r) = p.length := by rw [e0]; exact get4_four (by omega) (by omega) _
  rw [Get_f hk h (by rw [List.length_append, fr_len]; omega), if_pos ((good_iff h g m hg hm).2 ⟨h0, p, r, hp, rfl⟩), g0]
  congr 2
  have e1 : fr g m p ++ r = body g m p ++ (four (sm (body g m p)) ++ r) := by unfold fr; rw [List.append_assoc]
  have en : (12 + ((p.length : Int)).toNat) = (body g m p).length := by rw [body_len]; omega
  rw [en, e1, List.take_left]
  unfold body
  rfl
theorem Get_no {k : Nat} (hk : 2 ≤ k) {l : List Int} (h : By l) (hl : l.length ≤ 10000000) {g m : Int} (hn : ¬ Good l g m) : frame_Get.f k l g m = some ([], 0, false) := by
  rw [Get_f hk h hl, if_neg hn]
theorem zeros_by (n : Nat) : By (List.replicate n 0) := by
  intro x hx
  rw [List.mem_replicate] at hx
  omega
end Go.Proofs.YtndelndgioojgaaDoor.Own
