-- own text: made by a program of this session out of the plain functions' print
import Derived.Test.YtfhchibbbfoijaaDoorOwnx0
namespace Go.Proofs.YtfhchibbbfoijaaDoor.Own
open Go.RowKit Go.Proofs.YtfhchibbbfoijaaDoorW.PrintWords Go.Proofs.YtfhchibbbfoijaaDoorW.PrintLast Go.Proofs.YtfhchibbbfoijaaDoorW.PrintMore
attribute [local go_sem] max2_int min2_int max_two min_two max_three min_three max_four min_four   -- for this text's walks alone
set_option linter.unusedVariables false
set_option linter.unusedSimpArgs false

/-! ### crc_More: function 9 -/
/-- the sum's table, and that it lies where it was laid -/
def tabZ (i : Nat) : Int := ([0, 498536548, 997073096, 651767980, 1994146192, 1802195444, 1303535960, 1342533948, 3988292384, 4027552580, 3604390888, 3412177804, 2607071920, 2262029012, 2685067896, 3183342108] : List Int).getD i 0
def Tbl (w : World) : Prop := ∀ i, i < 16 → w.cell? ⟨0, i, none⟩ = some (.int .u32 (tabZ i))
theorem tbl_below {w W : World} (h : Tbl w) (hb : Below w.heap.size w W) : Tbl W := fun i hi => pw_cell_below hb (h i hi)
theorem tbl_alloc {w : World} (h : Tbl w) (o : Obj) : Tbl (w.alloc o) := tbl_below h ((Below.refl _ _).alloc (Nat.le_refl _) o)
theorem tbl_drewN {w : World} (h : Tbl w) (n : Nat) : Tbl (w.drewN n) := h
theorem tbl_drew {w : World} (h : Tbl w) : Tbl w.drew := h
def nibZ (r : Int) : Int := bits .xor .u32 (r / 16) (tabZ (bits .and .u32 r 15).toNat)
def stepZ (r c : Int) : Int := nibZ (nibZ (bits .xor .u32 r c))
def rowZ (r : Int) (l : List Int) : Int := l.foldl stepZ r
def crc_More.f (a0 : Int) (l1 : List Int) : Option Int :=
  if ∀ x ∈ l1, 0 ≤ x ∧ x ≤ 255 then some (bits .xor .u32 IntKind.u32.max (rowZ (bits .xor .u32 IntKind.u32.max a0) l1)) else none
theorem rowZ_snoc (r : Int) (l : List Int) (k : Nat) (h : k < l.length) : rowZ r (l.take (k + 1)) = stepZ (rowZ r (l.take k)) (rd l (k : Int)) := by
  unfold rowZ rd
  rw [List.take_succ_eq_append_getElem h, List.foldl_append, Int.toNat_natCast, List.getD_eq_getElem?_getD, List.getElem?_eq_getElem h]
  rfl
theorem u32_wrap (n : Int) : IntKind.u32.wrap n = n % 4294967296 := by simp [IntKind.wrap, IntKind.bits, IntKind.signed]
theorem xor_range (a b : Int) : 0 ≤ bits .xor .u32 a b ∧ bits .xor .u32 a b < 4294967296 := by
  unfold bits
  simp only [u32_wrap]
  omega
theorem and_low {x : Int} (h0 : 0 ≤ x) (h1 : x < 4294967296) : 0 ≤ bits .and .u32 x 15 ∧ bits .and .u32 x 15 < 16 := by
  have := bits_mask .u32 32 (by decide) (fun n h0 h1 => by rw [u32_wrap]; omega) 4 (by decide) x h0 (by simpa using h1)
  have e : bits .and .u32 x 15 = x % 16 := by simpa using this
  omega

set_option maxHeartbeats 1000000 in
set_option maxRecDepth 100000 in
theorem crc_More.calls (a0 : Int) (A1 : Option Addr) (c1 : Nat) (l1 : List Int) (r : Int) (w : World) (hr1 : Kd.C (Kd.int .u8) w A1 l1.length l1) (hc1 : l1.length ≤ c1) (hT : Aside0 (Tbl w)) (h : crc_More.f a0 l1 = some r) :
    Calls Tryd.prog 9 #[.int .u32 a0, .slice A1 l1.length c1] w fun e w' => e = .returned (.int .u32 r) ∧ Drawn0 w w' := by
  have HR1 := Aside0.mk hr1
  have hlen := (Kd.reads_of_C (d := (0 : Int)) hr1).2.1
  clear hr1
  unfold crc_More.f at h
  split at h
  · rename_i hb
    have HB2 := Aside0.mk hb
    clear hb
    obtain rfl := Option.some.inj h
    clear h
    go_enter Tryd.func9, Tryd.ntmps9
    go_wp2
    go_loop [5, 7, 12] (fun row c i => ∃ k : Nat, k ≤ l1.length ∧ i = .int .i64 k ∧ row = .int .u32 (rowZ (bits .xor .u32 IntKind.u32.max a0) (l1.take k))) (fun _ _ i => l1.length - (intOf i).toNat)
    case atStart => exact ⟨0, Nat.zero_le _, rfl, rfl⟩
    case round =>
      obtain ⟨k, hk, rfl, rfl⟩ := hrel
      by_cases hlt : k < l1.length
      · obtain ⟨ad, e1, hx⟩ := Kd.at_int HR1.out (k : Int) (by omega) (by omega)
        subst e1
        rw [Int.toNat_natCast] at hx
        have hc : 0 ≤ rd l1 (k : Int) ∧ rd l1 (k : Int) ≤ 255 := by
          have hm : rd l1 (k : Int) ∈ l1 := by
            unfold rd
            rw [Int.toNat_natCast, List.getD_eq_getElem?_getD, List.getElem?_eq_getElem hlt]
            exact List.getElem_mem hlt
          exact HB2.out _ hm
        have HS := Aside0.mk (rowZ_snoc (bits .xor .u32 IntKind.u32.max a0) l1 k hlt)
        obtain ⟨hc0, hc1⟩ := hc
        generalize rowZ (bits .xor .u32 IntKind.u32.max a0) (l1.take k) = x at *
        generalize rd l1 (k : Int) = c at *
        have HF : Aside0 (stepZ x c = nibZ (nibZ (bits .xor .u32 x c))) := ⟨rfl⟩
        have hy := xor_range x c
        generalize hy_ : bits .xor .u32 x c = y at *
        have hm := and_low hy.1 hy.2
        have HY : Aside0 (nibZ y = bits .xor .u32 (y / 16) (tabZ (bits .and .u32 y 15).toNat)) := ⟨rfl⟩
        generalize hm_ : bits .and .u32 y 15 = m at *
        have hx2 := hT.out m.toNat (by omega)
        have hz := xor_range (y / 16) (tabZ m.toNat)
        generalize hz_ : bits .xor .u32 (y / 16) (tabZ m.toNat) = z at *
        have hn := and_low hz.1 hz.2
        have HZ : Aside0 (nibZ z = bits .xor .u32 (z / 16) (tabZ (bits .and .u32 z 15).toNat)) := ⟨rfl⟩
        generalize hn_ : bits .and .u32 z 15 = n at *
        have hx3 := hT.out n.toNat (by omega)
        obtain ⟨hm0, hm1⟩ := hm
        obtain ⟨hn0, hn1⟩ := hn
        clear hy hz
        go_wp2
        go_round
        case rel => exact ⟨k + 1, by omega, by go_num, by rw [HS.out, HF.out, HY.out, HZ.out]⟩
        case measure => simp [intOf]; omega
      · obtain rfl : k = l1.length := by omega
        rw [List.take_length]
        go_wp2
        go_ret
        exact ⟨rfl, by repeat (first | exact Drawn0.refl _ | apply Drawn0.step)⟩
  · cases h

/-! ### crc_Sum: function 7 -/
def crc_Sum.f (l0 : List Int) : Option (Int) := (crc_More.f 0 l0).bind fun t101 => (some t101)
set_option maxHeartbeats 8000000 in
set_option maxRecDepth 100000 in
theorem crc_Sum.calls (A0 : Option Addr) (c0 : Nat) (l0 : List Int) (r : Int) (w : World) (hr0 : Kd.C (Kd.int .u8) w A0 l0.length l0) (hc0 : l0.length ≤ c0) (HT : Aside0 (Tbl w)) (h : crc_Sum.f l0 = some r) :
    Calls Tryd.prog 7 #[.slice A0 l0.length c0] w fun e w' => e = .returned (.int .u32 r) ∧ Drawn0 w w' := by
  have HR0 := Aside0.mk hr0
  have HC0 := Aside0.mk hc0
  clear hr0 hc0
  have H : ((crc_More.f 0 l0).bind fun t101 => (some t101)) = some r := h
  clear h
  replace H := Option.bind_eq_some_iff.mp H
  obtain ⟨t101, A20, H⟩ := H
  replace H : (some t101) = some r := H
  have A2 := Aside0.mk A20
  clear A20
  obtain rfl := Option.some.inj H
  go_enter Tryd.func7, Tryd.ntmps7
  go_wp2_with (first | ((with_reducible refine gate_callee (f := 9) rfl ?_); refine goesL_ (some 4) rfl rfl Tryd.func9 (by kernel_rfl) rfl #[.int .u32 0, .slice A0 l0.length c0] rfl (by (try simp only [List.map_toArray, List.map_cons, List.map_nil]); first | done | rfl | (simp only [List.length_drop, List.length_take]; rfl)) ?_; (with_reducible refine (crc_More.calls 0 _ _ l0 t101 _ ?side1 ?side2 ?side3 A2.out).mono ?_); (case side1 => repeat (first | exact HR0.out | (with_reducible refine Kd.C_alloc ?_ _) | (with_reducible refine Kd.C_drewN ?_ _) | (with_reducible refine Kd.C_drew ?_))); (case side2 => exact HC0.out); (case side3 => exact ⟨by repeat (first | exact HT.out | refine tbl_drewN ?_ _ | refine tbl_drew ?_ | refine tbl_alloc ?_ _)⟩); rintro e w' ⟨rfl, ⟨nd, rfl⟩⟩; refine ⟨_, rfl, ?_⟩))
  go_ret
  exact ⟨by first | rfl | (simp; done) | (simp [*]; done), by repeat (first | exact Drawn0.refl _ | apply Drawn0.step)⟩

/-! ### vesperslaw04_fixed: function 6 -/
def vesperslaw04_fixed.f : Option (Bool) := (crc_Sum.f (([49, 50, 51, 52, 53, 54, 55, 56, 57] : List Int))).bind fun t105 => (some (t105 == 3421780262))
set_option maxHeartbeats 1000000 in
set_option maxRecDepth 100000 in
theorem vesperslaw04_fixed.calls (r : Bool) (w : World) (HT : Aside0 (Tbl w)) (h : vesperslaw04_fixed.f = some r) :
    Calls Tryd.prog 6 #[] w fun e w' => e = .returned (.bool r) ∧ Below w.heap.size w w' := by
  replace h := Option.bind_eq_some_iff.mp h
  obtain ⟨t, A1, h⟩ := h
  obtain rfl := Option.some.inj h
  have A1 := Aside0.mk A1
  clear h
  have kc := fun (w : World) (C : Array Value) (n c : Nat) => Lib.run_convert_bytes_const (P := Tryd.prog) w 22 5 C n c Tryd.underlying22 Tryd.underlying5
  go_enter Tryd.func6, Tryd.ntmps6
  go_wp2_with fail
  have hb : Below w.heap.size w (w.alloc (.cells #[.int .u8 49, .int .u8 50, .int .u8 51, .int .u8 52, .int .u8 53, .int .u8 54, .int .u8 55, .int .u8 56, .int .u8 57] 5 (9, 10))) := (Below.refl _ _).alloc (Nat.le_refl _) _
  have hC : Kd.C (Kd.int .u8) (w.alloc (.cells #[.int .u8 49, .int .u8 50, .int .u8 51, .int .u8 52, .int .u8 53, .int .u8 54, .int .u8 55, .int .u8 56, .int .u8 57] 5 (9, 10))) (some ⟨w.heap.size, 0, none⟩) 9 ([49, 50, 51, 52, 53, 54, 55, 56, 57] : List Int) := by
    refine Kd.C_of_reads (d := (0 : Int)) (h1 := fun _ => rfl) ⟨rfl, by omega, fun _ => ⟨_, rfl, fun j hj => ?_⟩⟩
    rw [add_plain]
    have : j = 0 ∨ j = 1 ∨ j = 2 ∨ j = 3 ∨ j = 4 ∨ j = 5 ∨ j = 6 ∨ j = 7 ∨ j = 8 := by omega
    have hh : (w.alloc (.cells #[.int .u8 49, .int .u8 50, .int .u8 51, .int .u8 52, .int .u8 53, .int .u8 54, .int .u8 55, .int .u8 56, .int .u8 57] 5 (9, 10))).heap[w.heap.size]? = some (.cells #[.int .u8 49, .int .u8 50, .int .u8 51, .int .u8 52, .int .u8 53, .int .u8 54, .int .u8 55, .int .u8 56, .int .u8 57] 5 (9, 10)) := heap_alloc_new w _
    rcases this with rfl | rfl | rfl | rfl | rfl | rfl | rfl | rfl | rfl <;> (simp only [World.cell?, hh]; rfl)
  have HT2 : Aside0 (Tbl (w.alloc (.cells #[.int .u8 49, .int .u8 50, .int .u8 51, .int .u8 52, .int .u8 53, .int .u8 54, .int .u8 55, .int .u8 56, .int .u8 57] 5 (9, 10)))) := ⟨tbl_below HT.out hb⟩
  refine (crc_Sum.calls (some ⟨w.heap.size, 0, none⟩) 9 [49, 50, 51, 52, 53, 54, 55, 56, 57] t _ hC (Nat.le_refl 9) HT2 A1.out).mono ?_
  rintro e w' ⟨rfl, ⟨nd, rfl⟩⟩
  clear hC HT2
  go_wp2
  go_ret
  exact ⟨rfl, pw_below_drewN hb nd⟩

/-! ### vespersref04_Sum: function 8 -/
mutual
def vespersref04_Sum.l0 : Nat → ByteArray → Int → Int → Option (Int)
  | 0, _, _, _ => none
  | k + 1, x0, x3, x4 => if x4 < (x0.size : Int) then (if 0 ≤ x4 then (vespersref04_Sum.l1 k x0 (Go.bits .xor .u32 x3 ((bt x0 x4) % 4294967296)) x4 0) else (none)) else (some ((4294967295 - x3) % 4294967296))
def vespersref04_Sum.l1 : Nat → ByteArray → Int → Int → Int → Option (Int)
  | 0, _, _, _, _ => none
  | k + 1, x0, x3, x4, x5 => if x5 < 8 then (if (Int.tmod x3 2) = 1 then (vespersref04_Sum.l1 k x0 (Go.bits .xor .u32 ((Int.tdiv x3 2) % 4294967296) 3988292384) x4 (wrap64 (x5 + 1))) else (vespersref04_Sum.l1 k x0 ((Int.tdiv x3 2) % 4294967296) x4 (wrap64 (x5 + 1)))) else (vespersref04_Sum.l0 k x0 x3 (wrap64 (x4 + 1)))
end
def vespersref04_Sum.f (k : Nat) (a0 : ByteArray) : Option (Int) := vespersref04_Sum.l0 k a0 4294967295 0
theorem vespersref04_Sum.mono_l : ∀ k, (∀ y0 y1 y2, LeO (vespersref04_Sum.l0 k y0 y1 y2) (vespersref04_Sum.l0 (k + 1) y0 y1 y2)) ∧ (∀ y0 y1 y2 y3, LeO (vespersref04_Sum.l1 k y0 y1 y2 y3) (vespersref04_Sum.l1 (k + 1) y0 y1 y2 y3))
  | 0 => ⟨fun _ _ _ r h => by simp [vespersref04_Sum.l0] at h, fun _ _ _ _ r h => by simp [vespersref04_Sum.l1] at h⟩
  | k + 1 => by
    obtain ⟨ih0, ih1⟩ := vespersref04_Sum.mono_l k
    refine ⟨?_, ?_⟩
    · intro y0 y1 y2
      unfold vespersref04_Sum.l0
      repeat' first
      | (with_reducible exact ih0 _ _ _)
      | (with_reducible exact ih1 _ _ _ _)
      | (with_reducible exact LeO.refl _)
      | (with_reducible exact LeO.none _)
      | (with_reducible refine LeO.ite ?_ ?_)
      | (with_reducible refine LeO.bind ?_ (fun _ => ?_))
      | exact ih0 _ _ _
      | exact ih1 _ _ _ _
      | exact LeO.none _
      | refine LeO.ite ?_ ?_
      | refine LeO.bind ?_ (fun _ => ?_)
    · intro y0 y1 y2 y3
      unfold vespersref04_Sum.l1
      repeat' first
      | (with_reducible exact ih0 _ _ _)
      | (with_reducible exact ih1 _ _ _ _)
      | (with_reducible exact LeO.refl _)
      | (with_reducible exact LeO.none _)
      | (with_reducible refine LeO.ite ?_ ?_)
      | (with_reducible refine LeO.bind ?_ (fun _ => ?_))
      | exact ih0 _ _ _
      | exact ih1 _ _ _ _
      | exact LeO.none _
      | refine LeO.ite ?_ ?_
      | refine LeO.bind ?_ (fun _ => ?_)
theorem vespersref04_Sum.mono : ∀ a0 k, LeO (vespersref04_Sum.f k a0) (vespersref04_Sum.f (k + 1) a0) := by
  intro a0 k
  obtain ⟨ih0, ih1⟩ := vespersref04_Sum.mono_l k
  unfold vespersref04_Sum.f
  repeat' first
      | (with_reducible exact ih0 _ _ _)
      | (with_reducible exact ih1 _ _ _ _)
      | (with_reducible exact LeO.refl _)
      | (with_reducible exact LeO.none _)
      | (with_reducible refine LeO.ite ?_ ?_)
      | (with_reducible refine LeO.bind ?_ (fun _ => ?_))
      | exact ih0 _ _ _
      | exact ih1 _ _ _ _
      | exact LeO.none _
      | refine LeO.ite ?_ ?_
      | refine LeO.bind ?_ (fun _ => ?_)
set_option maxHeartbeats 8000000 in
set_option maxRecDepth 100000 in
theorem vespersref04_Sum.calls (k : Nat) (a0 : ByteArray) (r : Int) (w : World) (h : vespersref04_Sum.f k a0 = some r) :
    Calls Tryd.prog 8 #[.string a0] w fun e w' => e = .returned (.int .u32 r) ∧ Drawn0 w w' := by
  have H : (vespersref04_Sum.l0 k a0 4294967295 0) = some r := h
  clear h
  have H' := Aside0.mk H
  clear H
  go_enter Tryd.func8, Tryd.ntmps8
  go_wp2
  go_loopg [3, 4] k (fun kq v3 v4 w' => ∃ (x3_1 : Int) (x4_1 : Int), v3 = .int .u32 x3_1 ∧ v4 = .int .i64 x4_1 ∧ Aside0 (vespersref04_Sum.l0 kq a0 x3_1 x4_1 = some r) ∧ Aside0 (kq ≤ k) ∧ Drawn0 w w')
  case atStart => exact ⟨(4294967295), (0), (by first | rfl | (simp; done) | (simp [*]; done)), (by first | rfl | (simp; done) | (simp [*]; done)), H', ⟨Nat.le_refl _⟩, by repeat (first | exact Drawn0.refl _ | apply Drawn0.step)⟩
  case round =>
    clear H'
    obtain ⟨x3_1, x4_1, rfl, rfl, HA, HK1, ⟨m1, rfl⟩⟩ := hrel
    cases gk with
    | zero => exact absurd HA.out (by simp [vespersref04_Sum.l0])
    | succ k1 =>
      have H := HA.out
      clear HA
      simp only [vespersref04_Sum.l0] at H
      by_cases c2 : x4_1 < (a0.size : Int)
      · rw [if_pos c2] at H
        have c2b0 : decide (x4_1 < (a0.size : Int)) = true := decide_eq_true c2
        clear c2
        by_cases c3 : 0 ≤ x4_1
        · rw [if_pos c3] at H
          have c3b0 : decide (0 ≤ x4_1) = true := decide_eq_true c3
          clear c3
          have H' := Aside0.mk H
          clear H
          have p4 : 0 ≤ (x4_1 : Int) := of_decide_eq_true (by first | (with_reducible assumption) | assumption)
          have q4 : x4_1 < (a0.size : Int) := of_decide_eq_true (by first | (with_reducible assumption) | assumption)
          have hx4 := bt_at a0 x4_1
          replace p4 := eq_true p4
          replace q4 := eq_true q4
          go_wp2
          go_loopg [3, 5] k1 (fun kq v3 v5 w' => ∃ (x3_2 : Int) (x5_2 : Int), v3 = .int .u32 x3_2 ∧ v5 = .int .i64 x5_2 ∧ Aside0 (vespersref04_Sum.l1 kq a0 x3_2 x4_1 x5_2 = some r) ∧ Aside0 (kq ≤ k1) ∧ Drawn0 w w')
          case atStart => exact ⟨(Go.bits .xor .u32 x3_1 ((bt a0 x4_1) % 4294967296)), (0), (by first | rfl | (simp; done) | (simp [*]; done)), (by first | rfl | (simp; done) | (simp [*]; done)), H', ⟨Nat.le_refl _⟩, by repeat (first | exact Drawn0.refl _ | apply Drawn0.step)⟩
          case round =>
            clear H'
            try clear c2
            try clear c2b0
            try clear p2
            try clear c3
            try clear c3b0
            try clear p4
            try clear q4
            try clear hx4
            try clear p4
            try clear q4
            obtain ⟨x3_2, x5_2, rfl, rfl, HA, HK2, ⟨m2, rfl⟩⟩ := hrel
            cases gk with
            | zero => exact absurd HA.out (by simp [vespersref04_Sum.l1])
            | succ k2 =>
              have H := HA.out
              clear HA
              simp only [vespersref04_Sum.l1] at H
              by_cases c5 : x5_2 < 8
              · rw [if_pos c5] at H
                have c5b0 : decide (x5_2 < 8) = true := decide_eq_true c5
                clear c5
                by_cases c6 : (Int.tmod x3_2 2) = 1
                · rw [if_pos c6] at H
                  have c6b0 : ((Int.tmod x3_2 2) == 1) = true := beq_iff_eq.mpr c6
                  have c6b1 : ((Int.tmod x3_2 2) != 1) = false := bne_eq_false_iff_eq.mpr c6
                  clear c6
                  have H' := Aside0.mk H
                  clear H
                  go_wp2
                  go_roundg k2
                  case measure => have := HK1.out; have := HK2.out; omega
                  case rel => exact ⟨(Go.bits .xor .u32 ((Int.tdiv x3_2 2) % 4294967296) 3988292384), (wrap64 (x5_2 + 1)), (by first | rfl | (simp; done) | (simp [*]; done)), (by first | rfl | (simp; done) | (simp [*]; done)), H', ⟨by have := HK1.out; have := HK2.out; omega⟩, by repeat (first | exact Drawn0.refl _ | apply Drawn0.step)⟩
                · rw [if_neg c6] at H
                  have c6b0 : ((Int.tmod x3_2 2) == 1) = false := beq_eq_false_iff_ne.mpr c6
                  have c6b1 : ((Int.tmod x3_2 2) != 1) = true := bne_iff_ne.mpr c6
                  have H' := Aside0.mk H
                  clear H
                  go_wp2
                  go_roundg k2
                  case measure => have := HK1.out; have := HK2.out; omega
                  case rel => exact ⟨((Int.tdiv x3_2 2) % 4294967296), (wrap64 (x5_2 + 1)), (by first | rfl | (simp; done) | (simp [*]; done)), (by first | rfl | (simp; done) | (simp [*]; done)), H', ⟨by have := HK1.out; have := HK2.out; omega⟩, by repeat (first | exact Drawn0.refl _ | apply Drawn0.step)⟩
              · rw [if_neg c5] at H
                have c5b0 : decide (x5_2 < 8) = false := decide_eq_false c5
                clear c5
                have H' := Aside0.mk H
                clear H
                go_wp2
                go_roundg k2
                case measure => have := HK1.out; have := HK2.out; omega
                case rel => exact ⟨(x3_2), (wrap64 (x4_1 + 1)), (by first | rfl | (simp; done) | (simp [*]; done)), (by first | rfl | (simp; done) | (simp [*]; done)), H', ⟨by have := HK1.out; have := HK2.out; omega⟩, by repeat (first | exact Drawn0.refl _ | apply Drawn0.step)⟩
        · rw [if_neg c3] at H
          exact absurd H (by simp)
      · rw [if_neg c2] at H
        have c2b0 : decide (x4_1 < (a0.size : Int)) = false := decide_eq_false c2
        clear c2
        obtain rfl := Option.some.inj H
        go_wp2
        go_ret
        exact ⟨by first | rfl | (simp; done) | (simp [*]; done), by repeat (first | exact Drawn0.refl _ | apply Drawn0.step)⟩

end Go.Proofs.YtfhchibbbfoijaaDoor.Own
