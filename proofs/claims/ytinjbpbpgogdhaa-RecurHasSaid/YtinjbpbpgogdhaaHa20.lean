-- own text: texts of this session merged by a program of it (merge.py), declarations that nothing reaches left out (prune.py)
import Derived.Test.YtinjbpbpgogdhaaHa19
import Derived.RangeFuncNested
import Derived.RangeFuncBound
import Derived.RangeFuncCalls
import Derived.RangeFuncLeaves
import Derived.RangeFuncBox
import Derived.Shelf.Abstract
import Derived.Shelf.RegionOpen
import Derived.WalkKit
import Derived.OwnWalkIn
import Derived.TacticsInMore
import Derived.LoopNIn
import Derived.LoopIn
import Derived.Maps.AppendAt
section
namespace Go.Proofs.Ytinjbpbpgogdhaa.Own
open Go.RowKit Go.Proofs.YtinjbpbpgogdhaaW.PrintWords Go.Proofs.YtinjbpbpgogdhaaW.PrintLast Go.Proofs.YtinjbpbpgogdhaaW.PrintMore
set_option linter.unusedVariables false
set_option linter.unusedSimpArgs false
/-- The days from one on, so many, that are right; none ahead of the calendar. -/
def daysF (P : Int → Bool) (fr : Int) (many : Nat) : List Int := daysL P (fr + many - (if fr < 0 then 0 else fr)).toNat (if fr < 0 then 0 else fr)
/-- The days of a year's first months that are right. -/
def yearL (P : Int → Bool) (l4 : List Int) (y : Int) : Nat → List Int
  | 0 => []
  | k + 1 => monthL P l4 (yearL P l4 y k) y ((k : Int) + 1)
theorem wdZ_bd (x : Int) : 0 ≤ wdZ x ∧ wdZ x ≤ 6 := by
  unfold wdZ
  have h1 := Int.tmod_lt_of_pos x (show (0 : Int) < 7 by decide)
  have h2 : -7 < Int.tmod x 7 := by
    have := Int.lt_tmod_of_pos x (show (0 : Int) < 7 by decide)
    omega
  have hw : wrap64 (Int.tmod x 7 + 7) = Int.tmod x 7 + 7 := IntWalk.wrap64_in _ (by omega)
  rw [hw, Int.tmod_eq_emod_of_nonneg (by omega)]
  omega
/-- The days of a period, told; whether there are more. -/
def periodL (a0 a8 : Int) (l4 : List Int) (P : Int → Bool) (day sy sm st : Int) : List Int × Bool :=
  if a0 = 1 then (daysF P (day + st) 1, decide (day + st < 109938))
  else if a0 = 2 then (daysF P (day - wdZ (wdZ day - a8) + 7 * st) 7, decide (day - wdZ (wdZ day - a8) + 7 * st < 109938))
  else if a0 = 3 then (monthL P l4 [] ((12 * sy + sm - 1 + st) / 12) ((12 * sy + sm - 1 + st) % 12 + 1), decide ((12 * sy + sm - 1 + st) / 12 ≤ 2200))
  else (yearL P l4 (sy + st) 12, decide (sy + st ≤ 2200))
def PeriodPost (w0 w : World) (r : List Int × Bool) (e : Ending) (w' : World) : Prop :=
  ∃ v, e = .returned (.tuple #[v, .bool r.2]) ∧ Kd.R (Kd.int .i64) 3 w' w0.heap.size (fun _ => True) v r.1 ∧ Kept w w' (fun _ => False) ∧ Below w0.heap.size w0 w'
theorem none_own {w w' : World} (h : Kept w w' (fun k => some k = (Value.slice none 0 0).ownBlock)) : Kept w w' (fun _ => False) := h.mono (fun k hk => by cases hk)
theorem of_below {w w' : World} (h : Below w.heap.size w w') : Kept w w' (fun _ => False) := (Kept.refl w _).below h
theorem monthL_len (P : Int → Bool) (l4 xs : List Int) (y m : Int) : (monthL P l4 xs y m).length ≤ xs.length + 31 := by
  unfold monthL
  have h1 := daysL_len P (len y m).toNat (num y m 1)
  have h2 := len_bd y m
  split
  · rw [List.length_append]
    omega
  · omega
theorem yearL_len (P : Int → Bool) (l4 : List Int) (y : Int) : ∀ k, (yearL P l4 y k).length ≤ 31 * k
  | 0 => Nat.zero_le _
  | k + 1 => by
    have h1 := yearL_len P l4 y k
    have h2 := monthL_len P l4 (yearL P l4 y k) y ((k : Int) + 1)
    show (monthL P l4 (yearL P l4 y k) y ((k : Int) + 1)).length ≤ _
    omega
def YearRel (w0 w : World) (P : Int → Bool) (l4 : List Int) (y : Int) (i o : Value) (wr : World) : Prop :=
  ∃ j : Nat, j ≤ 12 ∧ i = .int .i64 (j : Int) ∧ Hid (Kd.R (Kd.int .i64) 3 wr w0.heap.size (fun _ => True) o (yearL P l4 y j)) ∧ Hid (Kept w wr (fun _ => False)) ∧ Hid (Below w0.heap.size w0 wr) ∧ Hid (∀ k, o.ownBlock = some k → w.heap.size ≤ k)
set_option maxHeartbeats 8000000 in
set_option maxRecDepth 100000 in
theorem period_any {w0 : World} {g : Nat} {a0 a1 a2 a3 a8 : Int} {A4 A5 A6 A7 : Option Addr} {c4 c5 c6 c7 : Nat} {l4 l5 l7 : List Int} {l6 : List S58} {day sy sm sd mi : Int} (k st : Int) (w : World) (hW : Wk0 w0 w g a0 a1 a2 a3 a8 A4 A5 A6 A7 c4 c5 c6 c7 l4 l5 l7 l6 day sy sm sd mi)
    (ha0 : 1 ≤ a0 ∧ a0 ≤ 4) (ha8 : 0 ≤ a8 ∧ a8 ≤ 6) (hst : k * a1 = st) (hs0 : 0 ≤ st) (hs1 : st ≤ 100000000) (hd0 : 0 ≤ day) (hd1 : day ≤ 109938) (hy0 : 1900 ≤ sy) (hy1 : sy ≤ 2200) (hm0 : 1 ≤ sm) (hm1 : sm ≤ 12) :
    Calls Try.prog 39 #[.pointer (some ⟨g, 0, none⟩), .int .i64 k] w (PeriodPost w0 w (periodL a0 a8 l4 (dayB a0 l4 l5 l6 day sm sd) day sy sm st)) := by
  have HW := Lib.hid hW
  have q0 := cell_eq (blk_cell hW.hg 0) rfl
  have q1 := cell_eq (blk_cell hW.hg 1) rfl
  have q10 := cell_eq (blk_cell hW.hg 10) rfl
  obtain ⟨P, hP⟩ : ∃ P, P = dayB a0 l4 l5 l6 day sm sd := ⟨_, rfl⟩
  have HP := Lib.hid hP
  rw [← hP]
  clear hP hW
  have j0 : IntKind.i64.wrap (k * a1) = st := by rw [hst]; exact IntWalk.i64_in _ (by omega)
  have k0 : wrap64 (k * a1) = st := by clear j0; rw [hst]; exact IntWalk.wrap64_in _ (by omega)
  have HST := Lib.hid hst
  clear hst
  by_cases e1 : a0 = 1
  · subst e1
    go_enter Try.func39, Try.ntmps39
    go_upto_region 4 with (fail)
    clear j0 k0 q0 q1 q10
    refine pe4_wp (n0 := day + st) (K := 1) HW (by omega) (by omega) hs0 (by omega) (by rw [if_neg (by omega)]) (by omega) (Lib.hid fun c a N v w h => by cases N <;> exact h) (Lib.hid ?_)
    intro d26 d27 d28 d29 d30 d31 d32 d33 d34 d35 d36 d37 d38 d39 d40 v w2 HR2 HW2 HK2
    go_wp2
    go_ret2
    refine ⟨v, ?_, ?_, none_own HK2.out, HW2.out.hb⟩
    · unfold periodL
      rw [if_pos rfl]
      first | done | rfl
    · unfold periodL
      rw [if_pos rfl]
      have h := HR2.out
      rw [List.nil_append, ← HP.out] at h
      unfold daysF
      rw [if_neg (by omega), show (day + st + ((1 : Nat) : Int) - (day + st)).toNat = 1 from by omega]
      exact h
  · by_cases e2 : a0 = 2
    · subst e2
      obtain ⟨f, hf⟩ : ∃ f, f = day - wdZ (wdZ day - a8) + 7 * st := ⟨_, rfl⟩
      have hw1 := wdZ_bd (wdZ day - a8)
      have hfb : -7 ≤ f ∧ f ≤ 701000000 := by omega
      have HF := Lib.hid hf
      have HDY : Hid (∀ W, Below w.heap.size w W → Calls Try.prog 45 #[.pointer (some ⟨g, 0, none⟩), .slice none 0 0, .int .i64 f, .int .i64 7] W (RowPost w0 W (.slice none 0 0) ([] ++ daysF P f 7))) := Lib.hid (fun W hW => by
        rw [HP.out]
        exact days_any (.slice none 0 0) [] f _ _ 7 W (HW.out.below hW) (Kd.R_nil _ _ _ _ _) (Nat.zero_le _) (by omega) (by omega) (by decide) rfl rfl)
      clear hf
      go_enter Try.func39, Try.ntmps39
      go_upto_region 6 with (fail)
      clear j0 k0 q0 q1 q10
      refine pe6_wp HW (by omega) (by omega) hs0 hs1 ha8 wdZ_bd (Lib.hid fun c a N v w h => by cases N <;> exact h) (Lib.hid ?_)
      rw [← HF.out]
      intro d43 d44 d45 d46 d47 d48 d49 d50 d51 d52 d53 d54 d55 d56 d57 d58 d59 d60 d61 d62 w2 HB2
      go_wp2_with (first | ((with_reducible refine (HDY.out _ HB2.out).mono ?_); rintro e w4 ⟨v', rfl, hR4, hk4, hb4, ho4⟩; have HR4 := Lib.hid hR4; have HK4 := Lib.hid hk4; have HB4 := Lib.hid hb4; clear hR4 hk4 hb4 ho4))
      go_ret2
      refine ⟨v', ?_, ?_, (of_below HB2.out).then_ (none_own HK4.out) (fun k hk => hk.elim), HB4.out⟩
      · unfold periodL
        rw [if_neg (by decide), if_pos rfl, ← HF.out]
        first | done | rfl
      · unfold periodL
        rw [if_neg (by decide), if_pos rfl, ← HF.out]
        exact HR4.out
    · by_cases e3 : a0 = 3
      · subst e3
        obtain ⟨nn, hnn⟩ : ∃ f, f = 12 * sy + sm - 1 + st := ⟨_, rfl⟩
        have hn0 : 0 ≤ nn := by omega
        have hn1 : nn ≤ 200000000 := by omega
        have HNN := Lib.hid hnn
        have HMO : Hid (∀ W, Below w.heap.size w W → Calls Try.prog 47 #[.pointer (some ⟨g, 0, none⟩), .slice none 0 0, .int .i64 (nn / 12), .int .i64 (nn % 12 + 1)] W (RowPost w0 W (.slice none 0 0) (monthL P l4 [] (nn / 12) (nn % 12 + 1)))) := Lib.hid (fun W hW => by
          rw [HP.out]
          exact month_any (.slice none 0 0) [] _ _ W (HW.out.below hW) (Kd.R_nil _ _ _ _ _) (Nat.zero_le _))
        clear hnn
        go_enter Try.func39, Try.ntmps39
        go_upto_region 9 with (fail)
        clear j0 k0 q0 q1 q10
        refine pe9_wp HW (by omega) (by omega) hm0 hm1 hs0 (by omega) (Lib.hid fun c a N v w h => by cases N <;> exact h) (Lib.hid ?_)
        rw [← HNN.out]
        intro d70 d71 d72 d73 d74 d75 d76 d77 d78 d79 d80 d81 d82 d83 d84 w2 HB2
        have k1 : wrap64 (nn % 12 + 1) = nn % 12 + 1 := IntWalk.wrap64_in _ (by omega)
        go_wp2_with (first | ((with_reducible refine (HMO.out _ HB2.out).mono ?_); rintro e w4 ⟨v', rfl, hR4, hk4, hb4, ho4⟩; have HR4 := Lib.hid hR4; have HK4 := Lib.hid hk4; have HB4 := Lib.hid hb4; clear hR4 hk4 hb4 ho4))
        go_ret2
        refine ⟨v', ?_, ?_, (of_below HB2.out).then_ (none_own HK4.out) (fun k hk => hk.elim), HB4.out⟩
        · unfold periodL
          rw [if_neg (by decide), if_neg (by decide), if_pos rfl, ← HNN.out]
          first | done | rfl
        · unfold periodL
          rw [if_neg (by decide), if_neg (by decide), if_pos rfl, ← HNN.out]
          exact HR4.out
      · obtain rfl : a0 = 4 := by omega
        obtain ⟨yy, hyy⟩ : ∃ f, f = sy + st := ⟨_, rfl⟩
        have k9 : wrap64 (sy + st) = yy := by clear j0 k0; rw [hyy]; exact IntWalk.wrap64_in _ (by omega)
        have j9 : IntKind.i64.wrap (sy + st) = yy := by clear j0 k0 k9; rw [hyy]; exact IntWalk.i64_in _ (by omega)
        have HYY := Lib.hid hyy
        clear hyy
        go_enter Try.func39, Try.ntmps39
        go_wp2
        go_loopw [102, 10] (fun i' o wr => YearRel w0 w P l4 yy i' o wr) (fun i' _ _ => 12 - (intOf i').toNat)
        case atStart => exact ⟨0, by decide, rfl, Lib.hid (Kd.R_nil _ _ _ _ _), Lib.hid (Kept.refl _ _), Lib.hid HW.out.hb, Lib.hid (fun k hk => by cases hk)⟩
        case round =>
        clear j0 k0 j9 k9
        obtain ⟨j, hj, rfl, HRr, HKr, HBr, HOr⟩ := hrel
        by_cases hlt : j < 12
        · have hll := yearL_len P l4 yy j
          obtain ⟨cur, hcur⟩ : ∃ x, x = yearL P l4 yy j := ⟨_, rfl⟩
          rw [← hcur] at HRr hll
          obtain ⟨oA, oc, rfl, hx1, hx2⟩ := Kd.R_reads HRr.out
          clear hx1 hx2
          have HCU := Lib.hid hcur
          clear hcur
          have HWr : Hid (Wk0 w0 wr g 4 a1 a2 a3 a8 A4 A5 A6 A7 c4 c5 c6 c7 l4 l5 l7 l6 day sy sm sd mi) := Lib.hid ⟨(HKr.out.2 g (heap_lt HW.out.hg) (fun h => h)).trans HW.out.hg, HW.out.rc, HBr.out, HW.out.ng⟩
          have HMO : Hid (Calls Try.prog 47 #[.pointer (some ⟨g, 0, none⟩), .slice oA cur.length oc, .int .i64 yy, .int .i64 ((j : Int) + 1)] wr (RowPost w0 wr (.slice oA cur.length oc) (monthL P l4 cur yy ((j : Int) + 1)))) := Lib.hid (by
            rw [HP.out]
            exact month_any (.slice oA cur.length oc) cur yy ((j : Int) + 1) wr HWr.out HRr.out (by omega))
          have k1 : wrap64 ((j : Int) + 1) = (j : Int) + 1 := IntWalk.wrap64_in _ (by omega)
          go_wp2_with (first | ((with_reducible refine HMO.out.mono ?_); rintro e w4 ⟨v', rfl, hR4, hk4, hb4, ho4⟩; have HR4 := Lib.hid hR4; have HK4 := Lib.hid hk4; have HB4 := Lib.hid hb4; have HO4 := Lib.hid ho4; clear hR4 hk4 hb4 ho4))
          go_roundw
          case rel => exact ⟨j + 1, by omega, by go_num, Lib.hid (by show Kd.R _ _ _ _ _ _ (monthL P l4 (yearL P l4 yy j) yy ((j : Int) + 1)); rw [← HCU.out]; exact HR4.out), Lib.hid (HKr.out.then_ HK4.out (fun k hk => .inr (HOr.out k hk.symm))), HB4, Lib.hid (fun k hk => (HO4.out k hk).elim (fun h => HOr.out k h.symm) (fun h => Nat.le_trans HKr.out.1 h))⟩
          case measure => simp [intOf]; omega
        · obtain rfl : j = 12 := by omega
          obtain ⟨oA, oc, rfl, hx1, hx2⟩ := Kd.R_reads HRr.out
          clear hx1 hx2
          go_wp2
          go_ret2
          refine ⟨.slice oA (yearL P l4 yy 12).length oc, ?_, ?_, HKr.out, HBr.out⟩
          · unfold periodL
            rw [if_neg (by decide), if_neg (by decide), if_neg (by decide), ← HYY.out]
            first | done | rfl
          · unfold periodL
            rw [if_neg (by decide), if_neg (by decide), if_neg (by decide), ← HYY.out]
            exact HRr.out
end Go.Proofs.Ytinjbpbpgogdhaa.Own
end
section
namespace Go.Proofs.Ytinjbpbpgogdhaa.Own
open Go.RowKit Go.Proofs.YtinjbpbpgogdhaaW.PrintWords Go.Proofs.YtinjbpbpgogdhaaW.PrintLast Go.Proofs.YtinjbpbpgogdhaaW.PrintMore
set_option linter.unusedVariables false
set_option linter.unusedSimpArgs false
/-- Is the day at a place kept? -/
def plB (l7 : List Int) (n : Int) (j : Int) : Bool := hasI l7 (j + 1) || hasI l7 (j - n)
/-- Of the first so many days those at the places told. -/
def placesG (l7 l : List Int) : Nat → List Int
  | 0 => []
  | j + 1 => placesG l7 l j ++ (if plB l7 (l.length : Int) (j : Int) = true then [rd l (j : Int)] else [])
/-- places, told. -/
def placesL (l7 l : List Int) : List Int := if l7.length = 0 then l else placesG l7 l l.length
theorem placesG_len (l7 l : List Int) : ∀ k, (placesG l7 l k).length ≤ k
  | 0 => Nat.zero_le _
  | k + 1 => by
    have := placesG_len l7 l k
    unfold placesG
    rw [List.length_append]
    split <;> simp <;> omega
theorem placesG_no {l7 l : List Int} {k : Nat} (h : plB l7 (l.length : Int) (k : Int) = false) : placesG l7 l (k + 1) = placesG l7 l k := by
  show placesG l7 l k ++ (if plB l7 (l.length : Int) (k : Int) = true then [rd l (k : Int)] else []) = _
  rw [h, if_neg (by simp), List.append_nil]
theorem placesG_yes {l7 l : List Int} {k : Nat} (h : plB l7 (l.length : Int) (k : Int) = true) : placesG l7 l (k + 1) = placesG l7 l k ++ [rd l (k : Int)] := by
  show placesG l7 l k ++ (if plB l7 (l.length : Int) (k : Int) = true then [rd l (k : Int)] else []) = _
  rw [h, if_pos rfl]
def PlacesPost (w0 w : World) (xs : List Int) (e : Ending) (w' : World) : Prop :=
  ∃ v', e = .returned v' ∧ Kd.R (Kd.int .i64) 3 w' w0.heap.size (fun _ => True) v' xs ∧ Kept w w' (fun _ => False) ∧ Below w0.heap.size w0 w'
def PlRel (w0 w : World) (l7 l : List Int) (i o : Value) (wr : World) : Prop :=
  ∃ (j : Nat), j ≤ l.length ∧ i = .int .i64 (j : Int) ∧ Hid (Kd.R (Kd.int .i64) 3 wr w0.heap.size (fun _ => True) o (placesG l7 l j)) ∧ Hid (Kept w wr (fun _ => False)) ∧ Hid (Below w0.heap.size w0 wr) ∧ Hid (∀ k, o.ownBlock = some k → w.heap.size ≤ k)
theorem kept_below {w W : World} (h : Kept w W (fun _ => False)) {b : Nat} {o : Obj} (hb : w.heap[b]? = some o) : W.heap[b]? = some o := (h.2 b (heap_lt hb) (fun h => h)).trans hb
theorem own_step2 {o v1 : Value} {a b : Nat} (h : ∀ k, o.ownBlock = some k → a ≤ k) (hat : v1.ownBlock = o.ownBlock ∨ ∃ q, v1.ownBlock = some q ∧ b ≤ q) (hab : a ≤ b) : ∀ k, v1.ownBlock = some k → a ≤ k := by
  intro k hk
  rcases hat with h1 | ⟨q, h1, h2⟩
  · exact h k (h1.symm.trans hk)
  · have : q = k := Option.some.inj (h1.symm.trans hk)
    omega
set_option maxHeartbeats 8000000 in
set_option maxRecDepth 100000 in
theorem places_any {w0 : World} {g : Nat} {a0 a1 a2 a3 a8 : Int} {A4 A5 A6 A7 : Option Addr} {c4 c5 c6 c7 : Nat} {l4 l5 l7 : List Int} {l6 : List S58} {day sy sm sd mi : Int} (v : Value) (l : List Int) (w : World) (hW : Wk0 w0 w g a0 a1 a2 a3 a8 A4 A5 A6 A7 c4 c5 c6 c7 l4 l5 l7 l6 day sy sm sd mi)
    (hR : Kd.R (Kd.int .i64) 3 w w0.heap.size (fun _ => True) v l) (hl : l.length ≤ 100000) :
    Calls Try.prog 40 #[.pointer (some ⟨g, 0, none⟩), v] w (PlacesPost w0 w (placesL l7 l)) := by
  have HW := Lib.hid hW
  have HR := Lib.hid hR
  have hn7 := hW.rc.n7
  have q7 := cell_eq (blk_cell hW.hg 7) rfl
  clear hW hR
  obtain ⟨vA, vc, rfl, hx1, hx2⟩ := Kd.R_reads HR.out
  clear hx1 hx2
  by_cases e7 : l7.length = 0
  · have e7i : (l7.length : Int) = 0 := by omega
    have HP : Hid (placesL l7 l = l) := Lib.hid (by unfold placesL; rw [if_pos e7])
    go_enter Try.func40, Try.ntmps40
    go_wp2
    go_ret
    rw [HP.out]
    exact ⟨_, rfl, HR.out, Kept.refl _ _, HW.out.hb⟩
  · have e7i : ((l7.length : Int) == 0) = false := by rw [Bool.eq_false_iff]; intro h; have := eq_of_beq h; omega
    have HP : Hid (placesL l7 l = placesG l7 l l.length) := Lib.hid (by unfold placesL; rw [if_neg e7])
    go_enter Try.func40, Try.ntmps40
    go_wp2
    go_loopw [18, 5] (fun i' o wr => PlRel w0 w l7 l i' o wr) (fun i' _ _ => l.length - (intOf i').toNat)
    case atStart => exact ⟨0, Nat.zero_le _, rfl, Lib.hid (Kd.R_nil _ _ _ _ _), Lib.hid (Kept.refl _ _), Lib.hid HW.out.hb, Lib.hid (fun k hk => by cases hk)⟩
    case round =>
    clear q7
    obtain ⟨j, hj, rfl, hRr, HK, HB, HOW⟩ := hrel
    obtain ⟨cur, hcur⟩ : ∃ x, x = placesG l7 l j := ⟨_, rfl⟩
    rw [← hcur] at hRr
    have hcl : cur.length ≤ 100000 := by
      have h1 := placesG_len l7 l j
      rw [hcur]
      omega
    have HCUR := Lib.hid hcur
    clear hcur
    obtain ⟨oA, oc, rfl, hx1, hx2⟩ := Kd.R_reads hRr.out
    clear hx1 hx2
    have HWr : Hid (Wk0 w0 wr g a0 a1 a2 a3 a8 A4 A5 A6 A7 c4 c5 c6 c7 l4 l5 l7 l6 day sy sm sd mi) := Lib.hid ⟨kept_below HK.out HW.out.hg, HW.out.rc, HB.out, HW.out.ng⟩
    by_cases hlt : j < l.length
    · have HRl : Hid (Kd.R (Kd.int .i64) 3 wr w0.heap.size (fun _ => True) (.slice vA l.length vc) l) := Lib.hid (Kd.R_kept HR.out HK.out (fun k _ h => h))
      obtain ⟨ad, rfl, hc1⟩ := Kd.at_int (Kd.R_reads' HRl.out).2.2 (j : Int) (by omega) (by omega)
      rw [Int.toNat_natCast] at hc1
      obtain ⟨x, hx⟩ : ∃ x, x = rd l (j : Int) := ⟨_, rfl⟩
      rw [← hx] at hc1
      have HX := Lib.hid hx
      clear hx
      have q7 := cell_eq (blk_cell HWr.out.hg 7) rfl
      have hw1 : wrap64 ((j : Int) + 1) = (j : Int) + 1 := IntWalk.wrap64_in _ (by omega)
      have hw2 : wrap64 ((j : Int) - (l.length : Int)) = (j : Int) - (l.length : Int) := IntWalk.wrap64_in _ (by clear hw1; omega)
      have HH1 : Hid (∀ W, Below wr.heap.size wr W → Calls Try.prog 48 #[.slice A7 l7.length c7, .int .i64 ((j : Int) + 1)] W fun e w' => e = .returned (.bool (hasI l7 ((j : Int) + 1))) ∧ Below W.heap.size W w') := Lib.hid (fun W hW => has_any W l7 A7 c7 _ (HWr.out.below hW).wk.rc.h7 HWr.out.rc.k7 (by clear hw1 hw2; omega))
      have HH2 : Hid (∀ W, Below wr.heap.size wr W → Calls Try.prog 48 #[.slice A7 l7.length c7, .int .i64 ((j : Int) - (l.length : Int))] W fun e w' => e = .returned (.bool (hasI l7 ((j : Int) - (l.length : Int)))) ∧ Below W.heap.size W w') := Lib.hid (fun W hW => has_any W l7 A7 c7 _ (HWr.out.below hW).wk.rc.h7 HWr.out.rc.k7 (by clear hw1 hw2; omega))
      have HQ0 : Hid (Below wr.heap.size wr wr) := Lib.hid (Below.refl _ _)
      have HQ7 : Hid (∀ W, Below wr.heap.size wr W → W.cell? ⟨g, 7, none⟩ = some (.slice A7 l7.length c7)) := Lib.hid (fun W hW => cell_eq (blk_cell (HWr.out.below hW).hg 7) rfl)
      cases h1 : hasI l7 ((j : Int) + 1) with
      | true =>
        have HPB : Hid (plB l7 (l.length : Int) (j : Int) = true) := Lib.hid (by unfold plB; rw [h1]; rfl)
        rw [h1] at HH1
        clear h1 HH2
        go_upto_region 8 with (first | ((with_reducible refine (HH1.out _ HQ0.out).mono ?_); rintro e w4 ⟨rfl, hb4⟩; have HB4 := Lib.hid hb4; clear hb4))
        have HR5 := Lib.hid (Kd.R_below hRr.out HB4.out)
        have HBW5 := Lib.hid (HB.out.trans (HB4.out.mono HB.out.size))
        have HK5 := Lib.hid (HK.out.below HB4.out)
        have HSZ := Lib.hid HB4.out.size
        have HSW := Lib.hid HK.out.1
        go_wp2_with (((with_reducible refine gate_builtin (b := .append) (xs := #[.tmp 43, .tmp 45]) rfl ?_); (try (refine gate_guard (by rfl) ?_; dsimp only)); at_builtin; refine Kd.R_append (W := w4) (w0 := w0) (Kd.int .i64) w0.heap.size rfl (.tmp 43) (.tmp 45) 22 3 (.int .i64 0) 8 rfl Try.underlying22 info3_ rfl (by decide) (by decide) (.slice oA cur.length oc) cur x [.int .i64 x] (fun _ => True) (fun _ => False) rfl rfl rfl (fun _ h => h.elim) (fun _ _ => trivial) HR5.out HBW5.out HBW5.out.size (by clear hw1 hw2; omega) ?_; intro v1 w6 hR6 hb6 hg6 hat6; obtain ⟨cur2, hcur2⟩ : ∃ y, y = cur ++ [x] := ⟨_, rfl⟩; rw [← hcur2] at hR6; have HC2 := Lib.hid hcur2; clear hcur2; have HR6 := Lib.hid hR6; have HB6 := Lib.hid hb6; have HG6 := Lib.hid hg6; have HAT := Lib.hid hat6; clear hR6 hb6 hg6 hat6; obtain ⟨A1, c1, rfl, hx1, hx2⟩ := Kd.R_reads HR6.out; clear hx1 hx2))
        go_roundw
        case rel => exact ⟨j + 1, by omega, by go_num, Lib.hid (by rw [placesG_yes HPB.out, ← HCUR.out, ← HX.out, ← HC2.out]; exact HR6.out), Lib.hid (Kept.of_grown HG6.out HK5.out (fun k hk => .inr (HOW.out k hk))), HB6, Lib.hid (own_step2 HOW.out HAT.out (Nat.le_trans HSW.out HSZ.out))⟩
        case measure => simp [intOf]; omega
      | false =>
        cases h2 : hasI l7 ((j : Int) - (l.length : Int)) with
        | true =>
          have HPB : Hid (plB l7 (l.length : Int) (j : Int) = true) := Lib.hid (by unfold plB; rw [h2, Bool.or_true])
          rw [h1] at HH1
          rw [h2] at HH2
          clear h1 h2
          go_upto_region 8 with (first | ((with_reducible refine (HH1.out _ HQ0.out).mono ?_); rintro e w3 ⟨rfl, hb3⟩; have HB3 := Lib.hid hb3; clear hb3; have q73 := HQ7.out _ HB3.out) | ((with_reducible refine (HH2.out _ HB3.out).mono ?_); rintro e w4 ⟨rfl, hb4⟩; have HB4 := Lib.hid (HB3.out.trans (hb4.mono HB3.out.size)); clear hb4))
          have HR5 := Lib.hid (Kd.R_below hRr.out HB4.out)
          have HBW5 := Lib.hid (HB.out.trans (HB4.out.mono HB.out.size))
          have HK5 := Lib.hid (HK.out.below HB4.out)
          have HSZ := Lib.hid HB4.out.size
          have HSW := Lib.hid HK.out.1
          go_wp2_with (((with_reducible refine gate_builtin (b := .append) (xs := #[.tmp 43, .tmp 45]) rfl ?_); (try (refine gate_guard (by rfl) ?_; dsimp only)); at_builtin; refine Kd.R_append (W := w4) (w0 := w0) (Kd.int .i64) w0.heap.size rfl (.tmp 43) (.tmp 45) 22 3 (.int .i64 0) 8 rfl Try.underlying22 info3_ rfl (by decide) (by decide) (.slice oA cur.length oc) cur x [.int .i64 x] (fun _ => True) (fun _ => False) rfl rfl rfl (fun _ h => h.elim) (fun _ _ => trivial) HR5.out HBW5.out HBW5.out.size (by clear hw1 hw2; omega) ?_; intro v1 w6 hR6 hb6 hg6 hat6; obtain ⟨cur2, hcur2⟩ : ∃ y, y = cur ++ [x] := ⟨_, rfl⟩; rw [← hcur2] at hR6; have HC2 := Lib.hid hcur2; clear hcur2; have HR6 := Lib.hid hR6; have HB6 := Lib.hid hb6; have HG6 := Lib.hid hg6; have HAT := Lib.hid hat6; clear hR6 hb6 hg6 hat6; obtain ⟨A1, c1, rfl, hx1, hx2⟩ := Kd.R_reads HR6.out; clear hx1 hx2))
          go_roundw
          case rel => exact ⟨j + 1, by omega, by go_num, Lib.hid (by rw [placesG_yes HPB.out, ← HCUR.out, ← HX.out, ← HC2.out]; exact HR6.out), Lib.hid (Kept.of_grown HG6.out HK5.out (fun k hk => .inr (HOW.out k hk))), HB6, Lib.hid (own_step2 HOW.out HAT.out (Nat.le_trans HSW.out HSZ.out))⟩
          case measure => simp [intOf]; omega
        | false =>
          have HPB : Hid (plB l7 (l.length : Int) (j : Int) = false) := Lib.hid (by unfold plB; rw [h1, h2]; rfl)
          rw [h1] at HH1
          rw [h2] at HH2
          clear h1 h2
          go_upto_region 9 with (first | ((with_reducible refine (HH1.out _ HQ0.out).mono ?_); rintro e w3 ⟨rfl, hb3⟩; have HB3 := Lib.hid hb3; clear hb3; have q73 := HQ7.out _ HB3.out) | ((with_reducible refine (HH2.out _ HB3.out).mono ?_); rintro e w4 ⟨rfl, hb4⟩; have HB4 := Lib.hid (HB3.out.trans (hb4.mono HB3.out.size)); clear hb4))
          go_wp2
          go_roundw
          case rel => exact ⟨j + 1, by omega, by go_num, Lib.hid (by rw [placesG_no HPB.out, ← HCUR.out]; exact Kd.R_below hRr.out HB4.out), Lib.hid (HK.out.below HB4.out), Lib.hid (HB.out.trans (HB4.out.mono HB.out.size)), HOW⟩
          case measure => simp [intOf]; omega
    · obtain rfl : j = l.length := by omega
      go_wp2
      go_ret
      rw [HP.out, ← HCUR.out]
      exact ⟨_, rfl, hRr.out, HK.out, HB.out⟩
end Go.Proofs.Ytinjbpbpgogdhaa.Own
end
section
namespace Go.Proofs.Ytinjbpbpgogdhaa.Own
open Go.RowKit Go.Shelf Go.Proofs.YtinjbpbpgogdhaaW.PrintWords Go.Proofs.YtinjbpbpgogdhaaW.PrintLast Go.Proofs.YtinjbpbpgogdhaaW.PrintMore
set_option linter.unusedVariables false
set_option linter.unusedSimpArgs false
theorem room_of_none {F : Fence} (hd : F.depth = none) (k : Nat) : F.room k := fun d h => by rw [hd] at h; cases h
theorem roundIn_any {F : Fence} (hd : F.depth = none) {m m' : Nat} {P : Program} {l : Nat} {f : FuncId} {tmps : Array Value} {assign body : Code} {w : World} {R : Ending → World → Prop}
    (h : RoundIn F m P l f tmps assign body w R) : RoundIn F m' P l f tmps assign body w R := ⟨h.1, fun c cs _ => h.2 c cs (room_of_none hd _)⟩
theorem yieldAt_any {F : Fence} (hd : F.depth = none) {m : Nat} (m' : Nat) {P : Program} {l : Nat} {args : Array Value} {W : World} {R : Ending → World → Prop} (h : YieldAt F m P l args W R) : YieldAt F m' P l args W R := by
  obtain ⟨fn, tmps, assign, body, hy, hR⟩ := h
  exact ⟨fn, tmps, assign, body, hy, roundIn_any hd hR⟩
/-- What a round keeps: all that lay ahead of the call; and all cells but rows of stamps and boxes of such rows. -/
def Kp (n0 : Nat) (W W' : World) : Prop :=
  Below n0 W W' ∧ ∀ (k : Nat) (cs : Array Value) (t : TypeId), W.heap[k]? = some (Obj.cells cs t (0, 0)) → t ≠ 2 → t ≠ 28 → W'.heap[k]? = W.heap[k]?
theorem Kp.refl (n0 : Nat) (W : World) : Kp n0 W W := ⟨Below.refl _ _, fun _ _ _ _ _ _ => rfl⟩
theorem Kp.trans {n0 : Nat} {A B C : World} (h : Kp n0 A B) (k : Kp n0 B C) : Kp n0 A C :=
  ⟨h.1.trans k.1, fun i cs t hc h2 h28 => (k.2 i cs t ((h.2 i cs t hc h2 h28).trans hc) h2 h28).trans (h.2 i cs t hc h2 h28)⟩
theorem Kp.put {n0 : Nat} {w : World} (hn : n0 ≤ w.heap.size) (W : World) (l : Nat) (o o' : Obj) (hl : w.heap.size ≤ l) (h : W.heap[l]? = some o) (hc : o.isCells = false) (hw : o.isWalk = false) : Kp n0 W (W.putObj l o') :=
  ⟨belowK_b hn W l o o' hl h hc hw, fun k cs t hk _ _ => World.putObj_heap_other (fun e => by
    rw [e, h] at hk
    cases hk
    cases hc)⟩
theorem Kp.wk {w0 W W' : World} {g : Nat} {a0 a1 a2 a3 a8 : Int} {A4 A5 A6 A7 : Option Addr} {c4 c5 c6 c7 : Nat} {l4 l5 l7 : List Int} {l6 : List S58} {day sy sm sd mi : Int} (h : Kp w0.heap.size W W') (hW : Wk0 w0 W g a0 a1 a2 a3 a8 A4 A5 A6 A7 c4 c5 c6 c7 l4 l5 l7 l6 day sy sm sd mi) : Wk0 w0 W' g a0 a1 a2 a3 a8 A4 A5 A6 A7 c4 c5 c6 c7 l4 l5 l7 l6 day sy sm sd mi :=
  ⟨(h.2 g _ _ hW.hg (by decide) (by decide)).trans hW.hg, hW.rc, hW.hb.trans h.1, hW.ng⟩
theorem Kp.row {n0 : Nat} {W W' : World} {v : Value} {xs : List Int} (h : Kp n0 W W') (hR : Kd.R (Kd.int .i64) 3 W n0 (fun _ => True) v xs) : Kd.R (Kd.int .i64) 3 W' n0 (fun _ => True) v xs :=
  Kd.R_mono (Kd.R_step (Kd.R_bound hR) (fun k hk _ => by
    obtain ⟨_, _, _, q, hq, cs, hc⟩ := hk
    have : q = 3 := by
      rcases List.mem_cons.1 hq with e | e
      · exact e
      · cases e
    subst this
    exact h.2 k cs 3 hc (by decide) (by decide))) (fun _ _ => trivial)
theorem grown_of_below {w W : World} (h : Below w.heap.size w W) : w.grownBy W none := ⟨h.os, h.tape, h.output, h.size, fun k hk _ => h.block k hk⟩
theorem abides_kept {J : List Int → World → Prop} {B : Nat} (hJ : AbidesFrom B J) {s : List Int} {n0 : Nat} {w0 w W : World} (h : Kept w W (fun _ => False)) (hb1 : Below n0 w0 w) (hb2 : Below n0 w0 W) (hs : J s w) : J s W := hJ s w W none hs ⟨hb2.os.trans hb1.os.symm, hb2.tape.trans hb1.tape.symm, hb2.output.trans hb1.output.symm, h.1, fun k hk _ => h.2 k hk (fun x => x)⟩ (fun r e => by cases e)
/-- No more times. -/
def endT (a2 a3 at' : Int) (g : Nat) : Bool := (decide (0 ≤ a3) && decide (a3 < at')) || (decide (0 < a2) && decide ((g : Int) = a2))
/-- The times of days, so many having come; whether they end. -/
def goDays (a2 a3 day mi : Int) : List Int → Nat → List Int × Bool
  | [], _ => ([], false)
  | n :: ns, g => if n < day then goDays a2 a3 day mi ns g else if endT a2 a3 (n * 1440 + mi) g = true then ([], true) else ((n * 1440 + mi) :: (goDays a2 a3 day mi ns (g + 1)).1, (goDays a2 a3 day mi ns (g + 1)).2)
/-- What comes behind the days of a period. -/
def behind (r : List Int × Bool) (rest : Nat → List Int) (g : Nat) : List Int := if r.2 = true then r.1 else r.1 ++ rest (g + r.1.length)
/-- The times of the periods from one on. -/
def goPer (DL : Nat → List Int × Bool) (a2 a3 day mi : Int) : Nat → Nat → Nat → List Int
  | 0, _, _ => []
  | f + 1, k, g => if (DL k).2 = false then [] else behind (goDays a2 a3 day mi (DL k).1 g) (goPer DL a2 a3 day mi f (k + 1)) g
theorem behind_nil (rest : Nat → List Int) (g : Nat) : behind ([], false) rest g = rest g := by
  unfold behind
  rw [if_neg (by simp)]
  simp
theorem behind_skip {a2 a3 day mi n : Int} {ns : List Int} {g : Nat} (rest : Nat → List Int) (h : n < day) : behind (goDays a2 a3 day mi (n :: ns) g) rest g = behind (goDays a2 a3 day mi ns g) rest g := by
  rw [show goDays a2 a3 day mi (n :: ns) g = goDays a2 a3 day mi ns g from if_pos h]
theorem behind_end {a2 a3 day mi n : Int} {ns : List Int} {g : Nat} (rest : Nat → List Int) (h : ¬ n < day) (h2 : endT a2 a3 (n * 1440 + mi) g = true) : behind (goDays a2 a3 day mi (n :: ns) g) rest g = [] := by
  rw [show goDays a2 a3 day mi (n :: ns) g = ([], true) from (if_neg h).trans (if_pos h2)]
  rfl
theorem behind_more {a2 a3 day mi n : Int} {ns : List Int} {g : Nat} (rest : Nat → List Int) (h : ¬ n < day) (h2 : endT a2 a3 (n * 1440 + mi) g = false) : behind (goDays a2 a3 day mi (n :: ns) g) rest g = (n * 1440 + mi) :: behind (goDays a2 a3 day mi ns (g + 1)) rest (g + 1) := by
  rw [show goDays a2 a3 day mi (n :: ns) g = ((n * 1440 + mi) :: (goDays a2 a3 day mi ns (g + 1)).1, (goDays a2 a3 day mi ns (g + 1)).2) from (if_neg h).trans (if_neg (by rw [h2]; simp))]
  unfold behind
  by_cases e : (goDays a2 a3 day mi ns (g + 1)).2 = true
  · rw [if_pos e, if_pos e]
  · rw [if_neg e, if_neg e]
    rw [List.cons_append, List.length_cons]
    congr 3
    omega
theorem goPer_no {DL : Nat → List Int × Bool} {a2 a3 day mi : Int} {f k g : Nat} (h : (DL k).2 = false) : goPer DL a2 a3 day mi (f + 1) k g = [] := if_pos h
theorem goPer_yes {DL : Nat → List Int × Bool} {a2 a3 day mi : Int} {f k g : Nat} (h : (DL k).2 = true) : goPer DL a2 a3 day mi (f + 1) k g = behind (goDays a2 a3 day mi (DL k).1 g) (goPer DL a2 a3 day mi f (k + 1)) g := if_neg (by rw [h]; simp)
theorem goDays_len (a2 a3 day mi : Int) : ∀ (ns : List Int) (g : Nat), (goDays a2 a3 day mi ns g).1.length ≤ ns.length
  | [], _ => Nat.le_refl _
  | n :: ns, g => by
    have h1 := goDays_len a2 a3 day mi ns g
    have h2 := goDays_len a2 a3 day mi ns (g + 1)
    unfold goDays
    split
    · rw [List.length_cons]; omega
    · split
      · exact Nat.zero_le _
      · show (_ :: _).length ≤ _
        rw [List.length_cons, List.length_cons]; omega
theorem goPer_len {DL : Nat → List Int × Bool} {a2 a3 day mi : Int} {B : Nat} (hB : ∀ k, (DL k).1.length ≤ B) : ∀ f k g, (goPer DL a2 a3 day mi f k g).length ≤ B * f
  | 0, _, _ => Nat.zero_le _
  | f + 1, k, g => by
    unfold goPer
    split
    · exact Nat.zero_le _
    · unfold behind
      have h1 := goDays_len a2 a3 day mi (DL k).1 g
      have h2 := hB k
      have h3 := goPer_len (a2 := a2) (a3 := a3) (day := day) (mi := mi) hB f (k + 1) (g + (goDays a2 a3 day mi (DL k).1 g).1.length)
      rw [Nat.mul_succ]
      split
      · omega
      · rw [List.length_append]; omega
theorem rd_drop {L : List Int} {j : Nat} (h : j < L.length) : L.drop j = rd L (j : Int) :: L.drop (j + 1) := by
  rw [List.drop_eq_getElem_cons h]
  congr 1
  unfold rd
  simp [h]
/-- The days of a period, those at the places told; whether there are more. -/
def DLp (a0 a1 a8 : Int) (l4 l7 : List Int) (P : Int → Bool) (day sy sm : Int) (k : Nat) : List Int × Bool :=
  (placesL l7 (periodL a0 a8 l4 P day sy sm ((k : Int) * a1)).1, (periodL a0 a8 l4 P day sy sm ((k : Int) * a1)).2)
/-- The times of a walker from a period on. -/
def timesL (a0 a1 a2 a3 a8 : Int) (l4 l7 : List Int) (P : Int → Bool) (day sy sm mi : Int) (k : Nat) : List Int :=
  goPer (DLp a0 a1 a8 l4 l7 P day sy sm) a2 a3 day mi (111000 - k) k 0
theorem periodL_len (a0 a8 : Int) (l4 : List Int) (P : Int → Bool) (day sy sm st : Int) : (periodL a0 a8 l4 P day sy sm st).1.length ≤ 400 := by
  unfold periodL daysF
  split
  · refine Nat.le_trans (daysL_len _ _ _) ?_
    split <;> omega
  · split
    · refine Nat.le_trans (daysL_len _ _ _) ?_
      split <;> omega
    · split
      · refine Nat.le_trans (monthL_len _ _ _ _ _) ?_
        simp
      · exact Nat.le_trans (yearL_len _ _ _ _) (by omega)
theorem placesL_len (l7 l : List Int) : (placesL l7 l).length ≤ l.length := by
  unfold placesL
  split
  · exact Nat.le_refl _
  · exact placesG_len _ _ _
theorem timesL_len (a0 a1 a2 a3 a8 : Int) (l4 l7 : List Int) (P : Int → Bool) (day sy sm mi : Int) (k : Nat) : (timesL a0 a1 a2 a3 a8 l4 l7 P day sy sm mi k).length ≤ 44400000 := by
  unfold timesL
  refine Nat.le_trans (goPer_len (B := 400) (fun k => Nat.le_trans (placesL_len _ _) (periodL_len _ _ _ _ _ _ _ _)) _ _ _) ?_
  have h : 111000 - k ≤ 111000 := by omega
  exact Nat.le_trans (Nat.mul_le_mul_left 400 h) (by decide)
theorem period_more {a0 a8 : Int} {l4 : List Int} {P : Int → Bool} {day sy sm st : Int} (hd : 0 ≤ day) (hd1 : day ≤ 109938) (hy : 1900 ≤ sy) (hm : 1 ≤ sm) (h : (periodL a0 a8 l4 P day sy sm st).2 = true) : st < 109938 := by
  have hw := wdZ_bd (wdZ day - a8)
  unfold periodL at h
  split at h
  · have := of_decide_eq_true h
    omega
  · split at h
    · have := of_decide_eq_true h
      omega
    · split at h
      · have := of_decide_eq_true h
        omega
      · have := of_decide_eq_true h
        omega
end Go.Proofs.Ytinjbpbpgogdhaa.Own
end
section
namespace Go.Proofs.Ytinjbpbpgogdhaa.Own
open Go.RowKit Go.Proofs.YtinjbpbpgogdhaaW.PrintWords Go.Proofs.YtinjbpbpgogdhaaW.PrintLast Go.Proofs.YtinjbpbpgogdhaaW.PrintMore
set_option linter.unusedVariables false
set_option linter.unusedSimpArgs false
theorem daysL_mem {P : Int → Bool} {n x : Int} : ∀ k : Nat, x ∈ daysL P k n ↔ (P x = true ∧ n ≤ x ∧ x < n + k)
  | 0 => by
    refine ⟨fun h => (by cases h), fun h => by omega⟩
  | k + 1 => by
    show x ∈ daysL P k n ++ (if P (n + (k : Int)) = true then [n + (k : Int)] else []) ↔ _
    rw [List.mem_append, daysL_mem k]
    constructor
    · rintro (h | h)
      · exact ⟨h.1, h.2.1, by omega⟩
      · split at h
        · rename_i hp
          have : x = n + (k : Int) := by simpa using h
          rw [this]
          exact ⟨hp, by omega, by omega⟩
        · cases h
    · rintro ⟨h1, h2, h3⟩
      by_cases e : x = n + (k : Int)
      · right
        rw [e] at h1
        rw [if_pos h1, e]
        exact List.mem_singleton.2 rfl
      · exact .inl ⟨h1, h2, by omega⟩
theorem daysF_mem {P : Int → Bool} {fr x : Int} {many : Nat} : x ∈ daysF P fr many ↔ (P x = true ∧ 0 ≤ x ∧ fr ≤ x ∧ x < fr + many) := by
  unfold daysF
  rw [daysL_mem]
  constructor
  · rintro ⟨h1, h2, h3⟩
    split at h2 <;> split at h3 <;> exact ⟨h1, by omega, by omega, by omega⟩
  · rintro ⟨h1, h2, h3, h4⟩
    refine ⟨h1, ?_, ?_⟩
    · split <;> omega
    · split <;> omega
theorem monthL_mem {P : Int → Bool} {l4 xs : List Int} {y m x : Int} : x ∈ monthL P l4 xs y m ↔ (x ∈ xs ∨ ((Ok y m 1 ∧ (l4.length = 0 ∨ hasI l4 m = true)) ∧ P x = true ∧ num y m 1 ≤ x ∧ x < num y m 1 + len y m)) := by
  have hl := len_bd y m
  unfold monthL
  split
  · rename_i h
    rw [List.mem_append, daysL_mem, Int.toNat_of_nonneg hl.1]
    exact ⟨fun h' => h'.imp id (fun a => ⟨h, a⟩), fun h' => h'.imp id (fun a => a.2)⟩
  · rename_i h
    exact ⟨.inl, fun h' => h'.elim id (fun a => (h a.1).elim)⟩
theorem yearL_mem {P : Int → Bool} {l4 : List Int} {y x : Int} : ∀ k, x ∈ yearL P l4 y k ↔ ∃ m : Nat, m < k ∧ (Ok y ((m : Int) + 1) 1 ∧ (l4.length = 0 ∨ hasI l4 ((m : Int) + 1) = true)) ∧ P x = true ∧ num y ((m : Int) + 1) 1 ≤ x ∧ x < num y ((m : Int) + 1) 1 + len y ((m : Int) + 1)
  | 0 => by
    refine ⟨fun h => (by cases h), ?_⟩
    rintro ⟨m, hm, _⟩
    omega
  | k + 1 => by
    show x ∈ monthL P l4 (yearL P l4 y k) y ((k : Int) + 1) ↔ _
    rw [monthL_mem, yearL_mem k]
    constructor
    · rintro (⟨m, h1, h2⟩ | h)
      · exact ⟨m, by omega, h2⟩
      · exact ⟨k, by omega, h⟩
    · rintro ⟨m, h1, h2⟩
      by_cases e : m = k
      · exact .inr (e ▸ h2)
      · exact .inl ⟨m, by omega, h2⟩
theorem periodL_P {a0 a8 : Int} {l4 : List Int} {P : Int → Bool} {day sy sm st x : Int} (h : x ∈ (periodL a0 a8 l4 P day sy sm st).1) : P x = true := by
  unfold periodL at h
  split at h
  · exact (daysF_mem.1 h).1
  · split at h
    · exact (daysF_mem.1 h).1
    · split at h
      · rcases monthL_mem.1 h with h | h
        · cases h
        · exact h.2.1
      · obtain ⟨m, _, _, h, _⟩ := (yearL_mem _).1 h
        exact h
theorem dayB_bd {a0 : Int} {l4 l5 : List Int} {l6 : List S58} {day sm sd n : Int} (h : dayB a0 l4 l5 l6 day sm sd n = true) : 0 ≤ n ∧ n < 109938 := by
  by_cases hn : n < 0 ∨ 109938 ≤ n
  · unfold dayB at h
    rw [civil_Date_no (by decide) hn] at h
    cases h
  · omega
theorem rd_mem {L : List Int} {j : Nat} (h : j < L.length) : rd L (j : Int) ∈ L := by
  have h1 := rd_drop h
  have h2 : rd L (j : Int) ∈ L.drop j := by rw [h1]; exact List.mem_cons_self
  exact List.mem_of_mem_drop h2
theorem placesG_mem {l7 l : List Int} {x : Int} : ∀ k, k ≤ l.length → x ∈ placesG l7 l k → x ∈ l
  | 0, _, h => by cases h
  | k + 1, hk, h => by
    have h' : x ∈ placesG l7 l k ++ (if plB l7 (l.length : Int) (k : Int) = true then [rd l (k : Int)] else []) := h
    rw [List.mem_append] at h'
    rcases h' with h' | h'
    · exact placesG_mem k (by omega) h'
    · split at h'
      · have e : x = rd l (k : Int) := by simpa using h'
        rw [e]
        exact rd_mem (by omega)
      · cases h'
theorem placesL_mem {l7 l : List Int} {x : Int} (h : x ∈ placesL l7 l) : x ∈ l := by
  unfold placesL at h
  split at h
  · exact h
  · exact placesG_mem _ (Nat.le_refl _) h
theorem DLp_bd {a0 a1 a8 : Int} {l4 l5 l7 : List Int} {l6 : List S58} {day sy sm sd : Int} {k : Nat} {x : Int} (h : x ∈ (DLp a0 a1 a8 l4 l7 (dayB a0 l4 l5 l6 day sm sd) day sy sm k).1) : 0 ≤ x ∧ x < 109938 :=
  dayB_bd (periodL_P (placesL_mem h))
end Go.Proofs.Ytinjbpbpgogdhaa.Own
end
