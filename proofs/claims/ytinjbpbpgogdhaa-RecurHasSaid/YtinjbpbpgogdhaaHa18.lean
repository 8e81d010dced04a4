-- own text: texts of this session merged by a program of it (merge.py), declarations that nothing reaches left out (prune.py)
import Derived.Test.YtinjbpbpgogdhaaHa17
section
namespace Go.Proofs.Ytinjbpbpgogdhaa.Own
open Go.RowKit Go.Proofs.YtinjbpbpgogdhaaW.PrintWords Go.Proofs.YtinjbpbpgogdhaaW.PrintLast Go.Proofs.YtinjbpbpgogdhaaW.PrintMore
set_option linter.unusedVariables false
set_option linter.unusedSimpArgs false
/-- The days of a month that are right, behind others. -/
def monthL (P : Int → Bool) (l4 : List Int) (xs : List Int) (y m : Int) : List Int :=
  if Ok y m 1 ∧ (l4.length = 0 ∨ hasI l4 m = true) then xs ++ daysL P (len y m).toNat (num y m 1) else xs
set_option maxHeartbeats 8000000 in
set_option maxRecDepth 100000 in
theorem month_any {w0 : World} {g : Nat} {a0 a1 a2 a3 a8 : Int} {A4 A5 A6 A7 : Option Addr} {c4 c5 c6 c7 : Nat} {l4 l5 l7 : List Int} {l6 : List S58} {day sy sm sd mi : Int} (v : Value) (xs : List Int) (y m : Int) (w : World) (hW : Wk0 w0 w g a0 a1 a2 a3 a8 A4 A5 A6 A7 c4 c5 c6 c7 l4 l5 l7 l6 day sy sm sd mi)
    (hR : Kd.R (Kd.int .i64) 3 w w0.heap.size (fun _ => True) v xs) (hxs : xs.length ≤ 90000) :
    Calls Try.prog 47 #[.pointer (some ⟨g, 0, none⟩), v, .int .i64 y, .int .i64 m] w (RowPost w0 w v (monthL (dayB a0 l4 l5 l6 day sm sd) l4 xs y m)) := by
  have HW := Lib.hid hW
  have HR := Lib.hid hR
  have hn4 := hW.rc.n4
  have HOWN : Hid (∀ k, v.ownBlock = some k → some k = v.ownBlock ∨ w.heap.size ≤ k) := Lib.hid (fun k hk => .inl hk.symm)
  clear hW hR
  obtain ⟨vA, vc, rfl, hx1, hx2⟩ := Kd.R_reads HR.out
  clear hx1 hx2
  obtain ⟨P, hP⟩ : ∃ P, P = dayB a0 l4 l5 l6 day sm sd := ⟨_, rfl⟩
  have HP := Lib.hid hP
  rw [← hP]
  clear hP
  by_cases hok : Ok y m 1
  · have HOK := Lib.hid hok
    have HNB := Lib.hid (num_bd hok)
    have HNM : Hid (Calls Try.prog 51 #[.agg #[.int .i64 y, .int .i64 m, .int .i64 1]] w fun e w' => e = .returned (.tuple #[.int .i64 (num y m 1), .bool true]) ∧ Below w.heap.size w w') := Lib.hid (civil_Number.calls 1 y m 1 _ _ w (civil_Number_ok (by decide) hok))
    have hlb := len_bd y m
    obtain ⟨many, hmany⟩ : ∃ many : Nat, len y m = (many : Int) := ⟨(len y m).toNat, by omega⟩
    have HMN := Lib.hid hmany
    have HLN : Hid (∀ W, Calls Try.prog 52 #[.int .i64 y, .int .i64 m] W fun e w' => e = .returned (.int .i64 (many : Int)) ∧ Drawn0 W w') := Lib.hid (fun W => civil_Length.calls 5 y m _ W (by rw [civil_Length_f (by decide), hmany]))
    have hmy : many ≤ 31 := by omega
    have HDY : Hid (∀ W, Below w.heap.size w W → Calls Try.prog 45 #[.pointer (some ⟨g, 0, none⟩), .slice vA xs.length vc, .int .i64 (num y m 1), .int .i64 (many : Int)] W (RowPost w0 W (.slice vA xs.length vc) (xs ++ daysL P many (num y m 1)))) := Lib.hid (fun W hW => by
      have hnb := HNB.out
      rw [HP.out]
      exact days_any (.slice vA xs.length vc) xs (num y m 1) (num y m 1) many many W (HW.out.below hW) (Kd.R_below HR.out hW) (by omega) (by omega) (by omega) (by omega) (by rw [if_neg (by omega)]) (by omega))
    have HH4 : Hid (∀ W, Below w.heap.size w W → Calls Try.prog 48 #[.slice A4 l4.length c4, .int .i64 m] W fun e w' => e = .returned (.bool (hasI l4 m)) ∧ Below W.heap.size W w') := Lib.hid (fun W hW => has_any W l4 A4 c4 m (HW.out.below hW).wk.rc.h4 HW.out.rc.k4 (by omega))
    clear hok hlb hmany
    have good : (l4.length = 0 ∨ hasI l4 m = true) → Hid (monthL P l4 xs y m = xs ++ daysL P many (num y m 1)) := fun h => Lib.hid (by unfold monthL; rw [if_pos ⟨HOK.out, h⟩, HMN.out, Int.toNat_natCast])
    by_cases e4 : l4.length = 0
    · have HM := good (.inl e4)
      have e4c : ¬ (0 : Int) < (l4.length : Int) := by omega
      clear good
      go_enter Try.func47, Try.ntmps47
      go_upto_region 2 with (first | ((with_reducible refine HNM.out.mono ?_); rintro e w2 ⟨rfl, hb2⟩; have HB2 := Lib.hid hb2; clear hb2))
      have q4 := cell_eq (blk_cell (HW.out.below HB2.out).hg 4) rfl
      go_wp2_with (first | ((with_reducible refine (HLN.out _).mono ?_); rintro e w3 ⟨rfl, hd3⟩; have HB3 := Lib.hid (HB2.out.trans ((drawn_below hd3).mono HB2.out.size)); clear hd3) | ((with_reducible refine (HDY.out _ HB3.out).mono ?_); rintro e w4 ⟨v', rfl, hR4, hk4, hb4, ho4⟩; have HR4 := Lib.hid hR4; have HK4 := Lib.hid hk4; have HB4 := Lib.hid hb4; have HO4 := Lib.hid ho4; clear hR4 hk4 hb4 ho4))
      go_ret
      rw [HM.out]
      exact ⟨v', rfl, HR4.out, ((Kept.refl w _).below HB3.out).then_ HK4.out (fun k hk => .inl hk), HB4.out, fun k hk => (HO4.out k hk).imp id (fun h => Nat.le_trans HB3.out.size h)⟩
    · have e4c : (0 : Int) < (l4.length : Int) := by omega
      cases e5 : hasI l4 m with
      | true =>
        have HM := good (.inr e5)
        rw [e5] at HH4
        clear good e5
        go_enter Try.func47, Try.ntmps47
        go_upto_region 2 with (first | ((with_reducible refine HNM.out.mono ?_); rintro e w2 ⟨rfl, hb2⟩; have HB2 := Lib.hid hb2; clear hb2))
        have q4 := cell_eq (blk_cell (HW.out.below HB2.out).hg 4) rfl
        go_wp2_with (first | ((with_reducible refine (HH4.out _ HB2.out).mono ?_); rintro e w2' ⟨rfl, hb2'⟩; have HB2' := Lib.hid (HB2.out.trans (hb2'.mono HB2.out.size)); clear hb2') | ((with_reducible refine (HLN.out _).mono ?_); rintro e w3 ⟨rfl, hd3⟩; have HB3 := Lib.hid (HB2'.out.trans ((drawn_below hd3).mono HB2'.out.size)); clear hd3) | ((with_reducible refine (HDY.out _ HB3.out).mono ?_); rintro e w4 ⟨v', rfl, hR4, hk4, hb4, ho4⟩; have HR4 := Lib.hid hR4; have HK4 := Lib.hid hk4; have HB4 := Lib.hid hb4; have HO4 := Lib.hid ho4; clear hR4 hk4 hb4 ho4))
        go_ret
        rw [HM.out]
        exact ⟨v', rfl, HR4.out, ((Kept.refl w _).below HB3.out).then_ HK4.out (fun k hk => .inl hk), HB4.out, fun k hk => (HO4.out k hk).imp id (fun h => Nat.le_trans HB3.out.size h)⟩
      | false =>
        have HM : Hid (monthL P l4 xs y m = xs) := Lib.hid (by unfold monthL; rw [if_neg (fun h => h.2.elim e4 (fun h => absurd (e5.symm.trans h) (by decide)))])
        rw [e5] at HH4
        clear good e5
        go_enter Try.func47, Try.ntmps47
        go_upto_region 2 with (first | ((with_reducible refine HNM.out.mono ?_); rintro e w2 ⟨rfl, hb2⟩; have HB2 := Lib.hid hb2; clear hb2))
        have q4 := cell_eq (blk_cell (HW.out.below HB2.out).hg 4) rfl
        go_wp2_with (first | ((with_reducible refine (HH4.out _ HB2.out).mono ?_); rintro e w2' ⟨rfl, hb2'⟩; have HB2' := Lib.hid (HB2.out.trans (hb2'.mono HB2.out.size)); clear hb2'))
        go_ret
        rw [HM.out]
        exact ⟨_, rfl, Kd.R_below HR.out HB2'.out, (Kept.refl w _).below HB2'.out, HW.out.hb.trans (HB2'.out.mono HW.out.hb.size), HOWN.out⟩
  · have HM : Hid (monthL P l4 xs y m = xs) := Lib.hid (by unfold monthL; rw [if_neg (fun h => hok h.1)])
    have HNM : Hid (Calls Try.prog 51 #[.agg #[.int .i64 y, .int .i64 m, .int .i64 1]] w fun e w' => e = .returned (.tuple #[.int .i64 0, .bool false]) ∧ Below w.heap.size w w') := Lib.hid (civil_Number.calls 1 y m 1 _ _ w (civil_Number_no (by decide) hok))
    clear hok
    go_enter Try.func47, Try.ntmps47
    go_wp2_with (first | ((with_reducible refine HNM.out.mono ?_); rintro e w2 ⟨rfl, hb2⟩; have HB2 := Lib.hid hb2; clear hb2))
    go_ret
    rw [HM.out]
    exact ⟨_, rfl, Kd.R_below HR.out HB2.out, (Kept.refl w _).below HB2.out, HW.out.hb.trans (HB2.out.mono HW.out.hb.size), HOWN.out⟩
end Go.Proofs.Ytinjbpbpgogdhaa.Own
end
