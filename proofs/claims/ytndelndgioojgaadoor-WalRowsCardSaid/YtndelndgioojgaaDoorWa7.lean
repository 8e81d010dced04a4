import Derived.Test.YtndelndgioojgaaDoorWa6
namespace Go.Proofs.YtndelndgioojgaaDoor.Own
open Go.RowKit Go.Proofs.YtndelndgioojgaaDoorW.PrintWords Go.Proofs.YtndelndgioojgaaDoorW.PrintLast Go.Proofs.YtndelndgioojgaaDoorW.PrintMore
set_option linter.unusedVariables false
set_option linter.unusedSimpArgs false
variable {w0 w w1 : World} {L p S E n : Nat} {half frm end_ gen : Int} {sv rv : Value} {snap : List Int} {recs : List (List Int)} {down : Bool} {d : Dk}
theorem blk_C {bs : List Int} (h : w.heap[E]? = some (.cells (bytes bs) 5 (0, 0))) {a k : Nat} (hk : a + k ≤ bs.length) (hx : bs.length ≤ 4194304) : Kd.C (Kd.int .u8) w (some ⟨E, a, none⟩) ((bs.drop a).take k).length ((bs.drop a).take k) := by
  have hl : ((bs.drop a).take k).length = k := by rw [List.length_take, List.length_drop]; omega
  refine Kd.C_of_reads (d := (0 : Int)) (h1 := fun _ => rfl) ⟨rfl, by rw [hl]; omega, fun _ => ⟨_, rfl, fun j hj => ?_⟩⟩
  rw [hl] at hj
  rw [show (⟨E, a, none⟩ : Addr).add j = ⟨E, a + j, none⟩ from by unfold Addr.add; split <;> simp_all, blk_cell h, bytes_get (by omega)]
  congr 2
  rw [List.getD_eq_getElem?_getD, List.getD_eq_getElem?_getD, List.getElem?_take, if_pos hj, List.getElem?_drop]
/-- Where the half of a generation begins. -/
def placeP (half gen : Int) : Int := if gen % 2 = 0 then 0 else half
theorem place_any (g : Int) (hg : 0 ≤ g) (hL : w.cell? ⟨L, 1, none⟩ = some (.int .i64 half)) : Calls Tryd.prog 38 #[.pointer (some ⟨L, 0, none⟩), .int .u32 g] w fun e w' => e = .returned (.int .i64 (placeP half g)) ∧ w = w' := by
  by_cases hc : g % 2 = 0
  · have HP : Hid (placeP half g = 0) := Lib.hid (if_pos hc)
    go_enter Tryd.func38, Tryd.ntmps38
    go_wp2
    go_ret
    exact ⟨by rw [HP.out]; first | done | rfl, rfl⟩
  · have HP : Hid (placeP half g = half) := Lib.hid (if_neg hc)
    have hc1 : g % 2 = 1 := by omega
    go_enter Tryd.func38, Tryd.ntmps38
    go_wp2
    go_ret
    exact ⟨by rw [HP.out]; first | done | rfl, rfl⟩
theorem gen_any (hL : w.cell? ⟨L, 4, none⟩ = some (.int .u32 gen)) : Calls Tryd.prog 12 #[.pointer (some ⟨L, 0, none⟩)] w fun e w' => e = .returned (.int .u32 gen) ∧ w = w' := by
  go_enter Tryd.func12, Tryd.ntmps12
  go_wp2
  go_ret
  exact ⟨rfl, rfl⟩
/-- Room: how many bytes a record may have. -/
def roomP (half end_ : Int) : Int := if half - end_ - 16 < -1 then -1 else half - end_ - 16
theorem room_any (h1 : w.cell? ⟨L, 1, none⟩ = some (.int .i64 half)) (h3 : w.cell? ⟨L, 3, none⟩ = some (.int .i64 end_)) (a0 : 0 ≤ half) (a1 : half ≤ 1048576) (b0 : 0 ≤ end_) (b1 : end_ ≤ 4194304) :
    Calls Tryd.prog 9 #[.pointer (some ⟨L, 0, none⟩)] w fun e w' => e = .returned (.int .i64 (roomP half end_)) ∧ Below w.heap.size w w' := by
  have hw1 : wrap64 (half - end_) = half - end_ := by unfold wrap64; omega
  have hw2 : wrap64 (half - end_ - 16) = half - end_ - 16 := by unfold wrap64; omega
  have hi1 : IntKind.i64.wrap (half - end_) = half - end_ := IntWalk.i64_in _ (by omega)
  have hi2 : IntKind.i64.wrap (half - end_ - 16) = half - end_ - 16 := IntWalk.i64_in _ (by omega)
  have hm : ¬ (1048576 : Int) < half - end_ - 16 := by omega
  by_cases hc : half - end_ - 16 < -1
  · have HP : Hid (roomP half end_ = -1) := Lib.hid (if_pos hc)
    go_enter Tryd.func9, Tryd.ntmps9
    go_wp2
    go_quiet (fail)
    go_wp2
    go_ret
    exact ⟨by rw [HP.out]; first | done | rfl, pw_below_drewN (Below.refl _ _) _⟩
  · have HP : Hid (roomP half end_ = half - end_ - 16) := Lib.hid (if_neg hc)
    go_enter Tryd.func9, Tryd.ntmps9
    go_wp2
    go_quiet (fail)
    go_wp2
    go_ret
    exact ⟨by rw [HP.out]; first | done | rfl, pw_below_drewN (Below.refl _ _) _⟩
def FellPost (w0 w : World) (L p S E n : Nat) (half frm end_ gen : Int) (sv rv : Value) (snap : List Int) (recs : List (List Int)) (down : Bool) (d : Dk) (e : Ending) (w' : World) : Prop :=
  e = .returned (.bool (down || d.off)) ∧ Dsk w0 w' p S E n d ∧ Lm w0 w' L p S E half frm end_ gen sv rv snap recs (down || d.off) ∧ Kept w w' (LS L p S E)
theorem fell_any (hl : Lm w0 w L p S E half frm end_ gen sv rv snap recs down) (hd : Dsk w0 w p S E n d) :
    Calls Tryd.prog 28 #[.pointer (some ⟨L, 0, none⟩)] w (FellPost w0 w L p S E n half frm end_ gen sv rv snap recs down d) := by
  have l0 := cell_eq (blk_cell hl.hL 0) rfl
  have l7 := cell_eq (blk_cell hl.hL 7) rfl
  have g7 := blk_frozen hl.hL 7
  have d3 := cell_eq (blk_cell hd.m.hp 3) rfl
  have HL := Lib.hid hl
  have HD := Lib.hid hd
  clear hl hd
  cases down with
  | true =>
    go_enter Tryd.func28, Tryd.ntmps28
    go_wp2
    go_ret
    exact ⟨rfl, HD.out, HL.out, Kept.refl _ _⟩
  | false =>
    go_enter Tryd.func28, Tryd.ntmps28
    go_wp2_with (first | ((with_reducible refine (on_any w d3).mono ?_); rintro e w' ⟨rfl, rfl⟩))
    go_ret
    unfold FellPost
    rw [Bool.false_or]
    refine ⟨by simp, HD.out.setL HL.out.hL HL.out.nL _ _, ?_, (Kept.refl _ _).setCell (.inl (.inr rfl)) _⟩
    have := HL.out.setDown d.off
    simpa using this
theorem snapshot_any (hl : Lm w0 w L p S E half frm end_ gen sv rv snap recs down) (hs : snap.length ≤ 4194304) :
    Calls Tryd.prog 31 #[.pointer (some ⟨L, 0, none⟩)] w fun e w' => ∃ v : Value, e = .returned v ∧ Kd.R (Kd.int .u8) 5 w' w.heap.size (fun _ => True) v snap ∧ Below w.heap.size w w' := by
  obtain ⟨A, c, rfl, hc, hC⟩ := Kd.R_reads hl.hs
  have l5 := cell_eq (blk_cell hl.hL 5) rfl
  have HC := Lib.hid hC
  have HCL := Lib.hid (slices_Clone_byte_byte.calls A c snap snap w hC hc (clone_bytes (by omega)))
  clear hl hC
  go_enter Tryd.func31, Tryd.ntmps31
  go_wp2_with (first | ((with_reducible refine HCL.out.mono ?_); rintro e w' ⟨v, rfl, hR, hb⟩; obtain ⟨Av, cv, rfl, _, _⟩ := Kd.R_reads hR; have HR := Lib.hid hR; have HB := Lib.hid hb; clear hR hb))
  go_ret
  exact ⟨_, rfl, HR.out, HB.out⟩
def ReadPost (w : World) (bs : List Int) (a k : Nat) (e : Ending) (w' : World) : Prop := ∃ v : Value, e = .returned (.tuple #[v, .int .i64 0]) ∧ Kd.R (Kd.int .u8) 5 w' w.heap.size (fun _ => True) v ((bs.drop a).take k) ∧ Below w.heap.size w w'
theorem read_on (hd : Dsk w0 w p S E n d) (hoff : d.off = false) (a k : Nat) (hk : a + k ≤ n) (ha : a < n) : Calls Tryd.prog 21 #[.pointer (some ⟨p, 0, none⟩), .int .i64 a, .int .i64 k] w (ReadPost w d.bs a k) := by
  have hn := hd.m.hn
  have d0 := cell_eq (blk_cell hd.m.hp 0) rfl
  have d1 := cell_eq (blk_cell hd.m.hp 1) rfl
  have d3 := cell_eq (blk_cell hd.m.hp 3) rfl
  rw [hoff] at d3
  have hlen : ((d.bs.drop a).take k).length = k := by rw [List.length_take, List.length_drop, hd.m.lS]; omega
  have HC := Lib.hid (blk_C hd.m.hE (a := a) (k := k) (by rw [hd.m.lS]; exact hk) (by rw [hd.m.lS]; exact hn))
  have HCL := Lib.hid (slices_Clone_byte_byte.calls (some ⟨E, a, none⟩) (n - a) _ _ w HC.out (by rw [hlen]; omega) (clone_bytes (by omega)))
  rw [hlen] at HCL
  obtain ⟨r, hr⟩ : ∃ r, r = (d.bs.drop a).take k := ⟨_, rfl⟩
  rw [← hr] at HCL
  have HRR := Lib.hid hr
  clear hr HC
  have h1 : (a : Int) + (k : Int) ≤ (n : Int) := by omega
  have h2 : (a : Int) ≤ (a : Int) + (k : Int) := by omega
  have h3 : a < n := ha
  have hne : ¬ n = a := by omega
  have h4 : ((a : Int) + (k : Int)).toNat = a + k := by omega
  have h5 : a + k - a = k := by omega
  clear hd hoff hlen
  go_enter Tryd.func21, Tryd.ntmps21
  go_wp2_with (first | ((with_reducible refine (on_any w d3).mono ?_); rintro e w' ⟨rfl, rfl⟩) | ((with_reducible refine (in_any w (a : Int) (k : Int) d0 (by omega) (by omega) (by omega) hn).mono ?_); rintro e w' ⟨rfl, rfl⟩) | ((with_reducible refine HCL.out.mono ?_); rintro e w' ⟨v, rfl, hR, hb⟩; obtain ⟨Av, cv, rfl, _, _⟩ := Kd.R_reads hR; have HR := Lib.hid hR; have HB := Lib.hid hb; clear hR hb))
  go_ret2
  unfold ReadPost
  rw [← HRR.out]
  exact ⟨_, rfl, HR.out, HB.out⟩
theorem read_off {a k : Int} (d3 : w.cell? ⟨p, 3, none⟩ = some (.bool true)) : Calls Tryd.prog 21 #[.pointer (some ⟨p, 0, none⟩), .int .i64 a, .int .i64 k] w fun e w' => e = .returned (.tuple #[.slice none 0 0, .int .i64 12]) ∧ w = w' := by
  go_enter Tryd.func21, Tryd.ntmps21
  go_wp2_with (first | ((with_reducible refine (on_any w d3).mono ?_); rintro e w' ⟨rfl, rfl⟩))
  go_ret2
  exact ⟨rfl, rfl⟩
end Go.Proofs.YtndelndgioojgaaDoor.Own
