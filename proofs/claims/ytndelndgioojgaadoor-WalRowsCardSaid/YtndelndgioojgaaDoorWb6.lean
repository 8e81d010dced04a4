import Derived.Test.YtndelndgioojgaaDoorWb5
namespace Go.Proofs.YtndelndgioojgaaDoor.Own
open Go.RowKit Go.Proofs.YtndelndgioojgaaDoorW.PrintWords Go.Proofs.YtndelndgioojgaaDoorW.PrintLast Go.Proofs.YtndelndgioojgaaDoorW.PrintMore
set_option linter.unusedVariables false
set_option linter.unusedSimpArgs false
theorem nz_any (x : Int) (w : World) : Calls Tryd.prog 26 #[.int .u8 x] w fun e w' => e = .returned (.bool (x != 0)) ∧ w = w' := by
  go_enter Tryd.func26, Tryd.ntmps26
  go_wp2
  go_ret
  exact ⟨rfl, rfl⟩
def IdxPost (w : World) (b : Bool) (e : Ending) (w' : World) : Prop := ∃ n : Int, e = .returned (.int .i64 n) ∧ (decide (n ≥ 0)) = b ∧ w = w'
def IdxRel (w : World) (l : List Int) (i v : Value) (wr : World) : Prop := ∃ j : Nat, j ≤ l.length ∧ i = .int .i64 j ∧ Hid ((l.take j).any (fun x => x != 0) = false) ∧ wr = w
theorem any_snoc {now : List Int} {j : Nat} (h : j < now.length) (q : Int → Bool) : (now.take (j + 1)).any q = ((now.take j).any q || q (rd now (j : Int))) := by
  rw [List.take_succ_eq_append_getElem h, List.any_append]
  unfold rd
  rw [Int.toNat_natCast, List.getD_eq_getElem?_getD, List.getElem?_eq_getElem h]
  simp
theorem any_up {now : List Int} {j : Nat} (q : Int → Bool) (h : (now.take j).any q = true) : now.any q = true := by
  rw [List.any_eq_true] at h ⊢
  obtain ⟨x, hx, hq⟩ := h
  exact ⟨x, List.mem_of_mem_take hx, hq⟩
set_option maxHeartbeats 1000000 in
set_option maxRecDepth 100000 in
theorem idx_any (w : World) (l : List Int) (A : Option Addr) (c : Nat) (hn0 : Kd.C (Kd.int .u8) w A l.length l) (hl0 : l.length ≤ 4194304) :
    Calls Tryd.prog 40 #[.slice A l.length c, .func (.func 26) #[] #[]] w (IdxPost w (l.any fun x => x != 0)) := by
  have HN := Lib.hid hn0
  clear hn0
  go_enter Tryd.func40, Tryd.ntmps40
  go_wp2
  go_loopw [8, 5] (fun i' v wr => IdxRel w l i' v wr) (fun i' _ _ => l.length - (intOf i').toNat)
  case atStart => exact ⟨0, Nat.zero_le _, rfl, Lib.hid rfl, rfl⟩
  case round =>
  obtain ⟨j, hj, rfl, HT, rfl⟩ := hrel
  by_cases hlt : j < l.length
  · obtain ⟨ad', rfl, hc⟩ := Kd.at_int HN.out (j : Int) (by omega) (by omega)
    have hjn : ((j : Int)).toNat = j := Int.toNat_natCast j
    rw [hjn] at hc
    clear hjn
    obtain ⟨x, hx⟩ : ∃ x, x = rd l (j : Int) := ⟨_, rfl⟩
    rw [← hx] at hc
    have HX := Lib.hid hx
    clear hx
    cases hv : (x != 0) with
    | true =>
      have HV := Lib.hid hv
      have HNZ : Hid (Calls Tryd.prog 26 #[.int .u8 x] wr fun e w' => e = .returned (.bool true) ∧ wr = w') := Lib.hid (by have := nz_any x wr; rw [hv] at this; exact this)
      clear hv
      go_wp2_with (first | ((with_reducible refine HNZ.out.mono ?_); rintro e w2 ⟨rfl, rfl⟩))
      go_ret
      refine ⟨(j : Int), rfl, ?_, rfl⟩
      rw [decide_eq_true (by omega), any_up (j := j + 1) _ (by rw [any_snoc hlt, ← HX.out, HV.out, Bool.or_true])]
    | false =>
      have HV := Lib.hid hv
      have HNZ : Hid (Calls Tryd.prog 26 #[.int .u8 x] wr fun e w' => e = .returned (.bool false) ∧ wr = w') := Lib.hid (by have := nz_any x wr; rw [hv] at this; exact this)
      clear hv
      go_wp2_with (first | ((with_reducible refine HNZ.out.mono ?_); rintro e w2 ⟨rfl, rfl⟩))
      go_roundw
      case rel => exact ⟨j + 1, by omega, by go_num, Lib.hid (by rw [any_snoc hlt, HT.out, ← HX.out, HV.out]; rfl), rfl⟩
      case measure => simp [intOf]; omega
  · go_wp2
    go_ret
    refine ⟨-1, rfl, ?_, rfl⟩
    have := HT.out
    rw [List.take_of_length_le (by omega)] at this
    rw [this]
    rfl
/-- slices.ContainsFunc: is any byte not 0? -/
theorem has_any (w : World) (l : List Int) (A : Option Addr) (c : Nat) (hn0 : Kd.C (Kd.int .u8) w A l.length l) (hl0 : l.length ≤ 4194304) :
    Calls Tryd.prog 25 #[.slice A l.length c, .func (.func 26) #[] #[]] w fun e w' => e = .returned (.bool (l.any fun x => x != 0)) ∧ w = w' := by
  have HI := Lib.hid (idx_any w l A c hn0 hl0)
  clear hn0
  obtain ⟨r, hr⟩ : ∃ r, r = l.any fun x => x != 0 := ⟨_, rfl⟩
  rw [← hr] at HI ⊢
  clear hr
  go_enter Tryd.func25, Tryd.ntmps25
  go_wp2_with (first | ((with_reducible refine HI.out.mono ?_); rintro e w2 ⟨n, rfl, hd, rfl⟩))
  go_ret
  refine ⟨?_, rfl⟩
  rw [← hd]
  first | done | rfl
end Go.Proofs.YtndelndgioojgaaDoor.Own
