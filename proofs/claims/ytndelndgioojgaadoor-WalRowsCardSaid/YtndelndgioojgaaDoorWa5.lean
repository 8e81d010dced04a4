import Derived.Test.YtndelndgioojgaaDoorWa4
namespace Go.Proofs.YtndelndgioojgaaDoor.Own
open Go.RowKit Go.Proofs.YtndelndgioojgaaDoorW.PrintWords Go.Proofs.YtndelndgioojgaaDoorW.PrintLast Go.Proofs.YtndelndgioojgaaDoorW.PrintMore
set_option linter.unusedVariables false
set_option linter.unusedSimpArgs false
theorem take_0 {cur : Array Value} {a b : Value} (h : cur.toList.take 2 = [a, b]) : cur[0]? = some a := by
  have h2 := congrArg (·[0]?) h
  simp at h2
  exact h2
theorem take_1 {cur : Array Value} {a b : Value} (h : cur.toList.take 2 = [a, b]) : cur[1]? = some b := by
  have h2 := congrArg (·[1]?) h
  simp at h2
  exact h2
/-- A loop over the one write that waits: ahead of it, and behind it. -/
def OneRel (w0 w : World) (p S E n : Nat) (sure seen : List Int) (wv : Value) (fuse keep : Int) (a : Nat) (b b' : List Int) (i : Value) (wr : World) : Prop :=
  (i = .int .i64 0 ∧ wr = w) ∨
  (i = .int .i64 1 ∧ Hid (Dm w0 wr p S E n (splice sure a b') seen wv false fuse keep) ∧ Hid (Kept w wr (DS p S E)))
set_option maxHeartbeats 4000000 in
set_option maxRecDepth 100000 in
theorem sync_any {w0 w : World} {p S E n a : Nat} {sure seen : List Int} {wv : Value} {fuse keep : Int} {b : List Int}
    (hd : Dm w0 w p S E n sure seen wv false fuse keep) (hw : Waits w0 w S E a b wv) (hab : a + b.length ≤ n) (hb0 : 0 < b.length) :
    Calls Tryd.prog 42 #[.pointer (some ⟨p, 0, none⟩)] w fun e w' => e = .returned (.int .i64 0) ∧ Dm w0 w' p S E n (splice sure a b) seen (.slice none 0 0) false fuse keep ∧ Kept w w' (DS p S E) := by
  obtain ⟨q, cq, curq, v, rfl, hq, hcq, hv⟩ := hw
  have c2 := cell_eq (blk_cell hd.hp 2) rfl
  have c3 := cell_eq (blk_cell hd.hp 3) rfl
  obtain ⟨Av, cv, rfl, _, _⟩ := Kd.R_reads hv
  have HD := Lib.hid hd
  have HQ := Lib.hid hq
  have HCQ := Lib.hid hcq
  have HV := Lib.hid hv
  clear hd hq hcq hv
  go_enter Tryd.func42, Tryd.ntmps42
  go_wp2_with (first | ((with_reducible refine (on_any w c3).mono ?_); rintro e w' ⟨rfl, rfl⟩))
  go_loopw [13] (fun i wr => OneRel w0 w p S E n sure seen (.slice (some ⟨q, 0, none⟩) 1 cq) fuse keep a b b i wr) (fun i _ => 2 - (intOf i).toNat)
  case atStart => exact .inl ⟨rfl, rfl⟩
  case round =>
  clear c2 c3
  rcases hrel with ⟨rfl, rfl⟩ | ⟨rfl, HD2, HK2⟩
  · have q0 := (blk_cell HQ.out 0).trans (take_0 HCQ.out)
    have q1 := (blk_cell HQ.out 1).trans (take_1 HCQ.out)
    go_upto_region 6 with (fail)
    have HD3 := Lib.hid (HD.out.below (w1 := wr.alloc (.cells #[.int .i64 a, .slice Av b.length cv] 81)) below_new_)
    have HX3 := Lib.hid (alloc_blk wr #[.int .i64 a, .slice Av b.length cv] 81)
    have HV3 := Lib.hid (Kd.R_below HV.out (w1 := wr.alloc (.cells #[.int .i64 a, .slice Av b.length cv] 81)) below_new_)
    have HK3 := Lib.hid ((Kept.refl wr (DS p S E)).alloc (.cells #[.int .i64 a, .slice Av b.length cv] 81))
    clear q0 q1 HQ HV HD
    generalize wr.alloc (.cells #[.int .i64 a, .slice Av b.length cv] 81) = w3 at HD3 HX3 HV3 HK3 ⊢
    generalize wr.heap.size = x at HX3 ⊢
    refine sy6_wp HD3 HX3 HV3 hab hb0 (Lib.hid fun c a N v w h => by cases N <;> exact h) (Lib.hid ?_)
    intro d17 d18 d19 d20 d21 d22 d23 d24 d25 d26 w4 HD4 HK4
    go_wp2
    go_roundw
    case rel => exact .inr ⟨rfl, HD4, Lib.hid (HK3.out.then_ HK4.out (fun k hk => .inl hk))⟩
    case measure => simp [intOf]
  · have k2 := cell_eq (blk_cell HD2.out.hp 2) rfl
    have g2 := blk_frozen HD2.out.hp 2
    go_wp2
    go_ret
    exact ⟨rfl, HD2.out.set2 _, HK2.out.setCell (.inl (.inl rfl)) _⟩
/-- How many bytes of a write are laid down at a fall. -/
def keptN (keep : Int) (len : Nat) : Nat := Nat.min keep.toNat len
set_option maxHeartbeats 4000000 in
set_option maxRecDepth 100000 in
theorem fall_any {w0 w : World} {p S E n a : Nat} {sure seen : List Int} {wv : Value} {fuse keep : Int} {b : List Int} (m : Int)
    (hd : Dm w0 w p S E n sure seen wv false fuse keep) (hw : Waits w0 w S E a b wv) (hab : a + b.length ≤ n) (hb0 : 0 < b.length) :
    Calls Tryd.prog 47 #[.pointer (some ⟨p, 0, none⟩), .int .i64 m] w fun e w' => e = .returned (.tuple #[]) ∧ Dm w0 w' p S E n (splice sure a (b.take (keptN m b.length))) (splice sure a (b.take (keptN m b.length))) (.slice none 0 0) true (-1) keep ∧ Kept w w' (DS p S E) := by
  obtain ⟨q, cq, curq, v, rfl, hq, hcq, hv⟩ := hw
  have c2 := cell_eq (blk_cell hd.hp 2) rfl
  have c3 := cell_eq (blk_cell hd.hp 3) rfl
  obtain ⟨Av, cv, rfl, _, _⟩ := Kd.R_reads hv
  have HD := Lib.hid hd
  have HQ := Lib.hid hq
  have HCQ := Lib.hid hcq
  have HV := Lib.hid hv
  have hbl : b.length ≤ 4194304 := by have := hd.hn; omega
  clear hd hq hcq hv
  obtain ⟨left, hleft⟩ : ∃ l : Int, l = if m < 0 then 0 else m := ⟨_, rfl⟩
  have hl0 : 0 ≤ left := by rw [hleft]; split <;> omega
  obtain ⟨k, hk⟩ : ∃ k : Nat, k = keptN m b.length := ⟨_, rfl⟩
  have hkl : k ≤ b.length := by rw [hk]; exact Nat.min_le_right _ _
  have hkm : (k : Int) = if (b.length : Int) < left then (b.length : Int) else left := by
    rw [hk, hleft]
    show ((min m.toNat b.length : Nat) : Int) = _
    rcases Nat.le_total m.toNat b.length with h | h
    · rw [Nat.min_eq_left h]; split <;> split <;> omega
    · rw [Nat.min_eq_right h]; split <;> split <;> omega
  rw [← hk]
  have HLEFT := Lib.hid hleft
  have HKM := Lib.hid hkm
  clear hleft hk hkm
  go_enter Tryd.func47, Tryd.ntmps47
  go_upto_region 1 with ((with_reducible refine (on_any w c3).mono ?_); rintro e w' ⟨rfl, rfl⟩)
  go_cut [4] (fun v4 wc => v4 = .int .i64 left ∧ wc = w)
  case first =>
    by_cases hm : m < 0
    · go_wp2
      go_meet
      case rel => exact ⟨by rw [HLEFT.out, if_pos hm], rfl⟩
    · go_wp2
      go_meet
      case rel => exact ⟨by rw [HLEFT.out, if_neg (show ¬ m < 0 by omega)], rfl⟩
  case rest =>
  obtain ⟨rfl, rfl⟩ := hcut
  go_wp2
  go_loopw [18, 4] (fun i lf wr => OneRel w0 wc p S E n sure seen (.slice (some ⟨q, 0, none⟩) 1 cq) fuse keep a b (b.take k) i wr ∧ (i = .int .i64 0 → lf = .int .i64 left)) (fun i _ _ => 2 - (intOf i).toNat)
  case atStart => exact ⟨.inl ⟨rfl, rfl⟩, fun _ => rfl⟩
  case round =>
  clear c2 c3
  obtain ⟨hrel, hlf⟩ := hrel
  rcases hrel with ⟨rfl, rfl⟩ | ⟨rfl, HD2, HK2⟩
  · obtain rfl := hlf rfl
    have q0 := (blk_cell HQ.out 0).trans (take_0 HCQ.out)
    have q1 := (blk_cell HQ.out 1).trans (take_1 HCQ.out)
    go_upto_region 5 with (fail)
    have HD3 := Lib.hid (HD.out.below (w1 := wr.alloc (.cells #[.int .i64 a, .slice Av b.length cv] 81)) below_new_)
    have HX3 := Lib.hid (alloc_blk wr #[.int .i64 a, .slice Av b.length cv] 81)
    have HV3 := Lib.hid (Kd.R_below HV.out (w1 := wr.alloc (.cells #[.int .i64 a, .slice Av b.length cv] 81)) below_new_)
    have HK3 := Lib.hid ((Kept.refl wr (DS p S E)).alloc (.cells #[.int .i64 a, .slice Av b.length cv] 81))
    clear q0 q1 HQ HV HD hlf
    generalize wr.alloc (.cells #[.int .i64 a, .slice Av b.length cv] 81) = w3 at HD3 HX3 HV3 HK3 ⊢
    generalize wr.heap.size = x at HX3 ⊢
    go_cut [7] (fun v7 wc => v7 = .int .i64 (k : Int) ∧ wc = w3)
    case first =>
      have x1 := cell_eq (blk_cell HX3.out 1) rfl
      by_cases hm : (b.length : Int) < left
      · go_wp2
        go_meet
        case rel => exact ⟨by rw [HKM.out, if_pos hm], rfl⟩
      · go_wp2
        go_meet
        case rel => exact ⟨by rw [HKM.out, if_neg (show ¬ (b.length : Int) < left by omega)], rfl⟩
    case rest =>
    obtain ⟨rfl, rfl⟩ := hcut
    go_wp2
    refine fa6_wp HD3 HX3 HV3 hab hb0 hkl (Lib.hid fun c a N v w h => by cases N <;> exact h) (Lib.hid ?_)
    intro d27 d28 d29 d30 d31 d32 d33 d34 d35 d36 d37 d38 w4 HD4 HK4
    have hkl2 : (k : Int) ≤ 4194304 := by omega
    go_wp2
    go_roundw
    case rel => exact ⟨.inr ⟨rfl, HD4, Lib.hid (HK3.out.then_ HK4.out (fun k hk => .inl hk))⟩, fun h => by cases h⟩
    case measure => simp [intOf]
  · clear hlf
    go_wp2
    refine fa9_wp HD2 (Lib.hid fun c a N v w h => by cases N <;> exact h) (Lib.hid ?_)
    intro d43 d44 d45 d46 d47 d48 d49 d50 d51 w4 HD4 HK4
    have k2 := cell_eq (blk_cell HD4.out.hp 2) rfl
    have k3 := cell_eq (blk_cell HD4.out.hp 3) rfl
    have k4 := cell_eq (blk_cell HD4.out.hp 4) rfl
    have g2 := blk_frozen HD4.out.hp 2
    have g3 := blk_frozen HD4.out.hp 3
    have g4 := blk_frozen HD4.out.hp 4
    go_wp2
    first | go_end0 | refine bodyPost_ret (results_none rfl _ _ _) rfl ?_
    exact ⟨rfl, ((HD4.out.set2 _).set3 true).set4 (-1), (((HK2.out.then_ HK4.out (fun k hk => .inl hk)).setCell (.inl (.inl rfl)) _).setCell (.inl (.inl rfl)) _).setCell (.inl (.inl rfl)) _⟩
end Go.Proofs.YtndelndgioojgaaDoor.Own
