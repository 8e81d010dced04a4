import Derived.Test.YtndelndgioojgaaDoorWa2
namespace Go.Proofs.YtndelndgioojgaaDoor.Own
open Go.RowKit Go.Proofs.YtndelndgioojgaaDoorW.PrintWords Go.Proofs.YtndelndgioojgaaDoorW.PrintLast Go.Proofs.YtndelndgioojgaaDoorW.PrintMore
set_option linter.unusedVariables false
set_option linter.unusedSimpArgs false
/-- A fuse behind a write that it let pass. -/
def burnt (fuse : Int) : Int := if fuse = -1 then -1 else fuse - 1
def WritePost (w0 w : World) (p S E n : Nat) (sure seen : List Int) (fuse keep : Int) (a : Nat) (b : List Int) (e : Ending) (w' : World) : Prop :=
  e = .returned (.int .i64 0) ∧ ∃ wv, Dm w0 w' p S E n sure (splice seen a b) wv false (burnt fuse) keep ∧ Kept w w' (DS p S E) ∧ Waits w0 w' S E a b wv
set_option maxHeartbeats 4000000 in
set_option maxRecDepth 100000 in
theorem write_ok {w0 w : World} {p S E n : Nat} {sure seen : List Int} {fuse keep : Int} {A : Option Addr} {c a : Nat} {b : List Int}
    (hd : Dm w0 w p S E n sure seen (.slice none 0 0) false fuse keep) (hbE : ∀ W, Kept w W (DS p S E) → Kd.C (Kd.int .u8) W A b.length b) (hc : b.length ≤ c) (ha : a + b.length ≤ n) (hb0 : 0 < b.length)
    (hf0 : fuse ≠ 0) (hf1 : -1 ≤ fuse) (hf2 : fuse ≤ 9223372036854775807) :
    Calls Tryd.prog 41 #[.pointer (some ⟨p, 0, none⟩), .int .i64 a, .slice A b.length c] w (WritePost w0 w p S E n sure seen fuse keep a b) := by
  have hn := hd.hn
  have c0 := cell_eq (blk_cell hd.hp 0) rfl
  have c1 := cell_eq (blk_cell hd.hp 1) rfl
  have c3 := cell_eq (blk_cell hd.hp 3) rfl
  have hb := hbE w (Kept.refl _ _)
  obtain ⟨ad, rfl, hrd⟩ := (Kd.reads_of_C (d := (0 : Int)) hb).2.2 hb0
  have HD := Lib.hid hd
  have HRD := Lib.hid hrd
  have HB := Lib.hid hbE
  clear hd hb hrd hbE
  have ha1 : (a : Int) ≤ (n : Int) := by omega
  have hne : ¬ n = a := by omega
  have hlt : a < n := by omega
  go_enter Tryd.func41, Tryd.ntmps41
  go_wp2_with (first | ((with_reducible refine (on_any w c3).mono ?_); rintro e w' ⟨rfl, rfl⟩) | ((with_reducible refine (in_any w (a : Int) (b.length : Int) c0 (by omega) (by omega) (by omega) hn).mono ?_); rintro e w' ⟨rfl, rfl⟩) | (with_reducible refine wpList_copy_own rfl (.tmp 23) (.tmp 24) 23 23 rfl 5 Tryd.underlying23 (by kernel_rfl) E a (n - a) (n - a) ad b.length c rfl rfl _ 5 HD.out.hE (b.map (Value.int .u8)) ?_ ?_ ?_ ?_ ?_))
  · simp only [List.length_map]; exact (Nat.min_eq_left (by omega)).symm
  · intro j v hj
    obtain ⟨hj1, hj2⟩ := List.getElem?_eq_some_iff.1 hj
    simp only [List.length_map] at hj1
    rw [HRD.out j hj1, ← hj2, List.getElem_map, List.getD_eq_getElem?_getD, List.getElem?_eq_getElem hj1]
    rfl
  · simp only [List.length_map, bytes_size, HD.out.lE]; omega
  · intro v hv
    obtain ⟨x, _, rfl⟩ := List.mem_map.1 hv
    rfl
  rw [splice_cells seen a b]
  have HD2 := Lib.hid (HD.out.copyE (splice seen a b) (by rw [splice_len (by rw [HD.out.lE]; exact ha), HD.out.lE]))
  have HK2 := Lib.hid (kept_setRow (X := DS p S E) (Kept.refl w _) (.inr (.inr rfl)) (bytes (splice seen a b)))
  clear c0 c1 c3 HD
  generalize w.setRow E (bytes (splice seen a b)) = w2 at HD2 HK2 ⊢
  go_wp2
  have HB2 := Lib.hid (HB.out w2 HK2.out)
  refine wr6_wp HD2 HB2 hc (by omega) (Lib.hid fun c a N v w h => by cases N <;> exact h) (Lib.hid ?_)
  intro d26 d27 d28 d29 d30 d31 d32 d33 d34 d35 d36 d37 d38 w3 wv HD3 HK3 HW3
  have k4 := cell_eq (blk_cell HD3.out.hp 4) rfl
  have g4 := blk_frozen HD3.out.hp 4
  have HK : Hid (Kept w w3 (DS p S E)) := Lib.hid (HK2.out.then_ HK3.out (fun k hk => .inl hk))
  clear HB2 HD2 HK2 HK3 HB HRD
  have HWS : Hid (∀ u, Waits w0 (w3.setCell ⟨p, 4, none⟩ u) S E a b wv) := Lib.hid fun u => by
    obtain ⟨q, cq, curq, v, e1, e2, e3, e4⟩ := HW3.out
    refine ⟨q, cq, curq, v, e1, set_other e2 _ _ (ne_type e2 HD3.out.hp (by decide)), e3, ?_⟩
    refine R_ok_weaken' (Kd.R_step (Kd.R_bound e4) (fun k hk _ => heap_setCell_other _ _ k _ ?_))
    obtain ⟨_, _, _, q', hq', cells, hcells⟩ := hk
    have e5 : q' = 5 := by simpa [Kd.int, Kd.scalar] using hq'
    subst e5
    exact ne_type hcells HD3.out.hp (by decide)
  clear HW3
  by_cases hm : fuse = -1
  · subst hm
    go_wp2
    go_ret
    exact ⟨rfl, wv, HD3.out.set4 (-1), HK.out.setCell (.inl (.inl rfl)) _, HWS.out _⟩
  · have hf3 : 1 ≤ fuse := by omega
    have hx : ¬ fuse - 1 < -1 := by omega
    have HBU : Hid (burnt fuse = fuse - 1) := Lib.hid (by unfold burnt; rw [if_neg hm])
    go_wp2
    go_ret
    exact ⟨rfl, wv, by rw [HBU.out]; exact HD3.out.set4 (fuse - 1), HK.out.setCell (.inl (.inl rfl)) _, HWS.out _⟩
end Go.Proofs.YtndelndgioojgaaDoor.Own
