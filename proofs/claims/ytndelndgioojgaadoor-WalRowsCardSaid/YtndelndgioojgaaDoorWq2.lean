import Derived.Test.YtndelndgioojgaaDoorWq1
namespace Go.Proofs.YtndelndgioojgaaDoor.Own
open Go.RowKit Go.Proofs.YtndelndgioojgaaDoorW.PrintWords Go.Proofs.YtndelndgioojgaaDoorW.PrintLast Go.Proofs.YtndelndgioojgaaDoorW.PrintMore
set_option linter.unusedVariables false
set_option linter.unusedSimpArgs false
theorem info9_ : (Tryd.prog.info? 9).map (fun i => (i.zero, i.size, i.bytes)) = some (some (.string ByteArray.empty), Kd.string.sz, 16) := by kernel_rfl
/-- bytes told as a string -/
abbrev str (b : List Int) : ByteArray := strOfNums b
theorem conv_str {w : World} {A : Option Addr} {c : Nat} {b : List Int} (h : (Kd.int .u8).C w A b.length b) : (convert 23 9 (.slice A b.length c)).run Tryd.prog w = .ok (.string (str b)) w := Kd.C_string Tryd.underlying23 Tryd.underlying5 Tryd.underlying9 h
theorem one_C {W : World} {g : Nat} {x : ByteArray} (h : W.heap[g]? = some (.cells #[.string x] 9 (0, 0))) : Kd.string.C W (some ⟨g, 0, none⟩) [x].length [x] := by
  refine ⟨rfl, by simp, fun _ => ⟨_, rfl, fun j p hj => ⟨[.string p], rfl, rfl, fun i u hu => ?_⟩⟩⟩
  obtain rfl : j = 0 := by
    rcases j with _ | j
    · rfl
    · simp at hj
  obtain rfl : i = 0 := by
    rcases i with _ | i
    · rfl
    · simp at hu
  simp at hj hu
  subst hj
  subst hu
  exact cell_eq (blk_cell h 0) rfl
noncomputable def wiC3 : Code := (Tryd.f13.body.bind (regC 3)).getD .skip
set_option maxHeartbeats 4000000 in
set_option maxRecDepth 100000 in
theorem wi3_wp {w : World} {gs go : Nat} {cs co : Array Value} {A Bd : Option Addr} {rc bc : Nat} {rs : List ByteArray} {b : List Int} {Q : Exit → Act → World → Prop} {c0 c1 c4 c5 c6 c7 c8 c9 c10 c11 c12 c13 c14 c15 c16 c17 c18 c19 c20 c21 c22 c23 c24 c25 c26 c27 c28 c29 c30 : Value}
    (HS : Hid (w.heap[gs]? = some (.cells cs 39 (0, 0)))) (HO : Hid (w.heap[go]? = some (.cells co 41 (0, 0)))) (hc2 : cs[2]? = some (.slice A rs.length rc)) (ho1 : co[1]? = some (.slice Bd b.length bc)) (HR : Hid (Kd.string.C w A rs.length rs)) (HB : Hid ((Kd.int .u8).C w Bd b.length b)) (hrl : rs.length ≤ 1000000)
    (HP : Hid (∀ c (a : Act) (N : Option Tmp) (v : Value) (w : World), Q (.panic c) (a.put N v) w → Q (.panic c) a w)) (HE : Hid (∀ (d16 d17 d18 d19 d20 d21 d22 d23 d24 : Value) (v : Value) (w' : World), Hid (Kd.string.R 9 w' w.heap.size (fun _ => True) v (rs ++ [str b])) → Hid (Below w.heap.size w w') → Q .normal ⟨#[c0, c1, .pointer (some ⟨gs, 0, none⟩), .pointer (some ⟨go, 0, none⟩), c4, v, c6, c7, c8, c9, c10, c11, c12, c13, c14, c15, d16, d17, d18, d19, d20, d21, d22, d23, d24, c25, c26, c27, c28, c29, c30], []⟩ w')) :
    Code.wp Tryd.prog wiC3 Q ⟨#[c0, c1, .pointer (some ⟨gs, 0, none⟩), .pointer (some ⟨go, 0, none⟩), c4, c5, c6, c7, c8, c9, c10, c11, c12, c13, c14, c15, c16, c17, c18, c19, c20, c21, c22, c23, c24, c25, c26, c27, c28, c29, c30], []⟩ w := by
  unfold wiC3
  conv => arg 2; whnf
  refine start_ (n := 10) (S := fun w' => w'.cell? ⟨gs, 2, none⟩ = some (.slice A rs.length rc) ∧ w'.cell? ⟨go, 1, none⟩ = some (.slice Bd b.length bc) ∧ (convert 23 9 (.slice Bd b.length bc)).run Tryd.prog w' = .ok (.string (str b)) w') (ds := [8]) #[false, false, false, false, false, false, false, false, false, false] (by kernel_rfl) rfl rfl ?_ (fun hHeld => ?_)
  · exact ⟨cell_eq (blk_cell (show w.drew.heap[gs]? = _ from HS.out) 2) hc2, cell_eq (blk_cell (show w.drew.heap[go]? = _ from HO.out) 1) ho1, conv_str (Kd.C_below HB.out (Below.refl _ w).drew)⟩
  have HW3 := Lib.hid ((Below.refl w.heap.size w).drew)
  generalize w.drew = w3 at hHeld HW3 ⊢
  refine pure_ (i := 1) (N := some 17) (v := ?_) (a' := ?_) #[false, true, false, false, false, false, false, false, false, false] rfl rfl (by kernel_rfl) (fun c a w h => HP.out c a _ _ w h) (Or.inl ⟨by rfl, ?_⟩) ?_ ?_
  rotate_left
  · intro w'
    go_simp
    with_reducible rfl
  rotate_left
  · simp only [Act.put, List.setIfInBounds_toArray, List.set_cons_zero, List.set_cons_succ, i64_w, i32_w]
    rfl
  refine take_ (i := 2) (N := some 18) (v := ?_) (a' := ?_) #[false, true, true, false, false, false, false, false, false, false] rfl rfl (by kernel_rfl) (fun c a w h => HP.out c a _ _ w h) (Or.inl ⟨by rfl, ?_⟩) hHeld ?_ ?_
  rotate_left
  · rintro w' ⟨s0, s1, s2⟩
    go_simp
    with_reducible rfl
  rotate_left
  · simp only [Act.put, List.setIfInBounds_toArray, List.set_cons_zero, List.set_cons_succ, i64_w, i32_w]
    rfl
  refine pure_ (i := 4) (N := some 20) (v := ?_) (a' := ?_) #[false, true, true, false, true, false, false, false, false, false] rfl rfl (by kernel_rfl) (fun c a w h => HP.out c a _ _ w h) (Or.inl ⟨by rfl, ?_⟩) ?_ ?_
  rotate_left
  · intro w'
    go_simp
    with_reducible rfl
  rotate_left
  · simp only [Act.put, List.setIfInBounds_toArray, List.set_cons_zero, List.set_cons_succ, i64_w, i32_w]
    rfl
  refine take_ (i := 5) (N := some 21) (v := ?_) (a' := ?_) #[false, true, true, false, true, true, false, false, false, false] rfl rfl (by kernel_rfl) (fun c a w h => HP.out c a _ _ w h) (Or.inl ⟨by rfl, ?_⟩) hHeld ?_ ?_
  rotate_left
  · rintro w' ⟨s0, s1, s2⟩
    go_simp
    with_reducible rfl
  rotate_left
  · simp only [Act.put, List.setIfInBounds_toArray, List.set_cons_zero, List.set_cons_succ, i64_w, i32_w]
    rfl
  refine take_ (i := 6) (N := some 22) (v := ?_) (a' := ?_) #[false, true, true, false, true, true, true, false, false, false] rfl rfl (by kernel_rfl) (fun c a w h => HP.out c a _ _ w h) (Or.inl ⟨by rfl, ?_⟩) hHeld ?_ ?_
  rotate_left
  · rintro w' ⟨s0, s1, s2⟩
    go_simp
    with_reducible rfl
  rotate_left
  · simp only [Act.put, List.setIfInBounds_toArray, List.set_cons_zero, List.set_cons_succ, i64_w, i32_w]
    rfl
  refine two_ (i := 0) (j := 7) (Ni := some 16) (Nj := some 23) #[true, true, true, false, true, true, true, false, false, false] #[false, true, true, false, true, true, true, true, false, false] rfl rfl rfl rfl (by kernel_rfl) (by decide) (by decide) (fun K hK => ?_) (fun K hK => ?_)
  · refine runs_ (by rfl) rfl (v := .slice (some ⟨w3.heap.size, 0, none⟩) 0 0) (w1 := w3.alloc (.cells #[] 9)) ?_ ?_
    · go_simp
    have HR0 : Hid (Kd.string.R 9 (w3.alloc (.cells #[] 9)) w.heap.size (fun _ => True) (.slice (some ⟨w3.heap.size, 0, none⟩) 0 0) []) := Lib.hid ⟨fun _ _ => trivial, [], World.ownsRow_made w3 #[] 0 HW3.out.size (Nat.zero_le _) rfl, Kd.reps_scalar []⟩
    have HW4 := Lib.hid (HW3.out.alloc HW3.out.size (.cells #[] 9))
    refine hK.out _ _ ⟨cell_eq (blk_cell (keep_below (HW4.out) HS.out) 2) hc2, cell_eq (blk_cell (keep_below (HW4.out) HO.out) 1) ho1, conv_str (Kd.C_below HB.out (HW4.out))⟩ (fun hHeld => ?_)
    clear hK K
    obtain ⟨g0, hg0⟩ : ∃ x, x = w3.heap.size := ⟨_, rfl⟩
    rw [← hg0] at HR0 ⊢
    have hg0l : g0 < (w3.alloc (.cells #[] 9)).heap.size := by rw [alloc_size]; omega
    generalize w3.alloc (.cells #[] 9) = w4 at hHeld HR0 HW4 hg0l ⊢
    refine two_ (i := 3) (j := 7) (Ni := some 19) (Nj := some 23) #[true, true, true, true, true, true, true, false, false, false] #[true, true, true, false, true, true, true, true, false, false] rfl rfl rfl rfl (by kernel_rfl) (by decide) (by decide) (fun K hK => ?_) (fun K hK => ?_)
    · refine Kd.R_append_rows_step (W := w4) (w0 := w) Kd.string (Rr := Kd.string.K w4) w.heap.size (by rfl) (.tmp 16) (.tmp 18) 37 9 (.string ByteArray.empty) 16 rfl Tryd.underlying37 info9_ rfl (by decide) (by decide) (.slice (some ⟨g0, 0, none⟩) 0 0) [] rs A rs.length rc (fun _ => True) (fun _ => False) rfl rfl HR0.out (Kd.C_below HR.out HW4.out) (fun x cs h => h) (fun _ h => h.elim) (fun _ _ => trivial) HW4.out HW4.out.size (by simp; omega) ?_
      intro v1 w5 hR5 hb5 hg5 hat5
      rw [List.nil_append] at hR5
      have HR3 := Lib.hid hR5
      have HW5 := Lib.hid hb5
      clear hR5 hb5 hg5 hat5
      refine hK.out _ _ ⟨cell_eq (blk_cell (keep_below (HW5.out) HS.out) 2) hc2, cell_eq (blk_cell (keep_below (HW5.out) HO.out) 1) ho1, conv_str (Kd.C_below HB.out (HW5.out))⟩ (fun hHeld => ?_)
      clear hK K
      refine one_ (i := 7) (N := some 23) #[true, true, true, true, true, true, true, true, false, false] rfl rfl (by kernel_rfl) (by decide) (fun K hK => ?_)
      refine runs_ (by rfl) rfl (v := .slice (some ⟨w5.heap.size, 0, none⟩) 1 1) (w1 := w5.alloc (.cells #[.string (str b)] 9)) ?_ ?_
      · go_simp
      have HX : Hid ((w5.alloc (.cells #[.string (str b)] 9)).heap[w5.heap.size]? = some (.cells #[.string (str b)] 9 (0, 0))) := Lib.hid (alloc_blk _ _ _)
      have HW6 := Lib.hid (HW5.out.alloc HW5.out.size (.cells #[.string (str b)] 9))
      have HR3 := Lib.hid (Kd.R_below HR3.out (below_new_ (o := .cells #[.string (str b)] 9)))
      refine hK.out _ _ ⟨cell_eq (blk_cell (keep_below (HW6.out) HS.out) 2) hc2, cell_eq (blk_cell (keep_below (HW6.out) HO.out) 1) ho1, conv_str (Kd.C_below HB.out (HW6.out))⟩ (fun hHeld => ?_)
      clear hK K
      obtain ⟨g7, hg7⟩ : ∃ x, x = w5.heap.size := ⟨_, rfl⟩
      rw [← hg7] at HX ⊢
      generalize w5.alloc (.cells #[.string (str b)] 9) = w6 at hHeld HX HW6 HR3 ⊢
      refine last_ (i := 8) (N := some 24) #[true, true, true, true, true, true, true, true, true, false] rfl rfl (by kernel_rfl) (by decide) (fun K hK => ?_)
      refine Kd.R_append_rows_step (W := w6) (w0 := w) Kd.string (Rr := Kd.string.K w6) w.heap.size (by rfl) (.tmp 19) (.tmp 23) 37 9 (.string ByteArray.empty) 16 rfl Tryd.underlying37 info9_ rfl (by decide) (by decide) v1 rs [str b] (some ⟨g7, 0, none⟩) 1 1 (fun _ => True) (fun _ => False) rfl rfl HR3.out (one_C HX.out) (fun x cs h => h) (fun _ h => h.elim) (fun _ _ => trivial) HW6.out HW6.out.size (by omega) ?_
      intro v2 w7 hR6 hb6 hg6 hat6
      have HR6 := Lib.hid hR6
      have HW7 := Lib.hid hb6
      clear hR6 hb6 hg6 hat6
      refine hK.out _ _ ?_
      clear hK K
      refine pure_ (i := 9) (N := some 5) (v := ?_) (a' := ?_) #[true, true, true, true, true, true, true, true, true, true] rfl rfl (by kernel_rfl) (fun c a w h => HP.out c a _ _ w h) (Or.inl ⟨by rfl, ?_⟩) ?_ ?_
      rotate_left
      · intro w'
        go_simp
        with_reducible rfl
      rotate_left
      · simp only [Act.put, List.setIfInBounds_toArray, List.set_cons_zero, List.set_cons_succ, i64_w, i32_w]
        rfl
      refine done_ (by kernel_rfl) ?_
      exact HE.out _ _ _ _ _ _ _ _ _ _ _ HR6 HW7

    · refine runs_ (by rfl) rfl (v := .slice (some ⟨w4.heap.size, 0, none⟩) 1 1) (w1 := w4.alloc (.cells #[.string (str b)] 9)) ?_ ?_
      · go_simp
      have HX : Hid ((w4.alloc (.cells #[.string (str b)] 9)).heap[w4.heap.size]? = some (.cells #[.string (str b)] 9 (0, 0))) := Lib.hid (alloc_blk _ _ _)
      have HW8 := Lib.hid (HW4.out.alloc HW4.out.size (.cells #[.string (str b)] 9))
      have HR0 := Lib.hid (Kd.R_below HR0.out (below_new_ (o := .cells #[.string (str b)] 9)))
      have hne : w4.heap.size ≠ g0 := by omega
      refine hK.out _ _ ⟨cell_eq (blk_cell (keep_below (HW8.out) HS.out) 2) hc2, cell_eq (blk_cell (keep_below (HW8.out) HO.out) 1) ho1, conv_str (Kd.C_below HB.out (HW8.out))⟩ (fun hHeld => ?_)
      clear hK K
      obtain ⟨g7, hg7⟩ : ∃ x, x = w4.heap.size := ⟨_, rfl⟩
      rw [← hg7] at HX hne ⊢
      generalize w4.alloc (.cells #[.string (str b)] 9) = w8 at hHeld HX HW8 HR0 ⊢
      refine one_ (i := 3) (N := some 19) #[true, true, true, true, true, true, true, true, false, false] rfl rfl (by kernel_rfl) (by decide) (fun K hK => ?_)
      refine Kd.R_append_rows_step (W := w8) (w0 := w) Kd.string (Rr := Kd.string.K w8) w.heap.size (by rfl) (.tmp 16) (.tmp 18) 37 9 (.string ByteArray.empty) 16 rfl Tryd.underlying37 info9_ rfl (by decide) (by decide) (.slice (some ⟨g0, 0, none⟩) 0 0) [] rs A rs.length rc (fun _ => True) (fun _ => False) rfl rfl HR0.out (Kd.C_below HR.out HW8.out) (fun x cs h => h) (fun _ h => h.elim) (fun _ _ => trivial) HW8.out HW8.out.size (by simp; omega) ?_
      intro v1 w9 hR5 hb5 hg5 hat5
      rw [List.nil_append] at hR5
      have HR3 := Lib.hid hR5
      have HW9 := Lib.hid hb5
      have HX : Hid (w9.heap[g7]? = some (.cells #[.string (str b)] 9 (0, 0))) := Lib.hid ((hg5.block g7 (heap_lt HX.out) (fun e => hne (Option.some.inj e))).trans HX.out)
      clear hR5 hb5 hg5 hat5
      refine hK.out _ _ ⟨cell_eq (blk_cell (keep_below (HW9.out) HS.out) 2) hc2, cell_eq (blk_cell (keep_below (HW9.out) HO.out) 1) ho1, conv_str (Kd.C_below HB.out (HW9.out))⟩ (fun hHeld => ?_)
      clear hK K
      refine last_ (i := 8) (N := some 24) #[true, true, true, true, true, true, true, true, true, false] rfl rfl (by kernel_rfl) (by decide) (fun K hK => ?_)
      refine Kd.R_append_rows_step (W := w9) (w0 := w) Kd.string (Rr := Kd.string.K w9) w.heap.size (by rfl) (.tmp 19) (.tmp 23) 37 9 (.string ByteArray.empty) 16 rfl Tryd.underlying37 info9_ rfl (by decide) (by decide) v1 rs [str b] (some ⟨g7, 0, none⟩) 1 1 (fun _ => True) (fun _ => False) rfl rfl HR3.out (one_C HX.out) (fun x cs h => h) (fun _ h => h.elim) (fun _ _ => trivial) HW9.out HW9.out.size (by omega) ?_
      intro v2 w10 hR6 hb6 hg6 hat6
      have HR6 := Lib.hid hR6
      have HW10 := Lib.hid hb6
      clear hR6 hb6 hg6 hat6
      refine hK.out _ _ ?_
      clear hK K
      refine pure_ (i := 9) (N := some 5) (v := ?_) (a' := ?_) #[true, true, true, true, true, true, true, true, true, true] rfl rfl (by kernel_rfl) (fun c a w h => HP.out c a _ _ w h) (Or.inl ⟨by rfl, ?_⟩) ?_ ?_
      rotate_left
      · intro w'
        go_simp
        with_reducible rfl
      rotate_left
      · simp only [Act.put, List.setIfInBounds_toArray, List.set_cons_zero, List.set_cons_succ, i64_w, i32_w]
        rfl
      refine done_ (by kernel_rfl) ?_
      exact HE.out _ _ _ _ _ _ _ _ _ _ _ HR6 HW10


  · refine runs_ (by rfl) rfl (v := .slice (some ⟨w3.heap.size, 0, none⟩) 1 1) (w1 := w3.alloc (.cells #[.string (str b)] 9)) ?_ ?_
    · go_simp
    have HX : Hid ((w3.alloc (.cells #[.string (str b)] 9)).heap[w3.heap.size]? = some (.cells #[.string (str b)] 9 (0, 0))) := Lib.hid (alloc_blk _ _ _)
    have HW11 := Lib.hid (HW3.out.alloc HW3.out.size (.cells #[.string (str b)] 9))
    refine hK.out _ _ ⟨cell_eq (blk_cell (keep_below (HW11.out) HS.out) 2) hc2, cell_eq (blk_cell (keep_below (HW11.out) HO.out) 1) ho1, conv_str (Kd.C_below HB.out (HW11.out))⟩ (fun hHeld => ?_)
    clear hK K
    obtain ⟨g7, hg7⟩ : ∃ x, x = w3.heap.size := ⟨_, rfl⟩
    rw [← hg7] at HX ⊢
    generalize w3.alloc (.cells #[.string (str b)] 9) = w11 at hHeld HX HW11 ⊢
    refine one_ (i := 0) (N := some 16) #[true, true, true, false, true, true, true, true, false, false] rfl rfl (by kernel_rfl) (by decide) (fun K hK => ?_)
    refine runs_ (by rfl) rfl (v := .slice (some ⟨w11.heap.size, 0, none⟩) 0 0) (w1 := w11.alloc (.cells #[] 9)) ?_ ?_
    · go_simp
    have HR0 : Hid (Kd.string.R 9 (w11.alloc (.cells #[] 9)) w.heap.size (fun _ => True) (.slice (some ⟨w11.heap.size, 0, none⟩) 0 0) []) := Lib.hid ⟨fun _ _ => trivial, [], World.ownsRow_made w11 #[] 0 HW11.out.size (Nat.zero_le _) rfl, Kd.reps_scalar []⟩
    have HW12 := Lib.hid (HW11.out.alloc HW11.out.size (.cells #[] 9))
    have hne : g7 ≠ w11.heap.size := by have := heap_lt HX.out; omega
    have HX := Lib.hid (keep_below (below_new_ (o := .cells #[] 9)) HX.out)
    refine hK.out _ _ ⟨cell_eq (blk_cell (keep_below (HW12.out) HS.out) 2) hc2, cell_eq (blk_cell (keep_below (HW12.out) HO.out) 1) ho1, conv_str (Kd.C_below HB.out (HW12.out))⟩ (fun hHeld => ?_)
    clear hK K
    obtain ⟨g0, hg0⟩ : ∃ x, x = w11.heap.size := ⟨_, rfl⟩
    rw [← hg0] at HR0 hne ⊢
    generalize w11.alloc (.cells #[] 9) = w12 at hHeld HR0 HW12 HX ⊢
    refine one_ (i := 3) (N := some 19) #[true, true, true, true, true, true, true, true, false, false] rfl rfl (by kernel_rfl) (by decide) (fun K hK => ?_)
    refine Kd.R_append_rows_step (W := w12) (w0 := w) Kd.string (Rr := Kd.string.K w12) w.heap.size (by rfl) (.tmp 16) (.tmp 18) 37 9 (.string ByteArray.empty) 16 rfl Tryd.underlying37 info9_ rfl (by decide) (by decide) (.slice (some ⟨g0, 0, none⟩) 0 0) [] rs A rs.length rc (fun _ => True) (fun _ => False) rfl rfl HR0.out (Kd.C_below HR.out HW12.out) (fun x cs h => h) (fun _ h => h.elim) (fun _ _ => trivial) HW12.out HW12.out.size (by simp; omega) ?_
    intro v1 w13 hR5 hb5 hg5 hat5
    rw [List.nil_append] at hR5
    have HR3 := Lib.hid hR5
    have HW13 := Lib.hid hb5
    have HX : Hid (w13.heap[g7]? = some (.cells #[.string (str b)] 9 (0, 0))) := Lib.hid ((hg5.block g7 (heap_lt HX.out) (fun e => hne (Option.some.inj e))).trans HX.out)
    clear hR5 hb5 hg5 hat5
    refine hK.out _ _ ⟨cell_eq (blk_cell (keep_below (HW13.out) HS.out) 2) hc2, cell_eq (blk_cell (keep_below (HW13.out) HO.out) 1) ho1, conv_str (Kd.C_below HB.out (HW13.out))⟩ (fun hHeld => ?_)
    clear hK K
    refine last_ (i := 8) (N := some 24) #[true, true, true, true, true, true, true, true, true, false] rfl rfl (by kernel_rfl) (by decide) (fun K hK => ?_)
    refine Kd.R_append_rows_step (W := w13) (w0 := w) Kd.string (Rr := Kd.string.K w13) w.heap.size (by rfl) (.tmp 19) (.tmp 23) 37 9 (.string ByteArray.empty) 16 rfl Tryd.underlying37 info9_ rfl (by decide) (by decide) v1 rs [str b] (some ⟨g7, 0, none⟩) 1 1 (fun _ => True) (fun _ => False) rfl rfl HR3.out (one_C HX.out) (fun x cs h => h) (fun _ h => h.elim) (fun _ _ => trivial) HW13.out HW13.out.size (by omega) ?_
    intro v2 w14 hR6 hb6 hg6 hat6
    have HR6 := Lib.hid hR6
    have HW14 := Lib.hid hb6
    clear hR6 hb6 hg6 hat6
    refine hK.out _ _ ?_
    clear hK K
    refine pure_ (i := 9) (N := some 5) (v := ?_) (a' := ?_) #[true, true, true, true, true, true, true, true, true, true] rfl rfl (by kernel_rfl) (fun c a w h => HP.out c a _ _ w h) (Or.inl ⟨by rfl, ?_⟩) ?_ ?_
    rotate_left
    · intro w'
      go_simp
      with_reducible rfl
    rotate_left
    · simp only [Act.put, List.setIfInBounds_toArray, List.set_cons_zero, List.set_cons_succ, i64_w, i32_w]
      rfl
    refine done_ (by kernel_rfl) ?_
    exact HE.out _ _ _ _ _ _ _ _ _ _ _ HR6 HW14
end Go.Proofs.YtndelndgioojgaaDoor.Own
namespace Go.Proofs.YtndelndgioojgaaDoor.Own
open Go.RowKit Go.Proofs.YtndelndgioojgaaDoorW.PrintWords Go.Proofs.YtndelndgioojgaaDoorW.PrintLast Go.Proofs.YtndelndgioojgaaDoorW.PrintMore
set_option linter.unusedVariables false
set_option linter.unusedSimpArgs false
theorem set3 {w : World} {g : Nat} {a b c x y z : Value} (h : w.heap[g]? = some (.cells #[a, b, c] 39 (0, 0))) : (((w.setCell ⟨g, 0, none⟩ x).setCell ⟨g, 1, none⟩ y).setCell ⟨g, 2, none⟩ z).heap[g]? = some (.cells #[x, y, z] 39 (0, 0)) := by
  have h1 : (w.setCell ⟨g, 0, none⟩ x).heap[g]? = some (.cells #[x, b, c] 39 (0, 0)) := by simpa using Go.Joins.block_setCell h (i := 0) x
  have h2 : ((w.setCell ⟨g, 0, none⟩ x).setCell ⟨g, 1, none⟩ y).heap[g]? = some (.cells #[x, y, c] 39 (0, 0)) := by simpa using Go.Joins.block_setCell h1 (i := 1) y
  simpa using Go.Joins.block_setCell h2 (i := 2) z
theorem ret39 {w : World} {g : Nat} {x y z : Value} {tmps : Array Value} (hp : tmps.getD 4 undef = .pointer (some ⟨g, 0, none⟩)) (h : w.heap[g]? = some (.cells #[x, y, z] 39 (0, 0))) : (results Tryd.f13 tmps).run Tryd.prog w = .ok (.agg #[x, y, z]) w :=
  results_cell_row rfl _ _ g 39 _ (0, 0) _ hp h Tryd.underlying39 rfl (by kernel_rfl)
theorem R_set39 {w0 w : World} {g j : Nat} {ok : Nat → Prop} {v u : Value} {xs : List ByteArray} {cs : Array Value} (h : Kd.string.R 9 w w0.heap.size ok v xs) (hL : w.heap[g]? = some (.cells cs 39 (0, 0))) : Kd.string.R 9 (w.setCell ⟨g, j, none⟩ u) w0.heap.size ok v xs :=
  R_types (X := fun i => i = g) h ⟨by simp [World.setCell], fun i _ hn => heap_setCell_other w ⟨g, j, none⟩ i u hn⟩ (fun i hi _ => by subst hi; exact ⟨cs, 39, hL, by simp [Kd.string, Kd.scalar]⟩)
theorem R_set3 {w0 w : World} {g : Nat} {v a b c x y z : Value} {ok : Nat → Prop} {xs : List ByteArray} (h : Kd.string.R 9 w w0.heap.size ok v xs) (hL : w.heap[g]? = some (.cells #[a, b, c] 39 (0, 0))) : Kd.string.R 9 (((w.setCell ⟨g, 0, none⟩ x).setCell ⟨g, 1, none⟩ y).setCell ⟨g, 2, none⟩ z) w0.heap.size ok v xs := by
  have h1 : (w.setCell ⟨g, 0, none⟩ x).heap[g]? = some (.cells #[x, b, c] 39 (0, 0)) := by simpa using Go.Joins.block_setCell hL (i := 0) x
  have h2 : ((w.setCell ⟨g, 0, none⟩ x).setCell ⟨g, 1, none⟩ y).heap[g]? = some (.cells #[x, y, c] 39 (0, 0)) := by simpa using Go.Joins.block_setCell h1 (i := 1) y
  exact R_set39 (R_set39 (R_set39 h hL) h1) h2
def WithPost (w : World) (g : Int) (s : ByteArray) (rs : List ByteArray) (e : Ending) (w' : World) : Prop :=
  ∃ v, e = .returned (.agg #[.int .u32 g, .string s, v]) ∧ Kd.string.R 9 w' w.heap.size (fun _ => True) v rs ∧ Below w.heap.size w w'
set_option maxHeartbeats 4000000 in
set_option maxRecDepth 100000 in
theorem with1_any {w : World} {g n1 n2 : Int} {s : ByteArray} {A Bd : Option Addr} {rc bc : Nat} {rs : List ByteArray} {b : List Int} (hb : (Kd.int .u8).C w Bd b.length b) :
    Calls Tryd.prog 13 #[.agg #[.int .u32 g, .string s, .slice A rs.length rc], .agg #[.int .i64 1, .slice Bd b.length bc, .int .i64 n1, .int .i64 n2]] w (WithPost w (IntKind.u32.wrap (g + 1)) (str b) []) := by
  have HB := Lib.hid hb
  clear hb
  go_enter Tryd.func13, Tryd.ntmps13
  go_upto_region 1 with (fail)
  have HHS : Hid (((((w.alloc (.cells #[.int .u32 g, .string s, .slice A rs.length rc] 39)).alloc (.cells #[.int .i64 1, .slice Bd b.length bc, .int .i64 n1, .int .i64 n2] 41)).alloc (.cells #[.int .u32 0, .string ByteArray.empty, .slice none 0 0] 39)).heap[w.heap.size]? = some (.cells #[.int .u32 g, .string s, .slice A rs.length rc] 39 (0, 0)) ∧
      (((w.alloc (.cells #[.int .u32 g, .string s, .slice A rs.length rc] 39)).alloc (.cells #[.int .i64 1, .slice Bd b.length bc, .int .i64 n1, .int .i64 n2] 41)).alloc (.cells #[.int .u32 0, .string ByteArray.empty, .slice none 0 0] 39)).heap[w.heap.size + 1]? = some (.cells #[.int .i64 1, .slice Bd b.length bc, .int .i64 n1, .int .i64 n2] 41 (0, 0)) ∧
      (((w.alloc (.cells #[.int .u32 g, .string s, .slice A rs.length rc] 39)).alloc (.cells #[.int .i64 1, .slice Bd b.length bc, .int .i64 n1, .int .i64 n2] 41)).alloc (.cells #[.int .u32 0, .string ByteArray.empty, .slice none 0 0] 39)).heap[w.heap.size + 1 + 1]? = some (.cells #[.int .u32 0, .string ByteArray.empty, .slice none 0 0] 39 (0, 0)))) :=
    Lib.hid (push3 w.heap _ _ _)
  have HBW := Lib.hid ((((Below.refl w.heap.size w).alloc (Nat.le_refl _) (.cells #[.int .u32 g, .string s, .slice A rs.length rc] 39)).alloc (by rw [alloc_size]; omega) (.cells #[.int .i64 1, .slice Bd b.length bc, .int .i64 n1, .int .i64 n2] 41)).alloc (by rw [alloc_size, alloc_size]; omega) (.cells #[.int .u32 0, .string ByteArray.empty, .slice none 0 0] 39))
  change Code.wp _ _ _ _ (((w.alloc (.cells #[.int .u32 g, .string s, .slice A rs.length rc] 39)).alloc (.cells #[.int .i64 1, .slice Bd b.length bc, .int .i64 n1, .int .i64 n2] 41)).alloc (.cells #[.int .u32 0, .string ByteArray.empty, .slice none 0 0] 39))
  obtain ⟨gs, hgs⟩ : ∃ x, x = w.heap.size := ⟨_, rfl⟩
  have hgl : w.heap.size ≤ gs := by omega
  have HGL := Lib.hid hgl
  rw [← hgs] at HHS ⊢
  clear hgs hgl
  generalize ((w.alloc (.cells #[.int .u32 g, .string s, .slice A rs.length rc] 39)).alloc (.cells #[.int .i64 1, .slice Bd b.length bc, .int .i64 n1, .int .i64 n2] 41)).alloc (.cells #[.int .u32 0, .string ByteArray.empty, .slice none 0 0] 39) = w1 at HHS HBW ⊢
  have s0 := cell_eq (blk_cell HHS.out.1 0) rfl
  have s1 := cell_eq (blk_cell HHS.out.1 1) rfl
  have s2 := cell_eq (blk_cell HHS.out.1 2) rfl
  have o0 := cell_eq (blk_cell HHS.out.2.1 0) rfl
  have o1 := cell_eq (blk_cell HHS.out.2.1 1) rfl
  have r0 := cell_eq (blk_cell HHS.out.2.2 0) rfl
  have r1 := cell_eq (blk_cell HHS.out.2.2 1) rfl
  have r2 := cell_eq (blk_cell HHS.out.2.2 2) rfl
  have f0 := blk_frozen HHS.out.2.2 0
  have f1 := blk_frozen HHS.out.2.2 1
  have f2 := blk_frozen HHS.out.2.2 2
  have hcv := conv_str (Kd.C_below HB.out HBW.out) (c := bc)
  go_wp2
  refine bodyPost_ret (ret39 rfl (set3 HHS.out.2.2)) rfl ?_
  refine ⟨.slice none 0 0, by rw [u32_wrap], Kd.R_nil _ _ _ _ _, ?_⟩
  have := HGL.out
  exact ((HBW.out.setCell (p := ⟨gs + 1 + 1, 0, none⟩) (by show w.heap.size ≤ gs + 1 + 1; omega) _).setCell (p := ⟨gs + 1 + 1, 1, none⟩) (by show w.heap.size ≤ gs + 1 + 1; omega) _).setCell (p := ⟨gs + 1 + 1, 2, none⟩) (by show w.heap.size ≤ gs + 1 + 1; omega) _
set_option maxHeartbeats 4000000 in
set_option maxRecDepth 100000 in
theorem with0_any {w : World} {g k n1 n2 : Int} {s : ByteArray} {A Bd : Option Addr} {rc bc : Nat} {rs : List ByteArray} {b : List Int} (hk : k ≠ 1) (hr : Kd.string.C w A rs.length rs) (hrl : rs.length ≤ 1000000) (hb : (Kd.int .u8).C w Bd b.length b) :
    Calls Tryd.prog 13 #[.agg #[.int .u32 g, .string s, .slice A rs.length rc], .agg #[.int .i64 k, .slice Bd b.length bc, .int .i64 n1, .int .i64 n2]] w (WithPost w g s (rs ++ [str b])) := by
  have HB := Lib.hid hb
  have HR := Lib.hid hr
  clear hb hr
  go_enter Tryd.func13, Tryd.ntmps13
  go_upto_region 1 with (fail)
  have HHS : Hid (((((w.alloc (.cells #[.int .u32 g, .string s, .slice A rs.length rc] 39)).alloc (.cells #[.int .i64 k, .slice Bd b.length bc, .int .i64 n1, .int .i64 n2] 41)).alloc (.cells #[.int .u32 0, .string ByteArray.empty, .slice none 0 0] 39)).heap[w.heap.size]? = some (.cells #[.int .u32 g, .string s, .slice A rs.length rc] 39 (0, 0)) ∧
      (((w.alloc (.cells #[.int .u32 g, .string s, .slice A rs.length rc] 39)).alloc (.cells #[.int .i64 k, .slice Bd b.length bc, .int .i64 n1, .int .i64 n2] 41)).alloc (.cells #[.int .u32 0, .string ByteArray.empty, .slice none 0 0] 39)).heap[w.heap.size + 1]? = some (.cells #[.int .i64 k, .slice Bd b.length bc, .int .i64 n1, .int .i64 n2] 41 (0, 0)) ∧
      (((w.alloc (.cells #[.int .u32 g, .string s, .slice A rs.length rc] 39)).alloc (.cells #[.int .i64 k, .slice Bd b.length bc, .int .i64 n1, .int .i64 n2] 41)).alloc (.cells #[.int .u32 0, .string ByteArray.empty, .slice none 0 0] 39)).heap[w.heap.size + 1 + 1]? = some (.cells #[.int .u32 0, .string ByteArray.empty, .slice none 0 0] 39 (0, 0)))) :=
    Lib.hid (push3 w.heap _ _ _)
  have HBW := Lib.hid ((((Below.refl w.heap.size w).alloc (Nat.le_refl _) (.cells #[.int .u32 g, .string s, .slice A rs.length rc] 39)).alloc (by rw [alloc_size]; omega) (.cells #[.int .i64 k, .slice Bd b.length bc, .int .i64 n1, .int .i64 n2] 41)).alloc (by rw [alloc_size, alloc_size]; omega) (.cells #[.int .u32 0, .string ByteArray.empty, .slice none 0 0] 39))
  change Code.wp _ _ _ _ (((w.alloc (.cells #[.int .u32 g, .string s, .slice A rs.length rc] 39)).alloc (.cells #[.int .i64 k, .slice Bd b.length bc, .int .i64 n1, .int .i64 n2] 41)).alloc (.cells #[.int .u32 0, .string ByteArray.empty, .slice none 0 0] 39))
  obtain ⟨gs, hgs⟩ : ∃ x, x = w.heap.size := ⟨_, rfl⟩
  have hgl : w.heap.size ≤ gs := by omega
  have HGL := Lib.hid hgl
  rw [← hgs] at HHS ⊢
  clear hgs hgl
  generalize ((w.alloc (.cells #[.int .u32 g, .string s, .slice A rs.length rc] 39)).alloc (.cells #[.int .i64 k, .slice Bd b.length bc, .int .i64 n1, .int .i64 n2] 41)).alloc (.cells #[.int .u32 0, .string ByteArray.empty, .slice none 0 0] 39) = w1 at HHS HBW ⊢
  have s0 := cell_eq (blk_cell HHS.out.1 0) rfl
  have s1 := cell_eq (blk_cell HHS.out.1 1) rfl
  have s2 := cell_eq (blk_cell HHS.out.1 2) rfl
  have o0 := cell_eq (blk_cell HHS.out.2.1 0) rfl
  have o1 := cell_eq (blk_cell HHS.out.2.1 1) rfl
  have r0 := cell_eq (blk_cell HHS.out.2.2 0) rfl
  have r1 := cell_eq (blk_cell HHS.out.2.2 1) rfl
  have r2 := cell_eq (blk_cell HHS.out.2.2 2) rfl
  have f0 := blk_frozen HHS.out.2.2 0
  have f1 := blk_frozen HHS.out.2.2 1
  have f2 := blk_frozen HHS.out.2.2 2
  go_upto_region 3 with (fail)
  refine wi3_wp (Lib.hid HHS.out.1) (Lib.hid HHS.out.2.1) rfl rfl (Lib.hid (Kd.C_below HR.out HBW.out)) (Lib.hid (Kd.C_below HB.out HBW.out)) hrl (Lib.hid fun c a N v w h => by cases N <;> exact h) (Lib.hid ?_)
  intro d16 d17 d18 d19 d20 d21 d22 d23 d24 v w2 HV HW2
  clear s0 s1 s2 o0 o1 r0 r1 r2 f0 f1 f2
  have s0 := cell_eq (blk_cell (keep_below HW2.out HHS.out.1) 0) rfl
  have s1 := cell_eq (blk_cell (keep_below HW2.out HHS.out.1) 1) rfl
  have r0 := cell_eq (blk_cell (keep_below HW2.out HHS.out.2.2) 0) rfl
  have r1 := cell_eq (blk_cell (keep_below HW2.out HHS.out.2.2) 1) rfl
  have r2 := cell_eq (blk_cell (keep_below HW2.out HHS.out.2.2) 2) rfl
  have f0 := blk_frozen (keep_below HW2.out HHS.out.2.2) 0
  have f1 := blk_frozen (keep_below HW2.out HHS.out.2.2) 1
  have f2 := blk_frozen (keep_below HW2.out HHS.out.2.2) 2
  obtain ⟨vA, vc, rfl, hx, hy⟩ := Kd.R_reads HV.out
  clear hx hy
  go_wp2
  refine bodyPost_ret (ret39 rfl (set3 (keep_below HW2.out HHS.out.2.2))) rfl ?_
  have hl := HGL.out
  have hlt := heap_lt HHS.out.2.2
  have hV2 := Kd.R_lower HV.out HBW.out.size
  rw [show (rs ++ [str b]).length = rs.length + 1 from by simp] at hV2
  refine ⟨_, rfl, ?_, ?_⟩
  · exact R_set3 hV2 (keep_below HW2.out HHS.out.2.2)
  · exact (((HBW.out.trans (HW2.out.mono HBW.out.size)).setCell (p := ⟨gs + 1 + 1, 0, none⟩) (by show w.heap.size ≤ gs + 1 + 1; omega) _).setCell (p := ⟨gs + 1 + 1, 1, none⟩) (by show w.heap.size ≤ gs + 1 + 1; omega) _).setCell (p := ⟨gs + 1 + 1, 2, none⟩) (by show w.heap.size ≤ gs + 1 + 1; omega) _
end Go.Proofs.YtndelndgioojgaaDoor.Own
