import Derived.Test.YtndelndgioojgaaDoorWa1
import Derived.Deep.RegionLawGrows
namespace Go.Proofs.YtndelndgioojgaaDoor.Own
open Go.RowKit Go.Proofs.YtndelndgioojgaaDoorW.PrintWords Go.Proofs.YtndelndgioojgaaDoorW.PrintLast Go.Proofs.YtndelndgioojgaaDoorW.PrintMore
set_option linter.unusedVariables false
set_option linter.unusedSimpArgs false
/-- A write that waits: for a place, its bytes in a row of their own. -/
def Waits (w0 w : World) (S E : Nat) (at' : Int) (b : List Int) (wv : Value) : Prop :=
  ∃ (q cq : Nat) (curq : Array Value) (v : Value), wv = .slice (some ⟨q, 0, none⟩) 1 cq ∧ w.heap[q]? = some (.cells curq 81 (0, 0)) ∧ curq.toList.take 2 = [.int .i64 at', v] ∧ Kd.R (Kd.int .u8) 5 w w0.heap.size (fun k => k ≠ S ∧ k ≠ E) v b
theorem R_ok_weaken {w : World} {base : Nat} {ok : Nat → Prop} {v : Value} {xs : List Int} (h : Kd.R (Kd.int .u8) 5 w base (fun k => ok k ∧ base ≤ k ∧ k < w.heap.size ∧ ∃ q, q ∈ 5 :: (Kd.int .u8).E ∧ ∃ cells, w.heap[k]? = some (.cells cells q (0, 0))) v xs) : Kd.R (Kd.int .u8) 5 w base ok v xs := Kd.R_mono h (fun _ hk => hk.1)
theorem R_ok_weaken' {w w1 : World} {base : Nat} {ok : Nat → Prop} {v : Value} {xs : List Int} (h : Kd.R (Kd.int .u8) 5 w1 base (fun k => ok k ∧ base ≤ k ∧ k < w.heap.size ∧ ∃ q, q ∈ 5 :: (Kd.int .u8).E ∧ ∃ cells, w.heap[k]? = some (.cells cells q (0, 0))) v xs) : Kd.R (Kd.int .u8) 5 w1 base ok v xs := Kd.R_mono h (fun _ hk => hk.1)
noncomputable def wr6 : Code := (Tryd.f41.body.bind (regC 6)).getD .skip
set_option maxHeartbeats 4000000 in
set_option maxRecDepth 100000 in
theorem wr6_wp {w0 w : World} {p S E n : Nat} {sure seen : List Int} {off : Bool} {fuse keep : Int} {A : Option Addr} {c : Nat} {b : List Int} {at' : Int} {Q : Exit → Act → World → Prop} {c3 c4 c5 c6 c7 c8 c9 c10 c11 c12 c13 c14 c15 c16 c17 c18 c19 c20 c21 c22 c23 c24 c25 c26 c27 c28 c29 c30 c31 c32 c33 c34 c35 c36 c37 c38 c39 c40 c41 c42 c43 c44 c45 c46 c47 c48 c49 c50 c51 c52 c53 c54 c55 c56 c57 c58 : Value}
    (HD : Hid (Dm w0 w p S E n sure seen (.slice none 0 0) off fuse keep)) (HC : Hid (Kd.C (Kd.int .u8) w A b.length b)) (hc : b.length ≤ c) (hl : b.length ≤ 4194304)
    (HP : Hid (∀ c (a : Act) (N : Option Tmp) (v : Value) (w : World), Q (.panic c) (a.put N v) w → Q (.panic c) a w)) (HE : Hid (∀ (d26 d27 d28 d29 d30 d31 d32 d33 d34 d35 d36 d37 d38 : Value) (w' : World) (wv : Value), Hid (Dm w0 w' p S E n sure seen wv off fuse keep) → Hid (Kept w w' (DS p S E)) → Hid (Waits w0 w' S E at' b wv) → Q .normal ⟨#[.pointer (some ⟨p, 0, none⟩), .int .i64 at', .slice A b.length c, c3, c4, c5, c6, c7, c8, c9, c10, c11, c12, c13, c14, c15, c16, c17, c18, c19, c20, c21, c22, c23, c24, c25, d26, d27, d28, d29, d30, d31, d32, d33, d34, d35, d36, d37, d38, c39, c40, c41, c42, c43, c44, c45, c46, c47, c48, c49, c50, c51, c52, c53, c54, c55, c56, c57, c58], []⟩ w')) :
    Code.wp Tryd.prog wr6 Q ⟨#[.pointer (some ⟨p, 0, none⟩), .int .i64 at', .slice A b.length c, c3, c4, c5, c6, c7, c8, c9, c10, c11, c12, c13, c14, c15, c16, c17, c18, c19, c20, c21, c22, c23, c24, c25, c26, c27, c28, c29, c30, c31, c32, c33, c34, c35, c36, c37, c38, c39, c40, c41, c42, c43, c44, c45, c46, c47, c48, c49, c50, c51, c52, c53, c54, c55, c56, c57, c58], []⟩ w := by
  obtain ⟨i0, hi, hz0, hz1, hz2⟩ := info_parts info81_
  unfold wr6
  conv => arg 2; whnf
  refine start_ (n := 14) (S := fun w' => w'.cell? ⟨p, 2, none⟩ = some (.slice none 0 0)) (ds := [13]) #[false, false, false, false, false, false, false, false, false, false, false, false, false, false] (by kernel_rfl) rfl rfl ?_ (fun hHeld => ?_)
  · exact cell_eq (blk_cell (show w.drew.heap[p]? = _ from HD.out.hp) 2) rfl
  have HD3 := Lib.hid (HD.out.below (w1 := w.drew) (Below.refl _ _).drew)
  have HK3 := Lib.hid ((Kept.refl w (DS p S E)).drew)
  have HC3 := Lib.hid (Kd.C_below HC.out (Below.refl _ w).drew)
  clear HD HC
  generalize w.drew = w3 at hHeld HD3 HK3 HC3 ⊢
  refine pure_ (i := 0) (N := some 26) (v := ?_) (a' := ?_) #[true, false, false, false, false, false, false, false, false, false, false, false, false, false] rfl rfl (by kernel_rfl) (fun c a w h => HP.out c a _ _ w h) (Or.inl ⟨by rfl, ?_⟩) ?_ ?_
  rotate_left
  · intro w'
    go_simp
    with_reducible rfl
  rotate_left
  · simp only [Act.put, List.setIfInBounds_toArray, List.set_cons_zero, List.set_cons_succ, i64_w, i32_w]
    rfl
  refine pure_ (i := 1) (N := some 27) (v := ?_) (a' := ?_) #[true, true, false, false, false, false, false, false, false, false, false, false, false, false] rfl rfl (by kernel_rfl) (fun c a w h => HP.out c a _ _ w h) (Or.inl ⟨by rfl, ?_⟩) ?_ ?_
  rotate_left
  · intro w'
    go_simp
    with_reducible rfl
  rotate_left
  · simp only [Act.put, List.setIfInBounds_toArray, List.set_cons_zero, List.set_cons_succ, i64_w, i32_w]
    rfl
  refine pure_ (i := 2) (N := some 28) (v := ?_) (a' := ?_) #[true, true, true, false, false, false, false, false, false, false, false, false, false, false] rfl rfl (by kernel_rfl) (fun c a w h => HP.out c a _ _ w h) (Or.inl ⟨by rfl, ?_⟩) ?_ ?_
  rotate_left
  · intro w'
    go_simp
    with_reducible rfl
  rotate_left
  · simp only [Act.put, List.setIfInBounds_toArray, List.set_cons_zero, List.set_cons_succ, i64_w, i32_w]
    rfl
  refine pure_ (i := 3) (N := some 29) (v := ?_) (a' := ?_) #[true, true, true, true, false, false, false, false, false, false, false, false, false, false] rfl rfl (by kernel_rfl) (fun c a w h => HP.out c a _ _ w h) (Or.inl ⟨by rfl, ?_⟩) ?_ ?_
  rotate_left
  · intro w'
    go_simp
    with_reducible rfl
  rotate_left
  · simp only [Act.put, List.setIfInBounds_toArray, List.set_cons_zero, List.set_cons_succ, i64_w, i32_w]
    rfl
  refine take_ (i := 4) (N := some 30) (v := ?_) (a' := ?_) #[true, true, true, true, true, false, false, false, false, false, false, false, false, false] rfl rfl (by kernel_rfl) (fun c a w h => HP.out c a _ _ w h) (Or.inl ⟨by rfl, ?_⟩) hHeld ?_ ?_
  rotate_left
  · intro w' s0
    go_simp
    with_reducible rfl
  rotate_left
  · simp only [Act.put, List.setIfInBounds_toArray, List.set_cons_zero, List.set_cons_succ, i64_w, i32_w]
    rfl
  refine pure_ (i := 5) (N := some 31) (v := ?_) (a' := ?_) #[true, true, true, true, true, true, false, false, false, false, false, false, false, false] rfl rfl (by kernel_rfl) (fun c a w h => HP.out c a _ _ w h) (Or.inl ⟨by rfl, ?_⟩) ?_ ?_
  rotate_left
  · intro w'
    go_simp
    with_reducible rfl
  rotate_left
  · simp only [Act.put, List.setIfInBounds_toArray, List.set_cons_zero, List.set_cons_succ, i64_w, i32_w]
    rfl
  refine pure_ (i := 6) (N := some 32) (v := ?_) (a' := ?_) #[true, true, true, true, true, true, true, false, false, false, false, false, false, false] rfl rfl (by kernel_rfl) (fun c a w h => HP.out c a _ _ w h) (Or.inl ⟨by rfl, ?_⟩) ?_ ?_
  rotate_left
  · intro w'
    go_simp
    with_reducible rfl
  rotate_left
  · simp only [Act.put, List.setIfInBounds_toArray, List.set_cons_zero, List.set_cons_succ, i64_w, i32_w]
    rfl
  refine one_ (i := 7) (N := some 33) #[true, true, true, true, true, true, true, true, false, false, false, false, false, false] rfl rfl (by kernel_rfl) (by decide) (fun K hK => ?_)
  refine goes_ Tryd.func30 (by kernel_rfl) rfl #[.slice A b.length c] (by rfl) rfl rfl (by (try simp only [List.map_toArray, List.map_cons, List.map_nil]); first | done | rfl) ?_
  refine (slices_Clone_byte_byte.calls A c b b w3 HC3.out hc (clone_bytes (by omega))).mono ?_
  rintro e w4 ⟨vb, rfl, hR, hb⟩
  refine ⟨_, rfl, ?_⟩
  obtain ⟨Av, cv, rfl, _, _⟩ := Kd.R_reads hR
  have HD4 := Lib.hid (HD3.out.below hb)
  have HK4 := Lib.hid (HK3.out.below hb)
  have HV4 : Hid (Kd.R (Kd.int .u8) 5 w4 w0.heap.size (fun k => w3.heap.size ≤ k) (.slice Av b.length cv) b) := Lib.hid (Kd.R_lower (Kd.R_mono (Kd.R_bound hR) (fun k hk => hk.2.1)) HD3.out.hb.size)
  have hlt := Lib.hid (show S < w3.heap.size ∧ E < w3.heap.size from ⟨heap_lt HD3.out.hS, heap_lt HD3.out.hE⟩)
  have HV5 : Hid (Kd.R (Kd.int .u8) 5 w4 w0.heap.size (fun k => k ≠ S ∧ k ≠ E) (.slice Av b.length cv) b) := Lib.hid (Kd.R_mono HV4.out (fun k hk => by have := hlt.out; omega))
  refine hK.out _ _ (cell_eq (blk_cell HD4.out.hp 2) rfl) (fun hHeld => ?_)
  clear hK K HV4 hlt hR hb HD3 HK3 HC3
  refine pure_ (i := 8) (N := some 34) (v := ?_) (a' := ?_) #[true, true, true, true, true, true, true, true, true, false, false, false, false, false] rfl rfl (by kernel_rfl) (fun c a w h => HP.out c a _ _ w h) (Or.inl ⟨by rfl, ?_⟩) ?_ ?_
  rotate_left
  · intro w'
    go_simp
    with_reducible rfl
  rotate_left
  · simp only [Act.put, List.setIfInBounds_toArray, List.set_cons_zero, List.set_cons_succ, i64_w, i32_w]
    rfl
  refine one_ (i := 9) (N := some 35) #[true, true, true, true, true, true, true, true, true, true, false, false, false, false] rfl rfl (by kernel_rfl) (by decide) (fun K hK => ?_)
  refine runs_ (by rfl) rfl (v := .slice (some ⟨w4.heap.size, 0, none⟩) 1 1) (w1 := w4.alloc (.cells #[.int .i64 at', .slice Av b.length cv] 81)) ?_ ?_
  · go_simp
  have HD5 := Lib.hid (HD4.out.below (w1 := w4.alloc (.cells #[.int .i64 at', .slice Av b.length cv] 81)) below_new_)
  have HK5 := Lib.hid (HK4.out.alloc (.cells #[.int .i64 at', .slice Av b.length cv] 81))
  have HV6 := Lib.hid (Kd.R_below HV5.out (w1 := w4.alloc (.cells #[.int .i64 at', .slice Av b.length cv] 81)) below_new_)
  have HN5 := Lib.hid (alloc_blk w4 #[.int .i64 at', .slice Av b.length cv] 81)
  refine hK.out _ _ (cell_eq (blk_cell HD5.out.hp 2) rfl) (fun hHeld => ?_)
  clear hK K HD4 HK4 HV5
  generalize w4.heap.size = x at HN5 ⊢
  generalize w4.alloc (.cells #[.int .i64 at', .slice Av b.length cv] 81) = w5 at hHeld HD5 HK5 HV6 HN5 ⊢
  refine one_ (i := 10) (N := some 36) #[true, true, true, true, true, true, true, true, true, true, true, false, false, false] rfl rfl (by kernel_rfl) (by decide) (fun K hK => ?_)
  refine step_append_grows rfl (.tmp 30) (.tmp 35) 52 rfl 81 i0 (.agg #[.int .i64 0, .slice none 0 0]) 2 32 Tryd.underlying52 hi hz0 hz1 hz2 rfl (by decide) none 0 0 [] rfl (fun _ => ⟨rfl, rfl⟩) rfl (by intro b hb; cases hb) ⟨x, 0, none⟩ 1 1 [.int .i64 at', .slice Av b.length cv] rfl rfl ?_ ?_ (by decide) (by unfold maxLen; omega) (by omega) ?_
  · intro j u hj
    rw [show (⟨x, 0, none⟩ : Addr).add j = ⟨x, j, none⟩ from by unfold Addr.add; split <;> simp_all, blk_cell HN5.out j]
    simpa using hj
  · intro u hu
    simp at hu
    rcases hu with rfl | rfl <;> rfl
  intro v' w6 hown hgrow
  have hb6 : Below w5.heap.size w5 w6 := (Below.refl _ _).grown hgrow (Nat.le_refl _) (fun k h => by cases h)
  obtain ⟨q, cq, curq, rfl, hq, htq⟩ : ∃ q cq curq, v' = .slice (some ⟨q, 0, none⟩) 1 cq ∧ w6.heap[q]? = some (.cells curq 81 (0, 0)) ∧ curq.toList.take 2 = [.int .i64 at', .slice Av b.length cv] := by
    rcases hown.2 with ⟨_, h0⟩ | ⟨q, cap, curq, rfl, _, hh, _, _, _, ht⟩
    · exact absurd h0 (by decide)
    · exact ⟨q, cap, curq, rfl, hh, ht⟩
  have HD6 := Lib.hid (HD5.out.below hb6)
  have HK6 := Lib.hid (HK5.out.below hb6)
  have HV7 := Lib.hid (Kd.R_below HV6.out hb6)
  have HQ6 := Lib.hid (And.intro hq htq)
  clear hq htq hown hgrow hb6 HD5 HK5 HV6 HN5
  refine hK.out _ _ (cell_eq (blk_cell HD6.out.hp 2) rfl) (fun hHeld => ?_)
  clear hK K
  refine pure_ (i := 11) (N := some 37) (v := ?_) (a' := ?_) #[true, true, true, true, true, true, true, true, true, true, true, true, false, false] rfl rfl (by kernel_rfl) (fun c a w h => HP.out c a _ _ w h) (Or.inl ⟨by rfl, ?_⟩) ?_ ?_
  rotate_left
  · intro w'
    go_simp
    with_reducible rfl
  rotate_left
  · simp only [Act.put, List.setIfInBounds_toArray, List.set_cons_zero, List.set_cons_succ, i64_w, i32_w]
    rfl
  refine pure_ (i := 12) (N := some 38) (v := ?_) (a' := ?_) #[true, true, true, true, true, true, true, true, true, true, true, true, true, false] rfl rfl (by kernel_rfl) (fun c a w h => HP.out c a _ _ w h) (Or.inl ⟨by rfl, ?_⟩) ?_ ?_
  rotate_left
  · intro w'
    go_simp
    with_reducible rfl
  rotate_left
  · simp only [Act.put, List.setIfInBounds_toArray, List.set_cons_zero, List.set_cons_succ, i64_w, i32_w]
    rfl
  refine last_ (i := 13) (N := none) #[true, true, true, true, true, true, true, true, true, true, true, true, true, true] rfl rfl (by kernel_rfl) (by decide) (fun K hK => ?_)
  have hcp := cell_eq (blk_cell HD6.out.hp 2) rfl
  have hfp := blk_frozen HD6.out.hp 2
  refine skip_ (w1 := w6.setCell ⟨p, 2, none⟩ (.slice (some ⟨q, 0, none⟩) 1 cq)) (by rfl) rfl ?_ ?_
  · go_simp
  refine hK.out _ _ ?_
  clear hK K
  refine done_ (by kernel_rfl) ?_
  refine HE.out _ _ _ _ _ _ _ _ _ _ _ _ _ _ _ (Lib.hid (HD6.out.set2 (.slice (some ⟨q, 0, none⟩) 1 cq))) (Lib.hid (HK6.out.setCell (.inl (.inl rfl)) _)) (Lib.hid ⟨q, cq, curq, _, rfl, ?_, HQ6.out.2, ?_⟩)
  · exact set_other HQ6.out.1 _ _ (ne_type HQ6.out.1 HD6.out.hp (by decide))
  · refine R_ok_weaken' (Kd.R_step (Kd.R_bound HV7.out) (fun k hk _ => heap_setCell_other _ _ k _ ?_))
    obtain ⟨_, _, _, q', hq', cells, hcells⟩ := hk
    have e5 : q' = 5 := by simpa [Kd.int, Kd.scalar] using hq'
    subst e5
    exact ne_type hcells HD6.out.hp (by decide)
end Go.Proofs.YtndelndgioojgaaDoor.Own
