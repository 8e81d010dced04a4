-- own text: texts of this session merged by a program of it (merge.py), declarations that nothing reaches left out (prune.py)
import Derived.Test.YtinjbpbpgogdhaaHa04
section
namespace Go.Proofs.Ytinjbpbpgogdhaa.Own
open Go.RowKit Go.Proofs.YtinjbpbpgogdhaaW.PrintWords Go.Proofs.YtinjbpbpgogdhaaW.PrintLast Go.Proofs.YtinjbpbpgogdhaaW.PrintMore
attribute [local go_sem] max2_int min2_int max_two min_two max_three min_three max_four min_four   -- for this text's walks alone
set_option linter.unusedVariables false
set_option linter.unusedSimpArgs false

/-! ### vespersref09_days: function 13 -/
mutual
def vespersref09_days.l0 : Nat → Int → Int → Int → Int → Int → Int → List Int → List Int → List (S58) → List Int → Int → Option (Bool)
  | 0, _, _, _, _, _, _, _, _, _, _, _ => none
  | k + 1, x7, x8, x169000, x169001, x169002, x169003, x169004, x169005, x169006, x169007, x169008 => if x8 < x7 then (if 0 ≤ x8 then (if x8 < (x169006.length : Int) then (if ((rd_T58 x169006 x8).f1) < 0 then (vespersref09_days.j1 k x8 x7 x8 true x169000 x169001 x169002 x169003 x169004 x169005 x169006 x169007 x169008 ((rd_T58 x169006 x8).f0) ((rd_T58 x169006 x8).f1)) else (if ((rd_T58 x169006 x8).f1) > 6 then (vespersref09_days.j1 k x8 x7 x8 true x169000 x169001 x169002 x169003 x169004 x169005 x169006 x169007 x169008 ((rd_T58 x169006 x8).f0) ((rd_T58 x169006 x8).f1)) else (if ((rd_T58 x169006 x8).f0) < (-5) then (vespersref09_days.j1 k x8 x7 x8 true x169000 x169001 x169002 x169003 x169004 x169005 x169006 x169007 x169008 ((rd_T58 x169006 x8).f0) ((rd_T58 x169006 x8).f1)) else (vespersref09_days.j1 k x8 x7 x8 (decide (((rd_T58 x169006 x8).f0) > 5)) x169000 x169001 x169002 x169003 x169004 x169005 x169006 x169007 x169008 ((rd_T58 x169006 x8).f0) ((rd_T58 x169006 x8).f1))))) else (none)) else (none)) else (some true)
def vespersref09_days.j1 : Nat → Int → Int → Int → Bool → Int → Int → Int → Int → List Int → List Int → List (S58) → List Int → Int → Int → Int → Option (Bool)
  | 0, _, _, _, _, _, _, _, _, _, _, _, _, _, _, _ => none
  | k + 1, x3, x7, x8, x33, x169000, x169001, x169002, x169003, x169004, x169005, x169006, x169007, x169008, x171000, x171001 => if x33 = true then (some false) else (if x171000 = 0 then (vespersref09_days.j2 k x3 x7 x8 false x169000 x169001 x169002 x169003 x169004 x169005 x169006 x169007 x169008 x171000 x171001) else (if x169000 < 3 then (vespersref09_days.j2 k x3 x7 x8 true x169000 x169001 x169002 x169003 x169004 x169005 x169006 x169007 x169008 x171000 x171001) else (if x169000 = 4 then (vespersref09_days.j2 k x3 x7 x8 ((x169004.length : Int) == 0) x169000 x169001 x169002 x169003 x169004 x169005 x169006 x169007 x169008 x171000 x171001) else (vespersref09_days.j2 k x3 x7 x8 false x169000 x169001 x169002 x169003 x169004 x169005 x169006 x169007 x169008 x171000 x171001))))
def vespersref09_days.j2 : Nat → Int → Int → Int → Bool → Int → Int → Int → Int → List Int → List Int → List (S58) → List Int → Int → Int → Int → Option (Bool)
  | 0, _, _, _, _, _, _, _, _, _, _, _, _, _, _, _ => none
  | k + 1, x3, x7, x8, x52, x169000, x169001, x169002, x169003, x169004, x169005, x169006, x169007, x169008, x171000, x171001 => if x52 = true then (some false) else (if x3 > 0 then (if 0 ≤ (wrap64 (x3 - 1)) then (if (wrap64 (x3 - 1)) < (x169006.length : Int) then (if ((rd_T58 x169006 (wrap64 (x3 - 1))).f0) > x171000 then (some false) else (if ((rd_T58 x169006 (wrap64 (x3 - 1))).f0) = x171000 then (if ((rd_T58 x169006 (wrap64 (x3 - 1))).f1) ≥ x171001 then (some false) else (vespersref09_days.l0 k x7 (wrap64 (x8 + 1)) x169000 x169001 x169002 x169003 x169004 x169005 x169006 x169007 x169008)) else (vespersref09_days.l0 k x7 (wrap64 (x8 + 1)) x169000 x169001 x169002 x169003 x169004 x169005 x169006 x169007 x169008))) else (none)) else (none)) else (vespersref09_days.l0 k x7 (wrap64 (x8 + 1)) x169000 x169001 x169002 x169003 x169004 x169005 x169006 x169007 x169008))
end
def vespersref09_days.f (k : Nat) (a0_0 : Int) (a0_1 : Int) (a0_2 : Int) (a0_3 : Int) (l0_4 : List Int) (l0_5 : List Int) (l0_6 : List (S58)) (l0_7 : List Int) (a0_8 : Int) : Option (Bool) := vespersref09_days.l0 k (l0_6.length : Int) 0 a0_0 a0_1 a0_2 a0_3 l0_4 l0_5 l0_6 l0_7 a0_8
theorem vespersref09_days.mono_l : ∀ k, (∀ y0 y1 y2 y3 y4 y5 y6 y7 y8 y9 y10, LeO (vespersref09_days.l0 k y0 y1 y2 y3 y4 y5 y6 y7 y8 y9 y10) (vespersref09_days.l0 (k + 1) y0 y1 y2 y3 y4 y5 y6 y7 y8 y9 y10)) ∧ (∀ y0 y1 y2 y3 y4 y5 y6 y7 y8 y9 y10 y11 y12 y13 y14, LeO (vespersref09_days.j1 k y0 y1 y2 y3 y4 y5 y6 y7 y8 y9 y10 y11 y12 y13 y14) (vespersref09_days.j1 (k + 1) y0 y1 y2 y3 y4 y5 y6 y7 y8 y9 y10 y11 y12 y13 y14)) ∧ (∀ y0 y1 y2 y3 y4 y5 y6 y7 y8 y9 y10 y11 y12 y13 y14, LeO (vespersref09_days.j2 k y0 y1 y2 y3 y4 y5 y6 y7 y8 y9 y10 y11 y12 y13 y14) (vespersref09_days.j2 (k + 1) y0 y1 y2 y3 y4 y5 y6 y7 y8 y9 y10 y11 y12 y13 y14))
  | 0 => ⟨fun _ _ _ _ _ _ _ _ _ _ _ r h => by simp [vespersref09_days.l0] at h, fun _ _ _ _ _ _ _ _ _ _ _ _ _ _ _ r h => by simp [vespersref09_days.j1] at h, fun _ _ _ _ _ _ _ _ _ _ _ _ _ _ _ r h => by simp [vespersref09_days.j2] at h⟩
  | k + 1 => by
    obtain ⟨ih0, ih1, ih2⟩ := vespersref09_days.mono_l k
    refine ⟨?_, ?_, ?_⟩
    · intro y0 y1 y2 y3 y4 y5 y6 y7 y8 y9 y10
      unfold vespersref09_days.l0
      repeat' first
      | (with_reducible exact ih0 _ _ _ _ _ _ _ _ _ _ _)
      | (with_reducible exact ih1 _ _ _ _ _ _ _ _ _ _ _ _ _ _ _)
      | (with_reducible exact ih2 _ _ _ _ _ _ _ _ _ _ _ _ _ _ _)
      | (with_reducible exact LeO.refl _)
      | (with_reducible exact LeO.none _)
      | (with_reducible refine LeO.ite ?_ ?_)
      | (with_reducible refine LeO.bind ?_ (fun _ => ?_))
      | exact ih0 _ _ _ _ _ _ _ _ _ _ _
      | exact ih1 _ _ _ _ _ _ _ _ _ _ _ _ _ _ _
      | exact ih2 _ _ _ _ _ _ _ _ _ _ _ _ _ _ _
      | exact LeO.none _
      | refine LeO.ite ?_ ?_
      | refine LeO.bind ?_ (fun _ => ?_)
    · intro y0 y1 y2 y3 y4 y5 y6 y7 y8 y9 y10 y11 y12 y13 y14
      unfold vespersref09_days.j1
      repeat' first
      | (with_reducible exact ih0 _ _ _ _ _ _ _ _ _ _ _)
      | (with_reducible exact ih1 _ _ _ _ _ _ _ _ _ _ _ _ _ _ _)
      | (with_reducible exact ih2 _ _ _ _ _ _ _ _ _ _ _ _ _ _ _)
      | (with_reducible exact LeO.refl _)
      | (with_reducible exact LeO.none _)
      | (with_reducible refine LeO.ite ?_ ?_)
      | (with_reducible refine LeO.bind ?_ (fun _ => ?_))
      | exact ih0 _ _ _ _ _ _ _ _ _ _ _
      | exact ih1 _ _ _ _ _ _ _ _ _ _ _ _ _ _ _
      | exact ih2 _ _ _ _ _ _ _ _ _ _ _ _ _ _ _
      | exact LeO.none _
      | refine LeO.ite ?_ ?_
      | refine LeO.bind ?_ (fun _ => ?_)
    · intro y0 y1 y2 y3 y4 y5 y6 y7 y8 y9 y10 y11 y12 y13 y14
      unfold vespersref09_days.j2
      repeat' first
      | (with_reducible exact ih0 _ _ _ _ _ _ _ _ _ _ _)
      | (with_reducible exact ih1 _ _ _ _ _ _ _ _ _ _ _ _ _ _ _)
      | (with_reducible exact ih2 _ _ _ _ _ _ _ _ _ _ _ _ _ _ _)
      | (with_reducible exact LeO.refl _)
      | (with_reducible exact LeO.none _)
      | (with_reducible refine LeO.ite ?_ ?_)
      | (with_reducible refine LeO.bind ?_ (fun _ => ?_))
      | exact ih0 _ _ _ _ _ _ _ _ _ _ _
      | exact ih1 _ _ _ _ _ _ _ _ _ _ _ _ _ _ _
      | exact ih2 _ _ _ _ _ _ _ _ _ _ _ _ _ _ _
      | exact LeO.none _
      | refine LeO.ite ?_ ?_
      | refine LeO.bind ?_ (fun _ => ?_)
theorem vespersref09_days.mono : ∀ a0 a1 a2 a3 a4 a5 a6 a7 a8 k, LeO (vespersref09_days.f k a0 a1 a2 a3 a4 a5 a6 a7 a8) (vespersref09_days.f (k + 1) a0 a1 a2 a3 a4 a5 a6 a7 a8) := by
  intro a0 a1 a2 a3 a4 a5 a6 a7 a8 k
  obtain ⟨ih0, ih1, ih2⟩ := vespersref09_days.mono_l k
  unfold vespersref09_days.f
  repeat' first
      | (with_reducible exact ih0 _ _ _ _ _ _ _ _ _ _ _)
      | (with_reducible exact ih1 _ _ _ _ _ _ _ _ _ _ _ _ _ _ _)
      | (with_reducible exact ih2 _ _ _ _ _ _ _ _ _ _ _ _ _ _ _)
      | (with_reducible exact LeO.refl _)
      | (with_reducible exact LeO.none _)
      | (with_reducible refine LeO.ite ?_ ?_)
      | (with_reducible refine LeO.bind ?_ (fun _ => ?_))
      | exact ih0 _ _ _ _ _ _ _ _ _ _ _
      | exact ih1 _ _ _ _ _ _ _ _ _ _ _ _ _ _ _
      | exact ih2 _ _ _ _ _ _ _ _ _ _ _ _ _ _ _
      | exact LeO.none _
      | refine LeO.ite ?_ ?_
      | refine LeO.bind ?_ (fun _ => ?_)
set_option maxHeartbeats 8000000 in
set_option maxRecDepth 100000 in
theorem vespersref09_days.calls (k : Nat) (a0_0 : Int) (a0_1 : Int) (a0_2 : Int) (a0_3 : Int) (A0_4 : Option Addr) (c0_4 : Nat) (l0_4 : List Int) (A0_5 : Option Addr) (c0_5 : Nat) (l0_5 : List Int) (A0_6 : Option Addr) (c0_6 : Nat) (l0_6 : List (S58)) (A0_7 : Option Addr) (c0_7 : Nat) (l0_7 : List Int) (a0_8 : Int) (r : Bool) (w : World) (hr0_4 : Kd.C (Kd.int .i64) w A0_4 l0_4.length l0_4) (hc0_4 : l0_4.length ≤ c0_4) (hr0_5 : Kd.C (Kd.int .i64) w A0_5 l0_5.length l0_5) (hc0_5 : l0_5.length ≤ c0_5) (hr0_6 : Kd.C k58 w A0_6 l0_6.length l0_6) (hc0_6 : l0_6.length ≤ c0_6) (hr0_7 : Kd.C (Kd.int .i64) w A0_7 l0_7.length l0_7) (hc0_7 : l0_7.length ≤ c0_7) (h : vespersref09_days.f k a0_0 a0_1 a0_2 a0_3 l0_4 l0_5 l0_6 l0_7 a0_8 = some r) :
    Calls Try.prog 13 #[.agg #[.int .i64 a0_0, .int .i64 a0_1, .int .i64 a0_2, .int .i64 a0_3, .slice A0_4 l0_4.length c0_4, .slice A0_5 l0_5.length c0_5, .slice A0_6 l0_6.length c0_6, .slice A0_7 l0_7.length c0_7, .int .i64 a0_8]] w fun e w' => e = .returned (.bool r) ∧ Below w.heap.size w w' := by
  have hu25 := Try.underlying25
  have hu58 := Try.underlying58
  have HR0_4 := Aside0.mk hr0_4
  have HC0_4 := Aside0.mk hc0_4
  clear hr0_4 hc0_4
  have HR0_5 := Aside0.mk hr0_5
  have HC0_5 := Aside0.mk hc0_5
  clear hr0_5 hc0_5
  have HR0_6 := Aside0.mk hr0_6
  have HC0_6 := Aside0.mk hc0_6
  clear hr0_6 hc0_6
  have HR0_7 := Aside0.mk hr0_7
  have HC0_7 := Aside0.mk hc0_7
  clear hr0_7 hc0_7
  have HB := Aside0.mk (Below.refl w.heap.size w)
  have H : (vespersref09_days.l0 k (l0_6.length : Int) 0 a0_0 a0_1 a0_2 a0_3 l0_4 l0_5 l0_6 l0_7 a0_8) = some r := h
  clear h
  have H' := Aside0.mk H
  clear H
  go_enter Try.func13, Try.ntmps13
  go_wp2_with (first | ((with_reducible refine gate_dst (N := 1) rfl ?_); (try (refine gate_guard (by rfl) ?_; dsimp only)); refine box_event ?hg (N := 1) ?hd (cs := #[.int .i64 a0_0, .int .i64 a0_1, .int .i64 a0_2, .int .i64 a0_3, .slice A0_4 l0_4.length c0_4, .slice A0_5 l0_5.length c0_5, .slice A0_6 l0_6.length c0_6, .slice A0_7 l0_7.length c0_7, .int .i64 a0_8]) (t := 25) ?hr ?_; (case hd => rfl); (case hg => rfl); (case hr => first | (go_simp; done) | (go_simp; rfl)); intro gb168 hg w2 hbox hb; have n0_ := Aside0.mk (below_step (by repeat (first | (with_reducible first | exact HB.out | apply below_alloc | apply pw_below_drewN | apply below_drew1) | exact HB.out)) hb); have n1_ := Aside0.mk (hbox); have n2_ := Aside0.mk ((by rw [hg]; exact (below_size (by repeat (first | (with_reducible first | exact HB.out | apply below_alloc | apply pw_below_drewN | apply below_drew1) | exact HB.out))) : w.heap.size ≤ gb168)); have n3_ := Aside0.mk ((by rw [hg]; exact (below_size (by repeat (first | (with_reducible first | exact HB.out | apply below_alloc | apply pw_below_drewN | apply below_drew1) | exact HB.out))) : w.heap.size ≤ gb168)); clear HB; have HB := n0_; have BK168 := n1_; have GW168 := n2_; have GE168 := n3_; clear n0_ n1_ n2_ n3_; clear hb hbox hg; have hcz3_0 : w2.cell? ⟨gb168, 0, none⟩ = some (.int .i64 a0_0) := (blk_cell BK168.out 0).trans rfl; have hcz3_1 : w2.cell? ⟨gb168, 1, none⟩ = some (.int .i64 a0_1) := (blk_cell BK168.out 1).trans rfl; have hcz3_2 : w2.cell? ⟨gb168, 2, none⟩ = some (.int .i64 a0_2) := (blk_cell BK168.out 2).trans rfl; have hcz3_3 : w2.cell? ⟨gb168, 3, none⟩ = some (.int .i64 a0_3) := (blk_cell BK168.out 3).trans rfl; have hcz3_4 : w2.cell? ⟨gb168, 4, none⟩ = some (.slice A0_4 l0_4.length c0_4) := (blk_cell BK168.out 4).trans rfl; have hcz3_5 : w2.cell? ⟨gb168, 5, none⟩ = some (.slice A0_5 l0_5.length c0_5) := (blk_cell BK168.out 5).trans rfl; have hcz3_6 : w2.cell? ⟨gb168, 6, none⟩ = some (.slice A0_6 l0_6.length c0_6) := (blk_cell BK168.out 6).trans rfl; have hcz3_7 : w2.cell? ⟨gb168, 7, none⟩ = some (.slice A0_7 l0_7.length c0_7) := (blk_cell BK168.out 7).trans rfl; have hcz3_8 : w2.cell? ⟨gb168, 8, none⟩ = some (.int .i64 a0_8) := (blk_cell BK168.out 8).trans rfl; have hfz3_0 := blk_frozen BK168.out 0; have hfz3_1 := blk_frozen BK168.out 1; have hfz3_2 := blk_frozen BK168.out 2; have hfz3_3 := blk_frozen BK168.out 3; have hfz3_4 := blk_frozen BK168.out 4; have hfz3_5 := blk_frozen BK168.out 5; have hfz3_6 := blk_frozen BK168.out 6; have hfz3_7 := blk_frozen BK168.out 7; have hfz3_8 := blk_frozen BK168.out 8))
  repeat (go_quiet (first | ((with_reducible refine gate_dst (N := 1) rfl ?_); (try (refine gate_guard (by rfl) ?_; dsimp only)); refine box_event ?hg (N := 1) ?hd (cs := #[.int .i64 a0_0, .int .i64 a0_1, .int .i64 a0_2, .int .i64 a0_3, .slice A0_4 l0_4.length c0_4, .slice A0_5 l0_5.length c0_5, .slice A0_6 l0_6.length c0_6, .slice A0_7 l0_7.length c0_7, .int .i64 a0_8]) (t := 25) ?hr ?_; (case hd => rfl); (case hg => rfl); (case hr => first | (go_simp; done) | (go_simp; rfl)); intro gb168 hg w2 hbox hb; have n0_ := Aside0.mk (below_step (by repeat (first | (with_reducible first | exact HB.out | apply below_alloc | apply pw_below_drewN | apply below_drew1) | exact HB.out)) hb); have n1_ := Aside0.mk (hbox); have n2_ := Aside0.mk ((by rw [hg]; exact (below_size (by repeat (first | (with_reducible first | exact HB.out | apply below_alloc | apply pw_below_drewN | apply below_drew1) | exact HB.out))) : w.heap.size ≤ gb168)); have n3_ := Aside0.mk ((by rw [hg]; exact (below_size (by repeat (first | (with_reducible first | exact HB.out | apply below_alloc | apply pw_below_drewN | apply below_drew1) | exact HB.out))) : w.heap.size ≤ gb168)); clear HB; have HB := n0_; have BK168 := n1_; have GW168 := n2_; have GE168 := n3_; clear n0_ n1_ n2_ n3_; clear hb hbox hg; have hcz3_0 : w2.cell? ⟨gb168, 0, none⟩ = some (.int .i64 a0_0) := (blk_cell BK168.out 0).trans rfl; have hcz3_1 : w2.cell? ⟨gb168, 1, none⟩ = some (.int .i64 a0_1) := (blk_cell BK168.out 1).trans rfl; have hcz3_2 : w2.cell? ⟨gb168, 2, none⟩ = some (.int .i64 a0_2) := (blk_cell BK168.out 2).trans rfl; have hcz3_3 : w2.cell? ⟨gb168, 3, none⟩ = some (.int .i64 a0_3) := (blk_cell BK168.out 3).trans rfl; have hcz3_4 : w2.cell? ⟨gb168, 4, none⟩ = some (.slice A0_4 l0_4.length c0_4) := (blk_cell BK168.out 4).trans rfl; have hcz3_5 : w2.cell? ⟨gb168, 5, none⟩ = some (.slice A0_5 l0_5.length c0_5) := (blk_cell BK168.out 5).trans rfl; have hcz3_6 : w2.cell? ⟨gb168, 6, none⟩ = some (.slice A0_6 l0_6.length c0_6) := (blk_cell BK168.out 6).trans rfl; have hcz3_7 : w2.cell? ⟨gb168, 7, none⟩ = some (.slice A0_7 l0_7.length c0_7) := (blk_cell BK168.out 7).trans rfl; have hcz3_8 : w2.cell? ⟨gb168, 8, none⟩ = some (.int .i64 a0_8) := (blk_cell BK168.out 8).trans rfl; have hfz3_0 := blk_frozen BK168.out 0; have hfz3_1 := blk_frozen BK168.out 1; have hfz3_2 := blk_frozen BK168.out 2; have hfz3_3 := blk_frozen BK168.out 3; have hfz3_4 := blk_frozen BK168.out 4; have hfz3_5 := blk_frozen BK168.out 5; have hfz3_6 := blk_frozen BK168.out 6; have hfz3_7 := blk_frozen BK168.out 7; have hfz3_8 := blk_frozen BK168.out 8)); try go_wp2_with (first | ((with_reducible refine gate_dst (N := 1) rfl ?_); (try (refine gate_guard (by rfl) ?_; dsimp only)); refine box_event ?hg (N := 1) ?hd (cs := #[.int .i64 a0_0, .int .i64 a0_1, .int .i64 a0_2, .int .i64 a0_3, .slice A0_4 l0_4.length c0_4, .slice A0_5 l0_5.length c0_5, .slice A0_6 l0_6.length c0_6, .slice A0_7 l0_7.length c0_7, .int .i64 a0_8]) (t := 25) ?hr ?_; (case hd => rfl); (case hg => rfl); (case hr => first | (go_simp; done) | (go_simp; rfl)); intro gb168 hg w2 hbox hb; have n0_ := Aside0.mk (below_step (by repeat (first | (with_reducible first | exact HB.out | apply below_alloc | apply pw_below_drewN | apply below_drew1) | exact HB.out)) hb); have n1_ := Aside0.mk (hbox); have n2_ := Aside0.mk ((by rw [hg]; exact (below_size (by repeat (first | (with_reducible first | exact HB.out | apply below_alloc | apply pw_below_drewN | apply below_drew1) | exact HB.out))) : w.heap.size ≤ gb168)); have n3_ := Aside0.mk ((by rw [hg]; exact (below_size (by repeat (first | (with_reducible first | exact HB.out | apply below_alloc | apply pw_below_drewN | apply below_drew1) | exact HB.out))) : w.heap.size ≤ gb168)); clear HB; have HB := n0_; have BK168 := n1_; have GW168 := n2_; have GE168 := n3_; clear n0_ n1_ n2_ n3_; clear hb hbox hg; have hcz3_0 : w2.cell? ⟨gb168, 0, none⟩ = some (.int .i64 a0_0) := (blk_cell BK168.out 0).trans rfl; have hcz3_1 : w2.cell? ⟨gb168, 1, none⟩ = some (.int .i64 a0_1) := (blk_cell BK168.out 1).trans rfl; have hcz3_2 : w2.cell? ⟨gb168, 2, none⟩ = some (.int .i64 a0_2) := (blk_cell BK168.out 2).trans rfl; have hcz3_3 : w2.cell? ⟨gb168, 3, none⟩ = some (.int .i64 a0_3) := (blk_cell BK168.out 3).trans rfl; have hcz3_4 : w2.cell? ⟨gb168, 4, none⟩ = some (.slice A0_4 l0_4.length c0_4) := (blk_cell BK168.out 4).trans rfl; have hcz3_5 : w2.cell? ⟨gb168, 5, none⟩ = some (.slice A0_5 l0_5.length c0_5) := (blk_cell BK168.out 5).trans rfl; have hcz3_6 : w2.cell? ⟨gb168, 6, none⟩ = some (.slice A0_6 l0_6.length c0_6) := (blk_cell BK168.out 6).trans rfl; have hcz3_7 : w2.cell? ⟨gb168, 7, none⟩ = some (.slice A0_7 l0_7.length c0_7) := (blk_cell BK168.out 7).trans rfl; have hcz3_8 : w2.cell? ⟨gb168, 8, none⟩ = some (.int .i64 a0_8) := (blk_cell BK168.out 8).trans rfl; have hfz3_0 := blk_frozen BK168.out 0; have hfz3_1 := blk_frozen BK168.out 1; have hfz3_2 := blk_frozen BK168.out 2; have hfz3_3 := blk_frozen BK168.out 3; have hfz3_4 := blk_frozen BK168.out 4; have hfz3_5 := blk_frozen BK168.out 5; have hfz3_6 := blk_frozen BK168.out 6; have hfz3_7 := blk_frozen BK168.out 7; have hfz3_8 := blk_frozen BK168.out 8)))
  go_loopg [8] k (fun kq v8 w' => ∃ (x8_1 : Int), v8 = .int .i64 x8_1 ∧ Aside0 (vespersref09_days.l0 kq (l0_6.length : Int) x8_1 a0_0 a0_1 a0_2 a0_3 l0_4 l0_5 l0_6 l0_7 a0_8 = some r) ∧ Aside0 (kq ≤ k) ∧ Aside0 (w'.heap[gb168]? = some (.cells #[.int .i64 a0_0, .int .i64 a0_1, .int .i64 a0_2, .int .i64 a0_3, (.slice A0_4 l0_4.length c0_4), (.slice A0_5 l0_5.length c0_5), (.slice A0_6 l0_6.length c0_6), (.slice A0_7 l0_7.length c0_7), .int .i64 a0_8] 25 (0, 0))) ∧ Aside0 (Below w.heap.size w w'))
  case atStart => exact ⟨(0), (by first | rfl | (simp; done) | (simp [*]; done)), H', ⟨Nat.le_refl _⟩, ⟨by (with_reducible repeat (first | refine blk_drewN ?_ _ | refine blk_drew ?_ | refine blk_alloc ?_ _)); exact BK168.out⟩, ⟨by repeat (first | (with_reducible first | exact HB.out | apply below_alloc | apply pw_below_drewN | apply below_drew1 | refine below_set ?_ GE168.out) | exact HB.out)⟩⟩
  case round =>
    clear H'
    try clear c1
    try clear p2
    try clear hcz3_0
    try clear hcz3_1
    try clear hcz3_2
    try clear hcz3_3
    try clear hcz3_4
    try clear hcz3_5
    try clear hcz3_6
    try clear hcz3_7
    try clear hcz3_8
    try clear hfz3_0
    try clear hfz3_1
    try clear hfz3_2
    try clear hfz3_3
    try clear hfz3_4
    try clear hfz3_5
    try clear hfz3_6
    try clear hfz3_7
    try clear hfz3_8
    obtain ⟨x8_1, rfl, HA, HK1, BK168, HB⟩ := hrel
    cases gk with
    | zero => exact absurd HA.out (by simp [vespersref09_days.l0])
    | succ k1 =>
      have H := HA.out
      clear HA
      simp only [vespersref09_days.l0] at H
      by_cases c4 : x8_1 < (l0_6.length : Int)
      · rw [if_pos c4] at H
        have c4b0 : decide (x8_1 < (l0_6.length : Int)) = true := decide_eq_true c4
        clear c4
        by_cases c5 : 0 ≤ x8_1
        · rw [if_pos c5] at H
          have c5b0 : decide (0 ≤ x8_1) = true := decide_eq_true c5
          clear c5
          by_cases c6 : x8_1 < (l0_6.length : Int)
          · rw [if_pos c6] at H
            have c6b0 : decide (x8_1 < (l0_6.length : Int)) = true := decide_eq_true c6
            clear c6
            have HC7 := Aside0.mk H
            clear H
            have hcz8_0 : wr.cell? ⟨gb168, 0, none⟩ = some (.int .i64 a0_0) := (blk_cell BK168.out 0).trans rfl
            have hcz8_1 : wr.cell? ⟨gb168, 1, none⟩ = some (.int .i64 a0_1) := (blk_cell BK168.out 1).trans rfl
            have hcz8_2 : wr.cell? ⟨gb168, 2, none⟩ = some (.int .i64 a0_2) := (blk_cell BK168.out 2).trans rfl
            have hcz8_3 : wr.cell? ⟨gb168, 3, none⟩ = some (.int .i64 a0_3) := (blk_cell BK168.out 3).trans rfl
            have hcz8_4 : wr.cell? ⟨gb168, 4, none⟩ = some (.slice A0_4 l0_4.length c0_4) := (blk_cell BK168.out 4).trans rfl
            have hcz8_5 : wr.cell? ⟨gb168, 5, none⟩ = some (.slice A0_5 l0_5.length c0_5) := (blk_cell BK168.out 5).trans rfl
            have hcz8_6 : wr.cell? ⟨gb168, 6, none⟩ = some (.slice A0_6 l0_6.length c0_6) := (blk_cell BK168.out 6).trans rfl
            have hcz8_7 : wr.cell? ⟨gb168, 7, none⟩ = some (.slice A0_7 l0_7.length c0_7) := (blk_cell BK168.out 7).trans rfl
            have hcz8_8 : wr.cell? ⟨gb168, 8, none⟩ = some (.int .i64 a0_8) := (blk_cell BK168.out 8).trans rfl
            have hfz8_0 := blk_frozen BK168.out 0
            have hfz8_1 := blk_frozen BK168.out 1
            have hfz8_2 := blk_frozen BK168.out 2
            have hfz8_3 := blk_frozen BK168.out 3
            have hfz8_4 := blk_frozen BK168.out 4
            have hfz8_5 := blk_frozen BK168.out 5
            have hfz8_6 := blk_frozen BK168.out 6
            have hfz8_7 := blk_frozen BK168.out 7
            have hfz8_8 := blk_frozen BK168.out 8
            have p169 : 0 ≤ (x8_1 : Int) := of_decide_eq_true (by first | (with_reducible assumption) | assumption)
            have q169 : x8_1 < (l0_6.length : Int) := of_decide_eq_true (by first | (with_reducible assumption) | assumption)
            obtain ⟨ad169, e169, hx169_0, hx169_1⟩ := at_T58 HR0_6.out x8_1 p169 q169
            cases e169
            replace hx169_0 := (HB.out.cell (World.block_lt_of_cell? w _ hx169_0)).trans hx169_0
            replace hx169_1 := (HB.out.cell (World.block_lt_of_cell? w _ hx169_1)).trans hx169_1
            replace p169 := eq_true p169
            replace q169 := eq_true q169
            go_upto_region 5 with (first | ((with_reducible refine gate_dst (N := 4) rfl ?_); (try (refine gate_guard (by rfl) ?_; dsimp only)); refine box_event ?hg (N := 4) ?hd (cs := #[.int .i64 0, .int .i64 0]) (t := 58) ?hr ?_; (case hd => rfl); (case hg => rfl); (case hr => first | (go_simp; done) | (go_simp; rfl)); intro gb170 hg w9 hbox hb; have n0_ := Aside0.mk (blk_below (g := gb168) (o := .cells #[.int .i64 a0_0, .int .i64 a0_1, .int .i64 a0_2, .int .i64 a0_3, .slice A0_4 l0_4.length c0_4, .slice A0_5 l0_5.length c0_5, .slice (some ad169) l0_6.length c0_6, .slice A0_7 l0_7.length c0_7, .int .i64 a0_8] 25 (0, 0)) (by (with_reducible repeat (first | refine blk_drewN ?_ _ | refine blk_drew ?_ | refine blk_alloc ?_ _)); exact BK168.out) hb); have n1_ := Aside0.mk (below_step (by repeat (first | (with_reducible first | exact HB.out | apply below_alloc | apply pw_below_drewN | apply below_drew1 | refine below_set ?_ GE168.out) | exact HB.out)) hb); have n2_ := Aside0.mk (hbox); have n3_ := Aside0.mk ((by rw [hg]; exact (below_size (by repeat (first | (with_reducible first | exact HB.out | apply below_alloc | apply pw_below_drewN | apply below_drew1 | refine below_set ?_ GE168.out) | exact HB.out))) : w.heap.size ≤ gb170)); have n4_ := Aside0.mk ((by rw [hg]; exact (below_size (by repeat (first | (with_reducible first | exact HB.out | apply below_alloc | apply pw_below_drewN | apply below_drew1 | refine below_set ?_ GE168.out) | exact HB.out))) : w.heap.size ≤ gb170)); have n5_ := Aside0.mk ((by rw [hg]; exact Nat.ne_of_lt (blk_lt (g := gb168) (o := .cells #[.int .i64 a0_0, .int .i64 a0_1, .int .i64 a0_2, .int .i64 a0_3, .slice A0_4 l0_4.length c0_4, .slice A0_5 l0_5.length c0_5, .slice (some ad169) l0_6.length c0_6, .slice A0_7 l0_7.length c0_7, .int .i64 a0_8] 25 (0, 0)) (by (with_reducible repeat (first | refine blk_drewN ?_ _ | refine blk_drew ?_ | refine blk_alloc ?_ _)); exact BK168.out)) : gb168 ≠ gb170)); have n6_ := Aside0.mk ((by rw [hg]; exact Nat.ne_of_gt (blk_lt (g := gb168) (o := .cells #[.int .i64 a0_0, .int .i64 a0_1, .int .i64 a0_2, .int .i64 a0_3, .slice A0_4 l0_4.length c0_4, .slice A0_5 l0_5.length c0_5, .slice (some ad169) l0_6.length c0_6, .slice A0_7 l0_7.length c0_7, .int .i64 a0_8] 25 (0, 0)) (by (with_reducible repeat (first | refine blk_drewN ?_ _ | refine blk_drew ?_ | refine blk_alloc ?_ _)); exact BK168.out)) : gb170 ≠ gb168)); clear BK168; clear HB; have BK168 := n0_; have HB := n1_; have BK170 := n2_; have GW170 := n3_; have GE170 := n4_; have NB168_170 := n5_; have NB170_168 := n6_; clear n0_ n1_ n2_ n3_ n4_ n5_ n6_; clear hb hbox hg; have hnb10 := NB170_168.out; have hnc10 := NB168_170.out; have hcz11_0 : w9.cell? ⟨gb170, 0, none⟩ = some (.int .i64 0) := (blk_cell BK170.out 0).trans rfl; have hcz11_1 : w9.cell? ⟨gb170, 1, none⟩ = some (.int .i64 0) := (blk_cell BK170.out 1).trans rfl; have hfz11_0 := blk_frozen BK170.out 0; have hfz11_1 := blk_frozen BK170.out 1))
            repeat (go_quiet (first | ((with_reducible refine gate_dst (N := 4) rfl ?_); (try (refine gate_guard (by rfl) ?_; dsimp only)); refine box_event ?hg (N := 4) ?hd (cs := #[.int .i64 0, .int .i64 0]) (t := 58) ?hr ?_; (case hd => rfl); (case hg => rfl); (case hr => first | (go_simp; done) | (go_simp; rfl)); intro gb170 hg w9 hbox hb; have n0_ := Aside0.mk (blk_below (g := gb168) (o := .cells #[.int .i64 a0_0, .int .i64 a0_1, .int .i64 a0_2, .int .i64 a0_3, .slice A0_4 l0_4.length c0_4, .slice A0_5 l0_5.length c0_5, .slice (some ad169) l0_6.length c0_6, .slice A0_7 l0_7.length c0_7, .int .i64 a0_8] 25 (0, 0)) (by (with_reducible repeat (first | refine blk_drewN ?_ _ | refine blk_drew ?_ | refine blk_alloc ?_ _)); exact BK168.out) hb); have n1_ := Aside0.mk (below_step (by repeat (first | (with_reducible first | exact HB.out | apply below_alloc | apply pw_below_drewN | apply below_drew1 | refine below_set ?_ GE168.out) | exact HB.out)) hb); have n2_ := Aside0.mk (hbox); have n3_ := Aside0.mk ((by rw [hg]; exact (below_size (by repeat (first | (with_reducible first | exact HB.out | apply below_alloc | apply pw_below_drewN | apply below_drew1 | refine below_set ?_ GE168.out) | exact HB.out))) : w.heap.size ≤ gb170)); have n4_ := Aside0.mk ((by rw [hg]; exact (below_size (by repeat (first | (with_reducible first | exact HB.out | apply below_alloc | apply pw_below_drewN | apply below_drew1 | refine below_set ?_ GE168.out) | exact HB.out))) : w.heap.size ≤ gb170)); have n5_ := Aside0.mk ((by rw [hg]; exact Nat.ne_of_lt (blk_lt (g := gb168) (o := .cells #[.int .i64 a0_0, .int .i64 a0_1, .int .i64 a0_2, .int .i64 a0_3, .slice A0_4 l0_4.length c0_4, .slice A0_5 l0_5.length c0_5, .slice (some ad169) l0_6.length c0_6, .slice A0_7 l0_7.length c0_7, .int .i64 a0_8] 25 (0, 0)) (by (with_reducible repeat (first | refine blk_drewN ?_ _ | refine blk_drew ?_ | refine blk_alloc ?_ _)); exact BK168.out)) : gb168 ≠ gb170)); have n6_ := Aside0.mk ((by rw [hg]; exact Nat.ne_of_gt (blk_lt (g := gb168) (o := .cells #[.int .i64 a0_0, .int .i64 a0_1, .int .i64 a0_2, .int .i64 a0_3, .slice A0_4 l0_4.length c0_4, .slice A0_5 l0_5.length c0_5, .slice (some ad169) l0_6.length c0_6, .slice A0_7 l0_7.length c0_7, .int .i64 a0_8] 25 (0, 0)) (by (with_reducible repeat (first | refine blk_drewN ?_ _ | refine blk_drew ?_ | refine blk_alloc ?_ _)); exact BK168.out)) : gb170 ≠ gb168)); clear BK168; clear HB; have BK168 := n0_; have HB := n1_; have BK170 := n2_; have GW170 := n3_; have GE170 := n4_; have NB168_170 := n5_; have NB170_168 := n6_; clear n0_ n1_ n2_ n3_ n4_ n5_ n6_; clear hb hbox hg; have hnb10 := NB170_168.out; have hnc10 := NB168_170.out; have hcz11_0 : w9.cell? ⟨gb170, 0, none⟩ = some (.int .i64 0) := (blk_cell BK170.out 0).trans rfl; have hcz11_1 : w9.cell? ⟨gb170, 1, none⟩ = some (.int .i64 0) := (blk_cell BK170.out 1).trans rfl; have hfz11_0 := blk_frozen BK170.out 0; have hfz11_1 := blk_frozen BK170.out 1)); go_upto_region 5 with (first | ((with_reducible refine gate_dst (N := 4) rfl ?_); (try (refine gate_guard (by rfl) ?_; dsimp only)); refine box_event ?hg (N := 4) ?hd (cs := #[.int .i64 0, .int .i64 0]) (t := 58) ?hr ?_; (case hd => rfl); (case hg => rfl); (case hr => first | (go_simp; done) | (go_simp; rfl)); intro gb170 hg w9 hbox hb; have n0_ := Aside0.mk (blk_below (g := gb168) (o := .cells #[.int .i64 a0_0, .int .i64 a0_1, .int .i64 a0_2, .int .i64 a0_3, .slice A0_4 l0_4.length c0_4, .slice A0_5 l0_5.length c0_5, .slice (some ad169) l0_6.length c0_6, .slice A0_7 l0_7.length c0_7, .int .i64 a0_8] 25 (0, 0)) (by (with_reducible repeat (first | refine blk_drewN ?_ _ | refine blk_drew ?_ | refine blk_alloc ?_ _)); exact BK168.out) hb); have n1_ := Aside0.mk (below_step (by repeat (first | (with_reducible first | exact HB.out | apply below_alloc | apply pw_below_drewN | apply below_drew1 | refine below_set ?_ GE168.out) | exact HB.out)) hb); have n2_ := Aside0.mk (hbox); have n3_ := Aside0.mk ((by rw [hg]; exact (below_size (by repeat (first | (with_reducible first | exact HB.out | apply below_alloc | apply pw_below_drewN | apply below_drew1 | refine below_set ?_ GE168.out) | exact HB.out))) : w.heap.size ≤ gb170)); have n4_ := Aside0.mk ((by rw [hg]; exact (below_size (by repeat (first | (with_reducible first | exact HB.out | apply below_alloc | apply pw_below_drewN | apply below_drew1 | refine below_set ?_ GE168.out) | exact HB.out))) : w.heap.size ≤ gb170)); have n5_ := Aside0.mk ((by rw [hg]; exact Nat.ne_of_lt (blk_lt (g := gb168) (o := .cells #[.int .i64 a0_0, .int .i64 a0_1, .int .i64 a0_2, .int .i64 a0_3, .slice A0_4 l0_4.length c0_4, .slice A0_5 l0_5.length c0_5, .slice (some ad169) l0_6.length c0_6, .slice A0_7 l0_7.length c0_7, .int .i64 a0_8] 25 (0, 0)) (by (with_reducible repeat (first | refine blk_drewN ?_ _ | refine blk_drew ?_ | refine blk_alloc ?_ _)); exact BK168.out)) : gb168 ≠ gb170)); have n6_ := Aside0.mk ((by rw [hg]; exact Nat.ne_of_gt (blk_lt (g := gb168) (o := .cells #[.int .i64 a0_0, .int .i64 a0_1, .int .i64 a0_2, .int .i64 a0_3, .slice A0_4 l0_4.length c0_4, .slice A0_5 l0_5.length c0_5, .slice (some ad169) l0_6.length c0_6, .slice A0_7 l0_7.length c0_7, .int .i64 a0_8] 25 (0, 0)) (by (with_reducible repeat (first | refine blk_drewN ?_ _ | refine blk_drew ?_ | refine blk_alloc ?_ _)); exact BK168.out)) : gb170 ≠ gb168)); clear BK168; clear HB; have BK168 := n0_; have HB := n1_; have BK170 := n2_; have GW170 := n3_; have GE170 := n4_; have NB168_170 := n5_; have NB170_168 := n6_; clear n0_ n1_ n2_ n3_ n4_ n5_ n6_; clear hb hbox hg; have hnb10 := NB170_168.out; have hnc10 := NB168_170.out; have hcz11_0 : w9.cell? ⟨gb170, 0, none⟩ = some (.int .i64 0) := (blk_cell BK170.out 0).trans rfl; have hcz11_1 : w9.cell? ⟨gb170, 1, none⟩ = some (.int .i64 0) := (blk_cell BK170.out 1).trans rfl; have hfz11_0 := blk_frozen BK170.out 0; have hfz11_1 := blk_frozen BK170.out 1)))
            (try simp only [Act.put, List.setIfInBounds_toArray, List.set_cons_zero, List.set_cons_succ])
            go_cut [33] (fun v33 wc => ∃ (kq : Nat) (x33_6 : Bool), v33 = .bool x33_6 ∧ Aside0 (vespersref09_days.j1 kq x8_1 (l0_6.length : Int) x8_1 x33_6 a0_0 a0_1 a0_2 a0_3 l0_4 l0_5 l0_6 l0_7 a0_8 ((rd_T58 l0_6 x8_1).f0) ((rd_T58 l0_6 x8_1).f1) = some r) ∧ Aside0 (kq ≤ k1) ∧ Aside0 (wc.heap[gb168]? = some (.cells #[.int .i64 a0_0, .int .i64 a0_1, .int .i64 a0_2, .int .i64 a0_3, (.slice A0_4 l0_4.length c0_4), (.slice A0_5 l0_5.length c0_5), (.slice (some ad169) l0_6.length c0_6), (.slice A0_7 l0_7.length c0_7), .int .i64 a0_8] 25 (0, 0))) ∧ Aside0 (wc.heap[gb170]? = some (.cells #[.int .i64 ((rd_T58 l0_6 x8_1).f0), .int .i64 ((rd_T58 l0_6 x8_1).f1)] 58 (0, 0))) ∧ Aside0 (Below w.heap.size w wc))
            case first =>
              have H := HC7.out
              clear HC7
              by_cases c12 : ((rd_T58 l0_6 x8_1).f1) < 0
              · rw [if_pos c12] at H
                have c12b0 : decide (((rd_T58 l0_6 x8_1).f1) < 0) = true := decide_eq_true c12
                clear c12
                (first | rw [c12b0] | (simp only [i64_w, i32_w]; rw [c12b0]) | skip)
                have H' := Aside0.mk H
                clear H
                have hnb13 := NB170_168.out
                have hnc13 := NB168_170.out
                have hcz14_0 : w9.cell? ⟨gb170, 0, none⟩ = some (.int .i64 0) := (blk_cell BK170.out 0).trans rfl
                have hcz14_1 : w9.cell? ⟨gb170, 1, none⟩ = some (.int .i64 0) := (blk_cell BK170.out 1).trans rfl
                have hfz14_0 := blk_frozen BK170.out 0
                have hfz14_1 := blk_frozen BK170.out 1
                go_wp2
                repeat (go_quiet (fail); try go_wp2)
                go_meet
                case rel => exact ⟨_, (true), (by first | rfl | (simp; done) | (simp [*]; done)), H', ⟨by have := HK1.out; first | omega | exact Nat.le_refl _⟩, ⟨by (with_reducible repeat (first | refine blk_drewN ?_ _ | refine blk_drew ?_ | refine blk_alloc ?_ _)); refine blk_far ?_ NB168_170.out _; (with_reducible repeat (first | refine blk_drewN ?_ _ | refine blk_drew ?_ | refine blk_alloc ?_ _)); refine blk_far ?_ NB168_170.out _; (with_reducible repeat (first | refine blk_drewN ?_ _ | refine blk_drew ?_ | refine blk_alloc ?_ _)); exact BK168.out⟩, ⟨by (with_reducible repeat (first | refine blk_drewN ?_ _ | refine blk_drew ?_ | refine blk_alloc ?_ _)); refine blk_put (cs := #[.int .i64 ((rd_T58 l0_6 x8_1).f0), .int .i64 0]) ?_ 1 _ rfl; (with_reducible repeat (first | refine blk_drewN ?_ _ | refine blk_drew ?_ | refine blk_alloc ?_ _)); refine blk_put (cs := #[.int .i64 0, .int .i64 0]) ?_ 0 _ rfl; (with_reducible repeat (first | refine blk_drewN ?_ _ | refine blk_drew ?_ | refine blk_alloc ?_ _)); exact BK170.out⟩, ⟨by repeat (first | (with_reducible first | exact HB.out | apply below_alloc | apply pw_below_drewN | apply below_drew1 | refine below_set ?_ GE168.out | refine below_set ?_ GE170.out) | exact HB.out)⟩⟩
              · rw [if_neg c12] at H
                have c12b0 : decide (((rd_T58 l0_6 x8_1).f1) < 0) = false := decide_eq_false c12
                clear c12
                (first | rw [c12b0] | (simp only [i64_w, i32_w]; rw [c12b0]) | skip)
                by_cases c15 : ((rd_T58 l0_6 x8_1).f1) > 6
                · rw [if_pos c15] at H
                  have c15b0 : decide (6 < ((rd_T58 l0_6 x8_1).f1)) = true := decide_eq_true c15
                  clear c15
                  have H' := Aside0.mk H
                  clear H
                  have hnb16 := NB170_168.out
                  have hnc16 := NB168_170.out
                  have hcz17_0 : w9.cell? ⟨gb170, 0, none⟩ = some (.int .i64 0) := (blk_cell BK170.out 0).trans rfl
                  have hcz17_1 : w9.cell? ⟨gb170, 1, none⟩ = some (.int .i64 0) := (blk_cell BK170.out 1).trans rfl
                  have hfz17_0 := blk_frozen BK170.out 0
                  have hfz17_1 := blk_frozen BK170.out 1
                  go_wp2
                  repeat (go_quiet (fail); try go_wp2)
                  go_meet
                  case rel => exact ⟨_, (true), (by first | rfl | (simp; done) | (simp [*]; done)), H', ⟨by have := HK1.out; first | omega | exact Nat.le_refl _⟩, ⟨by (with_reducible repeat (first | refine blk_drewN ?_ _ | refine blk_drew ?_ | refine blk_alloc ?_ _)); refine blk_far ?_ NB168_170.out _; (with_reducible repeat (first | refine blk_drewN ?_ _ | refine blk_drew ?_ | refine blk_alloc ?_ _)); refine blk_far ?_ NB168_170.out _; (with_reducible repeat (first | refine blk_drewN ?_ _ | refine blk_drew ?_ | refine blk_alloc ?_ _)); exact BK168.out⟩, ⟨by (with_reducible repeat (first | refine blk_drewN ?_ _ | refine blk_drew ?_ | refine blk_alloc ?_ _)); refine blk_put (cs := #[.int .i64 ((rd_T58 l0_6 x8_1).f0), .int .i64 0]) ?_ 1 _ rfl; (with_reducible repeat (first | refine blk_drewN ?_ _ | refine blk_drew ?_ | refine blk_alloc ?_ _)); refine blk_put (cs := #[.int .i64 0, .int .i64 0]) ?_ 0 _ rfl; (with_reducible repeat (first | refine blk_drewN ?_ _ | refine blk_drew ?_ | refine blk_alloc ?_ _)); exact BK170.out⟩, ⟨by repeat (first | (with_reducible first | exact HB.out | apply below_alloc | apply pw_below_drewN | apply below_drew1 | refine below_set ?_ GE168.out | refine below_set ?_ GE170.out) | exact HB.out)⟩⟩
                · rw [if_neg c15] at H
                  have c15b0 : decide (6 < ((rd_T58 l0_6 x8_1).f1)) = false := decide_eq_false c15
                  clear c15
                  by_cases c18 : ((rd_T58 l0_6 x8_1).f0) < (-5)
                  · rw [if_pos c18] at H
                    have c18b0 : decide (((rd_T58 l0_6 x8_1).f0) < (-5)) = true := decide_eq_true c18
                    clear c18
                    have H' := Aside0.mk H
                    clear H
                    have hnb19 := NB170_168.out
                    have hnc19 := NB168_170.out
                    have hcz20_0 : w9.cell? ⟨gb170, 0, none⟩ = some (.int .i64 0) := (blk_cell BK170.out 0).trans rfl
                    have hcz20_1 : w9.cell? ⟨gb170, 1, none⟩ = some (.int .i64 0) := (blk_cell BK170.out 1).trans rfl
                    have hfz20_0 := blk_frozen BK170.out 0
                    have hfz20_1 := blk_frozen BK170.out 1
                    go_wp2
                    repeat (go_quiet (fail); try go_wp2)
                    go_meet
                    case rel => exact ⟨_, (true), (by first | rfl | (simp; done) | (simp [*]; done)), H', ⟨by have := HK1.out; first | omega | exact Nat.le_refl _⟩, ⟨by (with_reducible repeat (first | refine blk_drewN ?_ _ | refine blk_drew ?_ | refine blk_alloc ?_ _)); refine blk_far ?_ NB168_170.out _; (with_reducible repeat (first | refine blk_drewN ?_ _ | refine blk_drew ?_ | refine blk_alloc ?_ _)); refine blk_far ?_ NB168_170.out _; (with_reducible repeat (first | refine blk_drewN ?_ _ | refine blk_drew ?_ | refine blk_alloc ?_ _)); exact BK168.out⟩, ⟨by (with_reducible repeat (first | refine blk_drewN ?_ _ | refine blk_drew ?_ | refine blk_alloc ?_ _)); refine blk_put (cs := #[.int .i64 ((rd_T58 l0_6 x8_1).f0), .int .i64 0]) ?_ 1 _ rfl; (with_reducible repeat (first | refine blk_drewN ?_ _ | refine blk_drew ?_ | refine blk_alloc ?_ _)); refine blk_put (cs := #[.int .i64 0, .int .i64 0]) ?_ 0 _ rfl; (with_reducible repeat (first | refine blk_drewN ?_ _ | refine blk_drew ?_ | refine blk_alloc ?_ _)); exact BK170.out⟩, ⟨by repeat (first | (with_reducible first | exact HB.out | apply below_alloc | apply pw_below_drewN | apply below_drew1 | refine below_set ?_ GE168.out | refine below_set ?_ GE170.out) | exact HB.out)⟩⟩
                  · rw [if_neg c18] at H
                    have c18b0 : decide (((rd_T58 l0_6 x8_1).f0) < (-5)) = false := decide_eq_false c18
                    clear c18
                    have H' := Aside0.mk H
                    clear H
                    have hnb21 := NB170_168.out
                    have hnc21 := NB168_170.out
                    have hcz22_0 : w9.cell? ⟨gb170, 0, none⟩ = some (.int .i64 0) := (blk_cell BK170.out 0).trans rfl
                    have hcz22_1 : w9.cell? ⟨gb170, 1, none⟩ = some (.int .i64 0) := (blk_cell BK170.out 1).trans rfl
                    have hfz22_0 := blk_frozen BK170.out 0
                    have hfz22_1 := blk_frozen BK170.out 1
                    go_wp2
                    repeat (go_quiet (fail); try go_wp2)
                    go_meet
                    case rel => exact ⟨_, (decide (((rd_T58 l0_6 x8_1).f0) > 5)), (by first | rfl | (simp; done) | (simp [*]; done)), H', ⟨by have := HK1.out; first | omega | exact Nat.le_refl _⟩, ⟨by (with_reducible repeat (first | refine blk_drewN ?_ _ | refine blk_drew ?_ | refine blk_alloc ?_ _)); refine blk_far ?_ NB168_170.out _; (with_reducible repeat (first | refine blk_drewN ?_ _ | refine blk_drew ?_ | refine blk_alloc ?_ _)); refine blk_far ?_ NB168_170.out _; (with_reducible repeat (first | refine blk_drewN ?_ _ | refine blk_drew ?_ | refine blk_alloc ?_ _)); exact BK168.out⟩, ⟨by (with_reducible repeat (first | refine blk_drewN ?_ _ | refine blk_drew ?_ | refine blk_alloc ?_ _)); refine blk_put (cs := #[.int .i64 ((rd_T58 l0_6 x8_1).f0), .int .i64 0]) ?_ 1 _ rfl; (with_reducible repeat (first | refine blk_drewN ?_ _ | refine blk_drew ?_ | refine blk_alloc ?_ _)); refine blk_put (cs := #[.int .i64 0, .int .i64 0]) ?_ 0 _ rfl; (with_reducible repeat (first | refine blk_drewN ?_ _ | refine blk_drew ?_ | refine blk_alloc ?_ _)); exact BK170.out⟩, ⟨by repeat (first | (with_reducible first | exact HB.out | apply below_alloc | apply pw_below_drewN | apply below_drew1 | refine below_set ?_ GE168.out | refine below_set ?_ GE170.out) | exact HB.out)⟩⟩
            case rest =>
              clear HC7
              try clear c1
              try clear p1
              try clear q1
              try clear hx1
              try clear c2
              try clear p2
              try clear c4
              try clear c4b0
              try clear c5
              try clear c5b0
              try clear c6
              try clear c6b0
              try clear c10
              try clear c12
              try clear c12b0
              try clear c13
              try clear c15
              try clear c15b0
              try clear c16
              try clear p16
              try clear q16
              try clear hx16
              try clear c18
              try clear c18b0
              try clear c19
              try clear c21
              try clear hcz11_0
              try clear hcz11_1
              try clear hcz14_0
              try clear hcz14_1
              try clear hcz17_0
              try clear hcz17_1
              try clear hcz20_0
              try clear hcz20_1
              try clear hcz22_0
              try clear hcz22_1
              try clear hcz3_0
              try clear hcz3_1
              try clear hcz3_2
              try clear hcz3_3
              try clear hcz3_4
              try clear hcz3_5
              try clear hcz3_6
              try clear hcz3_7
              try clear hcz3_8
              try clear hcz8_0
              try clear hcz8_1
              try clear hcz8_2
              try clear hcz8_3
              try clear hcz8_4
              try clear hcz8_5
              try clear hcz8_6
              try clear hcz8_7
              try clear hcz8_8
              try clear hfz11_0
              try clear hfz11_1
              try clear hfz14_0
              try clear hfz14_1
              try clear hfz17_0
              try clear hfz17_1
              try clear hfz20_0
              try clear hfz20_1
              try clear hfz22_0
              try clear hfz22_1
              try clear hfz3_0
              try clear hfz3_1
              try clear hfz3_2
              try clear hfz3_3
              try clear hfz3_4
              try clear hfz3_5
              try clear hfz3_6
              try clear hfz3_7
              try clear hfz3_8
              try clear hfz8_0
              try clear hfz8_1
              try clear hfz8_2
              try clear hfz8_3
              try clear hfz8_4
              try clear hfz8_5
              try clear hfz8_6
              try clear hfz8_7
              try clear hfz8_8
              try clear hx169_0
              try clear hx169_1
              try clear p169
              try clear p2
              try clear q169
              obtain ⟨kq, x33_6, rfl, HA, HJ6, BK168, BK170, HB⟩ := hcut
              cases kq with
              | zero => exact absurd HA.out (by simp [vespersref09_days.j1])
              | succ kj6 =>
                have H := HA.out
                clear HA
                simp only [vespersref09_days.j1] at H
                by_cases c23 : x33_6 = true
                · subst c23
                  have H1 : (some false) = some r := by rw [if_pos rfl] at H; exact H
                  clear H
                  have H := H1
                  clear H1
                  obtain rfl := Option.some.inj H
                  go_wp2
                  repeat (go_quiet (fail); try go_wp2)
                  go_ret
                  exact ⟨by first | rfl | (simp [errW_none, errW_some] <;> rfl) | (simp [*, errW_none, errW_some] <;> rfl) | (simp only [IntWalk.i64_left]; rfl), by repeat (first | (with_reducible first | exact HB.out | apply below_alloc | apply pw_below_drewN | apply below_drew1 | refine below_set ?_ GE168.out | refine below_set ?_ GE170.out) | exact HB.out)⟩
                · replace c23 := Bool.eq_false_iff.mpr c23
                  subst c23
                  have H1 : (if ((rd_T58 l0_6 x8_1).f0) = 0 then (vespersref09_days.j2 kj6 x8_1 (l0_6.length : Int) x8_1 false a0_0 a0_1 a0_2 a0_3 l0_4 l0_5 l0_6 l0_7 a0_8 ((rd_T58 l0_6 x8_1).f0) ((rd_T58 l0_6 x8_1).f1)) else (if a0_0 < 3 then (vespersref09_days.j2 kj6 x8_1 (l0_6.length : Int) x8_1 true a0_0 a0_1 a0_2 a0_3 l0_4 l0_5 l0_6 l0_7 a0_8 ((rd_T58 l0_6 x8_1).f0) ((rd_T58 l0_6 x8_1).f1)) else (if a0_0 = 4 then (vespersref09_days.j2 kj6 x8_1 (l0_6.length : Int) x8_1 ((l0_4.length : Int) == 0) a0_0 a0_1 a0_2 a0_3 l0_4 l0_5 l0_6 l0_7 a0_8 ((rd_T58 l0_6 x8_1).f0) ((rd_T58 l0_6 x8_1).f1)) else (vespersref09_days.j2 kj6 x8_1 (l0_6.length : Int) x8_1 false a0_0 a0_1 a0_2 a0_3 l0_4 l0_5 l0_6 l0_7 a0_8 ((rd_T58 l0_6 x8_1).f0) ((rd_T58 l0_6 x8_1).f1))))) = some r := by rw [if_neg (show ¬ (false = true) by decide)] at H; exact H
                  clear H
                  have H := H1
                  clear H1
                  have HC24 := Aside0.mk H
                  clear H
                  go_upto_region 7 with (fail)
                  repeat (go_quiet (fail); go_upto_region 7 with (fail))
                  go_cut [52] (fun v52 wc => ∃ (kq : Nat) (x52_23 : Bool), v52 = .bool x52_23 ∧ Aside0 (vespersref09_days.j2 kq x8_1 (l0_6.length : Int) x8_1 x52_23 a0_0 a0_1 a0_2 a0_3 l0_4 l0_5 l0_6 l0_7 a0_8 ((rd_T58 l0_6 x8_1).f0) ((rd_T58 l0_6 x8_1).f1) = some r) ∧ Aside0 (kq ≤ kj6) ∧ Aside0 (wc.heap[gb168]? = some (.cells #[.int .i64 a0_0, .int .i64 a0_1, .int .i64 a0_2, .int .i64 a0_3, (.slice A0_4 l0_4.length c0_4), (.slice A0_5 l0_5.length c0_5), (.slice (some ad169) l0_6.length c0_6), (.slice A0_7 l0_7.length c0_7), .int .i64 a0_8] 25 (0, 0))) ∧ Aside0 (wc.heap[gb170]? = some (.cells #[.int .i64 ((rd_T58 l0_6 x8_1).f0), .int .i64 ((rd_T58 l0_6 x8_1).f1)] 58 (0, 0))) ∧ Aside0 (Below w.heap.size w wc))
                  case first =>
                    have H := HC24.out
                    clear HC24
                    by_cases c25 : ((rd_T58 l0_6 x8_1).f0) = 0
                    · rw [if_pos c25] at H
                      have c25b0 : (((rd_T58 l0_6 x8_1).f0) == 0) = true := beq_iff_eq.mpr c25
                      have c25b1 : (((rd_T58 l0_6 x8_1).f0) != 0) = false := bne_eq_false_iff_eq.mpr c25
                      clear c25
                      (first | rw [c25b0] | (simp only [i64_w, i32_w]; rw [c25b0]) | skip)
                      have H' := Aside0.mk H
                      clear H
                      have hnb26 := NB170_168.out
                      have hnc26 := NB168_170.out
                      have hcz27_0 : wc.cell? ⟨gb170, 0, none⟩ = some (.int .i64 ((rd_T58 l0_6 x8_1).f0)) := (blk_cell BK170.out 0).trans rfl
                      have hcz27_1 : wc.cell? ⟨gb170, 1, none⟩ = some (.int .i64 ((rd_T58 l0_6 x8_1).f1)) := (blk_cell BK170.out 1).trans rfl
                      have hfz27_0 := blk_frozen BK170.out 0
                      have hfz27_1 := blk_frozen BK170.out 1
                      go_wp2
                      repeat (go_quiet (fail); try go_wp2)
                      go_meet
                      case rel => exact ⟨_, (false), (by first | rfl | (simp; done) | (simp [*]; done)), H', ⟨by have := HK1.out; have := HJ6.out; first | omega | exact Nat.le_refl _⟩, ⟨by (with_reducible repeat (first | refine blk_drewN ?_ _ | refine blk_drew ?_ | refine blk_alloc ?_ _)); exact BK168.out⟩, ⟨by (with_reducible repeat (first | refine blk_drewN ?_ _ | refine blk_drew ?_ | refine blk_alloc ?_ _)); exact BK170.out⟩, ⟨by repeat (first | (with_reducible first | exact HB.out | apply below_alloc | apply pw_below_drewN | apply below_drew1 | refine below_set ?_ GE168.out | refine below_set ?_ GE170.out) | exact HB.out)⟩⟩
                    · rw [if_neg c25] at H
                      have c25b0 : (((rd_T58 l0_6 x8_1).f0) == 0) = false := beq_eq_false_iff_ne.mpr c25
                      have c25b1 : (((rd_T58 l0_6 x8_1).f0) != 0) = true := bne_iff_ne.mpr c25
                      (first | rw [c25b0] | (simp only [i64_w, i32_w]; rw [c25b0]) | skip)
                      by_cases c28 : a0_0 < 3
                      · rw [if_pos c28] at H
                        have c28b0 : decide (a0_0 < 3) = true := decide_eq_true c28
                        clear c28
                        have H' := Aside0.mk H
                        clear H
                        have hnb29 := NB170_168.out
                        have hnc29 := NB168_170.out
                        have hcz30_0 : wc.cell? ⟨gb170, 0, none⟩ = some (.int .i64 ((rd_T58 l0_6 x8_1).f0)) := (blk_cell BK170.out 0).trans rfl
                        have hcz30_1 : wc.cell? ⟨gb170, 1, none⟩ = some (.int .i64 ((rd_T58 l0_6 x8_1).f1)) := (blk_cell BK170.out 1).trans rfl
                        have hfz30_0 := blk_frozen BK170.out 0
                        have hfz30_1 := blk_frozen BK170.out 1
                        have hcz31_0 : wc.cell? ⟨gb168, 0, none⟩ = some (.int .i64 a0_0) := (blk_cell BK168.out 0).trans rfl
                        have hcz31_1 : wc.cell? ⟨gb168, 1, none⟩ = some (.int .i64 a0_1) := (blk_cell BK168.out 1).trans rfl
                        have hcz31_2 : wc.cell? ⟨gb168, 2, none⟩ = some (.int .i64 a0_2) := (blk_cell BK168.out 2).trans rfl
                        have hcz31_3 : wc.cell? ⟨gb168, 3, none⟩ = some (.int .i64 a0_3) := (blk_cell BK168.out 3).trans rfl
                        have hcz31_4 : wc.cell? ⟨gb168, 4, none⟩ = some (.slice A0_4 l0_4.length c0_4) := (blk_cell BK168.out 4).trans rfl
                        have hcz31_5 : wc.cell? ⟨gb168, 5, none⟩ = some (.slice A0_5 l0_5.length c0_5) := (blk_cell BK168.out 5).trans rfl
                        have hcz31_6 : wc.cell? ⟨gb168, 6, none⟩ = some (.slice (some ad169) l0_6.length c0_6) := (blk_cell BK168.out 6).trans rfl
                        have hcz31_7 : wc.cell? ⟨gb168, 7, none⟩ = some (.slice A0_7 l0_7.length c0_7) := (blk_cell BK168.out 7).trans rfl
                        have hcz31_8 : wc.cell? ⟨gb168, 8, none⟩ = some (.int .i64 a0_8) := (blk_cell BK168.out 8).trans rfl
                        have hfz31_0 := blk_frozen BK168.out 0
                        have hfz31_1 := blk_frozen BK168.out 1
                        have hfz31_2 := blk_frozen BK168.out 2
                        have hfz31_3 := blk_frozen BK168.out 3
                        have hfz31_4 := blk_frozen BK168.out 4
                        have hfz31_5 := blk_frozen BK168.out 5
                        have hfz31_6 := blk_frozen BK168.out 6
                        have hfz31_7 := blk_frozen BK168.out 7
                        have hfz31_8 := blk_frozen BK168.out 8
                        go_wp2
                        repeat (go_quiet (fail); try go_wp2)
                        go_meet
                        case rel => exact ⟨_, (true), (by first | rfl | (simp; done) | (simp [*]; done)), H', ⟨by have := HK1.out; have := HJ6.out; first | omega | exact Nat.le_refl _⟩, ⟨by (with_reducible repeat (first | refine blk_drewN ?_ _ | refine blk_drew ?_ | refine blk_alloc ?_ _)); exact BK168.out⟩, ⟨by (with_reducible repeat (first | refine blk_drewN ?_ _ | refine blk_drew ?_ | refine blk_alloc ?_ _)); exact BK170.out⟩, ⟨by repeat (first | (with_reducible first | exact HB.out | apply below_alloc | apply pw_below_drewN | apply below_drew1 | refine below_set ?_ GE168.out | refine below_set ?_ GE170.out) | exact HB.out)⟩⟩
                      · rw [if_neg c28] at H
                        have c28b0 : decide (a0_0 < 3) = false := decide_eq_false c28
                        clear c28
                        by_cases c32 : a0_0 = 4
                        · rw [if_pos c32] at H
                          have c32b0 : (a0_0 == 4) = true := beq_iff_eq.mpr c32
                          have c32b1 : (a0_0 != 4) = false := bne_eq_false_iff_eq.mpr c32
                          clear c32
                          have H' := Aside0.mk H
                          clear H
                          have hnb33 := NB170_168.out
                          have hnc33 := NB168_170.out
                          have hcz34_0 : wc.cell? ⟨gb170, 0, none⟩ = some (.int .i64 ((rd_T58 l0_6 x8_1).f0)) := (blk_cell BK170.out 0).trans rfl
                          have hcz34_1 : wc.cell? ⟨gb170, 1, none⟩ = some (.int .i64 ((rd_T58 l0_6 x8_1).f1)) := (blk_cell BK170.out 1).trans rfl
                          have hfz34_0 := blk_frozen BK170.out 0
                          have hfz34_1 := blk_frozen BK170.out 1
                          have hcz35_0 : wc.cell? ⟨gb168, 0, none⟩ = some (.int .i64 a0_0) := (blk_cell BK168.out 0).trans rfl
                          have hcz35_1 : wc.cell? ⟨gb168, 1, none⟩ = some (.int .i64 a0_1) := (blk_cell BK168.out 1).trans rfl
                          have hcz35_2 : wc.cell? ⟨gb168, 2, none⟩ = some (.int .i64 a0_2) := (blk_cell BK168.out 2).trans rfl
                          have hcz35_3 : wc.cell? ⟨gb168, 3, none⟩ = some (.int .i64 a0_3) := (blk_cell BK168.out 3).trans rfl
                          have hcz35_4 : wc.cell? ⟨gb168, 4, none⟩ = some (.slice A0_4 l0_4.length c0_4) := (blk_cell BK168.out 4).trans rfl
                          have hcz35_5 : wc.cell? ⟨gb168, 5, none⟩ = some (.slice A0_5 l0_5.length c0_5) := (blk_cell BK168.out 5).trans rfl
                          have hcz35_6 : wc.cell? ⟨gb168, 6, none⟩ = some (.slice (some ad169) l0_6.length c0_6) := (blk_cell BK168.out 6).trans rfl
                          have hcz35_7 : wc.cell? ⟨gb168, 7, none⟩ = some (.slice A0_7 l0_7.length c0_7) := (blk_cell BK168.out 7).trans rfl
                          have hcz35_8 : wc.cell? ⟨gb168, 8, none⟩ = some (.int .i64 a0_8) := (blk_cell BK168.out 8).trans rfl
                          have hfz35_0 := blk_frozen BK168.out 0
                          have hfz35_1 := blk_frozen BK168.out 1
                          have hfz35_2 := blk_frozen BK168.out 2
                          have hfz35_3 := blk_frozen BK168.out 3
                          have hfz35_4 := blk_frozen BK168.out 4
                          have hfz35_5 := blk_frozen BK168.out 5
                          have hfz35_6 := blk_frozen BK168.out 6
                          have hfz35_7 := blk_frozen BK168.out 7
                          have hfz35_8 := blk_frozen BK168.out 8
                          go_wp2
                          repeat (go_quiet (fail); try go_wp2)
                          go_meet
                          case rel => exact ⟨_, (((l0_4.length : Int) == 0)), (by first | rfl | (simp; done) | (simp [*]; done)), H', ⟨by have := HK1.out; have := HJ6.out; first | omega | exact Nat.le_refl _⟩, ⟨by (with_reducible repeat (first | refine blk_drewN ?_ _ | refine blk_drew ?_ | refine blk_alloc ?_ _)); exact BK168.out⟩, ⟨by (with_reducible repeat (first | refine blk_drewN ?_ _ | refine blk_drew ?_ | refine blk_alloc ?_ _)); exact BK170.out⟩, ⟨by repeat (first | (with_reducible first | exact HB.out | apply below_alloc | apply pw_below_drewN | apply below_drew1 | refine below_set ?_ GE168.out | refine below_set ?_ GE170.out) | exact HB.out)⟩⟩
                        · rw [if_neg c32] at H
                          have c32b0 : (a0_0 == 4) = false := beq_eq_false_iff_ne.mpr c32
                          have c32b1 : (a0_0 != 4) = true := bne_iff_ne.mpr c32
                          have H' := Aside0.mk H
                          clear H
                          have hnb36 := NB170_168.out
                          have hnc36 := NB168_170.out
                          have hcz37_0 : wc.cell? ⟨gb170, 0, none⟩ = some (.int .i64 ((rd_T58 l0_6 x8_1).f0)) := (blk_cell BK170.out 0).trans rfl
                          have hcz37_1 : wc.cell? ⟨gb170, 1, none⟩ = some (.int .i64 ((rd_T58 l0_6 x8_1).f1)) := (blk_cell BK170.out 1).trans rfl
                          have hfz37_0 := blk_frozen BK170.out 0
                          have hfz37_1 := blk_frozen BK170.out 1
                          have hcz38_0 : wc.cell? ⟨gb168, 0, none⟩ = some (.int .i64 a0_0) := (blk_cell BK168.out 0).trans rfl
                          have hcz38_1 : wc.cell? ⟨gb168, 1, none⟩ = some (.int .i64 a0_1) := (blk_cell BK168.out 1).trans rfl
                          have hcz38_2 : wc.cell? ⟨gb168, 2, none⟩ = some (.int .i64 a0_2) := (blk_cell BK168.out 2).trans rfl
                          have hcz38_3 : wc.cell? ⟨gb168, 3, none⟩ = some (.int .i64 a0_3) := (blk_cell BK168.out 3).trans rfl
                          have hcz38_4 : wc.cell? ⟨gb168, 4, none⟩ = some (.slice A0_4 l0_4.length c0_4) := (blk_cell BK168.out 4).trans rfl
                          have hcz38_5 : wc.cell? ⟨gb168, 5, none⟩ = some (.slice A0_5 l0_5.length c0_5) := (blk_cell BK168.out 5).trans rfl
                          have hcz38_6 : wc.cell? ⟨gb168, 6, none⟩ = some (.slice (some ad169) l0_6.length c0_6) := (blk_cell BK168.out 6).trans rfl
                          have hcz38_7 : wc.cell? ⟨gb168, 7, none⟩ = some (.slice A0_7 l0_7.length c0_7) := (blk_cell BK168.out 7).trans rfl
                          have hcz38_8 : wc.cell? ⟨gb168, 8, none⟩ = some (.int .i64 a0_8) := (blk_cell BK168.out 8).trans rfl
                          have hfz38_0 := blk_frozen BK168.out 0
                          have hfz38_1 := blk_frozen BK168.out 1
                          have hfz38_2 := blk_frozen BK168.out 2
                          have hfz38_3 := blk_frozen BK168.out 3
                          have hfz38_4 := blk_frozen BK168.out 4
                          have hfz38_5 := blk_frozen BK168.out 5
                          have hfz38_6 := blk_frozen BK168.out 6
                          have hfz38_7 := blk_frozen BK168.out 7
                          have hfz38_8 := blk_frozen BK168.out 8
                          go_wp2
                          repeat (go_quiet (fail); try go_wp2)
                          go_meet
                          case rel => exact ⟨_, (false), (by first | rfl | (simp; done) | (simp [*]; done)), H', ⟨by have := HK1.out; have := HJ6.out; first | omega | exact Nat.le_refl _⟩, ⟨by (with_reducible repeat (first | refine blk_drewN ?_ _ | refine blk_drew ?_ | refine blk_alloc ?_ _)); exact BK168.out⟩, ⟨by (with_reducible repeat (first | refine blk_drewN ?_ _ | refine blk_drew ?_ | refine blk_alloc ?_ _)); exact BK170.out⟩, ⟨by repeat (first | (with_reducible first | exact HB.out | apply below_alloc | apply pw_below_drewN | apply below_drew1 | refine below_set ?_ GE168.out | refine below_set ?_ GE170.out) | exact HB.out)⟩⟩
                  case rest =>
                    clear HC24
                    try clear c1
                    try clear p1
                    try clear q1
                    try clear hx1
                    try clear c2
                    try clear p2
                    try clear c3
                    try clear c4
                    try clear c4b0
                    try clear c5
                    try clear c5b0
                    try clear c6
                    try clear c6b0
                    try clear c10
                    try clear c12
                    try clear c12b0
                    try clear c13
                    try clear c15
                    try clear c15b0
                    try clear c16
                    try clear p16
                    try clear q16
                    try clear hx16
                    try clear c18
                    try clear c18b0
                    try clear c19
                    try clear c21
                    try clear c23
                    try clear c25
                    try clear c25b0
                    try clear c25b1
                    try clear c26
                    try clear c28
                    try clear c28b0
                    try clear c29
                    try clear c32
                    try clear c32b0
                    try clear c32b1
                    try clear c33
                    try clear c36
                    try clear hcz11_0
                    try clear hcz11_1
                    try clear hcz14_0
                    try clear hcz14_1
                    try clear hcz17_0
                    try clear hcz17_1
                    try clear hcz20_0
                    try clear hcz20_1
                    try clear hcz22_0
                    try clear hcz22_1
                    try clear hcz27_0
                    try clear hcz27_1
                    try clear hcz30_0
                    try clear hcz30_1
                    try clear hcz31_0
                    try clear hcz31_1
                    try clear hcz31_2
                    try clear hcz31_3
                    try clear hcz31_4
                    try clear hcz31_5
                    try clear hcz31_6
                    try clear hcz31_7
                    try clear hcz31_8
                    try clear hcz34_0
                    try clear hcz34_1
                    try clear hcz35_0
                    try clear hcz35_1
                    try clear hcz35_2
                    try clear hcz35_3
                    try clear hcz35_4
                    try clear hcz35_5
                    try clear hcz35_6
                    try clear hcz35_7
                    try clear hcz35_8
                    try clear hcz37_0
                    try clear hcz37_1
                    try clear hcz38_0
                    try clear hcz38_1
                    try clear hcz38_2
                    try clear hcz38_3
                    try clear hcz38_4
                    try clear hcz38_5
                    try clear hcz38_6
                    try clear hcz38_7
                    try clear hcz38_8
                    try clear hcz3_0
                    try clear hcz3_1
                    try clear hcz3_2
                    try clear hcz3_3
                    try clear hcz3_4
                    try clear hcz3_5
                    try clear hcz3_6
                    try clear hcz3_7
                    try clear hcz3_8
                    try clear hcz8_0
                    try clear hcz8_1
                    try clear hcz8_2
                    try clear hcz8_3
                    try clear hcz8_4
                    try clear hcz8_5
                    try clear hcz8_6
                    try clear hcz8_7
                    try clear hcz8_8
                    try clear hfz11_0
                    try clear hfz11_1
                    try clear hfz14_0
                    try clear hfz14_1
                    try clear hfz17_0
                    try clear hfz17_1
                    try clear hfz20_0
                    try clear hfz20_1
                    try clear hfz22_0
                    try clear hfz22_1
                    try clear hfz27_0
                    try clear hfz27_1
                    try clear hfz30_0
                    try clear hfz30_1
                    try clear hfz31_0
                    try clear hfz31_1
                    try clear hfz31_2
                    try clear hfz31_3
                    try clear hfz31_4
                    try clear hfz31_5
                    try clear hfz31_6
                    try clear hfz31_7
                    try clear hfz31_8
                    try clear hfz34_0
                    try clear hfz34_1
                    try clear hfz35_0
                    try clear hfz35_1
                    try clear hfz35_2
                    try clear hfz35_3
                    try clear hfz35_4
                    try clear hfz35_5
                    try clear hfz35_6
                    try clear hfz35_7
                    try clear hfz35_8
                    try clear hfz37_0
                    try clear hfz37_1
                    try clear hfz38_0
                    try clear hfz38_1
                    try clear hfz38_2
                    try clear hfz38_3
                    try clear hfz38_4
                    try clear hfz38_5
                    try clear hfz38_6
                    try clear hfz38_7
                    try clear hfz38_8
                    try clear hfz3_0
                    try clear hfz3_1
                    try clear hfz3_2
                    try clear hfz3_3
                    try clear hfz3_4
                    try clear hfz3_5
                    try clear hfz3_6
                    try clear hfz3_7
                    try clear hfz3_8
                    try clear hfz8_0
                    try clear hfz8_1
                    try clear hfz8_2
                    try clear hfz8_3
                    try clear hfz8_4
                    try clear hfz8_5
                    try clear hfz8_6
                    try clear hfz8_7
                    try clear hfz8_8
                    try clear hx169_0
                    try clear hx169_1
                    try clear p1
                    try clear p16
                    try clear p169
                    try clear p2
                    try clear q1
                    try clear q16
                    try clear q169
                    obtain ⟨kq, x52_23, rfl, HA, HJ23, BK168, BK170, HB⟩ := hcut
                    cases kq with
                    | zero => exact absurd HA.out (by simp [vespersref09_days.j2])
                    | succ kj23 =>
                      have H := HA.out
                      clear HA
                      simp only [vespersref09_days.j2] at H
                      by_cases c39 : x52_23 = true
                      · subst c39
                        have H1 : (some false) = some r := by rw [if_pos rfl] at H; exact H
                        clear H
                        have H := H1
                        clear H1
                        obtain rfl := Option.some.inj H
                        go_wp2
                        repeat (go_quiet (fail); try go_wp2)
                        go_ret
                        exact ⟨by first | rfl | (simp [errW_none, errW_some] <;> rfl) | (simp [*, errW_none, errW_some] <;> rfl) | (simp only [IntWalk.i64_left]; rfl), by repeat (first | (with_reducible first | exact HB.out | apply below_alloc | apply pw_below_drewN | apply below_drew1 | refine below_set ?_ GE168.out | refine below_set ?_ GE170.out) | exact HB.out)⟩
                      · replace c39 := Bool.eq_false_iff.mpr c39
                        subst c39
                        have H1 : (if x8_1 > 0 then (if 0 ≤ (wrap64 (x8_1 - 1)) then (if (wrap64 (x8_1 - 1)) < (l0_6.length : Int) then (if ((rd_T58 l0_6 (wrap64 (x8_1 - 1))).f0) > ((rd_T58 l0_6 x8_1).f0) then (some false) else (if ((rd_T58 l0_6 (wrap64 (x8_1 - 1))).f0) = ((rd_T58 l0_6 x8_1).f0) then (if ((rd_T58 l0_6 (wrap64 (x8_1 - 1))).f1) ≥ ((rd_T58 l0_6 x8_1).f1) then (some false) else (vespersref09_days.l0 kj23 (l0_6.length : Int) (wrap64 (x8_1 + 1)) a0_0 a0_1 a0_2 a0_3 l0_4 l0_5 l0_6 l0_7 a0_8)) else (vespersref09_days.l0 kj23 (l0_6.length : Int) (wrap64 (x8_1 + 1)) a0_0 a0_1 a0_2 a0_3 l0_4 l0_5 l0_6 l0_7 a0_8))) else (none)) else (none)) else (vespersref09_days.l0 kj23 (l0_6.length : Int) (wrap64 (x8_1 + 1)) a0_0 a0_1 a0_2 a0_3 l0_4 l0_5 l0_6 l0_7 a0_8)) = some r := by rw [if_neg (show ¬ (false = true) by decide)] at H; exact H
                        clear H
                        have H := H1
                        clear H1
                        by_cases c40 : x8_1 > 0
                        · rw [if_pos c40] at H
                          have c40b0 : decide (0 < x8_1) = true := decide_eq_true c40
                          clear c40
                          obtain ⟨ji41, hji41⟩ : ∃ j_ : Int, (wrap64 (x8_1 - 1)) = j_ := ⟨_, rfl⟩
                          replace H : (if 0 ≤ (ji41) then (if (ji41) < (l0_6.length : Int) then (if ((rd_T58 l0_6 (ji41)).f0) > ((rd_T58 l0_6 x8_1).f0) then (some false) else (if ((rd_T58 l0_6 (ji41)).f0) = ((rd_T58 l0_6 x8_1).f0) then (if ((rd_T58 l0_6 (ji41)).f1) ≥ ((rd_T58 l0_6 x8_1).f1) then (some false) else (vespersref09_days.l0 kj23 (l0_6.length : Int) (wrap64 (x8_1 + 1)) a0_0 a0_1 a0_2 a0_3 l0_4 l0_5 l0_6 l0_7 a0_8)) else (vespersref09_days.l0 kj23 (l0_6.length : Int) (wrap64 (x8_1 + 1)) a0_0 a0_1 a0_2 a0_3 l0_4 l0_5 l0_6 l0_7 a0_8))) else (none)) else (none)) = some r := by first | (rw [hji41] at H; exact H) | (simp only [hji41] at H ⊢; exact H)
                          have hji41w : (IntKind.i64.wrap (x8_1 - 1)) = ji41 := (i64_w _).trans hji41
                          by_cases c42 : 0 ≤ (ji41)
                          · rw [if_pos c42] at H
                            have c42b0 : decide (0 ≤ (ji41)) = true := decide_eq_true c42
                            clear c42
                            by_cases c43 : (ji41) < (l0_6.length : Int)
                            · rw [if_pos c43] at H
                              have c43b0 : decide ((ji41) < (l0_6.length : Int)) = true := decide_eq_true c43
                              clear c43
                              by_cases c44 : ((rd_T58 l0_6 (ji41)).f0) > ((rd_T58 l0_6 x8_1).f0)
                              · rw [if_pos c44] at H
                                have c44b0 : decide (((rd_T58 l0_6 x8_1).f0) < ((rd_T58 l0_6 (ji41)).f0)) = true := decide_eq_true c44
                                clear c44
                                obtain rfl := Option.some.inj H
                                have hnb45 := NB168_170.out
                                have hnc45 := NB170_168.out
                                have hcz46_0 : wc.cell? ⟨gb168, 0, none⟩ = some (.int .i64 a0_0) := (blk_cell BK168.out 0).trans rfl
                                have hcz46_1 : wc.cell? ⟨gb168, 1, none⟩ = some (.int .i64 a0_1) := (blk_cell BK168.out 1).trans rfl
                                have hcz46_2 : wc.cell? ⟨gb168, 2, none⟩ = some (.int .i64 a0_2) := (blk_cell BK168.out 2).trans rfl
                                have hcz46_3 : wc.cell? ⟨gb168, 3, none⟩ = some (.int .i64 a0_3) := (blk_cell BK168.out 3).trans rfl
                                have hcz46_4 : wc.cell? ⟨gb168, 4, none⟩ = some (.slice A0_4 l0_4.length c0_4) := (blk_cell BK168.out 4).trans rfl
                                have hcz46_5 : wc.cell? ⟨gb168, 5, none⟩ = some (.slice A0_5 l0_5.length c0_5) := (blk_cell BK168.out 5).trans rfl
                                have hcz46_6 : wc.cell? ⟨gb168, 6, none⟩ = some (.slice (some ad169) l0_6.length c0_6) := (blk_cell BK168.out 6).trans rfl
                                have hcz46_7 : wc.cell? ⟨gb168, 7, none⟩ = some (.slice A0_7 l0_7.length c0_7) := (blk_cell BK168.out 7).trans rfl
                                have hcz46_8 : wc.cell? ⟨gb168, 8, none⟩ = some (.int .i64 a0_8) := (blk_cell BK168.out 8).trans rfl
                                have hfz46_0 := blk_frozen BK168.out 0
                                have hfz46_1 := blk_frozen BK168.out 1
                                have hfz46_2 := blk_frozen BK168.out 2
                                have hfz46_3 := blk_frozen BK168.out 3
                                have hfz46_4 := blk_frozen BK168.out 4
                                have hfz46_5 := blk_frozen BK168.out 5
                                have hfz46_6 := blk_frozen BK168.out 6
                                have hfz46_7 := blk_frozen BK168.out 7
                                have hfz46_8 := blk_frozen BK168.out 8
                                have p171 : 0 ≤ ((ji41) : Int) := of_decide_eq_true (by first | (with_reducible assumption) | assumption)
                                have q171 : (ji41) < (l0_6.length : Int) := of_decide_eq_true (by first | (with_reducible assumption) | assumption)
                                obtain ⟨ad171, e171, hx171_0, hx171_1⟩ := at_T58 HR0_6.out (ji41) p171 q171
                                obtain rfl : ad169 = ad171 := (by injection e171)
                                replace hx171_0 := (HB.out.cell (World.block_lt_of_cell? w _ hx171_0)).trans hx171_0
                                replace hx171_1 := (HB.out.cell (World.block_lt_of_cell? w _ hx171_1)).trans hx171_1
                                replace p171 := eq_true p171
                                replace q171 := eq_true q171
                                have hcz47_0 : wc.cell? ⟨gb170, 0, none⟩ = some (.int .i64 ((rd_T58 l0_6 x8_1).f0)) := (blk_cell BK170.out 0).trans rfl
                                have hcz47_1 : wc.cell? ⟨gb170, 1, none⟩ = some (.int .i64 ((rd_T58 l0_6 x8_1).f1)) := (blk_cell BK170.out 1).trans rfl
                                have hfz47_0 := blk_frozen BK170.out 0
                                have hfz47_1 := blk_frozen BK170.out 1
                                go_wp2
                                repeat (go_quiet (fail); try go_wp2)
                                go_ret
                                exact ⟨by first | rfl | (simp [errW_none, errW_some] <;> rfl) | (simp only [← hji41]; first | rfl | (simp [errW_none, errW_some] <;> rfl)) | (simp [*, errW_none, errW_some] <;> rfl) | (simp only [IntWalk.i64_left]; rfl), by repeat (first | (with_reducible first | exact HB.out | apply below_alloc | apply pw_below_drewN | apply below_drew1 | refine below_set ?_ GE168.out | refine below_set ?_ GE170.out) | exact HB.out)⟩
                              · rw [if_neg c44] at H
                                have c44b0 : decide (((rd_T58 l0_6 x8_1).f0) < ((rd_T58 l0_6 (ji41)).f0)) = false := decide_eq_false c44
                                clear c44
                                by_cases c48 : ((rd_T58 l0_6 (ji41)).f0) = ((rd_T58 l0_6 x8_1).f0)
                                · rw [if_pos c48] at H
                                  have c48b0 : (((rd_T58 l0_6 (ji41)).f0) == ((rd_T58 l0_6 x8_1).f0)) = true := beq_iff_eq.mpr c48
                                  have c48b1 : (((rd_T58 l0_6 (ji41)).f0) != ((rd_T58 l0_6 x8_1).f0)) = false := bne_eq_false_iff_eq.mpr c48
                                  clear c48
                                  by_cases c49 : ((rd_T58 l0_6 (ji41)).f1) ≥ ((rd_T58 l0_6 x8_1).f1)
                                  · rw [if_pos c49] at H
                                    have c49b0 : decide (((rd_T58 l0_6 x8_1).f1) ≤ ((rd_T58 l0_6 (ji41)).f1)) = true := decide_eq_true c49
                                    clear c49
                                    obtain rfl := Option.some.inj H
                                    have hnb50 := NB168_170.out
                                    have hnc50 := NB170_168.out
                                    have hcz51_0 : wc.cell? ⟨gb168, 0, none⟩ = some (.int .i64 a0_0) := (blk_cell BK168.out 0).trans rfl
                                    have hcz51_1 : wc.cell? ⟨gb168, 1, none⟩ = some (.int .i64 a0_1) := (blk_cell BK168.out 1).trans rfl
                                    have hcz51_2 : wc.cell? ⟨gb168, 2, none⟩ = some (.int .i64 a0_2) := (blk_cell BK168.out 2).trans rfl
                                    have hcz51_3 : wc.cell? ⟨gb168, 3, none⟩ = some (.int .i64 a0_3) := (blk_cell BK168.out 3).trans rfl
                                    have hcz51_4 : wc.cell? ⟨gb168, 4, none⟩ = some (.slice A0_4 l0_4.length c0_4) := (blk_cell BK168.out 4).trans rfl
                                    have hcz51_5 : wc.cell? ⟨gb168, 5, none⟩ = some (.slice A0_5 l0_5.length c0_5) := (blk_cell BK168.out 5).trans rfl
                                    have hcz51_6 : wc.cell? ⟨gb168, 6, none⟩ = some (.slice (some ad169) l0_6.length c0_6) := (blk_cell BK168.out 6).trans rfl
                                    have hcz51_7 : wc.cell? ⟨gb168, 7, none⟩ = some (.slice A0_7 l0_7.length c0_7) := (blk_cell BK168.out 7).trans rfl
                                    have hcz51_8 : wc.cell? ⟨gb168, 8, none⟩ = some (.int .i64 a0_8) := (blk_cell BK168.out 8).trans rfl
                                    have hfz51_0 := blk_frozen BK168.out 0
                                    have hfz51_1 := blk_frozen BK168.out 1
                                    have hfz51_2 := blk_frozen BK168.out 2
                                    have hfz51_3 := blk_frozen BK168.out 3
                                    have hfz51_4 := blk_frozen BK168.out 4
                                    have hfz51_5 := blk_frozen BK168.out 5
                                    have hfz51_6 := blk_frozen BK168.out 6
                                    have hfz51_7 := blk_frozen BK168.out 7
                                    have hfz51_8 := blk_frozen BK168.out 8
                                    have p171 : 0 ≤ ((ji41) : Int) := of_decide_eq_true (by first | (with_reducible assumption) | assumption)
                                    have q171 : (ji41) < (l0_6.length : Int) := of_decide_eq_true (by first | (with_reducible assumption) | assumption)
                                    obtain ⟨ad171, e171, hx171_0, hx171_1⟩ := at_T58 HR0_6.out (ji41) p171 q171
                                    obtain rfl : ad169 = ad171 := (by injection e171)
                                    replace hx171_0 := (HB.out.cell (World.block_lt_of_cell? w _ hx171_0)).trans hx171_0
                                    replace hx171_1 := (HB.out.cell (World.block_lt_of_cell? w _ hx171_1)).trans hx171_1
                                    replace p171 := eq_true p171
                                    replace q171 := eq_true q171
                                    have hcz52_0 : wc.cell? ⟨gb170, 0, none⟩ = some (.int .i64 ((rd_T58 l0_6 x8_1).f0)) := (blk_cell BK170.out 0).trans rfl
                                    have hcz52_1 : wc.cell? ⟨gb170, 1, none⟩ = some (.int .i64 ((rd_T58 l0_6 x8_1).f1)) := (blk_cell BK170.out 1).trans rfl
                                    have hfz52_0 := blk_frozen BK170.out 0
                                    have hfz52_1 := blk_frozen BK170.out 1
                                    have p172 : 0 ≤ ((ji41) : Int) := of_decide_eq_true (by first | (with_reducible assumption) | assumption)
                                    have q172 : (ji41) < (l0_6.length : Int) := of_decide_eq_true (by first | (with_reducible assumption) | assumption)
                                    obtain ⟨ad172, e172, hx172_0, hx172_1⟩ := at_T58 HR0_6.out (ji41) p172 q172
                                    obtain rfl : ad169 = ad172 := (by injection e172)
                                    replace hx172_0 := (HB.out.cell (World.block_lt_of_cell? w _ hx172_0)).trans hx172_0
                                    replace hx172_1 := (HB.out.cell (World.block_lt_of_cell? w _ hx172_1)).trans hx172_1
                                    replace p172 := eq_true p172
                                    replace q172 := eq_true q172
                                    have p173 : 0 ≤ ((ji41) : Int) := of_decide_eq_true (by first | (with_reducible assumption) | assumption)
                                    have q173 : (ji41) < (l0_6.length : Int) := of_decide_eq_true (by first | (with_reducible assumption) | assumption)
                                    obtain ⟨ad173, e173, hx173_0, hx173_1⟩ := at_T58 HR0_6.out (ji41) p173 q173
                                    obtain rfl : ad169 = ad173 := (by injection e173)
                                    replace hx173_0 := (HB.out.cell (World.block_lt_of_cell? w _ hx173_0)).trans hx173_0
                                    replace hx173_1 := (HB.out.cell (World.block_lt_of_cell? w _ hx173_1)).trans hx173_1
                                    replace p173 := eq_true p173
                                    replace q173 := eq_true q173
                                    go_wp2
                                    repeat (go_quiet (fail); try go_wp2)
                                    go_ret
                                    exact ⟨by first | rfl | (simp [errW_none, errW_some] <;> rfl) | (simp only [← hji41]; first | rfl | (simp [errW_none, errW_some] <;> rfl)) | (simp [*, errW_none, errW_some] <;> rfl) | (simp only [IntWalk.i64_left]; rfl), by repeat (first | (with_reducible first | exact HB.out | apply below_alloc | apply pw_below_drewN | apply below_drew1 | refine below_set ?_ GE168.out | refine below_set ?_ GE170.out) | exact HB.out)⟩
                                  · rw [if_neg c49] at H
                                    have c49b0 : decide (((rd_T58 l0_6 x8_1).f1) ≤ ((rd_T58 l0_6 (ji41)).f1)) = false := decide_eq_false c49
                                    clear c49
                                    have H' := Aside0.mk H
                                    clear H
                                    have hnb53 := NB168_170.out
                                    have hnc53 := NB170_168.out
                                    have hcz54_0 : wc.cell? ⟨gb168, 0, none⟩ = some (.int .i64 a0_0) := (blk_cell BK168.out 0).trans rfl
                                    have hcz54_1 : wc.cell? ⟨gb168, 1, none⟩ = some (.int .i64 a0_1) := (blk_cell BK168.out 1).trans rfl
                                    have hcz54_2 : wc.cell? ⟨gb168, 2, none⟩ = some (.int .i64 a0_2) := (blk_cell BK168.out 2).trans rfl
                                    have hcz54_3 : wc.cell? ⟨gb168, 3, none⟩ = some (.int .i64 a0_3) := (blk_cell BK168.out 3).trans rfl
                                    have hcz54_4 : wc.cell? ⟨gb168, 4, none⟩ = some (.slice A0_4 l0_4.length c0_4) := (blk_cell BK168.out 4).trans rfl
                                    have hcz54_5 : wc.cell? ⟨gb168, 5, none⟩ = some (.slice A0_5 l0_5.length c0_5) := (blk_cell BK168.out 5).trans rfl
                                    have hcz54_6 : wc.cell? ⟨gb168, 6, none⟩ = some (.slice (some ad169) l0_6.length c0_6) := (blk_cell BK168.out 6).trans rfl
                                    have hcz54_7 : wc.cell? ⟨gb168, 7, none⟩ = some (.slice A0_7 l0_7.length c0_7) := (blk_cell BK168.out 7).trans rfl
                                    have hcz54_8 : wc.cell? ⟨gb168, 8, none⟩ = some (.int .i64 a0_8) := (blk_cell BK168.out 8).trans rfl
                                    have hfz54_0 := blk_frozen BK168.out 0
                                    have hfz54_1 := blk_frozen BK168.out 1
                                    have hfz54_2 := blk_frozen BK168.out 2
                                    have hfz54_3 := blk_frozen BK168.out 3
                                    have hfz54_4 := blk_frozen BK168.out 4
                                    have hfz54_5 := blk_frozen BK168.out 5
                                    have hfz54_6 := blk_frozen BK168.out 6
                                    have hfz54_7 := blk_frozen BK168.out 7
                                    have hfz54_8 := blk_frozen BK168.out 8
                                    have p171 : 0 ≤ ((ji41) : Int) := of_decide_eq_true (by first | (with_reducible assumption) | assumption)
                                    have q171 : (ji41) < (l0_6.length : Int) := of_decide_eq_true (by first | (with_reducible assumption) | assumption)
                                    obtain ⟨ad171, e171, hx171_0, hx171_1⟩ := at_T58 HR0_6.out (ji41) p171 q171
                                    obtain rfl : ad169 = ad171 := (by injection e171)
                                    replace hx171_0 := (HB.out.cell (World.block_lt_of_cell? w _ hx171_0)).trans hx171_0
                                    replace hx171_1 := (HB.out.cell (World.block_lt_of_cell? w _ hx171_1)).trans hx171_1
                                    replace p171 := eq_true p171
                                    replace q171 := eq_true q171
                                    have hcz55_0 : wc.cell? ⟨gb170, 0, none⟩ = some (.int .i64 ((rd_T58 l0_6 x8_1).f0)) := (blk_cell BK170.out 0).trans rfl
                                    have hcz55_1 : wc.cell? ⟨gb170, 1, none⟩ = some (.int .i64 ((rd_T58 l0_6 x8_1).f1)) := (blk_cell BK170.out 1).trans rfl
                                    have hfz55_0 := blk_frozen BK170.out 0
                                    have hfz55_1 := blk_frozen BK170.out 1
                                    have p172 : 0 ≤ ((ji41) : Int) := of_decide_eq_true (by first | (with_reducible assumption) | assumption)
                                    have q172 : (ji41) < (l0_6.length : Int) := of_decide_eq_true (by first | (with_reducible assumption) | assumption)
                                    obtain ⟨ad172, e172, hx172_0, hx172_1⟩ := at_T58 HR0_6.out (ji41) p172 q172
                                    obtain rfl : ad169 = ad172 := (by injection e172)
                                    replace hx172_0 := (HB.out.cell (World.block_lt_of_cell? w _ hx172_0)).trans hx172_0
                                    replace hx172_1 := (HB.out.cell (World.block_lt_of_cell? w _ hx172_1)).trans hx172_1
                                    replace p172 := eq_true p172
                                    replace q172 := eq_true q172
                                    have p173 : 0 ≤ ((ji41) : Int) := of_decide_eq_true (by first | (with_reducible assumption) | assumption)
                                    have q173 : (ji41) < (l0_6.length : Int) := of_decide_eq_true (by first | (with_reducible assumption) | assumption)
                                    obtain ⟨ad173, e173, hx173_0, hx173_1⟩ := at_T58 HR0_6.out (ji41) p173 q173
                                    obtain rfl : ad169 = ad173 := (by injection e173)
                                    replace hx173_0 := (HB.out.cell (World.block_lt_of_cell? w _ hx173_0)).trans hx173_0
                                    replace hx173_1 := (HB.out.cell (World.block_lt_of_cell? w _ hx173_1)).trans hx173_1
                                    replace p173 := eq_true p173
                                    replace q173 := eq_true q173
                                    go_wp2
                                    repeat (go_quiet (fail); try go_wp2)
                                    go_roundg kj23
                                    case measure => have := HK1.out; have := HJ6.out; have := HJ23.out; omega
                                    case rel => exact ⟨(wrap64 (x8_1 + 1)), (by first | rfl | (simp; done) | (simp [*]; done)), H', ⟨by have := HK1.out; have := HJ6.out; have := HJ23.out; omega⟩, ⟨by (with_reducible repeat (first | refine blk_drewN ?_ _ | refine blk_drew ?_ | refine blk_alloc ?_ _)); exact BK168.out⟩, ⟨by repeat (first | (with_reducible first | exact HB.out | apply below_alloc | apply pw_below_drewN | apply below_drew1 | refine below_set ?_ GE168.out | refine below_set ?_ GE170.out) | exact HB.out)⟩⟩
                                · rw [if_neg c48] at H
                                  have c48b0 : (((rd_T58 l0_6 (ji41)).f0) == ((rd_T58 l0_6 x8_1).f0)) = false := beq_eq_false_iff_ne.mpr c48
                                  have c48b1 : (((rd_T58 l0_6 (ji41)).f0) != ((rd_T58 l0_6 x8_1).f0)) = true := bne_iff_ne.mpr c48
                                  have H' := Aside0.mk H
                                  clear H
                                  have hnb56 := NB168_170.out
                                  have hnc56 := NB170_168.out
                                  have hcz57_0 : wc.cell? ⟨gb168, 0, none⟩ = some (.int .i64 a0_0) := (blk_cell BK168.out 0).trans rfl
                                  have hcz57_1 : wc.cell? ⟨gb168, 1, none⟩ = some (.int .i64 a0_1) := (blk_cell BK168.out 1).trans rfl
                                  have hcz57_2 : wc.cell? ⟨gb168, 2, none⟩ = some (.int .i64 a0_2) := (blk_cell BK168.out 2).trans rfl
                                  have hcz57_3 : wc.cell? ⟨gb168, 3, none⟩ = some (.int .i64 a0_3) := (blk_cell BK168.out 3).trans rfl
                                  have hcz57_4 : wc.cell? ⟨gb168, 4, none⟩ = some (.slice A0_4 l0_4.length c0_4) := (blk_cell BK168.out 4).trans rfl
                                  have hcz57_5 : wc.cell? ⟨gb168, 5, none⟩ = some (.slice A0_5 l0_5.length c0_5) := (blk_cell BK168.out 5).trans rfl
                                  have hcz57_6 : wc.cell? ⟨gb168, 6, none⟩ = some (.slice (some ad169) l0_6.length c0_6) := (blk_cell BK168.out 6).trans rfl
                                  have hcz57_7 : wc.cell? ⟨gb168, 7, none⟩ = some (.slice A0_7 l0_7.length c0_7) := (blk_cell BK168.out 7).trans rfl
                                  have hcz57_8 : wc.cell? ⟨gb168, 8, none⟩ = some (.int .i64 a0_8) := (blk_cell BK168.out 8).trans rfl
                                  have hfz57_0 := blk_frozen BK168.out 0
                                  have hfz57_1 := blk_frozen BK168.out 1
                                  have hfz57_2 := blk_frozen BK168.out 2
                                  have hfz57_3 := blk_frozen BK168.out 3
                                  have hfz57_4 := blk_frozen BK168.out 4
                                  have hfz57_5 := blk_frozen BK168.out 5
                                  have hfz57_6 := blk_frozen BK168.out 6
                                  have hfz57_7 := blk_frozen BK168.out 7
                                  have hfz57_8 := blk_frozen BK168.out 8
                                  have p171 : 0 ≤ ((ji41) : Int) := of_decide_eq_true (by first | (with_reducible assumption) | assumption)
                                  have q171 : (ji41) < (l0_6.length : Int) := of_decide_eq_true (by first | (with_reducible assumption) | assumption)
                                  obtain ⟨ad171, e171, hx171_0, hx171_1⟩ := at_T58 HR0_6.out (ji41) p171 q171
                                  obtain rfl : ad169 = ad171 := (by injection e171)
                                  replace hx171_0 := (HB.out.cell (World.block_lt_of_cell? w _ hx171_0)).trans hx171_0
                                  replace hx171_1 := (HB.out.cell (World.block_lt_of_cell? w _ hx171_1)).trans hx171_1
                                  replace p171 := eq_true p171
                                  replace q171 := eq_true q171
                                  have hcz58_0 : wc.cell? ⟨gb170, 0, none⟩ = some (.int .i64 ((rd_T58 l0_6 x8_1).f0)) := (blk_cell BK170.out 0).trans rfl
                                  have hcz58_1 : wc.cell? ⟨gb170, 1, none⟩ = some (.int .i64 ((rd_T58 l0_6 x8_1).f1)) := (blk_cell BK170.out 1).trans rfl
                                  have hfz58_0 := blk_frozen BK170.out 0
                                  have hfz58_1 := blk_frozen BK170.out 1
                                  have p172 : 0 ≤ ((ji41) : Int) := of_decide_eq_true (by first | (with_reducible assumption) | assumption)
                                  have q172 : (ji41) < (l0_6.length : Int) := of_decide_eq_true (by first | (with_reducible assumption) | assumption)
                                  obtain ⟨ad172, e172, hx172_0, hx172_1⟩ := at_T58 HR0_6.out (ji41) p172 q172
                                  obtain rfl : ad169 = ad172 := (by injection e172)
                                  replace hx172_0 := (HB.out.cell (World.block_lt_of_cell? w _ hx172_0)).trans hx172_0
                                  replace hx172_1 := (HB.out.cell (World.block_lt_of_cell? w _ hx172_1)).trans hx172_1
                                  replace p172 := eq_true p172
                                  replace q172 := eq_true q172
                                  go_wp2
                                  repeat (go_quiet (fail); try go_wp2)
                                  go_roundg kj23
                                  case measure => have := HK1.out; have := HJ6.out; have := HJ23.out; omega
                                  case rel => exact ⟨(wrap64 (x8_1 + 1)), (by first | rfl | (simp; done) | (simp [*]; done)), H', ⟨by have := HK1.out; have := HJ6.out; have := HJ23.out; omega⟩, ⟨by (with_reducible repeat (first | refine blk_drewN ?_ _ | refine blk_drew ?_ | refine blk_alloc ?_ _)); exact BK168.out⟩, ⟨by repeat (first | (with_reducible first | exact HB.out | apply below_alloc | apply pw_below_drewN | apply below_drew1 | refine below_set ?_ GE168.out | refine below_set ?_ GE170.out) | exact HB.out)⟩⟩
                            · rw [if_neg c43] at H
                              exact absurd H (by simp)
                          · rw [if_neg c42] at H
                            exact absurd H (by simp)
                        · rw [if_neg c40] at H
                          have c40b0 : decide (0 < x8_1) = false := decide_eq_false c40
                          clear c40
                          have H' := Aside0.mk H
                          clear H
                          go_wp2
                          repeat (go_quiet (fail); try go_wp2)
                          go_roundg kj23
                          case measure => have := HK1.out; have := HJ6.out; have := HJ23.out; omega
                          case rel => exact ⟨(wrap64 (x8_1 + 1)), (by first | rfl | (simp; done) | (simp [*]; done)), H', ⟨by have := HK1.out; have := HJ6.out; have := HJ23.out; omega⟩, ⟨by (with_reducible repeat (first | refine blk_drewN ?_ _ | refine blk_drew ?_ | refine blk_alloc ?_ _)); exact BK168.out⟩, ⟨by repeat (first | (with_reducible first | exact HB.out | apply below_alloc | apply pw_below_drewN | apply below_drew1 | refine below_set ?_ GE168.out | refine below_set ?_ GE170.out) | exact HB.out)⟩⟩
          · rw [if_neg c6] at H
            exact absurd H (by simp)
        · rw [if_neg c5] at H
          exact absurd H (by simp)
      · rw [if_neg c4] at H
        have c4b0 : decide (x8_1 < (l0_6.length : Int)) = false := decide_eq_false c4
        clear c4
        obtain rfl := Option.some.inj H
        go_wp2
        repeat (go_quiet (fail); try go_wp2)
        go_ret
        exact ⟨by first | rfl | (simp [errW_none, errW_some] <;> rfl) | (simp [*, errW_none, errW_some] <;> rfl) | (simp only [IntWalk.i64_left]; rfl), by repeat (first | (with_reducible first | exact HB.out | apply below_alloc | apply pw_below_drewN | apply below_drew1 | refine below_set ?_ GE168.out) | exact HB.out)⟩

end Go.Proofs.Ytinjbpbpgogdhaa.Own
end
