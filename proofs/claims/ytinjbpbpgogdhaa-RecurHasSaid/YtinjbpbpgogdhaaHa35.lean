-- own text: texts of this session merged by a program of it (merge.py), declarations that nothing reaches left out (prune.py)
import Derived.Test.YtinjbpbpgogdhaaHa34
import Derived.Test.YtinjbpbpgogdhaaHa31
import Derived.Test.YtinjbpbpgogdhaaHa26
import Derived.Test.YtinjbpbpgogdhaaHa33
section
namespace Go.Proofs.Ytinjbpbpgogdhaa.Own
open Go.RowKit Go.Proofs.YtinjbpbpgogdhaaW.PrintWords Go.Proofs.YtinjbpbpgogdhaaW.PrintLast Go.Proofs.YtinjbpbpgogdhaaW.PrintMore
set_option linter.unusedVariables false
set_option linter.unusedSimpArgs false
theorem takeC_eq {a2 x : Int} {L M : List Int} (hL : Asc L) (hM : Asc M) (h : ∀ t, t ≤ x → (t ∈ L ↔ t ∈ M)) : x ∈ takeC a2 L ↔ x ∈ takeC a2 M := by
  rw [takeC_mem hL, takeC_mem hM, h x (Int.le_refl _)]
  have e : L.filter (fun y => decide (y < x)) = M.filter (fun y => decide (y < x)) := by
    refine asc_ext _ _ (List.Pairwise.filter _ hL) (List.Pairwise.filter _ hM) (fun t => ?_)
    rw [List.mem_filter, List.mem_filter, decide_eq_true_eq]
    constructor
    · rintro ⟨h1, h2⟩; exact ⟨(h t (by omega)).1 h1, h2⟩
    · rintro ⟨h1, h2⟩; exact ⟨(h t (by omega)).2 h1, h2⟩
  rw [e]
/-- The program's Has and the document's times answer alike. -/
theorem has_plain {a0 a1 a2 a3 a8 : Int} {l4 l5 l7 : List Int} {l6 : List S58} {sN sy sm sd mi bg bY bM bD at' : Int}
    (ha : 1 ≤ a0 ∧ a0 ≤ 4) (ha1 : 1 ≤ a1) (ha2 : 0 ≤ a2) (h8 : 0 ≤ a8 ∧ a8 ≤ 6) (h5 : a0 = 2 → l5.length = 0) (hok : Ok sy sm sd) (hs : num sy sm sd = sN) (hmi : 0 ≤ mi ∧ mi < 1440)
    (hbg : bg = beginZ a0 a8 sN sy sd (sN % 7)) (hbok : Ok bY bM bD) (hbn : num bY bM bD = bg) :
    ((((bet at' (at' + 1) 1 [] (timesL a0 a1 a2 a3 a8 l4 l7 (dayB a0 l4 l5 l6 sN sm sd) sN sy sm mi (k0Z a0 a1 a2 sN at'))).1.length : Nat) : Int) = 1) ↔ at' ∈ refGo a0 a1 a2 a3 a8 l4 l5 l7 l6 sN sy sm sd (sN % 7) (at' / 1440 + 1) mi (109939 - bg).toNat bg bY bM bD (bg % 7) 0 [] [] := by
  have hb := num_bd hok
  rw [hs] at hb
  have hB := perN_bg ha h8 hok hs hbg
  have hsm : 1 ≤ sm ∧ sm ≤ 12 := ⟨hok.2.2.1, hok.2.2.2.1⟩
  have hsy : 1900 ≤ sy := hok.1
  obtain ⟨P, hP⟩ : ∃ P, P = dayB a0 l4 l5 l6 sN sm sd := ⟨_, rfl⟩
  have hF0 : ∀ n : Int, bg ≤ n → n < 109938 → 0 ≤ perN a0 a8 sN sy sm (sN % 7) n := by
    intro n h1 h2
    have := perN_mono (a0 := a0) (a8 := a8) (sN := sN) (sy := sy) (sm := sm) (sW := sN % 7) hB.1 h1 h2
    omega
  obtain ⟨E, hE, hEb⟩ := refGo_told (a0 := a0) (a1 := a1) (a2 := a2) (a3 := a3) (a8 := a8) (l4 := l4) (l5 := l5) (l7 := l7) (l6 := l6) (sN := sN) (sy := sy) (sm := sm) (sd := sd) (below := at' / 1440 + 1) (mi := mi) (bg := bg)
    (F := fun st => if st % a1 = 0 then (periodL a0 a8 l4 (dayB a0 l4 l5 l6 sN sm sd) sN sy sm st).1.filter (fun x => decide (bg ≤ x)) else []) ha h8 hb hsm h5 hB.1 (fun st => rfl)
    (109939 - bg).toNat bg bY bM bD (bg % 7) 0 [] [] 0 (by omega) (.inl ⟨hbok, hbn⟩) rfl (Int.le_refl _) rfl (fun n h1 h2 => by omega) (fun n h1 h2 => hF0 n h1 h2) rfl (by
      refine (List.filter_eq_nil_iff.2 (fun x hx => ?_)).symm
      split at hx
      · have := of_decide_eq_true (List.mem_filter.1 hx).2
        simp
        omega
      · cases hx)
  rw [hE, RS_told]
  obtain ⟨F, hF⟩ : ∃ F : Int → List Int, F = fun st => if st % a1 = 0 then (periodL a0 a8 l4 (dayB a0 l4 l5 l6 sN sm sd) sN sy sm st).1.filter (fun x => decide (bg ≤ x)) else [] := ⟨_, rfl⟩
  rw [← hF]
  have hFe : ∀ st : Int, 0 ≤ st → st % a1 = 0 → F st = (periodL a0 a8 l4 (dayB a0 l4 l5 l6 sN sm sd) sN sy sm st).1 := by
    intro st h0 h1
    rw [hF]
    show (if st % a1 = 0 then _ else _) = _
    rw [if_pos h1]
    refine List.filter_eq_self.2 (fun x hx => decide_eq_true ?_)
    obtain ⟨g1, g2⟩ := (PL_mem ha h8 hb hsm).1 hx
    by_cases c : bg ≤ x
    · exact c
    · have := perN_neg ha h8 hok hs hbg (dayB_bd g1).1 (show x < bg by omega)
      omega
  have hFn : ∀ st : Int, ¬ st % a1 = 0 → F st = [] := by
    intro st h1
    rw [hF]
    exact if_neg h1
  have hFA : ∀ st, Asc (F st) := by
    intro st
    rw [hF]
    show Asc (if st % a1 = 0 then _ else _)
    split
    · exact List.Pairwise.filter _ (asc_periodL _ _ _ _ _ _ _ _)
    · exact List.Pairwise.nil
  have hFO : ∀ s t x y : Int, 0 ≤ s → s < t → x ∈ F s → y ∈ F t → x < y := by
    intro s t x y h0 h1 hx hy
    by_cases c1 : s % a1 = 0
    · by_cases c2 : t % a1 = 0
      · rw [hFe s h0 c1] at hx
        rw [hFe t (by omega) c2] at hy
        exact period_order (by omega) hsm.1 hsm.2 h0 h1 hx hy
      · rw [hFn t c2] at hy; cases hy
    · rw [hFn s c1] at hx; cases hx
  have hBA := asc_BS (sN := sN) (mi := mi) (l7 := l7) hFA hFO E
  obtain ⟨k0, hk0⟩ : ∃ k, k = k0Z a0 a1 a2 sN at' := ⟨_, rfl⟩
  obtain ⟨L0, hL0⟩ : ∃ L, L = goPer (DLp a0 a1 a8 l4 l7 (dayB a0 l4 l5 l6 sN sm sd) sN sy sm) 0 (-1) sN mi (111000 - k0) k0 0 := ⟨_, rfl⟩
  have hLA : Asc L0 := by rw [hL0]; exact asc_timesK ha1 (by omega) hsm.1 hsm.2
  have hT : timesL a0 a1 a2 a3 a8 l4 l7 (dayB a0 l4 l5 l6 sN sm sd) sN sy sm mi k0 = takeC a2 (L0.filter (nuB a3)) := by
    rw [← cut_take ha2 hLA, hL0]
    unfold timesL
    exact goPer_cut _ _ _ _
  have hTA : Asc (takeC a2 (L0.filter (nuB a3))) := by
    unfold takeC
    split
    · exact List.Pairwise.sublist (List.take_sublist _ _) (List.Pairwise.filter _ hLA)
    · exact List.Pairwise.filter _ hLA
  rw [← hk0, hT, bet_one hTA]
  -- the rows agree
  have hL0m : ∀ t, t ∈ L0 ↔ ∃ j : Nat, k0 ≤ j ∧ (periodL a0 a8 l4 (dayB a0 l4 l5 l6 sN sm sd) sN sy sm ((j : Int) * a1)).2 = true ∧ ∃ n ∈ placesL l7 (periodL a0 a8 l4 (dayB a0 l4 l5 l6 sN sm sd) sN sy sm ((j : Int) * a1)).1, sN ≤ n ∧ t = n * 1440 + mi := by
    intro t
    rw [hL0]
    exact timesK_mem ha1 hb.1 (by omega) hsy hsm.1
  have hBm : ∀ t, t ≤ at' → (t ∈ BS sN mi l7 F E ↔ ∃ j : Nat, (periodL a0 a8 l4 (dayB a0 l4 l5 l6 sN sm sd) sN sy sm ((j : Int) * a1)).2 = true ∧ ∃ n ∈ placesL l7 (periodL a0 a8 l4 (dayB a0 l4 l5 l6 sN sm sd) sN sy sm ((j : Int) * a1)).1, sN ≤ n ∧ t = n * 1440 + mi) := by
    intro t ht
    rw [BS_mem]
    constructor
    · rintro ⟨s, hs1, hm⟩
      obtain ⟨n, hn, hge, he⟩ := tms_mem.1 hm
      by_cases c : (s : Int) % a1 = 0
      · rw [hFe (s : Int) (by omega) c] at hn
        have hdv : (((s : Int) / a1).toNat : Int) * a1 = (s : Int) := by
          rw [Int.toNat_of_nonneg (Int.ediv_nonneg (by omega) (by omega))]
          exact Int.ediv_mul_cancel (Int.dvd_of_emod_eq_zero c)
        refine ⟨((s : Int) / a1).toNat, ?_, n, ?_, hge, he⟩
        · rw [hdv]; exact period_has (placesL_mem hn)
        · rw [hdv]; exact hn
      · rw [hFn _ c, placesL_nil] at hn
        cases hn
    · rintro ⟨j, hmo, n, hn, hge, he⟩
      have hz : 0 ≤ (j : Int) * a1 := Int.mul_nonneg (by omega) (by omega)
      have hmod : ((j : Int) * a1) % a1 = 0 := Int.mul_emod_left _ _
      obtain ⟨g1, g2⟩ := (PL_mem ha h8 hb hsm).1 (placesL_mem hn)
      have hnb := dayB_bd g1
      refine ⟨((j : Int) * a1).toNat, ?_, ?_⟩
      · by_cases c : (E : Int) ≤ perN a0 a8 sN sy sm (sN % 7) n
        · have := hEb n (by omega) hnb.2 c
          omega
        · omega
      · rw [Int.toNat_of_nonneg hz, hFe _ hz hmod]
        exact tms_mem.2 ⟨n, hn, hge, he⟩
  have hok2 : ∀ t, t ≤ at' → t ∈ BS sN mi l7 F E → okB a3 (at' / 1440 + 1) mi t = nuB a3 t := by
    intro t ht hm
    obtain ⟨j, _, n, _, hge, he⟩ := (hBm t ht).1 hm
    unfold okB nuB
    rw [decide_eq_true (show t - mi < (at' / 1440 + 1) * 1440 by omega), Bool.true_and]
  by_cases hc : 0 < a2
  · have hk : k0 = 0 := by rw [hk0]; exact if_pos (.inl hc)
    subst hk
    refine takeC_eq (List.Pairwise.filter _ hLA) (List.Pairwise.filter _ hBA) (fun t ht => ?_)
    rw [List.mem_filter, List.mem_filter]
    constructor
    · rintro ⟨h1, h2⟩
      obtain ⟨j, _, h3⟩ := (hL0m t).1 h1
      have h4 := (hBm t ht).2 ⟨j, h3⟩
      exact ⟨h4, by rw [hok2 t ht h4]; exact h2⟩
    · rintro ⟨h1, h2⟩
      obtain ⟨j, h3⟩ := (hBm t ht).1 h1
      exact ⟨(hL0m t).2 ⟨j, Nat.zero_le _, h3⟩, by rw [← hok2 t ht h1]; exact h2⟩
  · unfold takeC
    rw [if_neg hc, if_neg hc, List.mem_filter, List.mem_filter]
    constructor
    · rintro ⟨h1, h2⟩
      obtain ⟨j, _, h3⟩ := (hL0m at').1 h1
      have h4 := (hBm at' (Int.le_refl _)).2 ⟨j, h3⟩
      exact ⟨h4, by rw [hok2 at' (Int.le_refl _) h4]; exact h2⟩
    · rintro ⟨h1, h2⟩
      obtain ⟨j, hmo, n, hn, hge, he⟩ := (hBm at' (Int.le_refl _)).1 h1
      obtain ⟨g1, g2⟩ := (PL_mem ha h8 hb hsm).1 (placesL_mem hn)
      have hnb := dayB_bd g1
      refine ⟨(hL0m at').2 ⟨j, ?_, hmo, n, hn, hge, he⟩, by rw [← hok2 at' (Int.le_refl _) h1]; exact h2⟩
      rw [hk0]
      exact k0Z_le ha ha1 h8 hok hs hge hnb.2 at' (by omega) g2
end Go.Proofs.Ytinjbpbpgogdhaa.Own
end
section
namespace Go.Proofs.Ytinjbpbpgogdhaa.Own
open Go.RowKit Go.Shelf Go.Proofs.YtinjbpbpgogdhaaW.PrintWords Go.Proofs.YtinjbpbpgogdhaaW.PrintLast Go.Proofs.YtinjbpbpgogdhaaW.PrintMore
set_option linter.unusedVariables false
set_option linter.unusedSimpArgs false
set_option maxHeartbeats 8000000 in
set_option maxRecDepth 100000 in
/-- ref10.Times, where the rule is none. -/
theorem rtimes_no {a0 a1 a2 a3 a8 : Int} {A4 A5 A6 A7 : Option Addr} {c4 c5 c6 c7 : Nat} {l4 l5 l7 : List Int} {l6 : List S58} (start below : Int) (w : World) (hC : RC w A4 A5 A6 A7 c4 c5 c6 c7 l4 l5 l7 l6) (hmay : mayB a0 a1 a2 a3 l4 l5 l6 l7 a8 = false) :
    Calls Try.prog 9 #[.agg #[.int .i64 a0, .int .i64 a1, .int .i64 a2, .int .i64 a3, .slice A4 l4.length c4, .slice A5 l5.length c5, .slice A6 l6.length c6, .slice A7 l7.length c7, .int .i64 a8], .int .i64 start, .int .i64 below] w fun e w' => ∃ v, e = .returned v ∧ Kd.R (Kd.int .i64) 2 w' w.heap.size (fun _ => True) v [] ∧ Below w.heap.size w w' := by
  have HRC := Lib.hid hC
  have HM : Hid (∀ W, Below w.heap.size w W → Calls Try.prog 7 #[.agg #[.int .i64 a0, .int .i64 a1, .int .i64 a2, .int .i64 a3, .slice A4 l4.length c4, .slice A5 l5.length c5, .slice A6 l6.length c6, .slice A7 l7.length c7, .int .i64 a8]] W fun e w' => e = .returned (.bool false) ∧ Below W.heap.size W w') := Lib.hid (fun W hW => by
    have h := HRC.out.below hW
    have hh := vespersref09_May.calls 3100 a0 a1 a2 a3 A4 c4 l4 A5 c5 l5 A6 c6 l6 A7 c7 l7 a8 false W h.h4 h.k4 h.h5 h.k5 h.h6 h.k6 h.h7 h.k7 (by rw [← hmay]; exact ref_May_told h.n4 h.n5 h.n6 h.n7 3100 (by decide))
    exact hh)
  clear hC hmay
  go_enter Try.func9, Try.ntmps9
  go_upto_region 1 with (fail)
  have hx1 := World.alloc_heap_new w (.cells #[.int .i64 a0, .int .i64 a1, .int .i64 a2, .int .i64 a3, .slice A4 l4.length c4, .slice A5 l5.length c5, .slice A6 l6.length c6, .slice A7 l7.length c7, .int .i64 a8] 25)
  have hxb : Below w.heap.size w (w.alloc (.cells #[.int .i64 a0, .int .i64 a1, .int .i64 a2, .int .i64 a3, .slice A4 l4.length c4, .slice A5 l5.length c5, .slice A6 l6.length c6, .slice A7 l7.length c7, .int .i64 a8] 25)) := below_new_
  generalize (w.alloc (.cells #[.int .i64 a0, .int .i64 a1, .int .i64 a2, .int .i64 a3, .slice A4 l4.length c4, .slice A5 l5.length c5, .slice A6 l6.length c6, .slice A7 l7.length c7, .int .i64 a8] 25)) = w1 at hx1 hxb ⊢
  obtain ⟨g1, hg1⟩ : ∃ x, x = w.heap.size := ⟨_, rfl⟩
  rw [← hg1] at hx1 ⊢
  clear hg1
  have H1 := Lib.hid hx1
  have HB1 := Lib.hid hxb
  clear hx1 hxb
  go_upto_region 2 with (((with_reducible refine gate_dst (N := 16) rfl ?_); (try (refine gate_guard (by rfl) ?_; dsimp only)); refine Kd.R_lit (Kd.int .i64) (w0 := w) w.heap.size 2 ?hg (N := 16) ?hd (xs := ([] : List Int)) (inner := []) (ok := fun _ => True) (okp := fun _ => True) ?hr ?hp (fun _ hk => hk) trivial HB1.out HB1.out.size (by simp) ?_; (case hd => rfl); (case hg => rfl); (case hr => first | (go_simp; done) | (go_simp; rfl)); (case hp => exact (Reps.none _ _)); intro v1 w2 ho9 hb hg_ hnew_; have HO9 := Lib.hid ho9; have HB9 := Lib.hid hb; have HG9 := Lib.hid hg_; have HN9 := Lib.hid hnew_; clear ho9 hb hg_ hnew_))
  have H2 := Lib.hid (kept_below (Kept.of_grown HG9.out (Kept.refl _ _) (fun k h => by cases h)) H1.out)
  clear H1
  obtain ⟨vA, vc, rfl, hx1, hx2⟩ := Kd.R_reads HO9.out
  clear hx1 hx2
  obtain ⟨q0, q1, q2, q3, q4, q5, q6, q7, q8⟩ := cells9 H2.out
  go_wp2_with (first | ((with_reducible refine (HM.out _ HB9.out).mono ?_); rintro e w3 ⟨rfl, hb3⟩; have HB3 := Lib.hid (HB9.out.trans (hb3.mono HB9.out.size)); have HO3 := Lib.hid (Kd.R_below HO9.out hb3); clear hb3))
  go_ret
  exact ⟨_, rfl, HO3.out, HB3.out⟩
end Go.Proofs.Ytinjbpbpgogdhaa.Own
end
section
namespace Go.Proofs.Ytinjbpbpgogdhaa.Own
open Go.RowKit Go.Shelf Go.Proofs.YtinjbpbpgogdhaaW.PrintWords Go.Proofs.YtinjbpbpgogdhaaW.PrintLast Go.Proofs.YtinjbpbpgogdhaaW.PrintMore
set_option linter.unusedVariables false
set_option linter.unusedSimpArgs false
/-- What a rule's rows are, of whatever length. -/
structure RB (w : World) (A4 A5 A6 A7 : Option Addr) (c4 c5 c6 c7 : Nat) (l4 l5 l7 : List Int) (l6 : List S58) : Prop where
  h4 : Kd.C (Kd.int .i64) w A4 l4.length l4
  h5 : Kd.C (Kd.int .i64) w A5 l5.length l5
  h6 : Kd.C k58 w A6 l6.length l6
  h7 : Kd.C (Kd.int .i64) w A7 l7.length l7
  k4 : l4.length ≤ c4
  k5 : l5.length ≤ c5
  k6 : l6.length ≤ c6
  k7 : l7.length ≤ c7
theorem RB.below {w W : World} {A4 A5 A6 A7 : Option Addr} {c4 c5 c6 c7 : Nat} {l4 l5 l7 : List Int} {l6 : List S58} (h : RB w A4 A5 A6 A7 c4 c5 c6 c7 l4 l5 l7 l6) (hb : Below w.heap.size w W) : RB W A4 A5 A6 A7 c4 c5 c6 c7 l4 l5 l7 l6 :=
  ⟨Kd.C_below h.h4 hb, Kd.C_below h.h5 hb, Kd.C_below h.h6 hb, Kd.C_below h.h7 hb, h.k4, h.k5, h.k6, h.k7⟩
def greatB (l4 l5 l7 : List Int) (l6 : List S58) : Bool := decide (100 < l4.length) || decide (100 < l5.length) || decide (200 < l6.length) || decide (900 < l7.length)
theorem great_f (a0 a1 a2 a3 a8 : Int) (l4 l5 l7 : List Int) (l6 : List S58) : vespersref09_Great.f a0 a1 a2 a3 l4 l5 l6 l7 a8 = some (greatB l4 l5 l7 l6) := by
  unfold vespersref09_Great.f greatB
  repeat' split
  all_goals congr 1
  all_goals rw [Bool.eq_iff_iff]
  all_goals simp only [Bool.or_eq_true, decide_eq_true_eq, true_iff]
  all_goals omega
theorem RB.rc {w : World} {A4 A5 A6 A7 : Option Addr} {c4 c5 c6 c7 : Nat} {l4 l5 l7 : List Int} {l6 : List S58} (h : RB w A4 A5 A6 A7 c4 c5 c6 c7 l4 l5 l7 l6) (hg : greatB l4 l5 l7 l6 = false) : RC w A4 A5 A6 A7 c4 c5 c6 c7 l4 l5 l7 l6 := by
  unfold greatB at hg
  simp only [Bool.or_eq_false_iff, decide_eq_false_iff_not] at hg
  exact ⟨h.h4, h.h5, h.h6, h.h7, h.k4, h.k5, h.k6, h.k7, by omega, by omega, by omega, by omega⟩
end Go.Proofs.Ytinjbpbpgogdhaa.Own
end
section
namespace Go.Proofs.Ytinjbpbpgogdhaa.Own
open Go.RowKit Go.Shelf Go.Proofs.YtinjbpbpgogdhaaW.PrintWords Go.Proofs.YtinjbpbpgogdhaaW.PrintLast Go.Proofs.YtinjbpbpgogdhaaW.PrintMore
set_option linter.unusedVariables false
set_option linter.unusedSimpArgs false
theorem refGo_len {a0 a1 a2 a3 a8 : Int} {l4 l5 l7 : List Int} {l6 : List S58} {sN sy sm sd sW below mi : Int} : ∀ (k : Nat) (N y m d wd last : Int) (l out : List Int), (refGo a0 a1 a2 a3 a8 l4 l5 l7 l6 sN sy sm sd sW below mi k N y m d wd last l out).length ≤ l.length + out.length + k
  | 0, _, _, _, _, _, _, l, out => by
    rw [refGo]; omega
  | k + 1, N, y, m, d, wd, last, l, out => by
    have h3 := flushG_len a2 a3 sN below mi (placesL l7 l) out (placesL l7 l).length
    have h4 := placesL_len l7 l
    have h5 : (flushL a2 a3 sN below mi (placesL l7 l) out).length ≤ out.length + (placesL l7 l).length := h3
    rw [refGo]
    split
    · split
      · omega
      · refine Nat.le_trans (refGo_len k _ _ _ _ _ _ _ _) ?_
        split
        · rw [List.length_singleton]; omega
        · rw [List.length_nil]; omega
    · refine Nat.le_trans (refGo_len k _ _ _ _ _ _ _ _) ?_
      split
      · rw [List.length_append, List.length_singleton]; omega
      · omega
theorem may_week {a0 a1 a2 a3 a8 : Int} {l4 l5 l7 : List Int} {l6 : List S58} (hm : mayB a0 a1 a2 a3 l4 l5 l6 l7 a8 = true) : (a0 = 2 → l5.length = 0) ∧ 0 ≤ a2 := by
  unfold mayB at hm
  simp only [Bool.and_eq_true, decide_eq_true_eq] at hm
  obtain ⟨⟨⟨⟨⟨⟨⟨⟨⟨⟨⟨⟨e0, e1⟩, e2⟩, e3⟩, e4⟩, e5⟩, e6⟩, e7⟩, e8⟩, e9⟩, e10⟩, e11⟩, e12⟩ := hm
  refine ⟨fun h => ?_, ?_⟩
  · rw [decide_eq_true h] at e7
    simpa using e7
  · unfold endsB at e4
    by_cases c : a2 < 0
    · rw [if_pos c] at e4; cases e4
    · omega
def HasRel (w : World) (TL : List Int) (at' : Int) (i b : Value) (wr : World) : Prop := ∃ (j : Nat), j ≤ TL.length ∧ i = .int .i64 (j : Int) ∧ b = .bool (decide (at' ∈ TL.take j)) ∧ wr = w
set_option maxHeartbeats 16000000 in
set_option maxRecDepth 100000 in
theorem recurHas_any {a0 a1 a2 a3 a8 : Int} {A4 A5 A6 A7 : Option Addr} {c4 c5 c6 c7 : Nat} {l4 l5 l7 : List Int} {l6 : List S58} (start at' : Int) (w : World) (hR : RB w A4 A5 A6 A7 c4 c5 c6 c7 l4 l5 l7 l6) (hst : -9223372036854775808 ≤ start ∧ start ≤ 9223372036854775807) (hat : -9223372036854775808 ≤ at' ∧ at' ≤ 9223372036854775807) :
    Calls Try.prog 4 #[.agg #[.int .i64 a0, .int .i64 a1, .int .i64 a2, .int .i64 a3, .slice A4 l4.length c4, .slice A5 l5.length c5, .slice A6 l6.length c6, .slice A7 l7.length c7, .int .i64 a8], .int .i64 start, .int .i64 at'] w fun e w' => e = .returned (.bool true) ∧ Below w.heap.size w w' := by
  have HR := Lib.hid hR
  clear hR
  go_enter Try.func4, Try.ntmps4
  go_upto_region 1 with (fail)
  have hx1 := World.alloc_heap_new w (.cells #[.int .i64 a0, .int .i64 a1, .int .i64 a2, .int .i64 a3, .slice A4 l4.length c4, .slice A5 l5.length c5, .slice A6 l6.length c6, .slice A7 l7.length c7, .int .i64 a8] 25)
  have hxb : Below w.heap.size w (w.alloc (.cells #[.int .i64 a0, .int .i64 a1, .int .i64 a2, .int .i64 a3, .slice A4 l4.length c4, .slice A5 l5.length c5, .slice A6 l6.length c6, .slice A7 l7.length c7, .int .i64 a8] 25)) := below_new_
  generalize (w.alloc (.cells #[.int .i64 a0, .int .i64 a1, .int .i64 a2, .int .i64 a3, .slice A4 l4.length c4, .slice A5 l5.length c5, .slice A6 l6.length c6, .slice A7 l7.length c7, .int .i64 a8] 25)) = w1 at hx1 hxb ⊢
  obtain ⟨g1, hg1⟩ : ∃ x, x = w.heap.size := ⟨_, rfl⟩
  rw [← hg1] at hx1 ⊢
  clear hg1
  have H1 := Lib.hid hx1
  have HB1 := Lib.hid hxb
  clear hx1 hxb
  have HGC : Hid (Calls Try.prog 5 #[.agg #[.int .i64 a0, .int .i64 a1, .int .i64 a2, .int .i64 a3, .slice A4 l4.length c4, .slice A5 l5.length c5, .slice A6 l6.length c6, .slice A7 l7.length c7, .int .i64 a8]] w1 fun e w' => e = .returned (.bool (greatB l4 l5 l7 l6)) ∧ Below w1.heap.size w1 w') := Lib.hid (by
    have h := HR.out.below HB1.out
    exact vespersref09_Great.calls a0 a1 a2 a3 A4 c4 l4 A5 c5 l5 A6 c6 l6 A7 c7 l7 a8 _ w1 h.h4 h.k4 h.h5 h.k5 h.h6 h.k6 h.h7 h.k7 (great_f a0 a1 a2 a3 a8 l4 l5 l7 l6))
  have HFX : Hid (∀ W, Calls Try.prog 6 #[] W fun e w' => e = .returned (.bool true) ∧ Below W.heap.size W w') := Lib.hid (fun W => fixed_any W)
  obtain ⟨q0, q1, q2, q3, q4, q5, q6, q7, q8⟩ := cells9 H1.out
  have HAT := Lib.hid hat
  have HSTT := Lib.hid hst
  cases hg : greatB l4 l5 l7 l6 with
  | true =>
    rw [hg] at HGC
    clear hg hst hat
    go_wp2_with (first | ((with_reducible refine HGC.out.mono ?_); rintro e w2 ⟨rfl, hb2⟩; have HB2 := Lib.hid (HB1.out.trans (hb2.mono HB1.out.size)); have H2 := Lib.hid (keep_below hb2 H1.out); clear hb2) | ((with_reducible refine (HFX.out _).mono ?_); rintro e w3 ⟨rfl, hb3⟩; have HB3 := Lib.hid (HB2.out.trans (hb3.mono HB2.out.size)); have H3 := Lib.hid (keep_below hb3 H2.out); clear hb3; obtain ⟨r0, r1, r2, r3, r4, r5, r6, r7, r8⟩ := cells9 H3.out))
    go_ret
    exact ⟨rfl, HB3.out⟩
  | false =>
    have HRC := Lib.hid (HR.out.rc hg)
    rw [hg] at HGC
    clear hg
    by_cases e1 : start < 0
    · clear hst hat
      have HHA : Hid (∀ W, Below w.heap.size w W → Calls Try.prog 10 #[.agg #[.int .i64 a0, .int .i64 a1, .int .i64 a2, .int .i64 a3, .slice A4 l4.length c4, .slice A5 l5.length c5, .slice A6 l6.length c6, .slice A7 l7.length c7, .int .i64 a8], .int .i64 start, .int .i64 at'] W fun e w' => e = .returned (.bool false) ∧ Below w.heap.size w w') := Lib.hid (fun W hW => (has_no start at' W (HRC.out.below hW) (.inr (.inr (.inr (.inl e1))))).mono (fun e w' h => ⟨h.1, hW.trans (h.2.mono hW.size)⟩))
      go_wp2_with (first | ((with_reducible refine HGC.out.mono ?_); rintro e w2 ⟨rfl, hb2⟩; have HB2 := Lib.hid (HB1.out.trans (hb2.mono HB1.out.size)); have H2 := Lib.hid (keep_below hb2 H1.out); clear hb2) | ((with_reducible refine (HFX.out _).mono ?_); rintro e w3 ⟨rfl, hb3⟩; have HB3 := Lib.hid (HB2.out.trans (hb3.mono HB2.out.size)); have H3 := Lib.hid (keep_below hb3 H2.out); clear hb3; obtain ⟨r0, r1, r2, r3, r4, r5, r6, r7, r8⟩ := cells9 H3.out) | ((with_reducible refine (HHA.out _ HB3.out).mono ?_); rintro e w4 ⟨rfl, hb4⟩; have HB4 := Lib.hid hb4; clear hb4))
      go_ret
      exact ⟨rfl, HB4.out⟩
    · by_cases e2 : 158310720 ≤ start
      · clear hst hat
        have HHA : Hid (∀ W, Below w.heap.size w W → Calls Try.prog 10 #[.agg #[.int .i64 a0, .int .i64 a1, .int .i64 a2, .int .i64 a3, .slice A4 l4.length c4, .slice A5 l5.length c5, .slice A6 l6.length c6, .slice A7 l7.length c7, .int .i64 a8], .int .i64 start, .int .i64 at'] W fun e w' => e = .returned (.bool false) ∧ Below w.heap.size w w') := Lib.hid (fun W hW => (has_no start at' W (HRC.out.below hW) (.inr (.inr (.inr (.inr (.inl e2)))))).mono (fun e w' h => ⟨h.1, hW.trans (h.2.mono hW.size)⟩))
        go_wp2_with (first | ((with_reducible refine HGC.out.mono ?_); rintro e w2 ⟨rfl, hb2⟩; have HB2 := Lib.hid (HB1.out.trans (hb2.mono HB1.out.size)); have H2 := Lib.hid (keep_below hb2 H1.out); clear hb2) | ((with_reducible refine (HFX.out _).mono ?_); rintro e w3 ⟨rfl, hb3⟩; have HB3 := Lib.hid (HB2.out.trans (hb3.mono HB2.out.size)); have H3 := Lib.hid (keep_below hb3 H2.out); clear hb3; obtain ⟨r0, r1, r2, r3, r4, r5, r6, r7, r8⟩ := cells9 H3.out) | ((with_reducible refine (HHA.out _ HB3.out).mono ?_); rintro e w4 ⟨rfl, hb4⟩; have HB4 := Lib.hid hb4; clear hb4))
        go_ret
        exact ⟨rfl, HB4.out⟩
      · have kw : wrap64 (start + 3600000) = start + 3600000 := IntWalk.wrap64_in _ (by omega)
        by_cases e3 : start + 3600000 < at'
        · clear hst hat
          go_wp2_with (first | ((with_reducible refine HGC.out.mono ?_); rintro e w2 ⟨rfl, hb2⟩; have HB2 := Lib.hid (HB1.out.trans (hb2.mono HB1.out.size)); have H2 := Lib.hid (keep_below hb2 H1.out); clear hb2) | ((with_reducible refine (HFX.out _).mono ?_); rintro e w3 ⟨rfl, hb3⟩; have HB3 := Lib.hid (HB2.out.trans (hb3.mono HB2.out.size)); have H3 := Lib.hid (keep_below hb3 H2.out); clear hb3; obtain ⟨r0, r1, r2, r3, r4, r5, r6, r7, r8⟩ := cells9 H3.out))
          go_ret
          exact ⟨rfl, HB3.out⟩
        · by_cases e4 : at' < -1099511627776
          · clear hst hat
            go_wp2_with (first | ((with_reducible refine HGC.out.mono ?_); rintro e w2 ⟨rfl, hb2⟩; have HB2 := Lib.hid (HB1.out.trans (hb2.mono HB1.out.size)); have H2 := Lib.hid (keep_below hb2 H1.out); clear hb2) | ((with_reducible refine (HFX.out _).mono ?_); rintro e w3 ⟨rfl, hb3⟩; have HB3 := Lib.hid (HB2.out.trans (hb3.mono HB2.out.size)); have H3 := Lib.hid (keep_below hb3 H2.out); clear hb3; obtain ⟨r0, r1, r2, r3, r4, r5, r6, r7, r8⟩ := cells9 H3.out))
            go_ret
            exact ⟨rfl, HB3.out⟩
          · by_cases e5 : at' < start
            · clear hst hat
              have HHA : Hid (∀ W, Below w.heap.size w W → Calls Try.prog 10 #[.agg #[.int .i64 a0, .int .i64 a1, .int .i64 a2, .int .i64 a3, .slice A4 l4.length c4, .slice A5 l5.length c5, .slice A6 l6.length c6, .slice A7 l7.length c7, .int .i64 a8], .int .i64 start, .int .i64 at'] W fun e w' => e = .returned (.bool false) ∧ Below w.heap.size w w') := Lib.hid (fun W hW => (has_no start at' W (HRC.out.below hW) (.inr (.inr (.inr (.inr (.inr e5)))))).mono (fun e w' h => ⟨h.1, hW.trans (h.2.mono hW.size)⟩))
              go_wp2_with (first | ((with_reducible refine HGC.out.mono ?_); rintro e w2 ⟨rfl, hb2⟩; have HB2 := Lib.hid (HB1.out.trans (hb2.mono HB1.out.size)); have H2 := Lib.hid (keep_below hb2 H1.out); clear hb2) | ((with_reducible refine (HFX.out _).mono ?_); rintro e w3 ⟨rfl, hb3⟩; have HB3 := Lib.hid (HB2.out.trans (hb3.mono HB2.out.size)); have H3 := Lib.hid (keep_below hb3 H2.out); clear hb3; obtain ⟨r0, r1, r2, r3, r4, r5, r6, r7, r8⟩ := cells9 H3.out) | ((with_reducible refine (HHA.out _ HB3.out).mono ?_); rintro e w4 ⟨rfl, hb4⟩; have HB4 := Lib.hid hb4; clear hb4))
              go_ret
              exact ⟨rfl, HB4.out⟩
            · by_cases e6 : 158310720 ≤ at'
              · clear hst hat
                have HHA : Hid (∀ W, Below w.heap.size w W → Calls Try.prog 10 #[.agg #[.int .i64 a0, .int .i64 a1, .int .i64 a2, .int .i64 a3, .slice A4 l4.length c4, .slice A5 l5.length c5, .slice A6 l6.length c6, .slice A7 l7.length c7, .int .i64 a8], .int .i64 start, .int .i64 at'] W fun e w' => e = .returned (.bool false) ∧ Below w.heap.size w w') := Lib.hid (fun W hW => (has_no start at' W (HRC.out.below hW) (.inr (.inl e6))).mono (fun e w' h => ⟨h.1, hW.trans (h.2.mono hW.size)⟩))
                go_wp2_with (first | ((with_reducible refine HGC.out.mono ?_); rintro e w2 ⟨rfl, hb2⟩; have HB2 := Lib.hid (HB1.out.trans (hb2.mono HB1.out.size)); have H2 := Lib.hid (keep_below hb2 H1.out); clear hb2) | ((with_reducible refine (HFX.out _).mono ?_); rintro e w3 ⟨rfl, hb3⟩; have HB3 := Lib.hid (HB2.out.trans (hb3.mono HB2.out.size)); have H3 := Lib.hid (keep_below hb3 H2.out); clear hb3; obtain ⟨r0, r1, r2, r3, r4, r5, r6, r7, r8⟩ := cells9 H3.out) | ((with_reducible refine (HHA.out _ HB3.out).mono ?_); rintro e w4 ⟨rfl, hb4⟩; have HB4 := Lib.hid hb4; clear hb4))
                go_ret
                exact ⟨rfl, HB4.out⟩
              · -- the reference looks
                obtain ⟨below, hbl⟩ : ∃ x, x = at' / 1440 + 1 := ⟨_, rfl⟩
                obtain ⟨Y, M, D, hdt, hok, hnum⟩ := civil_Date_ok (k := 3000) (by decide) (n := start / 1440) (by omega) (by omega)
                obtain ⟨TL, hB, HTL, HHA0, hlen, hBT⟩ : ∃ (TL : List Int) (hB : Bool), (∀ W, Below w.heap.size w W → Calls Try.prog 9 #[.agg #[.int .i64 a0, .int .i64 a1, .int .i64 a2, .int .i64 a3, .slice A4 l4.length c4, .slice A5 l5.length c5, .slice A6 l6.length c6, .slice A7 l7.length c7, .int .i64 a8], .int .i64 start, .int .i64 below] W fun e w' => ∃ v, e = .returned v ∧ Kd.R (Kd.int .i64) 2 w' W.heap.size (fun _ => True) v TL ∧ Below W.heap.size W w') ∧ (∀ W, Below w.heap.size w W → Calls Try.prog 10 #[.agg #[.int .i64 a0, .int .i64 a1, .int .i64 a2, .int .i64 a3, .slice A4 l4.length c4, .slice A5 l5.length c5, .slice A6 l6.length c6, .slice A7 l7.length c7, .int .i64 a8], .int .i64 start, .int .i64 at'] W fun e w' => e = .returned (.bool hB) ∧ Below W.heap.size W w') ∧ TL.length ≤ 200000 ∧ hB = decide (at' ∈ TL) := by
                  cases hm : mayB a0 a1 a2 a3 l4 l5 l6 l7 a8 with
                  | false =>
                    refine ⟨[], false, fun W hW => rtimes_no start below W (HRC.out.below hW) hm, fun W hW => has_no start at' W (HRC.out.below hW) (.inr (.inr (.inl hm))), by simp, by simp⟩
                  | true =>
                    have hb := may_bd hm
                    have hw := may_week hm
                    have hst2 : num Y M D * 1440 + start % 1440 = start := by rw [hnum]; omega
                    obtain ⟨bg, hbg⟩ : ∃ x, x = beginZ a0 a8 (num Y M D) Y D (num Y M D % 7) := ⟨_, rfl⟩
                    have hpb := perN_bg (a0 := a0) (a8 := a8) ⟨hb.1, hb.2.1⟩ hb.2.2.2.2 hok rfl hbg
                    have hnb := num_bd hok
                    obtain ⟨bY, bM, bD, _, hbok, hbn⟩ := civil_Date_ok (k := 3000) (by decide) (n := bg) hpb.1 (by omega)
                    have hP := has_plain (a3 := a3) (l4 := l4) (l7 := l7) (l6 := l6) (mi := start % 1440) (at' := at') ⟨hb.1, hb.2.1⟩ hb.2.2.1 hw.2 hb.2.2.2.2 hw.1 hok rfl (by omega) hbg hbok hbn
                    have hT := fun W (hW : Below w.heap.size w W) => rtimes_yes (mi := start % 1440) below W (HRC.out.below hW) hm hok (by omega) ⟨hb.1, hb.2.1⟩ ⟨hb.2.2.1, hb.2.2.2.1⟩ hb.2.2.2.2 hbg hbok hbn
                    have hH := fun W (hW : Below w.heap.size w W) => has_yes start at' _ W (HRC.out.below hW) (by omega) (by omega) hm (by omega) (by omega) (by omega) hdt ⟨hok.1, hok.2.1, hok.2.2.1, hok.2.2.2.1⟩ rfl
                    rw [← hbl] at hP
                    rw [← hnum] at hH
                    rw [hst2] at hT
                    refine ⟨_, _, hT, hH, ?_, ?_⟩
                    · refine Nat.le_trans (refGo_len _ _ _ _ _ _ _ _ _) ?_
                      simp
                      omega
                    · rw [Bool.eq_iff_iff, decide_eq_true_iff, beq_iff_eq]
                      exact hP
                subst hbl
                have HT := Lib.hid HTL
                have HHA : Hid (∀ W, Below w.heap.size w W → Calls Try.prog 10 #[.agg #[.int .i64 a0, .int .i64 a1, .int .i64 a2, .int .i64 a3, .slice A4 l4.length c4, .slice A5 l5.length c5, .slice A6 l6.length c6, .slice A7 l7.length c7, .int .i64 a8], .int .i64 start, .int .i64 at'] W fun e w' => e = .returned (.bool hB) ∧ Below w.heap.size w w') := Lib.hid (fun W hW => (HHA0 W hW).mono (fun e w' h => ⟨h.1, hW.trans (h.2.mono hW.size)⟩))
                have HBT := Lib.hid hBT
                clear HTL HHA0 hBT hdt hok hnum
                have k1 : Int.tdiv at' 1440 = at' / 1440 := Int.tdiv_eq_ediv_of_nonneg (by omega)
                have k2 : wrap64 (at' / 1440) = at' / 1440 := by clear k1 kw; exact IntWalk.wrap64_in _ (by omega)
                have k3 : wrap64 (at' / 1440 + 1) = at' / 1440 + 1 := by clear k1 k2 kw; exact IntWalk.wrap64_in _ (by omega)
                clear hst hat
                go_upto_region 3 with ((with_reducible refine HGC.out.mono ?_); rintro e w2 ⟨rfl, hb2⟩; have HB2 := Lib.hid (HB1.out.trans (hb2.mono HB1.out.size)); have H2 := Lib.hid (keep_below hb2 H1.out); clear hb2)
                clear q0 q1 q2 q3 q4 q5 q6 q7 q8
                obtain ⟨q0, q1, q2, q3, q4, q5, q6, q7, q8⟩ := cells9 H2.out
                go_wp2_with (first | ((with_reducible refine (HT.out _ HB2.out).mono ?_); rintro e w5 ⟨v5, rfl, hR5, hb5⟩; have HR5 := Lib.hid hR5; have HB5 := Lib.hid (HB2.out.trans (hb5.mono HB2.out.size)); have H6 := Lib.hid (keep_below hb5 H2.out); clear hR5 hb5; obtain ⟨tA, tc, rfl, hx1, hx2⟩ := Kd.R_reads HR5.out; clear hx1 hx2))
                clear q0 q1 q2 q3 q4 q5 q6 q7 q8
                have HHAS := HHA
                go_loopw [53, 7] (fun i b wr => HasRel w5 TL at' i b wr) (fun i _ _ => TL.length - (intOf i).toNat)
                case atStart => exact ⟨0, Nat.zero_le _, rfl, by simp, rfl⟩
                case round =>
                obtain ⟨j, hj, rfl, rfl, rfl⟩ := hrel
                obtain ⟨jv, hjv⟩ : ∃ a : Int, a = (j : Int) := ⟨_, rfl⟩
                rw [← hjv]
                have HJV := Lib.hid hjv
                have hj0 : 0 ≤ jv := by clear k1 k2 k3 kw; omega
                have hj2 : jv ≤ 200000 := by clear k1 k2 k3 kw; omega
                have w4 : wrap64 (jv + 1) = jv + 1 := by clear k1 k2 k3 kw; exact IntWalk.wrap64_in _ (by omega)
                obtain ⟨bv, hbv⟩ : ∃ b, b = decide (at' ∈ TL.take j) := ⟨_, rfl⟩
                rw [← hbv]
                have HBV := Lib.hid hbv
                clear hbv hjv
                by_cases hlt : jv < (TL.length : Int)
                · have hltn : Hid (j < TL.length) := Lib.hid (by have := HJV.out; clear k1 k2 k3 kw w4; omega)
                  have HJN : Hid (((j + 1 : Nat) : Int) = jv + 1) := Lib.hid (by have := HJV.out; clear w4 k1 k2 k3 kw; omega)
                  obtain ⟨ad, rfl, hc1⟩ := Kd.at_int (Kd.R_reads' HR5.out).2.2 jv (by omega) (by omega)
                  obtain ⟨x, hx⟩ : ∃ x, x = rd TL jv := ⟨_, rfl⟩
                  rw [← hx] at hc1
                  have hxx : Hid (x = rd TL (j : Int)) := Lib.hid (by rw [← HJV.out]; exact hx)
                  have HST : Hid (decide (at' ∈ TL.take (j + 1)) = (bv || decide (x = at'))) := Lib.hid (by
                    rw [rd_take hltn.out, ← hxx.out, HBV.out, Bool.eq_iff_iff]
                    simp only [List.mem_append, List.mem_singleton, Bool.or_eq_true, decide_eq_true_eq]
                    exact ⟨fun h => h.imp id Eq.symm, fun h => h.imp id Eq.symm⟩)
                  clear hx hj
                  cases bv with
                  | true =>
                    go_wp2
                    go_roundw
                    case rel => exact ⟨j + 1, hltn.out, by rw [HJN.out], by rw [HST.out]; rfl, rfl⟩
                    case measure =>
                      clear k1 k2 k3 kw
                      (try rw [w4])
                      clear w4
                      simp only [intOf]
                      omega
                  | false =>
                    by_cases hxe : x = at'
                    · have hxb : (x == at') = true := beq_iff_eq.mpr hxe
                      have HXE : Hid (decide (x = at') = true) := Lib.hid (decide_eq_true hxe)
                      clear hxe
                      go_wp2
                      go_roundw
                      case rel => exact ⟨j + 1, hltn.out, by rw [HJN.out], by rw [HST.out, HXE.out]; rfl, rfl⟩
                      case measure =>
                        clear k1 k2 k3 kw
                        (try rw [w4])
                        clear w4
                        simp only [intOf]
                        omega
                    · have hxb : (x == at') = false := by rw [Bool.eq_false_iff]; intro h; exact hxe (eq_of_beq h)
                      have HXE : Hid (decide (x = at') = false) := Lib.hid (decide_eq_false hxe)
                      clear hxe
                      go_wp2
                      go_roundw
                      case rel => exact ⟨j + 1, hltn.out, by rw [HJN.out], by rw [HST.out, HXE.out]; rfl, rfl⟩
                      case measure =>
                        clear k1 k2 k3 kw
                        (try rw [w4])
                        clear w4
                        simp only [intOf]
                        omega
                · have hje : j = TL.length := by have := HJV.out; clear k1 k2 k3 kw w4; omega
                  subst hje
                  have HBE : Hid (bv = hB) := Lib.hid (by rw [HBV.out, HBT.out, List.take_length])
                  have HBB : (hB == bv) = true := by rw [HBE.out]; exact beq_self_eq_true _
                  clear HBV HJV w4 k1 k2 k3 kw
                  go_wp2_with (first | (((with_reducible refine (HFX.out _).mono ?_); rintro e w3 ⟨rfl, hb3⟩; have HB3 := Lib.hid (HB5.out.trans (hb3.mono HB5.out.size)); have H3 := Lib.hid (keep_below hb3 H6.out); clear hb3; obtain ⟨r0, r1, r2, r3, r4, r5, r6, r7, r8⟩ := cells9 H3.out)) | ((with_reducible refine (HHA.out _ HB3.out).mono ?_); rintro e w4 ⟨rfl, hb4⟩; have HB4 := Lib.hid hb4; clear hb4))
                  go_ret
                  exact ⟨rfl, HB4.out⟩
end Go.Proofs.Ytinjbpbpgogdhaa.Own
end
