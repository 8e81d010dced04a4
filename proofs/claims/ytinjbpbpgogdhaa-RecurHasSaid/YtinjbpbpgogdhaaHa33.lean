-- own text: texts of this session merged by a program of it (merge.py), declarations that nothing reaches left out (prune.py)
import Derived.Test.YtinjbpbpgogdhaaHa32
import Derived.Test.YtinjbpbpgogdhaaHa23
section
namespace Go.Proofs.Ytinjbpbpgogdhaa.Own
open Go.RowKit Go.Shelf Go.Proofs.YtinjbpbpgogdhaaW.PrintWords Go.Proofs.YtinjbpbpgogdhaaW.PrintLast Go.Proofs.YtinjbpbpgogdhaaW.PrintMore
set_option linter.unusedVariables false
set_option linter.unusedSimpArgs false
theorem refGo_step {a0 a1 a2 a3 a8 : Int} {l4 l5 l7 : List Int} {l6 : List S58} {sN sy sm sd sW below mi : Int} {k : Nat} {N y m d wd last p : Int} {l out : List Int} {t : Bool} {last' : Int} {l' out' : List Int}
    (hp : p = pZ a0 a8 sN sy sm sW N y m) (ht : t = takeB a0 a1 l4 l5 l6 sm sd sW p N y m d wd) (h : TmSt p last N below sN a2 a3 mi t l7 l out last' l' out') :
    refGo a0 a1 a2 a3 a8 l4 l5 l7 l6 sN sy sm sd sW below mi (k + 1) N y m d wd last l out = refGo a0 a1 a2 a3 a8 l4 l5 l7 l6 sN sy sm sd sW below mi k (N + 1) (nextY y m d) (nextM y m d) (nextD y m d) ((wd + 1) % 7) last' l' out' := by
  rw [refGo, ← hp, ← ht]
  rcases h with ⟨h1, h2, rfl, rfl, rfl⟩ | ⟨h1, h2, rfl, rfl, rfl⟩
  · rw [if_neg (by intro h; rcases h with h | h; exact h h1; exact h2 h)]
  · rw [if_pos h1, if_neg h2]
theorem refGo_end {a0 a1 a2 a3 a8 : Int} {l4 l5 l7 : List Int} {l6 : List S58} {sN sy sm sd sW below mi : Int} {k : Nat} {N y m d wd last p : Int} {l out : List Int}
    (hp : p = pZ a0 a8 sN sy sm sW N y m) (h : (p ≠ last ∨ N = 109938) ∧ below ≤ N) :
    refGo a0 a1 a2 a3 a8 l4 l5 l7 l6 sN sy sm sd sW below mi (k + 1) N y m d wd last l out = flushL a2 a3 sN below mi (placesL l7 l) out := by
  rw [refGo, ← hp]
  rw [if_pos h.1, if_pos h.2]
theorem TmSt.len {p last n below sN a2 a3 mi : Int} {t : Bool} {l7 l out : List Int} {last' : Int} {l' out' : List Int} (h : TmSt p last n below sN a2 a3 mi t l7 l out last' l' out') : l'.length + out'.length ≤ l.length + out.length + 1 := by
  rcases h with ⟨h1, h2, rfl, rfl, rfl⟩ | ⟨h1, h2, rfl, rfl, rfl⟩
  · split
    · rw [List.length_append, List.length_singleton]; omega
    · omega
  · have h3 := flushG_len a2 a3 sN below mi (placesL l7 l) out (placesL l7 l).length
    have h4 := placesL_len l7 l
    have h5 : (flushL a2 a3 sN below mi (placesL l7 l) out).length ≤ out.length + (placesL l7 l).length := h3
    split
    · rw [List.length_singleton]; omega
    · rw [List.length_nil]; omega
theorem TmSt.bd {p last n below sN a2 a3 mi : Int} {t : Bool} {l7 l out : List Int} {last' : Int} {l' out' : List Int} (h : TmSt p last n below sN a2 a3 mi t l7 l out last' l' out') (hl : ∀ x ∈ l, 0 ≤ x ∧ x ≤ 109938) (hn : 0 ≤ n ∧ n ≤ 109938) : ∀ x ∈ l', 0 ≤ x ∧ x ≤ 109938 := by
  rcases h with ⟨h1, h2, rfl, rfl, rfl⟩ | ⟨h1, h2, rfl, rfl, rfl⟩
  · intro x hx
    split at hx
    · rcases List.mem_append.1 hx with h | h
      · exact hl x h
      · rw [List.mem_singleton.1 h]; exact hn
    · exact hl x hx
  · intro x hx
    split at hx
    · rw [List.mem_singleton.1 hx]; exact hn
    · cases hx
/-- What a store into one block leaves. -/
theorem blk_one {w W : World} {g b : Nat} {o : Obj} (hk : Kept w W (fun k => k = g)) (hb : w.heap[b]? = some o) (hne : b ≠ g) : W.heap[b]? = some o := (hk.2 b (heap_lt hb) hne).trans hb
theorem row_one {e n0 : Nat} {ok : Nat → Prop} {w W : World} {g : Nat} {cs : Array Value} {t : TypeId} {u : Value} {ys : List Int} (hk : Kept w W (fun k => k = g)) (hg : w.heap[g]? = some (.cells cs t (0, 0))) (ht : e ≠ t) (hu : Kd.R (Kd.int .i64) e w n0 ok u ys) : Kd.R (Kd.int .i64) e W n0 ok u ys :=
  Kd.R_mono (Kd.R_step (Kd.R_bound hu) (fun k hk' _ => by
    obtain ⟨_, _, _, q, hq, cs', hc⟩ := hk'
    have : q = e := by
      rcases List.mem_cons.1 hq with e | e
      · exact e
      · cases e
    subst this
    exact hk.2 k (heap_lt hc) (ne_type hc hg ht))) (fun _ h => h.1)
/-- How many days are left. -/
def msr (a : Value) (wr : World) : Nat := match a with
  | .pointer (some p) => (109940 - intOf ((wr.cell? p).getD (.int .i64 0))).toNat
  | _ => 0
theorem msr_eq {W : World} {g : Nat} {n y m d wd : Int} (h : W.heap[g]? = some (.cells #[.int .i64 n, .int .i64 y, .int .i64 m, .int .i64 d, .int .i64 wd] 47 (0, 0))) : msr (.pointer (some ⟨g, 0, none⟩)) W = (109940 - n).toNat := by
  have h0 := (cells5 h).1
  unfold msr
  simp only [h0, Option.getD_some, intOf]
def TmRel (w : World) (g1 g8 : Nat) (C1 C8 : Array Value) (bg : Int) (G : Nat → Int → Int → Int → Int → Int → Int → List Int → List Int → List Int) (ANS : List Int) (a b c e : Value) (wr : World) : Prop :=
  ∃ (k : Nat) (N y m d wd last : Int) (l out : List Int) (g : Nat), a = .pointer (some ⟨g, 0, none⟩) ∧ b = .int .i64 last ∧ N + (k : Int) = 109939 ∧ 0 ≤ N ∧ bg ≤ N ∧ (N = 109939 ∨ DayAt N y m d) ∧ (0 ≤ wd ∧ wd ≤ 6) ∧ Hid ((l.length : Int) + (out.length : Int) ≤ N) ∧ Hid (∀ x ∈ l, 0 ≤ x ∧ x ≤ 109938) ∧ Hid (ANS = G k N y m d wd last l out)
    ∧ Hid (wr.heap[g1]? = some (.cells C1 25 (0, 0))) ∧ Hid (wr.heap[g8]? = some (.cells C8 47 (0, 0))) ∧ Hid (wr.heap[g]? = some (.cells #[.int .i64 N, .int .i64 y, .int .i64 m, .int .i64 d, .int .i64 wd] 47 (0, 0))) ∧ Hid (g8 ≠ g) ∧ Hid (Kd.R (Kd.int .i64) 3 wr w.heap.size (fun _ => True) c l) ∧ Hid (Kd.R (Kd.int .i64) 2 wr w.heap.size (fun _ => True) e out) ∧ Hid (Below w.heap.size w wr)
end Go.Proofs.Ytinjbpbpgogdhaa.Own
end
section
namespace Go.Proofs.Ytinjbpbpgogdhaa.Own
open Go.RowKit Go.Shelf Go.Proofs.YtinjbpbpgogdhaaW.PrintWords Go.Proofs.YtinjbpbpgogdhaaW.PrintLast Go.Proofs.YtinjbpbpgogdhaaW.PrintMore
set_option linter.unusedVariables false
set_option linter.unusedSimpArgs false
set_option maxHeartbeats 16000000 in
set_option maxRecDepth 100000 in
/-- ref10.Times, where the rule is one. -/
theorem rtimes_yes {a0 a1 a2 a3 a8 : Int} {A4 A5 A6 A7 : Option Addr} {c4 c5 c6 c7 : Nat} {l4 l5 l7 : List Int} {l6 : List S58} {sy sm sd mi bg bY bM bD : Int} (below : Int) (w : World) (hC : RC w A4 A5 A6 A7 c4 c5 c6 c7 l4 l5 l7 l6) (hmay : mayB a0 a1 a2 a3 l4 l5 l6 l7 a8 = true) (hok : Ok sy sm sd) (hmi : 0 ≤ mi ∧ mi < 1440) (ha : 1 ≤ a0 ∧ a0 ≤ 4) (ha1 : 1 ≤ a1 ∧ a1 ≤ 999) (h8 : 0 ≤ a8 ∧ a8 ≤ 6)
    (hbg : bg = beginZ a0 a8 (num sy sm sd) sy sd (num sy sm sd % 7)) (hbok : Ok bY bM bD) (hbn : num bY bM bD = bg) :
    Calls Try.prog 9 #[.agg #[.int .i64 a0, .int .i64 a1, .int .i64 a2, .int .i64 a3, .slice A4 l4.length c4, .slice A5 l5.length c5, .slice A6 l6.length c6, .slice A7 l7.length c7, .int .i64 a8], .int .i64 (num sy sm sd * 1440 + mi), .int .i64 below] w fun e w' => ∃ v, e = .returned v ∧ Kd.R (Kd.int .i64) 2 w' w.heap.size (fun _ => True) v (refGo a0 a1 a2 a3 a8 l4 l5 l7 l6 (num sy sm sd) sy sm sd (num sy sm sd % 7) below mi (109939 - bg).toNat bg bY bM bD (bg % 7) 0 [] []) ∧ Below w.heap.size w w' := by
  have HRC := Lib.hid hC
  have HM : Hid (∀ W, Below w.heap.size w W → Calls Try.prog 7 #[.agg #[.int .i64 a0, .int .i64 a1, .int .i64 a2, .int .i64 a3, .slice A4 l4.length c4, .slice A5 l5.length c5, .slice A6 l6.length c6, .slice A7 l7.length c7, .int .i64 a8]] W fun e w' => e = .returned (.bool true) ∧ Below W.heap.size W w') := Lib.hid (fun W hW => by
    have h := HRC.out.below hW
    have hh := vespersref09_May.calls 3100 a0 a1 a2 a3 A4 c4 l4 A5 c5 l5 A6 c6 l6 A7 c7 l7 a8 true W h.h4 h.k4 h.h5 h.k5 h.h6 h.k6 h.h7 h.k7 (by rw [← hmay]; exact ref_May_told h.n4 h.n5 h.n6 h.n7 3100 (by decide))
    exact hh)
  clear hC hmay
  have hnb := num_bd hok
  have HOF := Lib.hid (fun W => rof_any hok W)
  have HOK := Lib.hid hok
  obtain ⟨sN, hsN⟩ : ∃ x, x = num sy sm sd := ⟨_, rfl⟩
  rw [← hsN] at hnb HOF hbg ⊢
  have HBGE := Lib.hid hbg
  clear hbg
  obtain ⟨ANS, hANS⟩ : ∃ x, x = refGo a0 a1 a2 a3 a8 l4 l5 l7 l6 sN sy sm sd (sN % 7) below mi (109939 - bg).toNat bg bY bM bD (bg % 7) 0 [] [] := ⟨_, rfl⟩
  rw [← hANS]
  have HANS := Lib.hid hANS
  clear hANS
  have HSN := Lib.hid hsN
  clear hsN hok
  obtain ⟨start, hst⟩ : ∃ x, x = sN * 1440 + mi := ⟨_, rfl⟩
  have hs1 : 0 ≤ start := by omega
  have hs2 : start < 158310720 := by omega
  have k1 : Int.tdiv start 1440 = sN := by rw [Int.tdiv_eq_ediv_of_nonneg hs1]; omega
  have k2 : wrap64 sN = sN := by clear k1; exact IntWalk.wrap64_in _ (by omega)
  rw [← hst]
  have hsn1 : ¬ start < 0 := by omega
  have hsn2 : ¬ 158310720 ≤ start := by omega
  have HST := Lib.hid hst
  clear hst
  go_enter Try.func9, Try.ntmps9
  go_upto_region 1 with (fail)
  have hx1 := World.alloc_heap_new w (.cells #[.int .i64 a0, .int .i64 a1, .int .i64 a2, .int .i64 a3, .slice A4 l4.length c4, .slice A5 l5.length c5, .slice A6 l6.length c6, .slice A7 l7.length c7, .int .i64 a8] 25)
  have hxb : Below w.heap.size w (w.alloc (.cells #[.int .i64 a0, .int .i64 a1, .int .i64 a2, .int .i64 a3, .slice A4 l4.length c4, .slice A5 l5.length c5, .slice A6 l6.length c6, .slice A7 l7.length c7, .int .i64 a8] 25)) := below_new_
  generalize (w.alloc (.cells #[.int .i64 a0, .int .i64 a1, .int .i64 a2, .int .i64 a3, .slice A4 l4.length c4, .slice A5 l5.length c5, .slice A6 l6.length c6, .slice A7 l7.length c7, .int .i64 a8] 25)) = w1 at hx1 hxb ⊢
  obtain ⟨g1, hg1⟩ : ∃ x, x = w.heap.size := ⟨_, rfl⟩
  rw [← hg1] at hx1 ⊢
  clear hg1
  have H1 := Lib.hid hx1
  have HB1 := Lib.hid hxb
  clear hx1 hxb
  go_upto_region 2 with (((with_reducible refine gate_dst (N := 16) rfl ?_); (try (refine gate_guard (by rfl) ?_; dsimp only)); refine Kd.R_lit (Kd.int .i64) (w0 := w) w.heap.size 2 ?hg (N := 16) ?hd (xs := ([] : List Int)) (inner := []) (ok := fun _ => True) (okp := fun _ => True) ?hr ?hp (fun _ hk => hk) trivial HB1.out HB1.out.size (by simp) ?_; (case hd => rfl); (case hg => rfl); (case hr => first | (go_simp; done) | (go_simp; rfl)); (case hp => exact (Reps.none _ _)); intro v1 w2 ho9 hb hg_ hnew_; have HO9 := Lib.hid ho9; have HB9 := Lib.hid hb; have HG9 := Lib.hid hg_; have HN9 := Lib.hid hnew_; clear ho9 hb hg_ hnew_))
  have H2 := Lib.hid (kept_below (Kept.of_grown HG9.out (Kept.refl _ _) (fun k h => by cases h)) H1.out)
  clear H1
  obtain ⟨vA, vc, rfl, hx1, hx2⟩ := Kd.R_reads HO9.out
  clear hx1 hx2
  obtain ⟨q0, q1, q2, q3, q4, q5, q6, q7, q8⟩ := cells9 H2.out
  go_upto_region 5 with (first | ((with_reducible refine (HM.out _ HB9.out).mono ?_); rintro e w3 ⟨rfl, hb3⟩; have HB3 := Lib.hid (HB9.out.trans (hb3.mono HB9.out.size)); have HO3 := Lib.hid (Kd.R_below HO9.out hb3); have H3 := Lib.hid (keep_below hb3 H2.out); clear hb3) | ((with_reducible refine (HOF.out _).mono ?_); rintro e w4 ⟨rfl, hb4⟩; have HB4 := Lib.hid (HB3.out.trans (hb4.mono HB3.out.size)); have HO4 := Lib.hid (Kd.R_below HO3.out hb4); have H4 := Lib.hid (keep_below hb4 H3.out); clear hb4))
  have HA8 := Lib.hid (World.alloc_heap_new w4 (.cells #[.int .i64 sN, .int .i64 sy, .int .i64 sm, .int .i64 sd, .int .i64 (sN % 7)] 47))
  have HA1 := Lib.hid (keep_alloc H4.out (.cells #[.int .i64 sN, .int .i64 sy, .int .i64 sm, .int .i64 sd, .int .i64 (sN % 7)] 47))
  have HAB := Lib.hid (HB4.out.alloc HB4.out.size (.cells #[.int .i64 sN, .int .i64 sy, .int .i64 sm, .int .i64 sd, .int .i64 (sN % 7)] 47))
  have HAO := Lib.hid (Kd.R_below HO4.out (below_new_ (w := w4) (o := .cells #[.int .i64 sN, .int .i64 sy, .int .i64 sm, .int .i64 sd, .int .i64 (sN % 7)] 47)))
  have HG8 := Lib.hid HB4.out.size
  obtain ⟨g8, hg8⟩ : ∃ x, x = w4.heap.size := ⟨_, rfl⟩
  rw [← hg8] at HA8 HG8 ⊢
  clear hg8
  generalize (w4.alloc (.cells #[.int .i64 sN, .int .i64 sy, .int .i64 sm, .int .i64 sd, .int .i64 (sN % 7)] 47)) = w5 at HA8 HA1 HAB HAO ⊢
  clear H2 HB9 HG9 HN9 HO9
  go_upto_region 6 with (((with_reducible refine gate_dst (N := 32) rfl ?_); (try (refine gate_guard (by rfl) ?_; dsimp only)); refine Kd.R_lit (Kd.int .i64) (w0 := w) w.heap.size 3 ?hg (N := 32) ?hd (xs := ([] : List Int)) (inner := []) (ok := fun _ => True) (okp := fun _ => True) ?hr ?hp (fun _ hk => hk) trivial HAB.out HAB.out.size (by simp) ?_; (case hd => rfl); (case hg => rfl); (case hr => first | (go_simp; done) | (go_simp; rfl)); (case hp => exact (Reps.none _ _)); intro v1 w2 ho9 hb hg_ hnew_; have HO9 := Lib.hid ho9; have HB9 := Lib.hid hb; have HG9 := Lib.hid hg_; have HN9 := Lib.hid hnew_; clear ho9 hb hg_ hnew_))
  have HKK : Hid (Kept w5 w2 (fun _ => False)) := Lib.hid (Kept.of_grown HG9.out (Kept.refl _ _) (fun k h => by cases h))
  have B1 := Lib.hid (kept_below HKK.out HA1.out)
  have B8 := Lib.hid (kept_below HKK.out HA8.out)
  have BO := Lib.hid (Kd.R_kept HAO.out HKK.out (fun k _ h => h))
  obtain ⟨lA, lc, rfl, hx1, hx2⟩ := Kd.R_reads HO9.out
  clear hx1 hx2 q0 q1 q2 q3 q4 q5 q6 q7 q8
  obtain ⟨q0, q1, q2, q3, q4, q5, q6, q7, q8⟩ := cells9 B1.out
  obtain ⟨s0, s1, s2, s3, s4⟩ := cells5 B8.out
  have HBG : Hid (∀ W, Calls Try.prog 18 #[.agg #[.int .i64 a0, .int .i64 a1, .int .i64 a2, .int .i64 a3, .slice A4 l4.length c4, .slice A5 l5.length c5, .slice A6 l6.length c6, .slice A7 l7.length c7, .int .i64 a8], .agg #[.int .i64 sN, .int .i64 sy, .int .i64 sm, .int .i64 sd, .int .i64 (sN % 7)]] W fun e w' => e = .returned (.int .i64 bg) ∧ Below W.heap.size W w') := Lib.hid (fun W => by
    rw [HBGE.out]
    obtain ⟨o1, o2, o3, o4, o5, o6⟩ := HOK.out
    have hl := len_lo (y := sy) (m := 1) (by decide) (by decide)
    have hl2 := (len_bd sy sm).2
    exact rbegin_any sN sy sm sd (sN % 7) W ha h8 (by omega) (by omega) ⟨o1, o2, by decide, by decide, by decide, by omega⟩ ⟨o5, by omega⟩)
  have hbb : 0 ≤ bg ∧ bg < 109938 := by
    clear k1 k2 hs1 hs2 hsn1 hsn2
    obtain ⟨o1, o2, o3, o4, o5, o6⟩ := HOK.out
    have hl := len_lo (y := sy) (m := 1) (by decide) (by decide)
    have n1 := num_bd (y := sy) (m := 1) (d := 1) ⟨o1, o2, by decide, by decide, by decide, by omega⟩
    have n2 := num_bd (y := sy) (m := sm) (d := 1) ⟨o1, o2, o3, o4, by decide, by omega⟩
    have n3 : num sy sm 1 = sN - sd + 1 := by rw [HSN.out]; unfold num; omega
    have n4 : (sN % 7 - a8 + 7) % 7 ≥ 0 := by omega
    rw [HBGE.out]
    unfold beginZ
    split
    · exact hnb
    · split
      · split <;> omega
      · split <;> omega
  have HOB := Lib.hid (fun W => rof_any hbok W)
  rw [hbn] at HOB
  have HBOK := Lib.hid (And.intro hbok hbn)
  clear hbok hbn
  clear HB3 HB4 HO3 HO4 H3 H4 HA1 HA8 HAB HAO HM HOF
  go_wp2_with (first | ((with_reducible refine (HBG.out _).mono ?_); rintro e w6 ⟨rfl, hb6⟩; have HB6 := Lib.hid hb6; clear hb6) | ((with_reducible refine (HOB.out _).mono ?_); rintro e w7 ⟨rfl, hb7⟩; have HB7 := Lib.hid (HB6.out.trans (hb7.mono HB6.out.size)); clear hb7))
  have HBN : Hid (DayAt bg bY bM bD) := Lib.hid (.inl HBOK.out)
  have HB2 : Hid (a0 = 2 → 0 ≤ bg - sN + (sN % 7 - a8 + 7) % 7) := Lib.hid (fun h => by
    have hg := HBGE.out
    subst h
    unfold beginZ at hg
    rw [if_neg (by decide), if_pos rfl] at hg
    clear k1 k2
    split at hg <;> omega)
  have C1 := Lib.hid (keep_alloc (keep_below HB7.out B1.out) (.cells #[.int .i64 bg, .int .i64 bY, .int .i64 bM, .int .i64 bD, .int .i64 (bg % 7)] 47))
  have C8 := Lib.hid (keep_alloc (keep_below HB7.out B8.out) (.cells #[.int .i64 bg, .int .i64 bY, .int .i64 bM, .int .i64 bD, .int .i64 (bg % 7)] 47))
  have C11 := Lib.hid (World.alloc_heap_new w7 (.cells #[.int .i64 bg, .int .i64 bY, .int .i64 bM, .int .i64 bD, .int .i64 (bg % 7)] 47))
  have CN : Hid (g8 ≠ w7.heap.size) := Lib.hid (by have := heap_lt (keep_below HB7.out B8.out); clear k1 k2; omega)
  have CO := Lib.hid (Kd.R_below (Kd.R_below BO.out HB7.out) (below_new_ (w := w7) (o := .cells #[.int .i64 bg, .int .i64 bY, .int .i64 bM, .int .i64 bD, .int .i64 (bg % 7)] 47)))
  have CL := Lib.hid (Kd.R_below (Kd.R_below HO9.out HB7.out) (below_new_ (w := w7) (o := .cells #[.int .i64 bg, .int .i64 bY, .int .i64 bM, .int .i64 bD, .int .i64 (bg % 7)] 47)))
  have CB := Lib.hid ((HB9.out.trans (HB7.out.mono HB9.out.size)).alloc (HB9.out.trans (HB7.out.mono HB9.out.size)).size (.cells #[.int .i64 bg, .int .i64 bY, .int .i64 bM, .int .i64 bD, .int .i64 (bg % 7)] 47))
  obtain ⟨g11, hg11⟩ : ∃ x, x = w7.heap.size := ⟨_, rfl⟩
  rw [← hg11] at C11 CN ⊢
  clear hg11
  generalize (w7.alloc (.cells #[.int .i64 bg, .int .i64 bY, .int .i64 bM, .int .i64 bD, .int .i64 (bg % 7)] 47)) = wl at C1 C8 C11 CO CL CB ⊢
  clear B1 B8 BO HO9 HB7 HB6 HG9 HN9 HKK q0 q1 q2 q3 q4 q5 q6 q7 q8 s0 s1 s2 s3 s4 HBG HOB HB9 HG8
  have hnb' := HBN.out.bd
  obtain ⟨G, hG⟩ : ∃ x, x = refGo a0 a1 a2 a3 a8 l4 l5 l7 l6 sN sy sm sd (sN % 7) below mi := ⟨_, rfl⟩
  have HG := Lib.hid hG
  rw [← hG] at HANS
  clear hG
  have HBB : Hid (((109939 - bg).toNat : Nat) + bg = 109939) := Lib.hid (by clear k1 k2; omega)
  go_loopw [11, 10, 9, 7] (fun a b c e wr => TmRel w g1 g8 #[.int .i64 a0, .int .i64 a1, .int .i64 a2, .int .i64 a3, .slice A4 l4.length c4, .slice A5 l5.length c5, .slice A6 l6.length c6, .slice A7 l7.length c7, .int .i64 a8] #[.int .i64 sN, .int .i64 sy, .int .i64 sm, .int .i64 sd, .int .i64 (sN % 7)] bg G ANS a b c e wr) (fun a _ _ _ wr => msr a wr)
  case atStart => exact ⟨(109939 - bg).toNat, bg, bY, bM, bD, bg % 7, 0, [], [], g11, rfl, rfl, by have := HBB.out; clear k1 k2; omega, hbb.1, Int.le_refl _, .inr HBN.out, by clear k1 k2; omega, Lib.hid (by clear k1 k2; simp; omega), Lib.hid (fun x hx => by cases hx), HANS, C1, C8, C11, CN, CL, CO, CB⟩
  case round =>
  clear C1 C8 C11 CN CL CO CB HBN HANS hnb' HBB
  obtain ⟨k, n, y, m, d, wd, last, l, out, g, rfl, rfl, hk, hn0, hbn, hday, hwd, HLN, HLB, HA, P1, P8, PD, PN, PL, PO, PB⟩ := hrel
  obtain ⟨u0, u1, u2, u3, u4⟩ := cells5 PD.out
  clear u1 u2 u3 u4
  by_cases hn : n = 109939
  · have HK0 : Hid (ANS = out) := Lib.hid (by
      rw [HA.out, HG.out, show k = 0 from by clear k1 k2; omega]
      rfl)
    have hn2 : ¬ n ≤ 109938 := by clear k1 k2; omega
    clear hk hday hn
    go_wp2
    go_ret
    rw [HK0.out]
    exact ⟨_, rfl, PO.out, PB.out⟩
  · have hDA := hday.resolve_left hn
    clear hday
    have hbd := hDA.bd
    have HDA := Lib.hid hDA
    obtain ⟨k', rfl⟩ : ∃ k', k = k' + 1 := ⟨k - 1, by clear k1 k2; omega⟩
    obtain ⟨p, hp⟩ : ∃ x, x = pZ a0 a8 sN sy sm (sN % 7) n y m := ⟨_, rfl⟩
    obtain ⟨t, ht⟩ : ∃ x, x = takeB a0 a1 l4 l5 l6 sm sd (sN % 7) p n y m d wd := ⟨_, rfl⟩
    have HPP := Lib.hid hp
    have HTT := Lib.hid ht
    have HT2 : Hid (t = (decide (n < 109938) && (decide (p % a1 = 0) && rrightB a0 l4 l5 l6 sm sd (sN % 7) y m d wd))) := Lib.hid ht
    clear hp ht hn hDA
    have hn2 : n ≤ 109938 := hbd.2.1
    have HKI := Lib.hid hk
    clear hk
    go_upto_block 1 with (fail)
    refine tmB1_wp (w0 := w) (p := p) (last := last) (t := t) (mi := mi) (rb := rrightB a0 l4 l5 l6 sm sd (sN % 7) y m d wd) (l := l) (out := out) P1 P8 PD PL PO PB (Lib.hid ?hpe) ?hp0 hn2 (Lib.hid ?hrr) (Lib.hid ?hkp) HLB ?hl ?ho ha1 HT2 ?k1 hmi (Lib.hid fun c a N v w h => by cases N <;> exact h) (Lib.hid ?he) (Lib.hid ?he3)
    case hpe =>
      intro hlt W
      rw [HPP.out]
      unfold pZ
      rw [if_pos hlt]
      obtain ⟨o1, o2, o3, o4, o5, o6⟩ := HOK.out
      exact rperiod_any sN sy sm sd (sN % 7) n y m d wd W ha h8 (by clear k1 k2; omega) (by clear k1 k2; omega) (by clear k1 k2; omega) (fun h => by have := HB2.out h; clear k1 k2; omega) (by clear k1 k2; omega) (by clear k1 k2; omega) (by clear k1 k2; omega) (by clear k1 k2; omega)
    case hp0 =>
      intro h
      rw [HPP.out]
      unfold pZ
      rw [if_neg (by clear k1 k2; omega)]
    case hrr => exact fun W hW => rright_any sN sy sm sd (sN % 7) n y m d wd W (HRC.out.below hW) hbd.2.2.2.2.2.2.1 hbd.2.2.2.2.2.2.2.2
    case hkp => exact fun v W hW hR => rkept_any v l W HRC.out hR hW (by have := HLN.out; clear k1 k2; omega)
    case hl => have := HLN.out; clear k1 k2; omega
    case ho => have := HLN.out; clear k1 k2; omega
    case k1 => rw [Int.tmod_eq_emod_of_nonneg hs1, HST.out]; clear k1 k2; omega
    case he3 =>
      intro d12 d13 d14 d15 d42 d43 d44 d45 d46 d47 d48 d49 d50 d51 d52 d53 d54 d55 d56 d57 d58 d59 d60 d61 d62 d63 d64 d65 d66 d67 d68 d69 d70 d71 d72 d73 d74 d75 d76 d77 d78 d79 d80 d81 d82 d83 d84 d85 d86 d87 d88 d89 d90 d91 d92 d93 d94 d95 d96 d97 d98 d99 d100 d101 d102 d103 d104 d105 d106 d107 d108 d109 d110 d111 d112 d113 d114 d115 d116 d117 d118 d119 d120 d121 d122 d123 d124 d125 d126 d127 d128 d129 d130 d131 d132 d133 d134 d135 d136 d137 d138 d139 d140 d141 d142 d143 x7 w' HC HR HB
      have HFIN : Hid (ANS = flushL a2 a3 sN below mi (placesL l7 l) out) := Lib.hid (by
        rw [HA.out, HG.out]
        exact refGo_end HPP.out HC.out)
      clear u0 P1 P8 PD PL PO PB
      go_wp2
      go_ret
      rw [HFIN.out]
      exact ⟨_, rfl, HR.out, HB.out⟩
    case he =>
      intro d12 d13 d14 d15 d42 d43 d44 d45 d46 d47 d48 d49 d50 d51 d52 d53 d54 d55 d56 d57 d58 d59 d60 d61 d62 d63 d64 d65 d66 d67 d68 d69 d70 d71 d72 d73 d74 d75 d76 d77 d78 d79 d80 d81 d82 d83 d84 d85 d86 d87 d88 d89 d90 d91 d92 d93 d94 d95 d96 d97 d98 d99 d100 d101 d102 d103 d104 d105 d106 d107 d108 d109 d110 d111 d112 d113 d114 d115 d116 d117 d118 d119 d120 d121 d122 d123 d124 d125 d126 d127 d128 d129 d130 d131 d132 d133 d134 d135 d136 d137 d138 d139 d140 d141 d142 d143 x7 x9 last' l' out' w' HST X1 X8 XD XL XO XB
      have HM0 := Lib.hid (msr_eq PD.out)
      clear u0 P1 P8 PD PL PO PB
      obtain ⟨u0, u1, u2, u3, u4⟩ := cells5 XD.out
      go_upto_region 9 with (fail)
      clear u0 u1 u2 u3 u4
      have E11 := Lib.hid (World.alloc_heap_new w' (.cells #[.int .i64 n, .int .i64 y, .int .i64 m, .int .i64 d, .int .i64 wd] 47))
      have E1 := Lib.hid (keep_alloc X1.out (.cells #[.int .i64 n, .int .i64 y, .int .i64 m, .int .i64 d, .int .i64 wd] 47))
      have E8 := Lib.hid (keep_alloc X8.out (.cells #[.int .i64 n, .int .i64 y, .int .i64 m, .int .i64 d, .int .i64 wd] 47))
      have EL := Lib.hid (Kd.R_below XL.out (below_new_ (w := w') (o := .cells #[.int .i64 n, .int .i64 y, .int .i64 m, .int .i64 d, .int .i64 wd] 47)))
      have EO := Lib.hid (Kd.R_below XO.out (below_new_ (w := w') (o := .cells #[.int .i64 n, .int .i64 y, .int .i64 m, .int .i64 d, .int .i64 wd] 47)))
      have EB := Lib.hid (XB.out.alloc XB.out.size (.cells #[.int .i64 n, .int .i64 y, .int .i64 m, .int .i64 d, .int .i64 wd] 47))
      have EN : Hid (g8 ≠ w'.heap.size) := Lib.hid (by have := heap_lt X8.out; clear k1 k2; omega)
      have EN1 : Hid (g1 ≠ w'.heap.size) := Lib.hid (by have := heap_lt X1.out; clear k1 k2; omega)
      have HGE := Lib.hid XB.out.size
      obtain ⟨g2, hg2⟩ : ∃ x, x = w'.heap.size := ⟨_, rfl⟩
      rw [← hg2] at E11 EN EN1 HGE ⊢
      clear hg2
      generalize (w'.alloc (.cells #[.int .i64 n, .int .i64 y, .int .i64 m, .int .i64 d, .int .i64 wd] 47)) = w9 at E11 E1 E8 EL EO EB ⊢
      clear X1 X8 XD XL XO XB PN
      obtain ⟨u0, u1, u2, u3, u4⟩ := cells5 E11.out
      have HNX : Hid (∀ W, Calls Try.prog 19 #[.agg #[.int .i64 n, .int .i64 y, .int .i64 m, .int .i64 d, .int .i64 wd]] W fun e w' => e = .returned (.agg #[.int .i64 (n + 1), .int .i64 (nextY y m d), .int .i64 (nextM y m d), .int .i64 (nextD y m d), .int .i64 ((wd + 1) % 7)]) ∧ Below W.heap.size W w') := Lib.hid (fun W => rNext_any n y m d wd W (by clear k1 k2; omega) (by clear k1 k2; omega) (by clear k1 k2; omega) (by clear k1 k2; omega) hwd)
      obtain ⟨wd', hwd'⟩ : ∃ x, x = (wd + 1) % 7 := ⟨_, rfl⟩
      have hwb : 0 ≤ wd' ∧ wd' ≤ 6 := by clear k1 k2; omega
      have HWD := Lib.hid hwd'
      rw [← hwd'] at HNX
      clear hwd'
      obtain ⟨n', hn'⟩ : ∃ x, x = n + 1 := ⟨_, rfl⟩
      have HNN := Lib.hid hn'
      rw [← hn'] at HNX
      clear hn'
      obtain ⟨y', hy'⟩ : ∃ x, x = nextY y m d := ⟨_, rfl⟩
      have HYY := Lib.hid hy'
      rw [← hy'] at HNX
      clear hy'
      obtain ⟨m', hm'⟩ : ∃ x, x = nextM y m d := ⟨_, rfl⟩
      have HMM := Lib.hid hm'
      rw [← hm'] at HNX
      clear hm'
      obtain ⟨d', hd'⟩ : ∃ x, x = nextD y m d := ⟨_, rfl⟩
      have HDD := Lib.hid hd'
      rw [← hd'] at HNX
      clear hd'
      go_wp2_with (first | ((with_reducible refine (HNX.out _).mono ?_); rintro e w10 ⟨rfl, hb10⟩; have HB10 := Lib.hid hb10; clear hb10 u0 u1 u2 u3 u4; have Z11 := Lib.hid (keep_below HB10.out E11.out); obtain ⟨z0, z1, z2, z3, z4⟩ := cells5 Z11.out; have f20 := blk_frozen Z11.out 0; have f21 := blk_frozen Z11.out 1; have f22 := blk_frozen Z11.out 2; have f23 := blk_frozen Z11.out 3; have f24 := blk_frozen Z11.out 4))
      clear z0 z1 z2 z3 z4 f20 f21 f22 f23 f24
      have HZ := Lib.hid (set5 (a := .int .i64 n') (b := .int .i64 y') (c := .int .i64 m') (d := .int .i64 d') (e := .int .i64 wd') Z11.out)
      have HZK : Hid (Kept w10 (((((w10.setCell ⟨g2, 0, none⟩ (.int .i64 n')).setCell ⟨g2, 1, none⟩ (.int .i64 y')).setCell ⟨g2, 2, none⟩ (.int .i64 m')).setCell ⟨g2, 3, none⟩ (.int .i64 d')).setCell ⟨g2, 4, none⟩ (.int .i64 wd')) (fun k => k = g2)) := Lib.hid ((((((Kept.refl w10 (fun k => k = g2)).setCell (p := ⟨g2, 0, none⟩) (.inl rfl) _).setCell (p := ⟨g2, 1, none⟩) (.inl rfl) _).setCell (p := ⟨g2, 2, none⟩) (.inl rfl) _).setCell (p := ⟨g2, 3, none⟩) (.inl rfl) _).setCell (p := ⟨g2, 4, none⟩) (.inl rfl) _)
      have HZB : Hid (Below w.heap.size w (((((w10.setCell ⟨g2, 0, none⟩ (.int .i64 n')).setCell ⟨g2, 1, none⟩ (.int .i64 y')).setCell ⟨g2, 2, none⟩ (.int .i64 m')).setCell ⟨g2, 3, none⟩ (.int .i64 d')).setCell ⟨g2, 4, none⟩ (.int .i64 wd'))) := Lib.hid ((((((EB.out.trans (HB10.out.mono EB.out.size)).setCell HGE.out _).setCell HGE.out _).setCell HGE.out _).setCell HGE.out _).setCell HGE.out _)
      generalize (((((w10.setCell ⟨g2, 0, none⟩ (.int .i64 n')).setCell ⟨g2, 1, none⟩ (.int .i64 y')).setCell ⟨g2, 2, none⟩ (.int .i64 m')).setCell ⟨g2, 3, none⟩ (.int .i64 d')).setCell ⟨g2, 4, none⟩ (.int .i64 wd')) = wz at HZ HZK HZB ⊢
      have K1 := Lib.hid (blk_one HZK.out (keep_below HB10.out E1.out) EN1.out)
      have K8 := Lib.hid (blk_one HZK.out (keep_below HB10.out E8.out) EN.out)
      have KL := Lib.hid (row_one HZK.out Z11.out (by decide) (Kd.R_below EL.out HB10.out))
      have KO := Lib.hid (row_one HZK.out Z11.out (by decide) (Kd.R_below EO.out HB10.out))
      go_roundw
      case rel => exact ⟨k', n', y', m', d', wd', last', l', out', g2, rfl, rfl, by have h1 := HKI.out; have h2 := HNN.out; clear k1 k2; omega, by have h2 := HNN.out; clear k1 k2; omega, by have h2 := HNN.out; clear k1 k2; omega, by
          rw [HNN.out, HYY.out, HMM.out, HDD.out]
          by_cases h : n < 109938
          · exact .inr (HDA.out.next h)
          · left; clear k1 k2; omega, hwb, Lib.hid (by have h1 := HST.out.len; have h2 := HLN.out; have h3 := HNN.out; clear k1 k2; omega), Lib.hid (HST.out.bd HLB.out ⟨hn0, hn2⟩), Lib.hid (by
          rw [HA.out, HG.out, HNN.out, HYY.out, HMM.out, HDD.out, HWD.out]
          exact refGo_step HPP.out HTT.out HST.out), K1, K8, HZ, EN, KL, KO, HZB⟩
      case measure =>
        rw [HM0.out, msr_eq HZ.out, HNN.out]
        clear k1 k2
        omega
end Go.Proofs.Ytinjbpbpgogdhaa.Own
end
section
namespace Go.Proofs.Ytinjbpbpgogdhaa.Own
open Go.RowKit Go.Proofs.YtinjbpbpgogdhaaW.PrintWords Go.Proofs.YtinjbpbpgogdhaaW.PrintLast Go.Proofs.YtinjbpbpgogdhaaW.PrintMore
set_option linter.unusedVariables false
set_option linter.unusedSimpArgs false
theorem lenZ_eq (y m : Int) : lenZ y m = len y m := by
  unfold lenZ
  rw [civil_Length_f (by decide)]
  rfl
theorem wdZ_eq {n : Int} (h : 0 ≤ n) (h2 : n ≤ 1000000) : wdZ n = n % 7 := by
  unfold wdZ
  rw [Int.tmod_eq_emod_of_nonneg h, IntWalk.wrap64_in _ (by omega), Int.tmod_eq_emod_of_nonneg (by omega)]
  omega
theorem num_day (y m d : Int) : num y m d = num y m 1 + d - 1 := by
  unfold num
  omega
/-- The program's day is the document's. -/
theorem dayB_eq {a0 : Int} {l4 l5 : List Int} {l6 : List S58} {sN sm sd n y m d : Int} (ha : 1 ≤ a0 ∧ a0 ≤ 4) (h5 : a0 = 2 → l5.length = 0) (hok : Ok y m d) (hn : num y m d = n) (hs : 0 ≤ sN ∧ sN < 109938) :
    dayB a0 l4 l5 l6 sN sm sd n = rrightB a0 l4 l5 l6 sm sd (sN % 7) y m d (n % 7) := by
  have hb := num_bd hok
  unfold dayB
  rw [← hn, civil_Date_num (by decide) hok]
  rw [hn] at hb ⊢
  show (rightB l4 l5 l6 n y m d && usualB a0 l4 l5 l6 sN sm sd n m d) = _
  unfold rightB usualB rrightB rplain
  rw [lenZ_eq, wdZ_eq hb.1 (by omega), wdZ_eq hs.1 (by omega)]
  rw [Bool.and_assoc]
  congr 1
  by_cases e6 : l6.length = 0
  · rw [if_pos e6, decide_eq_true e6, Bool.true_or, Bool.true_and]
    by_cases e5 : l5.length = 0
    · rw [if_pos ⟨e5, e6⟩]
      by_cases e2 : a0 = 2
      · rw [if_pos e2, if_pos e2]
      · rw [if_neg e2, if_neg e2]
        by_cases e1 : a0 = 1
        · rw [if_neg (by omega), if_neg (by omega), if_pos (.inr e1)]
        · rw [if_neg (show ¬ (0 < l5.length ∨ a0 = 1) from by omega)]
          by_cases e3 : a0 = 3
          · rw [if_pos e3, decide_eq_true e3]
            by_cases ed : d = sd
            · rw [if_pos ed, ed]; simp
            · rw [if_neg ed]; simpa using ed
          · rw [if_neg e3, if_pos (by omega), decide_eq_false e3]
            by_cases ed : d = sd
            · rw [if_pos ed, decide_eq_true ed]; simp
            · rw [if_neg ed, decide_eq_false ed]; rfl
    · rw [if_neg (by omega)]
      by_cases e2 : a0 = 2
      · exact absurd (h5 e2) e5
      · rw [if_neg e2, if_pos (by omega)]
  · rw [if_neg (by omega), if_neg e6, decide_eq_false e6, Bool.false_or, Bool.and_true]
theorem dayB_month {a0 : Int} {l4 l5 : List Int} {l6 : List S58} {sN sm sd n y m d : Int} (hok : Ok y m d) (hn : num y m d = n) (h : dayB a0 l4 l5 l6 sN sm sd n = true) : l4.length = 0 ∨ hasI l4 m = true := by
  unfold dayB at h
  rw [← hn, civil_Date_num (by decide) hok] at h
  have h' : (rightB l4 l5 l6 (num y m d) y m d && usualB a0 l4 l5 l6 sN sm sd (num y m d) m d) = true := h
  unfold rightB at h'
  simp only [Bool.and_eq_true, Bool.or_eq_true, decide_eq_true_eq] at h'
  exact h'.1.1.1
/-- A day's period. -/
def perN (a0 a8 sN sy sm sW n : Int) : Int := match civil_Date.f 3000 n with
  | some (Y, M, _, true) => perZ a0 a8 sN sy sm sW n Y M
  | _ => 0
theorem perN_eq {a0 a8 sN sy sm sW n y m d : Int} (hok : Ok y m d) (hn : num y m d = n) : perN a0 a8 sN sy sm sW n = perZ a0 a8 sN sy sm sW n y m := by
  unfold perN
  rw [← hn, civil_Date_num (by decide) hok]
theorem month_le {y m d y' m' d' : Int} (h : Ok y m d) (h' : Ok y' m' d') (hle : num y m d ≤ num y' m' d') : 12 * y + m ≤ 12 * y' + m' := by
  by_cases c : 12 * y' + m' < 12 * y + m
  · have o1 : Ok y m 1 := ⟨h.1, h.2.1, h.2.2.1, h.2.2.2.1, by decide, by have := len_lo (y := y) h.2.2.1 h.2.2.2.1; omega⟩
    have o2 : Ok y' m' 1 := ⟨h'.1, h'.2.1, h'.2.2.1, h'.2.2.2.1, by decide, by have := len_lo (y := y') h'.2.2.1 h'.2.2.2.1; omega⟩
    have h1 := month_next o2 o1 c
    have h2 := num_day y m d
    have h3 := num_day y' m' d'
    have h4 := h.2.2.2.2
    have h5 := h'.2.2.2.2
    omega
  · omega
theorem perN_mono {a0 a8 sN sy sm sW n n' : Int} (h0 : 0 ≤ n) (hle : n ≤ n') (h1 : n' < 109938) : perN a0 a8 sN sy sm sW n ≤ perN a0 a8 sN sy sm sW n' := by
  obtain ⟨y, m, d, _, hok, hn⟩ := civil_Date_ok (k := 3000) (by decide) h0 (show n < 109938 by omega)
  obtain ⟨y', m', d', _, hok', hn'⟩ := civil_Date_ok (k := 3000) (by decide) (show 0 ≤ n' by omega) h1
  rw [perN_eq hok hn, perN_eq hok' hn']
  have hm := month_le hok hok' (by omega)
  have h3 := hok.2.2
  have h4 := hok'.2.2
  unfold perZ
  split
  · omega
  · split
    · omega
    · split <;> omega
theorem perN_bg {a0 a8 sN sy sm sd bg : Int} (ha : 1 ≤ a0 ∧ a0 ≤ 4) (h8 : 0 ≤ a8 ∧ a8 ≤ 6) (hok : Ok sy sm sd) (hs : num sy sm sd = sN) (hbg : bg = beginZ a0 a8 sN sy sd (sN % 7)) : 0 ≤ bg ∧ bg ≤ sN ∧ perN a0 a8 sN sy sm (sN % 7) bg = 0 := by
  have hb := num_bd hok
  obtain ⟨o1, o2, o3, o4, o5, o6⟩ := hok
  have hok : Ok sy sm sd := ⟨o1, o2, o3, o4, o5, o6⟩
  have l1 := len_lo (y := sy) o3 o4
  have l2 := len_lo (y := sy) (m := 1) (by decide) (by decide)
  have okm : Ok sy sm 1 := ⟨o1, o2, o3, o4, by decide, by omega⟩
  have oky : Ok sy 1 1 := ⟨o1, o2, by decide, by decide, by decide, by omega⟩
  have hd := num_day sy sm sd
  have hbm := num_bd okm
  have hby := num_bd oky
  unfold beginZ at hbg
  by_cases e1 : a0 = 1
  · rw [if_pos e1] at hbg
    refine ⟨by omega, by omega, ?_⟩
    rw [hbg, perN_eq hok hs]
    unfold perZ
    rw [if_pos e1]
    omega
  · rw [if_neg e1] at hbg
    by_cases e2 : a0 = 2
    · rw [if_pos e2] at hbg
      have hr : 0 ≤ bg ∧ bg ≤ sN ∧ 0 ≤ bg - sN + (sN % 7 - a8 + 7) % 7 ∧ bg - sN + (sN % 7 - a8 + 7) % 7 < 7 := by
        split at hbg <;> omega
      refine ⟨hr.1, hr.2.1, ?_⟩
      obtain ⟨y, m, d, _, hok', hn⟩ := civil_Date_ok (k := 3000) (by decide) hr.1 (show bg < 109938 by omega)
      rw [perN_eq hok' hn]
      unfold perZ
      rw [if_neg e1, if_pos e2]
      omega
    · rw [if_neg e2] at hbg
      by_cases e3 : a0 = 3
      · rw [if_pos e3] at hbg
        have hbe : num sy sm 1 = bg := by omega
        refine ⟨by omega, by omega, ?_⟩
        rw [perN_eq okm hbe]
        unfold perZ
        rw [if_neg e1, if_neg e2, if_pos e3]
        omega
      · rw [if_neg e3] at hbg
        have hle : num sy 1 1 ≤ num sy sm 1 := by
          by_cases e : sm = 1
          · rw [e]; exact Int.le_refl _
          · have := month_next oky okm (by omega)
            omega
        refine ⟨by omega, by omega, ?_⟩
        rw [perN_eq oky hbg.symm]
        unfold perZ
        rw [if_neg e1, if_neg e2, if_neg e3]
        omega
/-- The days of a period are those right that are in it. -/
theorem PL_mem {a0 a8 : Int} {l4 l5 : List Int} {l6 : List S58} {sN sy sm sd st n : Int} (ha : 1 ≤ a0 ∧ a0 ≤ 4) (h8 : 0 ≤ a8 ∧ a8 ≤ 6) (hs : 0 ≤ sN ∧ sN < 109938) (hsm : 1 ≤ sm ∧ sm ≤ 12) :
    n ∈ (periodL a0 a8 l4 (dayB a0 l4 l5 l6 sN sm sd) sN sy sm st).1 ↔ (dayB a0 l4 l5 l6 sN sm sd n = true ∧ perN a0 a8 sN sy sm (sN % 7) n = st) := by
  by_cases hP : dayB a0 l4 l5 l6 sN sm sd n = true
  · have hb := dayB_bd hP
    obtain ⟨y, m, d, _, hok, hn⟩ := civil_Date_ok (k := 3000) (by decide) hb.1 hb.2
    have hmo := dayB_month hok hn hP
    rw [perN_eq hok hn]
    obtain ⟨o1, o2, o3, o4, o5, o6⟩ := hok
    have hd := num_day y m d
    have l1 := len_lo (y := y) o3 o4
    have okm : Ok y m 1 := ⟨o1, o2, o3, o4, by decide, by omega⟩
    unfold periodL perZ
    by_cases e1 : a0 = 1
    · rw [if_pos e1, if_pos e1, daysF_mem]
      constructor
      · rintro ⟨h1, h2, h3, h4⟩; exact ⟨h1, by omega⟩
      · rintro ⟨h1, h2⟩; exact ⟨h1, by omega, by omega, by omega⟩
    · rw [if_neg e1, if_neg e1]
      by_cases e2 : a0 = 2
      · have hw : wdZ (wdZ sN - a8) = (sN % 7 - a8 + 7) % 7 := by
          rw [wdZ_eq hs.1 (by omega)]
          unfold wdZ
          have hx1 := Int.tmod_lt_of_pos (sN % 7 - a8) (show (0 : Int) < 7 by decide)
          have hx2 := Int.lt_tmod_of_pos (sN % 7 - a8) (show (0 : Int) < 7 by decide)
          have hx3 := Int.tmod_add_mul_tdiv (sN % 7 - a8) 7
          rw [IntWalk.wrap64_in _ (by omega), Int.tmod_eq_emod_of_nonneg (by omega)]
          obtain ⟨q, hq⟩ : ∃ q, q = Int.tdiv (sN % 7 - a8) 7 := ⟨_, rfl⟩
          rw [← hq] at hx3
          omega
        rw [if_pos e2, if_pos e2, hw, daysF_mem]
        obtain ⟨iw, hiw⟩ : ∃ x, x = (sN % 7 - a8 + 7) % 7 := ⟨_, rfl⟩
        rw [← hiw]
        constructor
        · rintro ⟨h1, h2, h3, h4⟩; exact ⟨h1, by omega⟩
        · rintro ⟨h1, h2⟩; exact ⟨h1, by omega, by omega, by omega⟩
      · rw [if_neg e2, if_neg e2]
        by_cases e3 : a0 = 3
        · rw [if_pos e3, if_pos e3, monthL_mem]
          obtain ⟨Y, hY⟩ : ∃ x, x = (12 * sy + sm - 1 + st) / 12 := ⟨_, rfl⟩
          obtain ⟨M, hM⟩ : ∃ x, x = (12 * sy + sm - 1 + st) % 12 + 1 := ⟨_, rfl⟩
          rw [← hY, ← hM]
          constructor
          · rintro (h | ⟨⟨hk, hl⟩, h1, h2, h3⟩)
            · cases h
            · refine ⟨h1, ?_⟩
              have ok2 : Ok Y M (n - num Y M 1 + 1) := ⟨hk.1, hk.2.1, hk.2.2.1, hk.2.2.2.1, by omega, by omega⟩
              have he := num_inj ⟨o1, o2, o3, o4, o5, o6⟩ ok2 (by rw [num_day Y M]; omega)
              omega
          · rintro ⟨h1, h2⟩
            have e4 : Y = y := by omega
            have e5 : M = m := by omega
            rw [e4, e5]
            exact .inr ⟨⟨okm, hmo⟩, h1, by omega, by omega⟩
        · rw [if_neg e3, if_neg e3, yearL_mem]
          constructor
          · rintro ⟨M, hM, ⟨hk, hl⟩, h1, h2, h3⟩
            refine ⟨h1, ?_⟩
            have ok2 : Ok (sy + st) ((M : Int) + 1) (n - num (sy + st) ((M : Int) + 1) 1 + 1) := ⟨hk.1, hk.2.1, hk.2.2.1, hk.2.2.2.1, by omega, by omega⟩
            have he := num_inj ⟨o1, o2, o3, o4, o5, o6⟩ ok2 (by rw [num_day (sy + st)]; omega)
            omega
          · rintro ⟨h1, h2⟩
            have e4 : sy + st = y := by omega
            refine ⟨(m - 1).toNat, by omega, ?_⟩
            rw [show (((m - 1).toNat : Nat) : Int) + 1 = m from by omega, e4]
            exact ⟨⟨okm, hmo⟩, h1, by omega, by omega⟩
  · constructor
    · intro h
      exact absurd (periodL_P h) hP
    · intro h
      exact absurd h.1 hP
end Go.Proofs.Ytinjbpbpgogdhaa.Own
end
