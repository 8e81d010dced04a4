-- own text: texts of this session merged by a program of it (merge.py), declarations that nothing reaches left out (prune.py)
import Derived.Test.YtinjbpbpgogdhaaHa33
section
namespace Go.Proofs.Ytinjbpbpgogdhaa.Own
open Go.RowKit Go.Proofs.YtinjbpbpgogdhaaW.PrintWords Go.Proofs.YtinjbpbpgogdhaaW.PrintLast Go.Proofs.YtinjbpbpgogdhaaW.PrintMore
set_option linter.unusedVariables false
set_option linter.unusedSimpArgs false
/-- The times behind so many periods. -/
def RS (a2 a3 sN below mi : Int) (l7 : List Int) (F : Int → List Int) : Nat → List Int
  | 0 => []
  | s + 1 => flushL a2 a3 sN below mi (placesL l7 (F (s : Int))) (RS a2 a3 sN below mi l7 F s)
theorem placesL_nil (l7 : List Int) : placesL l7 [] = [] := by
  unfold placesL
  split <;> rfl
theorem RS_skip {a2 a3 sN below mi : Int} {l7 : List Int} {F : Int → List Int} {s : Nat} : ∀ (q : Nat), (∀ t : Nat, s ≤ t → t < s + q → F (t : Int) = []) → RS a2 a3 sN below mi l7 F (s + q) = RS a2 a3 sN below mi l7 F s
  | 0, _ => rfl
  | q + 1, h => by
    rw [show s + (q + 1) = (s + q) + 1 from by omega]
    show flushL a2 a3 sN below mi (placesL l7 (F ((s + q : Nat) : Int))) (RS a2 a3 sN below mi l7 F (s + q)) = _
    rw [h (s + q) (by omega) (by omega), placesL_nil, RS_skip q (fun t h1 h2 => h t h1 (by omega))]
    rfl
theorem refGo_told {a0 a1 a2 a3 a8 : Int} {l4 l5 l7 : List Int} {l6 : List S58} {sN sy sm sd below mi bg : Int} {F : Int → List Int}
    (ha : 1 ≤ a0 ∧ a0 ≤ 4) (h8 : 0 ≤ a8 ∧ a8 ≤ 6) (hs : 0 ≤ sN ∧ sN < 109938) (hsm : 1 ≤ sm ∧ sm ≤ 12) (h5 : a0 = 2 → l5.length = 0) (hb0 : 0 ≤ bg)
    (hF : ∀ st, F st = if st % a1 = 0 then (periodL a0 a8 l4 (dayB a0 l4 l5 l6 sN sm sd) sN sy sm st).1.filter (fun x => decide (bg ≤ x)) else []) :
    ∀ (k : Nat) (N y m d wd last : Int) (l out : List Int) (s : Nat), N + (k : Int) = 109939 → DayAt N y m d → wd = N % 7 → bg ≤ N → last = (s : Int) →
      (∀ n, bg ≤ n → n < N → perN a0 a8 sN sy sm (sN % 7) n ≤ last) → (∀ n, N ≤ n → n < 109938 → last ≤ perN a0 a8 sN sy sm (sN % 7) n) →
      out = RS a2 a3 sN below mi l7 F s → l = (F last).filter (fun x => decide (x < N)) →
      ∃ E : Nat, refGo a0 a1 a2 a3 a8 l4 l5 l7 l6 sN sy sm sd (sN % 7) below mi k N y m d wd last l out = RS a2 a3 sN below mi l7 F E ∧ ∀ n, bg ≤ n → n < 109938 → (E : Int) ≤ perN a0 a8 sN sy sm (sN % 7) n → below ≤ n := by
  have hFm : ∀ st n, n ∈ F st ↔ (st % a1 = 0 ∧ dayB a0 l4 l5 l6 sN sm sd n = true ∧ perN a0 a8 sN sy sm (sN % 7) n = st ∧ bg ≤ n) := by
    intro st n
    rw [hF st]
    split
    · rename_i e
      rw [List.mem_filter, PL_mem ha h8 hs hsm]
      simp only [decide_eq_true_eq]
      constructor
      · rintro ⟨⟨h1, h2⟩, h3⟩; exact ⟨e, h1, h2, h3⟩
      · rintro ⟨h0, h1, h2, h3⟩; exact ⟨⟨h1, h2⟩, h3⟩
    · rename_i e
      constructor
      · intro h; cases h
      · intro h; exact absurd h.1 e
  have hFa : ∀ st, Asc (F st) := by
    intro st
    rw [hF st]
    split
    · exact List.Pairwise.filter _ (asc_periodL _ _ _ _ _ _ _ _)
    · exact List.Pairwise.nil
  have hFb : ∀ st n, n ∈ F st → 0 ≤ n ∧ n < 109938 := fun st n h => dayB_bd ((hFm st n).1 h).2.1
  intro k
  induction k with
  | zero =>
    intro N y m d wd last l out s hk hD
    have := hD.bd
    omega
  | succ k ih =>
    intro N y m d wd last l out s hk hD hwd hbN hls I1 I2 hout hl
    have hbd := hD.bd
    by_cases hN : N < 109938
    · obtain ⟨hok, hnum⟩ := hD.ok hN
      have hp : perN a0 a8 sN sy sm (sN % 7) N = perZ a0 a8 sN sy sm (sN % 7) N y m := perN_eq hok hnum
      obtain ⟨p, hpd⟩ : ∃ p, p = perZ a0 a8 sN sy sm (sN % 7) N y m := ⟨_, rfl⟩
      rw [← hpd] at hp
      have hpz : pZ a0 a8 sN sy sm (sN % 7) N y m = p := by unfold pZ; rw [if_pos hN, hpd]
      have hlp : last ≤ p := by have := I2 N (Int.le_refl _) hN; omega
      have hQ := dayB_eq (l4 := l4) (l6 := l6) (sm := sm) (sd := sd) ha h5 hok hnum hs
      have ht : takeB a0 a1 l4 l5 l6 sm sd (sN % 7) p N y m d wd = (decide (p % a1 = 0) && dayB a0 l4 l5 l6 sN sm sd N) := by
        unfold takeB
        rw [decide_eq_true hN, Bool.true_and, hQ, hwd]
      have hDn := hD.next hN
      have hw2 : (wd + 1) % 7 = (N + 1) % 7 := by omega
      rw [refGo]
      simp only [hpz, ht]
      by_cases hpl : p = last
      · rw [if_neg (by intro h; rcases h with h | h; exact h hpl; omega)]
        refine ih (N + 1) _ _ _ _ last _ out s (by omega) hDn hw2 (by omega) hls ?_ ?_ hout ?_
        · intro n h1 h2
          by_cases e : n = N
          · rw [e, hp, hpl]; exact Int.le_refl _
          · exact I1 n h1 (by omega)
        · intro n h1 h2
          exact I2 n (by omega) h2
        · refine asc_ext _ _ ?_ (List.Pairwise.filter _ (hFa last)) (fun x => ?_)
          · have hAl : Asc l := by rw [hl]; exact List.Pairwise.filter _ (hFa last)
            split
            · refine List.pairwise_append.2 ⟨hAl, List.pairwise_singleton _ _, ?_⟩
              intro a h1 b h2
              rw [List.mem_singleton.1 h2]
              rw [hl] at h1
              have := (List.mem_filter.1 h1).2
              exact of_decide_eq_true this
            · exact hAl
          · rw [List.mem_filter, decide_eq_true_eq]
            have hxl : x ∈ l ↔ (x ∈ F last ∧ x < N) := by rw [hl, List.mem_filter, decide_eq_true_eq]
            by_cases hc : (decide (p % a1 = 0) && dayB a0 l4 l5 l6 sN sm sd N) = true
            · rw [if_pos hc, List.mem_append, List.mem_singleton, hxl]
              simp only [Bool.and_eq_true, decide_eq_true_eq] at hc
              constructor
              · rintro (h | h)
                · exact ⟨h.1, by omega⟩
                · rw [h]
                  exact ⟨(hFm last N).2 ⟨by rw [← hpl]; exact hc.1, hc.2, by rw [hp, hpl], hbN⟩, by omega⟩
              · rintro ⟨h1, h2⟩
                by_cases e : x = N
                · exact .inr e
                · exact .inl ⟨h1, by omega⟩
            · rw [if_neg hc, hxl]
              constructor
              · rintro h; exact ⟨h.1, by omega⟩
              · rintro ⟨h1, h2⟩
                refine ⟨h1, ?_⟩
                by_cases e : x = N
                · exfalso
                  rw [e] at h1
                  obtain ⟨g1, g2, g3, g4⟩ := (hFm last N).1 h1
                  apply hc
                  rw [hpl, decide_eq_true g1, g2]
                  rfl
                · omega
      · rw [if_pos (.inl hpl)]
        have hlF : l = F last := by
          rw [hl]
          refine List.filter_eq_self.2 (fun x hx => decide_eq_true ?_)
          obtain ⟨g1, g2, g3, g4⟩ := (hFm last x).1 hx
          by_cases c : x < N
          · exact c
          · have h1 := perN_mono (a0 := a0) (a8 := a8) (sN := sN) (sy := sy) (sm := sm) (sW := sN % 7) hbd.1 (show N ≤ x by omega) (hFb last x hx).2
            omega
        have hout2 : flushL a2 a3 sN below mi (placesL l7 l) out = RS a2 a3 sN below mi l7 F (s + 1) := by
          show _ = flushL a2 a3 sN below mi (placesL l7 (F (s : Int))) (RS a2 a3 sN below mi l7 F s)
          rw [hlF, hls, ← hout]
        by_cases hbl : below ≤ N
        · rw [if_pos hbl]
          refine ⟨s + 1, hout2, ?_⟩
          intro n h1 h2 h3
          by_cases c : n < N
          · have := I1 n h1 c
            omega
          · omega
        · rw [if_neg hbl, hout2]
          obtain ⟨q, hq⟩ : ∃ q : Nat, p = ((s + 1 + q : Nat) : Int) := ⟨(p - (s : Int) - 1).toNat, by omega⟩
          have hsk : RS a2 a3 sN below mi l7 F (s + 1 + q) = RS a2 a3 sN below mi l7 F (s + 1) := by
            refine RS_skip q (fun t h1 h2 => ?_)
            refine List.eq_nil_iff_forall_not_mem.2 (fun x hx => ?_)
            obtain ⟨g1, g2, g3, g4⟩ := (hFm _ x).1 hx
            by_cases c : x < N
            · have := I1 x g4 c
              omega
            · have h5 := perN_mono (a0 := a0) (a8 := a8) (sN := sN) (sy := sy) (sm := sm) (sW := sN % 7) hbd.1 (show N ≤ x by omega) (hFb _ x hx).2
              omega
          refine ih (N + 1) _ _ _ _ p _ _ (s + 1 + q) (by omega) hDn hw2 (by omega) hq ?_ ?_ hsk.symm ?_
          · intro n h1 h2
            by_cases e : n = N
            · rw [e, hp]; exact Int.le_refl _
            · have := I1 n h1 (by omega)
              omega
          · intro n h1 h2
            have := perN_mono (a0 := a0) (a8 := a8) (sN := sN) (sy := sy) (sm := sm) (sW := sN % 7) hbd.1 (show N ≤ n by omega) h2
            omega
          · refine asc_ext _ _ ?_ (List.Pairwise.filter _ (hFa p)) (fun x => ?_)
            · split
              · exact List.pairwise_singleton _ _
              · exact List.Pairwise.nil
            · rw [List.mem_filter, decide_eq_true_eq]
              have hx1 : x ∈ F p → x < N + 1 → x = N := by
                intro h1 h2
                obtain ⟨g1, g2, g3, g4⟩ := (hFm _ x).1 h1
                by_cases e : x = N
                · exact e
                · have := I1 x g4 (by omega)
                  omega
              by_cases hc : (decide (p % a1 = 0) && dayB a0 l4 l5 l6 sN sm sd N) = true
              · rw [if_pos hc, List.mem_singleton]
                simp only [Bool.and_eq_true, decide_eq_true_eq] at hc
                constructor
                · rintro h
                  rw [h]
                  exact ⟨(hFm p N).2 ⟨hc.1, hc.2, hp, hbN⟩, by omega⟩
                · rintro ⟨h1, h2⟩
                  exact hx1 h1 h2
              · rw [if_neg hc]
                constructor
                · intro h; cases h
                · rintro ⟨h1, h2⟩
                  have e := hx1 h1 h2
                  rw [e] at h1
                  obtain ⟨g1, g2, g3, g4⟩ := (hFm _ _).1 h1
                  exfalso
                  apply hc
                  rw [decide_eq_true g1, g2]
                  rfl
    · have hNe : N = 109938 := by omega
      have hk0 : k = 0 := by omega
      subst hk0
      rw [refGo]
      rw [if_pos (.inr hNe)]
      have hlF : l = F last := by
        rw [hl]
        exact List.filter_eq_self.2 (fun x hx => decide_eq_true (by have := (hFb last x hx).2; omega))
      have hout2 : flushL a2 a3 sN below mi (placesL l7 l) out = RS a2 a3 sN below mi l7 F (s + 1) := by
        show _ = flushL a2 a3 sN below mi (placesL l7 (F (s : Int))) (RS a2 a3 sN below mi l7 F s)
        rw [hlF, hls, ← hout]
      refine ⟨s + 1, ?_, ?_⟩
      · split
        · exact hout2
        · exact hout2
      · intro n h1 h2 h3
        have := I1 n h1 (by omega)
        omega
end Go.Proofs.Ytinjbpbpgogdhaa.Own
end
section
namespace Go.Proofs.Ytinjbpbpgogdhaa.Own
open Go.RowKit Go.Proofs.YtinjbpbpgogdhaaW.PrintWords Go.Proofs.YtinjbpbpgogdhaaW.PrintLast Go.Proofs.YtinjbpbpgogdhaaW.PrintMore
set_option linter.unusedVariables false
set_option linter.unusedSimpArgs false
theorem perN_neg {a0 a8 sN sy sm sd bg n : Int} (ha : 1 ≤ a0 ∧ a0 ≤ 4) (h8 : 0 ≤ a8 ∧ a8 ≤ 6) (hok : Ok sy sm sd) (hs : num sy sm sd = sN) (hbg : bg = beginZ a0 a8 sN sy sd (sN % 7)) (h0 : 0 ≤ n) (h1 : n < bg) : perN a0 a8 sN sy sm (sN % 7) n < 0 := by
  have hb := num_bd hok
  obtain ⟨o1, o2, o3, o4, o5, o6⟩ := hok
  have hok : Ok sy sm sd := ⟨o1, o2, o3, o4, o5, o6⟩
  have l1 := len_lo (y := sy) o3 o4
  have l2 := len_lo (y := sy) (m := 1) (by decide) (by decide)
  have okm : Ok sy sm 1 := ⟨o1, o2, o3, o4, by decide, by omega⟩
  have oky : Ok sy 1 1 := ⟨o1, o2, by decide, by decide, by decide, by omega⟩
  have hd := num_day sy sm sd
  have hB := perN_bg ha h8 hok hs hbg
  obtain ⟨y, m, d, _, hok', hn⟩ := civil_Date_ok (k := 3000) (by decide) h0 (show n < 109938 by omega)
  rw [perN_eq hok' hn]
  have hm3 := hok'.2.2
  unfold beginZ at hbg
  unfold perZ
  by_cases e1 : a0 = 1
  · rw [if_pos e1] at hbg ⊢
    omega
  · rw [if_neg e1] at hbg ⊢
    by_cases e2 : a0 = 2
    · rw [if_pos e2] at hbg ⊢
      split at hbg <;> omega
    · rw [if_neg e2] at hbg ⊢
      by_cases e3 : a0 = 3
      · rw [if_pos e3] at hbg ⊢
        by_cases c : 12 * sy + sm ≤ 12 * y + m
        · exfalso
          have lk := len_lo (y := y) hm3.1 hm3.2.1
          have okk : Ok y m 1 := ⟨hok'.1, hok'.2.1, hm3.1, hm3.2.1, by decide, by omega⟩
          have hdy := num_day y m d
          by_cases c2 : 12 * sy + sm = 12 * y + m
          · have e4 : sy = y := by omega
            have e5 : sm = m := by omega
            subst e4
            subst e5
            omega
          · have := month_next okm okk (by omega)
            omega
        · omega
      · rw [if_neg e3] at hbg ⊢
        by_cases c : sy ≤ y
        · exfalso
          have lk := len_lo (y := y) hm3.1 hm3.2.1
          have okk : Ok y m 1 := ⟨hok'.1, hok'.2.1, hm3.1, hm3.2.1, by decide, by omega⟩
          have hdy := num_day y m d
          by_cases c2 : 12 * sy + 1 = 12 * y + m
          · have e4 : sy = y := by omega
            have e5 : m = 1 := by omega
            subst e4
            subst e5
            omega
          · have := month_next oky okk (by omega)
            omega
        · omega
/-- A row cut after so many. -/
def takeC (a2 : Int) (L : List Int) : List Int := if 0 < a2 then L.take a2.toNat else L
def okB (a3 below mi t : Int) : Bool := decide (t - mi < below * 1440) && !(decide (0 ≤ a3) && decide (a3 < t))
theorem take_snoc (L : List Int) (x : Int) (c : Nat) : (L ++ [x]).take c = if (L.take c).length = c then L.take c else L.take c ++ [x] := by
  by_cases h : c ≤ L.length
  · rw [List.take_append_of_le_length h, if_pos (by rw [List.length_take]; omega)]
  · rw [List.take_of_length_le (l := L) (by omega), if_neg (by omega), List.take_of_length_le (by rw [List.length_append, List.length_singleton]; omega)]
theorem takeC_snoc {a2 : Int} (L : List Int) (x : Int) : takeC a2 (L ++ [x]) = if (decide (0 < a2) && decide ((((takeC a2 L).length : Nat) : Int) = a2)) = true then takeC a2 L else takeC a2 L ++ [x] := by
  unfold takeC
  by_cases h : 0 < a2
  · rw [if_pos h, if_pos h, take_snoc, decide_eq_true h, Bool.true_and]
    by_cases c : (L.take a2.toNat).length = a2.toNat
    · rw [if_pos c, if_pos (decide_eq_true (by omega))]
    · rw [if_neg c, if_neg (by intro hh; exact c (by have := of_decide_eq_true hh; omega))]
  · rw [if_neg h, if_neg h, decide_eq_false h]
    rfl
theorem rd_get2 {L : List Int} {j : Nat} (h : j < L.length) : rd L (j : Int) = L[j] := by
  unfold rd
  simp [h]
theorem rd_take {l : List Int} {j : Nat} (h : j < l.length) : l.take (j + 1) = l.take j ++ [rd l (j : Int)] := by
  rw [rd_get2 h]
  exact List.take_succ_eq_append_getElem h
/-- What a period's days add, told by the whole row. -/
theorem flushG_told {a2 a3 sN below mi : Int} {l out O : List Int} (ho : out = takeC a2 O) : ∀ j, j ≤ l.length → flushG a2 a3 sN below mi l out j = takeC a2 (O ++ (tms sN mi (l.take j)).filter (okB a3 below mi))
  | 0, _ => by
    rw [ho]
    show takeC a2 O = _
    rw [List.take_zero]
    show _ = takeC a2 (O ++ [])
    rw [List.append_nil]
  | j + 1, hj => by
    have ih := flushG_told (l := l) (a3 := a3) (sN := sN) (below := below) (mi := mi) ho j (by omega)
    have hst : tms sN mi (l.take (j + 1)) = tms sN mi (l.take j) ++ (if sN ≤ rd l (j : Int) then [rd l (j : Int) * 1440 + mi] else []) := by
      rw [rd_take (by omega)]
      unfold tms
      rw [List.filter_append, List.map_append]
      congr 1
      by_cases c : sN ≤ rd l (j : Int)
      · rw [if_pos c, List.filter_cons_of_pos (by simpa using c)]; rfl
      · rw [if_neg c, List.filter_cons_of_neg (by simpa using c)]; rfl
    rw [hst, List.filter_append, ← List.append_assoc]
    obtain ⟨x, hx⟩ : ∃ x, x = rd l (j : Int) := ⟨_, rfl⟩
    rw [← hx]
    obtain ⟨M, hM⟩ : ∃ M, M = O ++ (tms sN mi (l.take j)).filter (okB a3 below mi) := ⟨_, rfl⟩
    rw [← hM] at ih ⊢
    rw [flushG, ih, ← hx]
    by_cases c1 : sN ≤ x
    · rw [if_pos c1]
      by_cases c2 : okB a3 below mi (x * 1440 + mi) = true
      · rw [List.filter_cons_of_pos c2, List.filter_nil, takeC_snoc]
        have hsk : skipB a2 a3 sN below x (x * 1440 + mi) ((takeC a2 M).length : Int) = (decide (0 < a2) && decide ((((takeC a2 M).length : Nat) : Int) = a2)) := by
          unfold skipB
          unfold okB at c2
          simp only [Bool.and_eq_true, decide_eq_true_eq, Bool.not_eq_true'] at c2
          rw [decide_eq_false (show ¬ x < sN by omega), decide_eq_false (show ¬ below ≤ x by omega), c2.2]
          rfl
        rw [hsk]
      · rw [List.filter_cons_of_neg c2, List.filter_nil, List.append_nil]
        have hsk : skipB a2 a3 sN below x (x * 1440 + mi) ((takeC a2 M).length : Int) = true := by
          unfold skipB
          unfold okB at c2
          simp only [Bool.or_eq_true]
          by_cases c3 : below ≤ x
          · exact .inl (.inl (.inr (decide_eq_true c3)))
          · rw [decide_eq_true (show x * 1440 + mi - mi < below * 1440 by omega), Bool.true_and] at c2
            exact .inl (.inr (by simpa using c2))
        rw [if_pos hsk]
    · rw [if_neg c1, List.filter_nil, List.append_nil]
      have hsk : skipB a2 a3 sN below x (x * 1440 + mi) ((takeC a2 M).length : Int) = true := by
        unfold skipB
        rw [decide_eq_true (show x < sN by omega)]
        rfl
      rw [if_pos hsk]
/-- The times of so many periods, none left out but those ahead of the start. -/
def BS (sN mi : Int) (l7 : List Int) (F : Int → List Int) : Nat → List Int
  | 0 => []
  | s + 1 => BS sN mi l7 F s ++ tms sN mi (placesL l7 (F (s : Int)))
theorem RS_told {a2 a3 sN below mi : Int} {l7 : List Int} {F : Int → List Int} : ∀ s, RS a2 a3 sN below mi l7 F s = takeC a2 ((BS sN mi l7 F s).filter (okB a3 below mi))
  | 0 => by
    unfold takeC
    split <;> simp [RS, BS]
  | s + 1 => by
    show flushL a2 a3 sN below mi (placesL l7 (F (s : Int))) (RS a2 a3 sN below mi l7 F s) = takeC a2 ((BS sN mi l7 F s ++ tms sN mi (placesL l7 (F (s : Int)))).filter (okB a3 below mi))
    unfold flushL
    rw [flushG_told (RS_told s) _ (Nat.le_refl _), List.take_length, List.filter_append]
theorem BS_mem {sN mi x : Int} {l7 : List Int} {F : Int → List Int} : ∀ s, x ∈ BS sN mi l7 F s ↔ ∃ t : Nat, t < s ∧ x ∈ tms sN mi (placesL l7 (F (t : Int)))
  | 0 => by
    refine ⟨fun h => (by cases h), ?_⟩
    rintro ⟨t, h, _⟩
    omega
  | s + 1 => by
    show x ∈ BS sN mi l7 F s ++ tms sN mi (placesL l7 (F (s : Int))) ↔ _
    rw [List.mem_append, BS_mem s]
    constructor
    · rintro (⟨t, h1, h2⟩ | h)
      · exact ⟨t, by omega, h2⟩
      · exact ⟨s, by omega, h⟩
    · rintro ⟨t, h1, h2⟩
      by_cases e : t = s
      · exact .inr (e ▸ h2)
      · exact .inl ⟨t, by omega, h2⟩
theorem asc_BS {sN mi : Int} {l7 : List Int} {F : Int → List Int} (hA : ∀ t, Asc (F t)) (hO : ∀ s t x y : Int, 0 ≤ s → s < t → x ∈ F s → y ∈ F t → x < y) : ∀ s, Asc (BS sN mi l7 F s)
  | 0 => List.Pairwise.nil
  | s + 1 => by
    show Asc (BS sN mi l7 F s ++ tms sN mi (placesL l7 (F (s : Int))))
    refine List.pairwise_append.2 ⟨asc_BS hA hO s, asc_tms (List.Pairwise.sublist (sub_placesL _ _) (hA _)), ?_⟩
    intro a ha b hb
    obtain ⟨t, h1, h2⟩ := (BS_mem s).1 ha
    obtain ⟨n, g1, g2, rfl⟩ := tms_mem.1 h2
    obtain ⟨n', k1, k2, rfl⟩ := tms_mem.1 hb
    have := hO (t : Int) (s : Int) n n' (by omega) (by omega) (placesL_mem g1) (placesL_mem k1)
    omega
/-- Membership in a cut rising row. -/
theorem takeC_mem {a2 x : Int} {L : List Int} (h : Asc L) : x ∈ takeC a2 L ↔ x ∈ L ∧ (0 < a2 → ((L.filter (fun y => decide (y < x))).length : Int) < a2) := by
  have key : ∀ (c : Nat) (L : List Int), Asc L → (x ∈ L.take c ↔ x ∈ L ∧ (L.filter (fun y => decide (y < x))).length < c) := by
    intro c L
    induction L generalizing c with
    | nil => intro _; simp
    | cons y L ih =>
      intro hA
      rw [Asc, List.pairwise_cons] at hA
      cases c with
      | zero => simp
      | succ c =>
        rw [List.take_succ_cons, List.mem_cons, List.mem_cons, ih c hA.2]
        by_cases e : x = y
        · subst e
          rw [List.filter_cons_of_neg (by simp)]
          have : L.filter (fun y => decide (y < x)) = [] := List.filter_eq_nil_iff.2 (fun z hz => by have := hA.1 z hz; simp; omega)
          rw [this]
          simp
        · by_cases g : y < x
          · rw [List.filter_cons_of_pos (by simpa using g), List.length_cons]
            constructor
            · rintro (h | ⟨h1, h2⟩)
              · exact absurd h e
              · exact ⟨.inr h1, by omega⟩
            · rintro ⟨h1, h2⟩
              exact .inr ⟨h1.resolve_left e, by omega⟩
          · have hx : x ∉ L := fun hx => by have := hA.1 x hx; omega
            constructor
            · rintro (h | ⟨h1, h2⟩)
              · exact absurd h e
              · exact absurd h1 hx
            · rintro ⟨h1, h2⟩
              exact absurd (h1.resolve_left e) hx
  unfold takeC
  split
  · rename_i hp
    rw [key _ _ h]
    constructor
    · rintro ⟨h1, h2⟩; exact ⟨h1, fun _ => by omega⟩
    · rintro ⟨h1, h2⟩; exact ⟨h1, by have := h2 hp; omega⟩
  · rename_i hp
    exact ⟨fun h1 => ⟨h1, fun h2 => absurd h2 hp⟩, fun h1 => h1.1⟩
end Go.Proofs.Ytinjbpbpgogdhaa.Own
end
section
namespace Go.Proofs.Ytinjbpbpgogdhaa.Own
open Go.RowKit Go.Proofs.YtinjbpbpgogdhaaW.PrintWords Go.Proofs.YtinjbpbpgogdhaaW.PrintLast Go.Proofs.YtinjbpbpgogdhaaW.PrintMore
set_option linter.unusedVariables false
set_option linter.unusedSimpArgs false
theorem bet_one {a : Int} : ∀ {T : List Int}, Asc T → ((((bet a (a + 1) 1 [] T).1.length : Nat) : Int) = 1 ↔ a ∈ T)
  | [], _ => by simp [bet]
  | x :: T, h => by
    rw [Asc, List.pairwise_cons] at h
    unfold bet
    by_cases h1 : a + 1 ≤ x
    · rw [if_pos h1]
      constructor
      · intro h2; simp at h2
      · intro h2
        rcases List.mem_cons.1 h2 with e | e
        · omega
        · have := h.1 a e; omega
    · rw [if_neg h1]
      by_cases h2 : x < a
      · rw [if_pos h2, bet_one h.2, List.mem_cons]
        exact ⟨.inr, fun h3 => h3.resolve_left (by omega)⟩
      · rw [if_neg h2, if_neg (by simp)]
        have e : x = a := by omega
        subst e
        refine ⟨fun _ => List.mem_cons_self, fun _ => ?_⟩
        cases T with
        | nil => simp [bet]
        | cons y T =>
          have := h.1 y List.mem_cons_self
          unfold bet
          rw [if_pos (by omega)]
          rfl
/-- A row ended by a count, or a last stamp. -/
def cutT (a2 a3 : Int) : Nat → List Int → List Int
  | _, [] => []
  | g, x :: xs => if endT a2 a3 x g = true then [] else x :: cutT a2 a3 (g + 1) xs
theorem behind_cut {a2 a3 day mi : Int} {rest : Nat → List Int} {R : List Int} (hR : ∀ g, rest g = cutT a2 a3 g R) : ∀ (ns : List Int) (g : Nat), behind (goDays a2 a3 day mi ns g) rest g = cutT a2 a3 g (tms day mi ns ++ R)
  | [], g => by
    show behind ([], false) rest g = cutT a2 a3 g ([] ++ R)
    rw [behind_nil, hR, List.nil_append]
  | n :: ns, g => by
    by_cases h : n < day
    · rw [behind_skip _ h, behind_cut hR ns g]
      unfold tms
      rw [List.filter_cons_of_neg (by simp; omega)]
    · have ht : tms day mi (n :: ns) = (n * 1440 + mi) :: tms day mi ns := by
        unfold tms
        rw [List.filter_cons_of_pos (by simp; omega)]
        rfl
      rw [ht, List.cons_append, cutT]
      cases h2 : endT a2 a3 (n * 1440 + mi) g with
      | true => rw [behind_end _ h h2, if_pos rfl]
      | false => rw [behind_more _ h h2, if_neg (by simp), behind_cut hR ns (g + 1)]
theorem goPer_cut {DL : Nat → List Int × Bool} {a2 a3 day mi : Int} : ∀ (f k g g' : Nat), goPer DL a2 a3 day mi f k g = cutT a2 a3 g (goPer DL 0 (-1) day mi f k g')
  | 0, _, _, _ => rfl
  | f + 1, k, g, g' => by
    cases hm : (DL k).2 with
    | false => rw [goPer_no hm, goPer_no hm]; rfl
    | true =>
      rw [goPer_yes hm, goPer_yes hm, goDays_no]
      show _ = cutT a2 a3 g (tms day mi (DL k).1 ++ goPer DL 0 (-1) day mi f (k + 1) (g' + (tms day mi (DL k).1).length))
      exact behind_cut (fun g => goPer_cut f (k + 1) g _) _ _
/-- No last stamp is passed. -/
def nuB (a3 t : Int) : Bool := !(decide (0 ≤ a3) && decide (a3 < t))
theorem cut_filter {a2 a3 : Int} (h2 : 0 ≤ a2) : ∀ (L : List Int) (g : Nat), Asc L → (0 < a2 → (g : Int) ≤ a2) → cutT a2 a3 g L = (if 0 < a2 then (L.filter (nuB a3)).take (a2 - g).toNat else L.filter (nuB a3))
  | [], g, _, _ => by
    show [] = _
    split <;> simp
  | x :: L, g, hA, hg => by
    rw [Asc, List.pairwise_cons] at hA
    rw [cutT]
    have he : endT a2 a3 x g = (!(nuB a3 x) || (decide (0 < a2) && decide ((g : Int) = a2))) := by
      unfold endT nuB
      rw [Bool.not_not]
    cases hn : nuB a3 x with
    | false =>
      rw [he, hn, if_pos (by simp)]
      have hnil : (x :: L).filter (nuB a3) = [] := by
        refine List.filter_eq_nil_iff.2 (fun y hy => ?_)
        unfold nuB at hn ⊢
        simp only [Bool.not_eq_false', Bool.and_eq_true, decide_eq_true_eq] at hn
        rcases List.mem_cons.1 hy with e | e
        · rw [e]; simp [hn.1, hn.2]
        · have := hA.1 y e
          simp [hn.1]
          omega
      rw [hnil]
      split <;> simp
    | true =>
      rw [he, hn, Bool.not_true, Bool.false_or, List.filter_cons_of_pos hn]
      by_cases hp : 0 < a2
      · rw [decide_eq_true hp, Bool.true_and, if_pos hp]
        have hg' := hg hp
        by_cases hc : (g : Int) = a2
        · rw [decide_eq_true hc, if_pos rfl, show (a2 - g).toNat = 0 from by omega]
          rfl
        · rw [decide_eq_false hc, if_neg (by simp), show (a2 - g).toNat = (a2 - (g + 1 : Nat)).toNat + 1 from by omega, List.take_succ_cons, cut_filter h2 L (g + 1) hA.2 (fun _ => by omega), if_pos hp]
      · rw [decide_eq_false hp, Bool.false_and, if_neg (by simp), if_neg hp, cut_filter h2 L (g + 1) hA.2 (fun h => absurd h hp), if_neg hp]
theorem cut_take {a2 a3 : Int} (h2 : 0 ≤ a2) {L : List Int} (hA : Asc L) : cutT a2 a3 0 L = takeC a2 (L.filter (nuB a3)) := by
  rw [cut_filter h2 L 0 hA (fun h => by omega)]
  unfold takeC
  split
  · rw [show (a2 - ((0 : Nat) : Int)).toNat = a2.toNat from by omega]
  · rfl
theorem asc_timesK {a0 a1 a8 : Int} {l4 l7 : List Int} {P : Int → Bool} {day sy sm mi : Int} {f k : Nat} (ha1 : 1 ≤ a1) (hy : 0 ≤ sy) (hm : 1 ≤ sm) (hm2 : sm ≤ 12) : Asc (goPer (DLp a0 a1 a8 l4 l7 P day sy sm) 0 (-1) day mi f k 0) := by
  refine asc_goPer (fun k => asc_DLp _ _ _ _ _ _ _ _ _ _) ?_ _ _ _
  intro k k' x y hk hx hy'
  exact period_order hy hm hm2 (Int.mul_nonneg (by omega) (by omega)) (mul_lt_mul_ ha1 hk) (placesL_mem hx) (placesL_mem hy')
theorem timesK_mem {a0 a1 a8 : Int} {l4 l7 : List Int} {P : Int → Bool} {day sy sm mi x : Int} {k0 : Nat} (ha1 : 1 ≤ a1) (hd : 0 ≤ day) (hd1 : day ≤ 109938) (hy : 1900 ≤ sy) (hm : 1 ≤ sm) :
    x ∈ goPer (DLp a0 a1 a8 l4 l7 P day sy sm) 0 (-1) day mi (111000 - k0) k0 0 ↔ ∃ j : Nat, k0 ≤ j ∧ (periodL a0 a8 l4 P day sy sm ((j : Int) * a1)).2 = true ∧ ∃ n ∈ placesL l7 (periodL a0 a8 l4 P day sy sm ((j : Int) * a1)).1, day ≤ n ∧ x = n * 1440 + mi := by
  rw [goPer_mem]
  constructor
  · rintro ⟨j, hj, h1, h2⟩
    exact ⟨k0 + j, by omega, h1 j (Nat.le_refl _), tms_mem.1 h2⟩
  · rintro ⟨j, h0, h1, h2⟩
    have hb := period_more hd hd1 hy hm h1
    have hb2 : (j : Int) * 1 ≤ (j : Int) * a1 := Int.mul_le_mul_of_nonneg_left ha1 (by omega)
    refine ⟨j - k0, by omega, fun i hi => ?_, ?_⟩
    · exact more_mono (mul_le_mul_ ha1 (show k0 + i ≤ j by omega)) h1
    · rw [show k0 + (j - k0) = j from by omega]
      exact tms_mem.2 h2
theorem period_has {a0 a8 : Int} {l4 l5 : List Int} {l6 : List S58} {sN sy sm sd st n : Int} (h : n ∈ (periodL a0 a8 l4 (dayB a0 l4 l5 l6 sN sm sd) sN sy sm st).1) : (periodL a0 a8 l4 (dayB a0 l4 l5 l6 sN sm sd) sN sy sm st).2 = true := by
  have hb := dayB_bd (periodL_P h)
  unfold periodL at h ⊢
  split
  · rename_i e
    rw [if_pos e] at h
    have := daysF_mem.1 h
    exact decide_eq_true (by omega)
  · rename_i e
    rw [if_neg e] at h
    split
    · rename_i e2
      rw [if_pos e2] at h
      have := daysF_mem.1 h
      exact decide_eq_true (by omega)
    · rename_i e2
      rw [if_neg e2] at h
      split
      · rename_i e3
        rw [if_pos e3] at h
        rcases monthL_mem.1 h with h | h
        · cases h
        · exact decide_eq_true h.1.1.2.1
      · rename_i e3
        rw [if_neg e3] at h
        obtain ⟨m, _, ⟨hk, _⟩, _⟩ := (yearL_mem _).1 h
        exact decide_eq_true hk.2.1
theorem era_step (s : Int) : ∀ k : Nat, eraZ (s + k) - eraZ s ≤ 366 * k
  | 0 => by rw [show s + ((0 : Nat) : Int) = s from by omega]; omega
  | k + 1 => by
    have h1 := era_step s k
    have h2 := era_succ (s + (k + 1 : Nat))
    rw [show s + ((k + 1 : Nat) : Int) - 1 = s + k from by omega] at h2
    have h3 : lpi (s + ((k + 1 : Nat) : Int)) ≤ 1 := by unfold lpi; split <;> omega
    omega
theorem month_span {sy sm : Int} (hs : Ok sy sm 1) : ∀ (t : Nat) (y m : Int), Ok y m 1 → 12 * (y - sy) + (m - sm) = t → num y m 1 - num sy sm 1 ≤ 31 * t
  | 0, y, m, hk, h => by
    have h3 := hs.2.2
    have h4 := hk.2.2
    have e1 : y = sy := by omega
    have e2 : m = sm := by omega
    subst e1
    subst e2
    omega
  | t + 1, y, m, hk, h => by
    obtain ⟨k1, k2, k3, k4, k5, k6⟩ := hk
    have h3 := hs.2.2
    by_cases c : m = 1
    · subst c
      have l1 := len_lo (y := y - 1) (m := 12) (by decide) (by decide)
      have hk' : Ok (y - 1) 12 1 := ⟨by have := hs.1; omega, by omega, by decide, by decide, by decide, by omega⟩
      have ih := month_span hs t (y - 1) 12 hk' (by omega)
      have e1 := num_eq (y := y - 1) (m := 12) (d := 1) (by decide) (by decide)
      have e2 := num_eq (y := y) (m := 1) (d := 1) (by decide) (by decide)
      have e3 := era_succ (y - 1)
      have e4 : cm y 1 = 0 := by unfold cm; simp
      have e5 : cm (y - 1) 12 = 334 + lpi (y - 1) := by unfold cm mar lpi; simp; omega
      omega
    · have l1 := len_lo (y := y) (m := m - 1) (by omega) (by omega)
      have l2 := (len_bd y (m - 1)).2
      have hk' : Ok y (m - 1) 1 := ⟨k1, k2, by omega, by omega, by decide, by omega⟩
      have ih := month_span hs t y (m - 1) hk' (by omega)
      have e1 := num_eq (y := y) (m := m - 1) (d := 1) (by omega) (by omega)
      have e2 := num_eq (y := y) (m := m) (d := 1) k3 k4
      have e3 := cm_succ (y := y) (m := m - 1) (by omega) (by omega)
      rw [show m - 1 + 1 = m from by omega] at e3
      omega
/-- A day behind the start is not further than its period's end. -/
theorem per_span {a0 a8 sN sy sm sd n : Int} (ha : 1 ≤ a0 ∧ a0 ≤ 4) (h8 : 0 ≤ a8 ∧ a8 ≤ 6) (hok : Ok sy sm sd) (hs : num sy sm sd = sN) (h0 : sN ≤ n) (h1 : n < 109938) : n - sN < longZ a0 * (perN a0 a8 sN sy sm (sN % 7) n + 1) := by
  have hb := num_bd hok
  obtain ⟨o1, o2, o3, o4, o5, o6⟩ := hok
  have hok : Ok sy sm sd := ⟨o1, o2, o3, o4, o5, o6⟩
  have l1 := len_lo (y := sy) o3 o4
  have okm : Ok sy sm 1 := ⟨o1, o2, o3, o4, by decide, by omega⟩
  have hd := num_day sy sm sd
  obtain ⟨y, m, d, _, hok', hn⟩ := civil_Date_ok (k := 3000) (by decide) (show 0 ≤ n by omega) h1
  rw [perN_eq hok' hn]
  obtain ⟨p1, p2, p3, p4, p5, p6⟩ := hok'
  have hok' : Ok y m d := ⟨p1, p2, p3, p4, p5, p6⟩
  have lk := len_lo (y := y) p3 p4
  have lk2 := (len_bd y m).2
  have okk : Ok y m 1 := ⟨p1, p2, p3, p4, by decide, by omega⟩
  have hdy := num_day y m d
  have hml := month_le hok hok' (by omega)
  unfold perZ longZ
  by_cases e1 : a0 = 1
  · rw [if_pos e1, if_pos e1]
    omega
  · rw [if_neg e1, if_neg e1]
    by_cases e2 : a0 = 2
    · rw [if_pos e2, if_pos e2]
      omega
    · rw [if_neg e2, if_neg e2]
      by_cases e3 : a0 = 3
      · rw [if_pos e3, if_pos e3]
        have := month_span okm (12 * (y - sy) + (m - sm)).toNat y m okk (by omega)
        omega
      · rw [if_neg e3, if_neg e3]
        have h2 := era_step (sy - 1) (y - sy + 1).toNat
        rw [show sy - 1 + (((y - sy + 1).toNat : Nat) : Int) = y from by omega] at h2
        have h3 := cm_end (y := y) (m := m) (d := d) p3 p4 p6
        have h4 := num_eq (y := y) (m := m) (d := d) p3 p4
        have h5 := num_eq (y := sy) (m := sm) (d := sd) o3 o4
        have h6 := (cm_bd (y := sy) o3 o4).1
        have h7 := era_succ y
        omega
theorem k0Z_le {a0 a1 a2 a8 sN sy sm sd n : Int} {j : Nat} (ha : 1 ≤ a0 ∧ a0 ≤ 4) (ha1 : 1 ≤ a1) (h8 : 0 ≤ a8 ∧ a8 ≤ 6) (hok : Ok sy sm sd) (hs : num sy sm sd = sN) (h0 : sN ≤ n) (h1 : n < 109938) (at' : Int) (hat : at' / 1440 = n) (hp : perN a0 a8 sN sy sm (sN % 7) n = (j : Int) * a1) : k0Z a0 a1 a2 sN at' ≤ j := by
  unfold k0Z
  split
  · exact Nat.zero_le _
  · have h2 := per_span ha h8 hok hs h0 h1
    rw [hp] at h2
    unfold firstZ
    rw [hat]
    have hL : 1 ≤ longZ a0 := by unfold longZ; repeat' split
                                 all_goals omega
    have hLa : 0 < longZ a0 * a1 := Int.mul_pos (by omega) (by omega)
    have e : ((j : Int) + 1) * (longZ a0 * a1) = longZ a0 * ((j : Int) * a1) + longZ a0 * a1 := by
      rw [Int.add_mul, Int.one_mul, Int.mul_left_comm]
    have e2 : longZ a0 * ((j : Int) * a1 + 1) = longZ a0 * ((j : Int) * a1) + longZ a0 := by rw [Int.mul_add, Int.mul_one]
    have e3 : longZ a0 * 1 ≤ longZ a0 * a1 := Int.mul_le_mul_of_nonneg_left ha1 (by omega)
    have h3 : (n - sN) / (longZ a0 * a1) < (j : Int) + 1 := Int.ediv_lt_of_lt_mul hLa (by omega)
    split <;> omega
end Go.Proofs.Ytinjbpbpgogdhaa.Own
end
