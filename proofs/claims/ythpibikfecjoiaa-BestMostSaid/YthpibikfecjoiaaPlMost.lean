import Derived.Test.YthpibikfecjoiaaPl1
import Derived.Test.YthpibikfecjoiaaOwnx7
namespace Go.Proofs.Ythpibikfecjoiaa.Own
open Go.RowKit Go.Proofs.YthpibikfecjoiaaW.PrintWords Go.Proofs.YthpibikfecjoiaaW.PrintLast Go.Proofs.YthpibikfecjoiaaW.PrintMore
set_option linter.unusedVariables false
set_option linter.unusedSimpArgs false
/-! BestMost. First: what the document's May says is what the program's says. -/
theorem pair_logic (p1 p2 p3 p4 : Prop) [Decidable p1] [Decidable p2] [Decidable p3] [Decidable p4] (R : Bool) :
    (if p1 then (if p2 then some true else (if p3 then (if p4 then some true else some R) else some R)) else (if p3 then (if p4 then some true else some R) else some R)) = some ((decide p1 && decide p2) || (decide p3 && decide p4) || R) := by
  by_cases h1 : p1 <;> by_cases h2 : p2 <;> by_cases h3 : p3 <;> by_cases h4 : p4 <;> simp [h1, h2, h3, h4]
theorem pair_l0 (l : List S39) (a b : Int) (hl : l.length ≤ 1000000) (n : Nat) : ∀ (k i : Nat), n + 1 ≤ k → i ≤ l.length → l.length - i = n → vespersref21_pair.l0 k l a b (l.length : Int) (i : Int) = some ((l.drop i).any fun x => (a == x.f0 && b == x.f1) || (b == x.f0 && a == x.f1)) := by
  induction n with
  | zero =>
    intro k i hk hi hn
    obtain ⟨k, rfl⟩ : ∃ k', k = k' + 1 := ⟨k - 1, by omega⟩
    rw [vespersref21_pair.l0, if_neg (by omega), List.drop_eq_nil_of_le (by omega)]
    rfl
  | succ n ih =>
    intro k i hk hi hn
    obtain ⟨k, rfl⟩ : ∃ k', k = k' + 1 := ⟨k - 1, by omega⟩
    have hil : i < l.length := by omega
    have er : rd_T39 l (i : Int) = l[i] := by
      unfold rd_T39
      rw [Int.toNat_natCast, List.getD_eq_getElem?_getD, List.getElem?_eq_getElem hil]
      rfl
    have h2 := ih k (i + 1) (by omega) (by omega) (by omega)
    rw [vespersref21_pair.l0, if_pos (by omega), if_pos (by omega), if_pos (by omega), er, show wrap64 ((i : Int) + 1) = ((i + 1 : Nat) : Int) from by unfold wrap64; omega, h2, List.drop_eq_getElem_cons hil, List.any_cons]
    generalize (l.drop (i + 1)).any (fun x => (a == x.f0 && b == x.f1) || (b == x.f0 && a == x.f1)) = R
    have e1 : ∀ x y : Int, (x == y) = decide (y = x) := fun x y => by rw [Bool.eq_iff_iff]; simp; exact eq_comm
    rw [e1, e1, e1, e1]
    exact pair_logic (l[i].f0 = a) (l[i].f1 = b) (l[i].f0 = b) (l[i].f1 = a) R
theorem any_or {α : Type} (l : List α) (p q : α → Bool) : l.any (fun x => p x || q x) = (l.any p || l.any q) := by
  induction l with
  | nil => rfl
  | cons x r ih =>
    simp only [List.any_cons, ih]
    cases p x <;> cases q x <;> simp
theorem pair_f {l : List S39} (a b : Int) (hl : l.length ≤ 1000000) {k : Nat} (hk : l.length + 1 ≤ k) : vespersref21_pair.f k l a b = some (nbP l a b) := by
  have := pair_l0 l a b hl l.length k 0 hk (by omega) (by omega)
  unfold vespersref21_pair.f nbP pairIn
  rw [← any_or]
  rw [List.drop_zero] at this
  exact this
theorem rd_get {l : List Int} {i : Nat} (h : i < l.length) : rd l (i : Int) = l[i] := by
  unfold rd
  rw [Int.toNat_natCast, List.getD_eq_getElem?_getD, List.getElem?_eq_getElem h]
  rfl
theorem may_l1 {l : List S33} {can : List Bool} {apart : List S39} {places : List Int} (h6 : apart.length ≤ 40) (hp : places.length ≤ 20) {i : Nat} (hi : i < places.length) (hpre : ∀ x ∈ places.take i, 0 ≤ x ∧ x < (l.length : Int)) {p : Int} (hp0 : 0 ≤ p) (hp1 : p < (l.length : Int)) {R : Bool} {D : Nat} (hD : 41 ≤ D)
    (hnext : ∀ k, D ≤ k → vespersref21_May.l0 k l can apart places (places.length : Int) ((i + 1 : Nat) : Int) = some R) (e : Nat) : ∀ (c k : Nat), c + e = i → e + 1 + D ≤ k →
    vespersref21_May.l1 k l can apart places (i : Int) p (c : Int) (places.length : Int) (i : Int) = some (!(((places.take i).drop c).any fun x => p == x || nbP apart (rd_T33 l p).f0 (rd_T33 l x).f0) && R) := by
  induction e with
  | zero =>
    intro c k hc hk
    obtain ⟨k, rfl⟩ : ∃ k', k = k' + 1 := ⟨k - 1, by omega⟩
    rw [vespersref21_May.l1, if_neg (by omega), show wrap64 ((i : Int) + 1) = ((i + 1 : Nat) : Int) from by unfold wrap64; omega, hnext k (by omega), List.drop_eq_nil_of_le (by rw [List.length_take]; omega)]
    rfl
  | succ e ih =>
    intro c k hc hk
    obtain ⟨k, rfl⟩ : ∃ k', k = k' + 1 := ⟨k - 1, by omega⟩
    have hcl : c < (places.take i).length := by rw [List.length_take]; omega
    have hx : rd places (c : Int) = (places.take i)[c] := by rw [rd_get (by omega), List.getElem_take]
    obtain ⟨x0, x1⟩ := hpre _ (List.getElem_mem hcl)
    rw [← hx] at x0 x1
    have h2 := ih (c + 1) k (by omega) (by omega)
    rw [vespersref21_May.l1, if_pos (by omega), if_pos (by omega), if_pos (by omega), List.drop_eq_getElem_cons hcl, List.any_cons, ← hx, if_pos x0, if_pos x1, if_pos hp0, if_pos hp1, pair_f _ _ (by omega) (by omega), show wrap64 ((c : Int) + 1) = ((c + 1 : Nat) : Int) from by unfold wrap64; omega, h2]
    simp only [Option.bind_some]
    by_cases c1 : rd places (c : Int) = p
    · rw [if_pos c1, c1]; simp
    · rw [if_neg c1, show (p == rd places (c : Int)) = false from by simp; exact fun h => c1 h.symm, nb_symm apart (rd_T33 l p).f0]
      cases nbP apart (rd_T33 l (rd places (c : Int))).f0 (rd_T33 l p).f0 <;> simp
theorem may_bad {l : List S33} {can : List Bool} {apart : List S39} {places : List Int} (h6 : apart.length ≤ 40) (hp : places.length ≤ 20) {i : Nat} (hi : i < places.length) (hpre : ∀ x ∈ places.take i, 0 ≤ x ∧ x < (l.length : Int)) {p : Int} (hp0 : 0 ≤ p) (hp1 : p < (l.length : Int)) (e : Nat) : ∀ (c k : Nat), c + e = i → e + 42 ≤ k →
    (((places.take i).drop c).any fun x => p == x || nbP apart (rd_T33 l p).f0 (rd_T33 l x).f0) = true → vespersref21_May.l1 k l can apart places (i : Int) p (c : Int) (places.length : Int) (i : Int) = some false := by
  induction e with
  | zero =>
    intro c k hc hk hb
    rw [List.drop_eq_nil_of_le (by rw [List.length_take]; omega)] at hb
    cases hb
  | succ e ih =>
    intro c k hc hk hb
    obtain ⟨k, rfl⟩ : ∃ k', k = k' + 1 := ⟨k - 1, by omega⟩
    have hcl : c < (places.take i).length := by rw [List.length_take]; omega
    have hx : rd places (c : Int) = (places.take i)[c] := by rw [rd_get (by omega), List.getElem_take]
    obtain ⟨x0, x1⟩ := hpre _ (List.getElem_mem hcl)
    rw [← hx] at x0 x1
    rw [List.drop_eq_getElem_cons hcl, List.any_cons, ← hx] at hb
    rw [vespersref21_May.l1, if_pos (by omega), if_pos (by omega), if_pos (by omega), if_pos x0, if_pos x1, if_pos hp0, if_pos hp1, pair_f _ _ (by omega) (by omega), show wrap64 ((c : Int) + 1) = ((c + 1 : Nat) : Int) from by unfold wrap64; omega]
    simp only [Option.bind_some]
    by_cases c1 : rd places (c : Int) = p
    · rw [if_pos c1]
    · rw [if_neg c1]
      rw [show (p == rd places (c : Int)) = false from by simp; exact fun h => c1 h.symm, nb_symm apart (rd_T33 l p).f0] at hb
      cases hn : nbP apart (rd_T33 l (rd places (c : Int))).f0 (rd_T33 l p).f0 with
      | true => rw [if_pos rfl]
      | false =>
        rw [hn] at hb
        rw [if_neg (by simp)]
        exact ih (c + 1) k (by omega) (by omega) (by simpa using hb)
theorem may_l0 {l : List S33} {can : List Bool} {apart : List S39} {places : List Int} (h6 : apart.length ≤ 40) (hp : places.length ≤ 20) (d : Nat) : ∀ (i k : Nat), i + d = places.length → 25 * d + 50 ≤ k → (List.range i).all (mayOk (nbP apart) l can places) = true →
    vespersref21_May.l0 k l can apart places (places.length : Int) (i : Int) = some ((List.range places.length).all (mayOk (nbP apart) l can places)) := by
  induction d with
  | zero =>
    intro i k hi hk ha
    obtain ⟨k, rfl⟩ : ∃ k', k = k' + 1 := ⟨k - 1, by omega⟩
    rw [vespersref21_May.l0, if_neg (by omega), show places.length = i from by omega, ha]
  | succ d ih =>
    intro i k hi hk ha
    obtain ⟨k, rfl⟩ : ∃ k', k = k' + 1 + 1 := ⟨k - 2, by omega⟩
    have hlt : i < places.length := by omega
    have hno : mayOk (nbP apart) l can places i = false → (List.range places.length).all (mayOk (nbP apart) l can places) = false := fun h => by
      rw [List.all_eq_false]
      exact ⟨i, List.mem_range.2 hlt, by rw [h]; simp⟩
    rw [vespersref21_May.l0, if_pos (by omega), if_pos (by omega), if_pos (by omega)]
    have hj2t : ∀ p, vespersref21_May.j2 (k + 1) l can apart places (i : Int) p (places.length : Int) (i : Int) true = some false := fun p => by
      rw [vespersref21_May.j2, if_pos rfl]
    obtain ⟨p, hpv⟩ : ∃ p, p = rd places (i : Int) := ⟨_, rfl⟩
    rw [← hpv]
    by_cases g0 : p < 0
    · rw [if_pos g0, hj2t, hno (by unfold mayOk; rw [← hpv, decide_eq_false (by omega)]; rfl)]
    rw [if_neg g0]
    by_cases g1 : p ≥ (l.length : Int)
    · rw [if_pos g1, hj2t, hno (by unfold mayOk; rw [← hpv, decide_eq_false (show ¬ p < (l.length : Int) by omega)]; simp)]
    rw [if_neg g1]
    by_cases g2 : p ≥ (can.length : Int)
    · rw [if_pos g2, hj2t, hno (by unfold mayOk; rw [← hpv, decide_eq_false (show ¬ p < (can.length : Int) by omega)]; simp)]
    rw [if_neg g2, if_pos (by omega), if_pos (by omega)]
    cases hcan : rdOf false can p with
    | false =>
      rw [Bool.not_false, hj2t, hno (by unfold mayOk; rw [← hpv, hcan]; simp)]
    | true =>
      rw [Bool.not_true, vespersref21_May.j2, if_neg (by simp)]
      by_cases hok : mayOk (nbP apart) l can places i = true
      · have h1 := fun k' hk' => ih (i + 1) k' (by omega) hk' (all_range_succ ha hok)
        have h2 := may_l1 (can := can) h6 hp hlt (may_range (by omega) ha) (show 0 ≤ p by omega) (show p < (l.length : Int) by omega) (R := (List.range places.length).all (mayOk (nbP apart) l can places)) (D := 25 * d + 50) (by omega) h1 i 0 k (by omega) (by omega)
        refine (show _ = _ from h2).trans ?_
        rw [List.drop_zero, any_or]
        unfold mayOk at hok
        rw [← hpv] at hok
        simp only [Bool.and_eq_true, Bool.not_eq_true'] at hok
        rw [hok.2.2.2.2.1, hok.2.2.2.2.2]
        rfl
      · have hok' : mayOk (nbP apart) l can places i = false := by simpa using hok
        -- the same round, whatever follows: something that stands ahead bars it
        rw [hno hok']
        have hbad : ((places.take i).any fun x => p == x || nbP apart (rd_T33 l p).f0 (rd_T33 l x).f0) = true := by
          rw [any_or]
          unfold mayOk at hok'
          rw [← hpv, hcan, decide_eq_true (show 0 ≤ p by omega), decide_eq_true (show p < (l.length : Int) by omega), decide_eq_true (show p < (can.length : Int) by omega)] at hok'
          simp only [Bool.true_and] at hok'
          revert hok'
          cases (places.take i).any (fun x => p == x) <;> cases (places.take i).any (fun x => nbP apart (rd_T33 l p).f0 (rd_T33 l x).f0) <;> simp
        exact may_bad h6 hp hlt (may_range (by omega) ha) (by omega) (by omega) i 0 k (by omega) (by omega) (by rw [List.drop_zero]; exact hbad)
theorem ref_may {l : List S33} {can : List Bool} {seats : Int} {apart : List S39} {places : List Int} (h6 : apart.length ≤ 40) (hp : places.length ≤ 20) (k : Nat) (hk : 600 ≤ k) : vespersref21_May.f k l can seats apart places = some (mayP (nbP apart) l can seats places) := by
  obtain ⟨k, rfl⟩ : ∃ k', k = k' + 1 := ⟨k - 1, by omega⟩
  have h := may_l0 (l := l) (can := can) h6 hp places.length 0 k (by omega) (by omega) rfl
  have h' : vespersref21_May.l0 k l can apart places (places.length : Int) 0 = some ((List.range places.length).all (mayOk (nbP apart) l can places)) := h
  unfold vespersref21_May.f mayP
  by_cases c : seats ≥ 0
  · rw [if_pos c, vespersref21_May.j0, decide_eq_true c, Bool.true_and]
    by_cases c2 : (places.length : Int) > seats
    · rw [decide_eq_true c2, if_pos rfl]; rfl
    · rw [decide_eq_false c2, if_neg (by simp), h']; simp
  · rw [if_neg c, vespersref21_May.j0, if_neg (by simp), decide_eq_false c, h']; simp
/-! A choice told by its places. -/
def inP (places : List Int) (j : Nat) : Bool := places.any fun x => x == (j : Int)
theorem sumF_add (f g : Nat → Int) (m : Nat) : ∀ i, sumF (fun j => f j + g j) m i = sumF f m i + sumF g m i := by
  induction m with
  | zero => intro i; rfl
  | succ m ih => intro i; unfold sumF; rw [ih]; omega
theorem sumF_one (v : Int) (p : Nat) (m : Nat) : ∀ i, i ≤ p → p < i + m → sumF (fun j => if j = p then v else 0) m i = v := by
  induction m with
  | zero => intro i h1 h2; omega
  | succ m ih =>
    intro i h1 h2
    unfold sumF
    by_cases c : i = p
    · rw [if_pos c, sumF_congr (g := fun _ => 0) m (i + 1) (fun j a b => by rw [if_neg (by omega)]), sumF_const]
      omega
    · rw [if_neg c, ih (i + 1) (by omega) (by omega)]
      omega
/-- What places count, together, is what the choice of them counts. -/
theorem sum_places {n : Nat} (g : Nat → Int) (places : List Int) (hr : ∀ x ∈ places, 0 ≤ x ∧ x < (n : Int)) (hn : places.Nodup) : (places.map fun x => g x.toNat).sum = sumF (selV (inP places) g) n 0 := by
  induction places with
  | nil =>
    rw [sumF_congr (f := selV (inP []) g) (g := fun _ => 0) n 0 (fun j _ _ => rfl), sumF_const]
    simp
  | cons x r ih =>
    obtain ⟨hx, hnr⟩ := List.nodup_cons.1 hn
    obtain ⟨x0, x1⟩ := hr x (List.mem_cons_self ..)
    rw [List.map_cons, List.sum_cons, ih (fun y hy => hr y (List.mem_cons_of_mem _ hy)) hnr, ← sumF_one (g x.toNat) x.toNat n 0 (by omega) (by omega), ← sumF_add]
    apply sumF_congr
    intro j _ _
    unfold selV inP
    rw [List.any_cons]
    by_cases c : j = x.toNat
    · have hxj : (x == (j : Int)) = true := by simp; omega
      have hrj : (r.any fun y => y == (j : Int)) = false := by
        rw [List.any_eq_false]
        intro y hy e
        have : y = x := by have := of_decide_eq_true (show decide (y = (j : Int)) = true by simpa using e); omega
        exact hx (this ▸ hy)
      rw [hxj, hrj, if_pos c, c]
      simp
    · have hxj : (x == (j : Int)) = false := by simp; omega
      rw [hxj, if_neg c]
      simp
theorem map_one (l : List Int) : ((l.map fun _ => (1 : Int)).sum) = l.length := by
  induction l with
  | nil => rfl
  | cons x r ih => rw [List.map_cons, List.sum_cons, ih, List.length_cons]; omega
theorem may_all {nb : Int → Int → Bool} {l : List S33} {can : List Bool} {seats : Int} {places : List Int} (h : mayP nb l can seats places = true) : (0 ≤ seats → (places.length : Int) ≤ seats) ∧ (List.range places.length).all (mayOk nb l can places) = true := by
  unfold mayP at h
  simp only [Bool.and_eq_true, Bool.not_eq_true', Bool.and_eq_false_iff, decide_eq_false_iff_not] at h
  refine ⟨fun h0 => ?_, h.2⟩
  rcases h.1 with a | a <;> omega
structure OkAt (nb : Int → Int → Bool) (l : List S33) (can : List Bool) (places : List Int) (j : Nat) : Prop where
  p0 : 0 ≤ rd places (j : Int)
  p1 : rd places (j : Int) < (l.length : Int)
  ca : rdOf false can (rd places (j : Int)) = true
  no : ∀ x ∈ places.take j, rd places (j : Int) ≠ x
  ap : ∀ x ∈ places.take j, nb (rd_T33 l (rd places (j : Int))).f0 (rd_T33 l x).f0 = false
theorem okAt {nb : Int → Int → Bool} {l : List S33} {can : List Bool} {places : List Int} (h : (List.range places.length).all (mayOk nb l can places) = true) {j : Nat} (hj : j < places.length) : OkAt nb l can places j := by
  have h1 := List.all_eq_true.1 h j (List.mem_range.2 hj)
  unfold mayOk at h1
  simp only [Bool.and_eq_true, decide_eq_true_eq, Bool.not_eq_true', List.any_eq_false] at h1
  exact ⟨h1.1, h1.2.1, h1.2.2.2.1, fun x hx e => h1.2.2.2.2.1 x hx (by simp [e]), fun x hx => by simpa using h1.2.2.2.2.2 x hx⟩
theorem places_nodup {nb : Int → Int → Bool} {l : List S33} {can : List Bool} {places : List Int} (h : (List.range places.length).all (mayOk nb l can places) = true) : places.Nodup := by
  refine List.pairwise_iff_getElem.2 fun i j hi hj hij e' => ?_
  apply (okAt h hj).no places[i] _ (by rw [rd_get hj, e'])
  rw [← List.getElem_take (j := j) (h := by rw [List.length_take]; omega)]
  exact List.getElem_mem _
theorem ok_places {l : List S33} {can : List Bool} {seats : Int} {apart : List S39} {places : List Int} (h : mayP (nbP apart) l can seats places = true) : Ok l can seats apart (inP places) ∧ (places.map fun x => wl l x.toNat).sum = sumF (selV (inP places) (wl l)) l.length 0 := by
  obtain ⟨hs, ha⟩ := may_all h
  have hnd := places_nodup ha
  have hr : ∀ x ∈ places, 0 ≤ x ∧ x < (l.length : Int) := by
    have := may_range (Nat.le_refl _) ha
    rwa [List.take_length] at this
  have hat : ∀ i, inP places i = true → ∃ a, ∃ h : a < places.length, places[a] = (i : Int) := by
    intro i hi
    unfold inP at hi
    rw [List.any_eq_true] at hi
    obtain ⟨x, hx, e⟩ := hi
    obtain ⟨a, ha, rfl⟩ := List.getElem_of_mem hx
    exact ⟨a, ha, by simpa using e⟩
  refine ⟨⟨fun j hj hb => ?_, fun h0 => ?_, fun i j hij hj hbi hbj => ?_⟩, sum_places _ places hr hnd⟩
  · obtain ⟨a, ha1, e⟩ := hat j hb
    have := (okAt ha ha1).ca
    rw [rd_get ha1, e] at this
    unfold rdOf at this
    rwa [Int.toNat_natCast] at this
  · rw [← sum_places (fun _ => 1) places hr hnd, map_one]
    exact hs h0
  · obtain ⟨a, ha1, ea⟩ := hat i hbi
    obtain ⟨b, hb1, eb⟩ := hat j hbj
    have hne : a ≠ b := by intro e; subst e; rw [ea] at eb; omega
    have mem : ∀ {x y : Nat} (hx : x < places.length), x < y → places[x] ∈ places.take y := fun {x y} hx hxy => by
      rw [← List.getElem_take (j := y) (h := by rw [List.length_take]; omega)]
      exact List.getElem_mem _
    rcases Nat.lt_or_gt_of_ne hne with c | c
    · have := (okAt ha hb1).ap _ (mem ha1 c)
      rw [rd_get hb1, ea, eb] at this
      rw [nb_symm]
      exact this
    · have := (okAt ha ha1).ap _ (mem hb1 c)
      rw [rd_get ha1, ea, eb] at this
      exact this
/-! The best one's places, one behind the other. -/
def Emb (l : List S33) (can : List Bool) : List Int → Nat → Prop
  | [], _ => True
  | u :: r, i => ∃ j, i ≤ j ∧ j < l.length ∧ can.getD j false = true ∧ ul l j = u ∧ Emb l can r (j + 1)
theorem Emb.mono {l : List S33} {can : List Bool} {us : List Int} {i i' : Nat} (h : Emb l can us i') (hi : i ≤ i') : Emb l can us i := by
  cases us with
  | nil => trivial
  | cons u r =>
    obtain ⟨j, h1, h2⟩ := h
    exact ⟨j, by omega, h2⟩
theorem emb_pre {l : List S33} {can : List Bool} {b : Nat → Bool} (hb : ∀ j, j < l.length → b j = true → can.getD j false = true) (m : Nat) : ∀ i, i + m = l.length → Emb l can (((List.range' i m).filter b).map (ul l)) i := by
  induction m with
  | zero => intro i _; trivial
  | succ m ih =>
    intro i hi
    rw [List.range'_succ, List.filter_cons]
    by_cases c : b i = true
    · rw [if_pos c, List.map_cons]
      exact ⟨i, Nat.le_refl _, by omega, hb i (by omega) c, rfl, ih (i + 1) (by omega)⟩
    · rw [if_neg c]
      exact (ih (i + 1) (by omega)).mono (by omega)
theorem most_l2 {l : List S33} {can : List Bool} {seats : Int} {us : List Int} {u : Int} {r : List Int} {x : Nat} {got : Int} {D : Nat} (h16 : l.length ≤ 16)
    (hnext : ∀ j k, j < l.length → Emb l can r (j + 1) → D ≤ k → vesperslaw21_BestMost.l1 k l can seats ((j + 1 : Nat) : Int) (wrap64 (got + 1)) us (us.length : Int) (wrap64 ((x : Int) + 1)) = some true) (e : Nat) : ∀ at' k, at' + e = l.length → Emb l can (u :: r) at' → e + 1 + D ≤ k →
    vesperslaw21_BestMost.l2 k l can seats (at' : Int) got u us (us.length : Int) (x : Int) = some true := by
  induction e with
  | zero =>
    intro at' k ha he hk
    obtain ⟨j, h1, h2, _⟩ := he
    omega
  | succ e ih =>
    intro at' k ha he hk
    obtain ⟨k, rfl⟩ : ∃ k', k = k' + 1 := ⟨k - 1, by omega⟩
    have hw : wrap64 ((at' : Int) + 1) = ((at' + 1 : Nat) : Int) := by unfold wrap64; omega
    have hskip : ¬ (ul l at' = u ∧ can.getD at' false = true) → Emb l can (u :: r) (at' + 1) := by
      intro hn
      obtain ⟨j, h1, h2, h3, h4, h5⟩ := he
      refine ⟨j, ?_, h2, h3, h4, h5⟩
      rcases Nat.eq_or_lt_of_le h1 with rfl | h1
      · exact absurd ⟨h4, h3⟩ hn
      · exact h1
    have hgo := fun hn => ih (at' + 1) k (by omega) (hskip hn) (by omega)
    rw [vesperslaw21_BestMost.l2, if_pos (by omega), if_pos (by omega), hw]
    by_cases c1 : (rd_T33 l (at' : Int)).f0 = u
    · rw [if_pos c1]
      by_cases c2 : (at' : Int) ≥ (can.length : Int)
      · rw [if_pos c2]
        refine hgo fun ⟨_, h⟩ => ?_
        rw [List.getD_eq_getElem?_getD, List.getElem?_eq_none (by omega)] at h
        cases h
      · rw [if_neg c2, if_pos (by omega)]
        by_cases c3 : rdOf false can (at' : Int) = true
        · rw [if_pos c3, if_neg (by omega)]
          have hr : Emb l can r (at' + 1) := by
            obtain ⟨j, h1, h2, h3, h4, h5⟩ := he
            exact h5.mono (by omega)
          exact hnext at' k (by omega) hr (by omega)
        · rw [if_neg c3]
          refine hgo fun ⟨_, h⟩ => c3 ?_
          unfold rdOf
          rwa [Int.toNat_natCast]
    · rw [if_neg c1]
      exact hgo fun ⟨h, _⟩ => c1 h
theorem most_l1 {l : List S33} {can : List Bool} {seats : Int} {us : List Int} (h16 : l.length ≤ 16) (hus : us.length ≤ 16) (hs : 0 ≤ seats → (us.length : Int) ≤ seats) (d : Nat) : ∀ i at' k, i + d = us.length → at' ≤ l.length → Emb l can (us.drop i) at' → 20 * d + 20 ≤ k →
    vesperslaw21_BestMost.l1 k l can seats (at' : Int) (i : Int) us (us.length : Int) (i : Int) = some true := by
  induction d with
  | zero =>
    intro i at' k hi ha he hk
    obtain ⟨k, rfl⟩ : ∃ k', k = k' + 1 := ⟨k - 1, by omega⟩
    rw [vesperslaw21_BestMost.l1, if_neg (by omega), fixed_true]
    simp only [Option.bind_some]
    rw [if_pos trivial]
    by_cases c : seats < 0
    · rw [if_pos c]
    · rw [if_neg c, decide_eq_true (by have := hs (by omega); omega)]
  | succ d ih =>
    intro i at' k hi ha he hk
    obtain ⟨k, rfl⟩ : ∃ k', k = k' + 1 := ⟨k - 1, by omega⟩
    have hlt : i < us.length := by omega
    rw [vesperslaw21_BestMost.l1, if_pos (by omega), if_pos (by omega), if_pos (by omega), rd_get hlt]
    rw [List.drop_eq_getElem_cons hlt] at he
    refine most_l2 (D := 20 * d + 20) h16 (fun j k' hj hr hk' => ?_) (l.length - at') at' k (by omega) he (by omega)
    rw [show wrap64 ((i : Int) + 1) = ((i + 1 : Nat) : Int) from by unfold wrap64; omega]
    exact ih (i + 1) (j + 1) k' (by omega) (by omega) hr hk'
theorem wl_bd (l : List S33) (j : Nat) : 0 ≤ wl l j ∧ wl l j ≤ 1000 := wt_le _
theorem most_l0 {l : List S33} {can : List Bool} {seats : Int} {apart : List S39} {places : List Int} (h16 : l.length ≤ 16) (hp : places.length ≤ 20) (d : Nat) : ∀ (i k : Nat) (s : Int), i + d = places.length → d + 400 ≤ k → 0 ≤ s → s ≤ 1000 * (i : Int) → (mayP (nbP apart) l can seats places = true → s + ((places.drop i).map fun x => wl l x.toNat).sum = (places.map fun x => wl l x.toNat).sum) →
    vesperslaw21_BestMost.l0 k l can seats (mayP (nbP apart) l can seats places) s places (places.length : Int) (i : Int) (chooseP l can seats apart).bw (chooseP l can seats apart).us (chooseP l can seats apart).vis = some true := by
  induction d with
  | zero =>
    intro i k s hi hk s0 s1 hs
    obtain ⟨k, rfl⟩ : ∃ k', k = k' + 1 + 1 := ⟨k - 2, by omega⟩
    have hw : wrap64 ((l.length : Int) + 1) = ((l.length + 1 : Nat) : Int) := by unfold wrap64; omega
    have hsh : shl .i64 1 ((l.length + 1 : Nat) : Int) = 2 ^ (l.length + 1) := by
      unfold shl
      rw [Int.toNat_natCast, Nat.min_eq_left (by show l.length + 1 ≤ 64; omega), Int.one_mul]
      have hlt : (2 : Nat) ^ (l.length + 1) ≤ 2 ^ 17 := Nat.pow_le_pow_right (by omega) (by omega)
      have hc : (2 : Int) ^ (l.length + 1) = ((2 ^ (l.length + 1) : Nat) : Int) := by simp
      rw [hc]
      generalize (2 : Nat) ^ (l.length + 1) = P at hlt ⊢
      have h17 : (2 : Nat) ^ 17 = 131072 := by decide
      exact IntWalk.i64_in _ (by omega)
    have hfew := (choose_few can seats apart h16).2
    have hj2 : vesperslaw21_BestMost.j2 (k + 1) l can seats (decide ((chooseP l can seats apart).vis > 2 ^ (l.length + 1))) (chooseP l can seats apart).bw (chooseP l can seats apart).us (chooseP l can seats apart).vis = some true := by
      rw [decide_eq_false (by omega), vesperslaw21_BestMost.j2, if_neg (by simp)]
      obtain ⟨b, hb, _, e⟩ := choose_is can seats apart h16
      have ho := ok_of hb
      have hl : (chooseP l can seats apart).us.length ≤ l.length := by rw [e]; exact pre_len l b l.length
      have he : Emb l can (chooseP l can seats apart).us 0 := by
        rw [e]
        have := emb_pre ho.ca l.length 0 (by omega)
        rw [← List.range_eq_range'] at this
        exact this
      exact most_l1 h16 (by omega) (fun h0 => by rw [e, pre_count]; exact ho.se h0) (chooseP l can seats apart).us.length 0 0 k (by omega) (by omega) he (by omega)
    rw [vesperslaw21_BestMost.l0, if_neg (by omega), hw, hsh, if_pos (show (0 : Int) ≤ ((l.length + 1 : Nat) : Int) by omega)]
    cases hm : mayP (nbP apart) l can seats places with
    | false =>
      rw [if_neg (by simp)]
      exact hj2
    | true =>
      obtain ⟨ho, hsum⟩ := ok_places hm
      have h1 := hs hm
      rw [List.drop_eq_nil_of_le (by omega)] at h1
      have h2 := choose_most h16 (fz_of ho)
      rw [← hsum, ← h1] at h2
      have h3 : s ≤ (chooseP l can seats apart).bw := by
        have : (([] : List Int).map fun x => wl l x.toNat).sum = 0 := rfl
        omega
      rw [if_pos rfl, if_neg (by omega)]
      exact hj2
  | succ d ih =>
    intro i k s hi hk s0 s1 hs
    obtain ⟨k, rfl⟩ : ∃ k', k = k' + 1 := ⟨k - 1, by omega⟩
    have hlt : i < places.length := by omega
    have hw : wrap64 ((i : Int) + 1) = ((i + 1 : Nat) : Int) := by unfold wrap64; omega
    rw [vesperslaw21_BestMost.l0, if_pos (by omega), if_pos (by omega), if_pos (by omega), hw]
    by_cases hm : mayP (nbP apart) l can seats places = true
    · have hat := okAt (may_all hm).2 hlt
      have hwl := wl_bd l (rd places (i : Int)).toNat
      have he : wrap64 (s + mn (mx (rd_T33 l (rd places (i : Int))).f1 0) 1000) = s + wl l (rd places (i : Int)).toNat := by
        show wrap64 (s + wt (rd_T33 l (rd places (i : Int)))) = _
        have e2 : wt (rd_T33 l (rd places (i : Int))) = wl l (rd places (i : Int)).toNat := by
          unfold wl
          rw [Int.toNat_of_nonneg hat.p0]
        rw [e2]
        unfold wrap64; omega
      rw [if_pos hm, if_pos hat.p0, if_pos hat.p1, he]
      refine ih (i + 1) k _ (by omega) (by omega) (by omega) (by omega) fun _ => ?_
      rw [← hs hm, List.drop_eq_getElem_cons hlt, List.map_cons, List.sum_cons, rd_get hlt]
      omega
    · rw [if_neg hm]
      exact ih (i + 1) k s (by omega) (by omega) s0 (by omega) fun h => absurd h hm
theorem best_most_k (l : List S33) (can : List Bool) (seats : Int) (apart : List S39) (places : List Int) (k : Nat) (hk : 1000 ≤ k) : vesperslaw21_BestMost.f (k + 1) l can seats apart places = some true := by
  unfold vesperslaw21_BestMost.f
  have ht : vesperslaw21_BestMost.j0 (k + 1) l can seats apart places true = some true := by
    rw [vesperslaw21_BestMost.j0, if_pos rfl, fixed_true]; rfl
  by_cases h1 : l.length ≤ 16
  · rw [if_neg (by omega)]
    by_cases h6 : apart.length ≤ 40
    · rw [if_neg (by omega)]
      by_cases hc : can.length ≤ 100
      · rw [if_neg (by omega)]
        by_cases hp : places.length ≤ 20
        · rw [decide_eq_false (by omega), vesperslaw21_BestMost.j0, if_neg (by simp)]
          unfold best_May.f
          rw [if_pos ⟨h1, by omega, by omega⟩, ref_may h6 hp k (by omega), choose_f h1 (by omega)]
          simp only [Option.bind_some]
          rw [if_neg (by simp)]
          exact most_l0 h1 hp places.length 0 k 0 (by omega) (by omega) (by omega) (by omega) (fun _ => by rw [List.drop_zero]; omega)
        · rw [decide_eq_true (by omega)]
          exact ht
      · rw [if_pos (by omega)]
        exact ht
    · rw [if_pos (by omega)]
      exact ht
  · rw [if_pos (by omega)]
    exact ht
theorem best_most (l : List S33) (can : List Bool) (seats : Int) (apart : List S39) (places : List Int) : ∃ k, vesperslaw21_BestMost.f k l can seats apart places = some true :=
  ⟨_, best_most_k l can seats apart places 1000 (Nat.le_refl _)⟩
end Go.Proofs.Ythpibikfecjoiaa.Own
