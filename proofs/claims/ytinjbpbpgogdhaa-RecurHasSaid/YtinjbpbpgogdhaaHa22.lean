-- own text: texts of this session merged by a program of it (merge.py), declarations that nothing reaches left out (prune.py)
import Derived.Test.YtinjbpbpgogdhaaHa21
import Derived.Sort.CutIn
import Derived.Maps.OwnIn
section
namespace Go.Proofs.Ytinjbpbpgogdhaa.Own
open Go.RowKit Go.Shelf Go.Proofs.YtinjbpbpgogdhaaW.PrintWords Go.Proofs.YtinjbpbpgogdhaaW.PrintLast Go.Proofs.YtinjbpbpgogdhaaW.PrintMore
set_option linter.unusedVariables false
set_option linter.unusedSimpArgs false
attribute [local go_sem] Oper.semAt_some
/-- Between, told, over the times. -/
def bet (frm lim most : Int) : List Int → List Int → List Int × Bool
  | out, [] => (out, true)
  | out, x :: xs => if lim ≤ x then (out, true) else if x < frm then bet frm lim most out xs else if most ≤ (out.length : Int) then ([], false) else bet frm lim most (out ++ [x]) xs
def BetPost (w : World) (r : List Int × Bool) (e : Ending) (w' : World) : Prop :=
  ∃ v, e = .returned (.tuple #[v, .bool r.2]) ∧ w'.ownsRow w.heap.size 2 1 v r.1.length (r.1.map (Value.int .i64)) ∧ Below w.heap.size w w'
theorem boxes6 (w : World) (o1 o2 o3 o4 o5 o6 : Obj) : (((((((w.alloc o1).alloc o2).alloc o3).alloc o4).alloc o5).alloc o6).heap[w.heap.size]? = some o1) ∧ (((((((w.alloc o1).alloc o2).alloc o3).alloc o4).alloc o5).alloc o6).heap[w.heap.size + 1]? = some o2) ∧
    (((((((w.alloc o1).alloc o2).alloc o3).alloc o4).alloc o5).alloc o6).heap[w.heap.size + 1 + 1]? = some o3) ∧ (((((((w.alloc o1).alloc o2).alloc o3).alloc o4).alloc o5).alloc o6).heap[w.heap.size + 1 + 1 + 1]? = some o4) ∧
    (((((((w.alloc o1).alloc o2).alloc o3).alloc o4).alloc o5).alloc o6).heap[w.heap.size + 1 + 1 + 1 + 1]? = some o5) ∧ (((((((w.alloc o1).alloc o2).alloc o3).alloc o4).alloc o5).alloc o6).heap[w.heap.size + 1 + 1 + 1 + 1 + 1]? = some o6) ∧
    ((((((w.alloc o1).alloc o2).alloc o3).alloc o4).alloc o5).alloc o6).heap.size = w.heap.size + 6 ∧ Below w.heap.size w ((((((w.alloc o1).alloc o2).alloc o3).alloc o4).alloc o5).alloc o6) := by
  have h1 : ∀ (W : World) (o : Obj), (W.alloc o).heap[W.heap.size]? = some o := fun W o => World.alloc_heap_new W o
  have sz : ∀ (W : World) (o : Obj), (W.alloc o).heap.size = W.heap.size + 1 := fun W o => alloc_size W o
  have e1 := h1 w o1
  have e2 := h1 (w.alloc o1) o2
  have e3 := h1 ((w.alloc o1).alloc o2) o3
  have e4 := h1 (((w.alloc o1).alloc o2).alloc o3) o4
  have e5 := h1 ((((w.alloc o1).alloc o2).alloc o3).alloc o4) o5
  have e6 := h1 (((((w.alloc o1).alloc o2).alloc o3).alloc o4).alloc o5) o6
  simp only [sz] at e2 e3 e4 e5 e6
  refine ⟨keep_alloc (keep_alloc (keep_alloc (keep_alloc (keep_alloc e1 _) _) _) _) _, keep_alloc (keep_alloc (keep_alloc (keep_alloc e2 _) _) _) _, keep_alloc (keep_alloc (keep_alloc e3 _) _) _, keep_alloc (keep_alloc e4 _) _, keep_alloc e5 _, e6, by simp only [sz], ?_⟩
  refine (((((below_new_.alloc ?_ _).alloc ?_ _).alloc ?_ _).alloc ?_ _).alloc ?_ _) <;> simp only [sz] <;> omega
theorem boxed_keep {X Y : World} {row : Option Nat} {B C : Nat} {t : TypeId} {v : Value} (h : Boxed X B t v) (hg : X.grownBy Y row) (hr : ∀ r, row = some r → C ≤ r ∧ ∃ o : Obj, X.heap[r]? = some o ∧ o.isCells = false) : Boxed Y B t v :=
  h.kept hg (fun e => by
    obtain ⟨_, o, ho, hc⟩ := hr B e.symm
    rw [show X.heap[B]? = _ from h] at ho
    cases ho
    cases hc)
theorem owns_keep {X Y : World} {row : Option Nat} {C n0 e size k : Nat} {v : Value} {xs : List Value} (h : X.ownsRow n0 e size v k xs) (hg : X.grownBy Y row) (hr : ∀ r, row = some r → C ≤ r ∧ ∃ o : Obj, X.heap[r]? = some o ∧ o.isCells = false) : Y.ownsRow n0 e size v k xs := by
  refine h.kept hg ?_
  rcases h.2 with ⟨rfl, _⟩ | ⟨g, cap, cur, rfl, _, hgb, _⟩
  · exact .inl rfl
  · refine .inr fun e' => ?_
    obtain ⟨_, o, ho, hc⟩ := hr g (by simpa [Value.ownBlock] using e'.symm)
    rw [hgb] at ho
    cases ho
    cases hc
theorem owns_slice {W : World} {n0 e size k : Nat} {v : Value} {xs : List Value} (h : W.ownsRow n0 e size v k xs) : ∃ A c, v = .slice A k c := by
  rcases h.2 with ⟨rfl, rfl⟩ | ⟨g, cap, cur, rfl, _⟩
  · exact ⟨_, _, rfl⟩
  · exact ⟨_, _, rfl⟩
/-- Between two rounds. -/
def BI (w : World) (s1 s2 s3 s4 s5 bo : Nat) (frm lim most : Int) (pre : List Int) (W : World) : Prop :=
  ∃ (v : Value) (o : List Int), Boxed W bo 28 v ∧ W.ownsRow w.heap.size 2 1 v o.length (o.map (Value.int .i64)) ∧ (∀ k, v.ownBlock = some k → bo < k) ∧ Boxed W s1 2 (.int .i64 frm) ∧ Boxed W s2 2 (.int .i64 lim) ∧ Boxed W s3 3 (.int .i64 most) ∧ Boxed W s4 28 (.slice none 0 0) ∧ Boxed W s5 4 (.bool false) ∧ Below w.heap.size w W ∧ o.length ≤ pre.length ∧ (∀ rest, bet frm lim most [] (pre ++ rest) = bet frm lim most o rest)
/-- A round has returned. -/
def BX (w : World) (s4 s5 : Nat) (frm lim most : Int) (c : Code) (pre : List Int) (W : World) : Prop :=
  c = .ret ∧ ∃ (v : Value) (r : List Int × Bool), Boxed W s4 28 v ∧ Boxed W s5 4 (.bool r.2) ∧ W.ownsRow w.heap.size 2 1 v r.1.length (r.1.map (Value.int .i64)) ∧ Below w.heap.size w W ∧ (∀ rest, bet frm lim most [] (pre ++ rest) = r)
theorem BI_own (w : World) (s1 s2 s3 s4 s5 bo : Nat) (frm lim most : Int) (B : Nat) (hB : w.heap.size ≤ B) : OwnFrom B (BI w s1 s2 s3 s4 s5 bo frm lim most) := by
  rintro pre X Y row ⟨v, o, h1, h2, h3, h4, h5, h6, h7, h8, h9, h10, h11⟩ hg hr
  exact ⟨v, o, boxed_keep h1 hg hr, owns_keep h2 hg hr, h3, boxed_keep h4 hg hr, boxed_keep h5 hg hr, boxed_keep h6 hg hr, boxed_keep h7 hg hr, boxed_keep h8 hg hr, (ownFrom_below (β := Unit) (Nat.le_refl _) hB) () X Y row h9 hg hr, h10, h11⟩
theorem BX_own (w : World) (s4 s5 : Nat) (frm lim most : Int) (c : Code) (B : Nat) (hB : w.heap.size ≤ B) : OwnFrom B (BX w s4 s5 frm lim most c) := by
  rintro pre X Y row ⟨hc, v, r, h1, h2, h3, h4, h5⟩ hg hr
  exact ⟨hc, v, r, boxed_keep h1 hg hr, boxed_keep h2 hg hr, owns_keep h3 hg hr, (ownFrom_below (β := Unit) (Nat.le_refl _) hB) () X Y row h4 hg hr, h5⟩
theorem own_lt {W : World} {n0 e size k : Nat} {v : Value} {xs : List Value} (h : W.ownsRow n0 e size v k xs) {j : Nat} (hj : v.ownBlock = some j) : j < W.heap.size := by
  rcases h.2 with ⟨rfl, _⟩ | ⟨g, cap, cur, rfl, _, hgb, _⟩
  · cases hj
  · obtain rfl : g = j := by simpa [Value.ownBlock] using hj
    exact heap_lt hgb
theorem own_none {v : Value} {bo j : Nat} (hown : ∀ k, v.ownBlock = some k → bo < k) (h : j ≤ bo) : v.ownBlock = none ∨ v.ownBlock ≠ some j := by
  cases hv : v.ownBlock with
  | none => exact .inl rfl
  | some k =>
    refine .inr (fun e => ?_)
    have := hown k hv
    have : k = j := Option.some.inj e
    omega
theorem two_sets {W : World} {n0 e size k bo s4 s5 : Nat} {v a b : Value} {xs : List Value} (h : W.ownsRow n0 e size v k xs) (hown : ∀ k, v.ownBlock = some k → bo < k) (h4 : s4 ≤ bo) (h5 : s5 ≤ bo) : ((W.setCell ⟨s4, 0, none⟩ a).setCell ⟨s5, 0, none⟩ b).ownsRow n0 e size v k xs :=
  (h.kept (grownBy_setCell' W s4 a) (own_none hown h4)).kept (grownBy_setCell' _ s5 b) (own_none hown h5)
theorem below_two {w W : World} {n0 s4 s5 : Nat} {a b : Value} (h : Below n0 w W) (h4 : n0 ≤ s4) (h5 : n0 ≤ s5) : Below n0 w ((W.setCell ⟨s4, 0, none⟩ a).setCell ⟨s5, 0, none⟩ b) :=
  (h.setCell (p := ⟨s4, 0, none⟩) h4 a).setCell (p := ⟨s5, 0, none⟩) h5 b
theorem info2_ : (Try.prog.info? 2).map (fun i => (i.zero, i.size, i.bytes)) = some (some (.int .i64 0), 1, 8) := by kernel_rfl
def Stop__ (p : Prop) : Prop := p
theorem Stop_ {p : Prop} (h : Stop__ p) : p := h
theorem kp_appended {W w1 : World} {n0 B k : Nat} {v v' : Value} {xs : List Value} {tmp : Obj} (hv : Boxed W B 28 v) (hrow : W.ownsRow n0 2 1 v k xs) (hb : Below n0 W (w1.setCell ⟨B, 0, none⟩ v')) (hgrow : (W.alloc tmp).grownBy w1 v.ownBlock) : Kp n0 W (w1.setCell ⟨B, 0, none⟩ v') :=
  ⟨hb, fun j cs t hj h2 h28 => by
    have hlt := heap_lt hj
    have e1 : (W.alloc tmp).heap[j]? = some (.cells cs t (0, 0)) := keep_alloc hj _
    have e2 : w1.heap[j]? = some (.cells cs t (0, 0)) := (hgrow.block j (heap_lt e1) (fun e => by
      rcases hrow.2 with ⟨rfl, _⟩ | ⟨g, cap, cur, rfl, _, hgb, _⟩
      · simp [Value.ownBlock] at e
      · obtain rfl : j = g := by simpa [Value.ownBlock] using e
        rw [hgb] at hj
        simp at hj
        exact h2 hj.2.symm)).trans e1
    refine (set_other e2 _ _ (fun e => ?_)).trans hj.symm
    have e' : j = B := e
    rw [e', show W.heap[B]? = _ from hv] at hj
    simp at hj
    exact h28 hj.2.symm⟩
theorem may_bd {a0 a1 a2 a3 a8 : Int} {l4 l5 l7 : List Int} {l6 : List S58} (hm : mayB a0 a1 a2 a3 l4 l5 l6 l7 a8 = true) : 1 ≤ a0 ∧ a0 ≤ 4 ∧ 1 ≤ a1 ∧ a1 ≤ 999 ∧ 0 ≤ a8 ∧ a8 ≤ 6 := by
  unfold mayB at hm
  simp only [Bool.and_eq_true, decide_eq_true_eq] at hm
  obtain ⟨⟨⟨⟨⟨⟨⟨⟨⟨⟨⟨⟨e0, e1⟩, e2⟩, e3⟩, e4⟩, e5⟩, e6⟩, e7⟩, e8⟩, e9⟩, e10⟩, e11⟩, e12⟩ := hm
  exact ⟨e0, e1, e2, e3, e11, e12⟩
set_option maxHeartbeats 4000000 in
set_option maxRecDepth 100000 in
theorem between_any {a0 a1 a2 a3 a8 : Int} {A4 A5 A6 A7 : Option Addr} {c4 c5 c6 c7 : Nat} {l4 l5 l7 : List Int} {l6 : List S58} {Y M D : Int} (k0 : Nat) (T : List Int) (start frm lim most : Int) (w : World) (hR : RC w A4 A5 A6 A7 c4 c5 c6 c7 l4 l5 l7 l6) (hm : mayB a0 a1 a2 a3 l4 l5 l6 l7 a8 = true)
    (hs0 : 0 ≤ start) (hs1' : start < 158310720) (hd : civil_Date.f 3000 (start / 1440) = some (Y, M, D, true)) (hY : 1900 ≤ Y ∧ Y ≤ 2200 ∧ 1 ≤ M ∧ M ≤ 12) (hk0 : (k0 : Int) * a1 ≤ 110936)
    (hF : ∀ (g : Nat) (W : World), Wk0 w W g a0 a1 a2 a3 a8 A4 A5 A6 A7 c4 c5 c6 c7 l4 l5 l7 l6 (start / 1440) Y M D (start % 1440) → Calls Try.prog 16 #[.pointer (some ⟨g, 0, none⟩), .int .i64 frm] W fun e w' => e = .returned (.int .i64 (k0 : Int)) ∧ Below W.heap.size W w')
    (hT : T = timesL a0 a1 a2 a3 a8 l4 l7 (dayB a0 l4 l5 l6 (start / 1440) M D) (start / 1440) Y M (start % 1440) k0) (h1 : ¬ lim ≤ frm) (h2 : ¬ lim ≤ start) (hf0 : 0 ≤ frm) (hf1 : frm ≤ 158310720) :
    Calls Try.prog 8 #[.agg #[.int .i64 a0, .int .i64 a1, .int .i64 a2, .int .i64 a3, .slice A4 l4.length c4, .slice A5 l5.length c5, .slice A6 l6.length c6, .slice A7 l7.length c7, .int .i64 a8], .int .i64 start, .int .i64 frm, .int .i64 lim, .int .i64 most] w (BetPost w (bet frm lim most [] T)) := by
  refine (callsIn_wide (n := 5)).1 ?_
  have HR := Lib.hid hR
  have HF := Lib.hid hF
  have HT := Lib.hid hT
  have HH1 := Lib.hid h1
  have HH2 := Lib.hid h2
  clear hR hF hT h1 h2
  refine callsIn_of_wp_marks Try.func8 rfl trivial ?_ rfl
  simp only [Try.ntmps8, List.size_toArray, List.length_cons, List.length_nil, Nat.reduceAdd, Nat.reduceSub, Array.replicate_succ, Array.replicate_zero, List.push_toArray, List.append_toArray, List.nil_append, List.cons_append]
  gi_upto_region 1 with (fail)
  have HX := boxes6 w (.cells #[.int .i64 a0, .int .i64 a1, .int .i64 a2, .int .i64 a3, .slice A4 l4.length c4, .slice A5 l5.length c5, .slice A6 l6.length c6, .slice A7 l7.length c7, .int .i64 a8] 25) (.cells #[.int .i64 frm] 2) (.cells #[.int .i64 lim] 2) (.cells #[.int .i64 most] 3) (.cells #[.slice none 0 0] 28) (.cells #[.bool false] 4)
  generalize ((((((w.alloc (.cells #[.int .i64 a0, .int .i64 a1, .int .i64 a2, .int .i64 a3, .slice A4 l4.length c4, .slice A5 l5.length c5, .slice A6 l6.length c6, .slice A7 l7.length c7, .int .i64 a8] 25)).alloc (.cells #[.int .i64 frm] 2)).alloc (.cells #[.int .i64 lim] 2)).alloc (.cells #[.int .i64 most] 3)).alloc (.cells #[.slice none 0 0] 28)).alloc (.cells #[.bool false] 4)) = w1 at HX ⊢
  obtain ⟨x0, x1, x2, x3, x4, x5, xs, xb⟩ := HX
  obtain ⟨g0, hg0⟩ : ∃ x, x = w.heap.size := ⟨_, rfl⟩
  rw [← hg0] at x0 x1 x2 x3 x4 x5 xs ⊢
  obtain ⟨s1, hs1⟩ : ∃ x, x = g0 + 1 := ⟨_, rfl⟩
  rw [← hs1] at x1 x2 x3 x4 x5 ⊢
  obtain ⟨s2, hs2⟩ : ∃ x, x = s1 + 1 := ⟨_, rfl⟩
  rw [← hs2] at x2 x3 x4 x5 ⊢
  obtain ⟨s3, hs3⟩ : ∃ x, x = s2 + 1 := ⟨_, rfl⟩
  rw [← hs3] at x3 x4 x5 ⊢
  obtain ⟨s4, hs4⟩ : ∃ x, x = s3 + 1 := ⟨_, rfl⟩
  rw [← hs4] at x4 x5 ⊢
  obtain ⟨s5, hs5⟩ : ∃ x, x = s4 + 1 := ⟨_, rfl⟩
  rw [← hs5] at x5 ⊢
  have HG := Lib.hid hg0
  have HS := Lib.hid (show s1 = g0 + 1 ∧ s2 = g0 + 2 ∧ s3 = g0 + 3 ∧ s4 = g0 + 4 ∧ s5 = g0 + 5 ∧ w1.heap.size = g0 + 6 by omega)
  clear hg0 hs1 hs2 hs3 hs4 hs5 xs
  have X0 := Lib.hid x0
  have X1 := Lib.hid x1
  have X2 := Lib.hid x2
  have X3 := Lib.hid x3
  have X4 := Lib.hid x4
  have X5 := Lib.hid x5
  have HB1 := Lib.hid xb
  clear x0 x1 x2 x3 x4 x5 xb
  have HWK := Lib.hid (walk_yes start w1 (HR.out.below HB1.out) hm hs0 hs1' hd)
  have q0 := cell_eq (blk_cell X0.out 0) rfl
  have q1 := cell_eq (blk_cell X0.out 1) rfl
  have q2 := cell_eq (blk_cell X0.out 2) rfl
  have q3 := cell_eq (blk_cell X0.out 3) rfl
  have q4 := cell_eq (blk_cell X0.out 4) rfl
  have q5 := cell_eq (blk_cell X0.out 5) rfl
  have q6 := cell_eq (blk_cell X0.out 6) rfl
  have q7 := cell_eq (blk_cell X0.out 7) rfl
  have q8 := cell_eq (blk_cell X0.out 8) rfl
  gi_upto_region 2 with (refine ⟨trivial, ?_⟩; (with_reducible refine CallsIn.mono (callsIn_wide.2 HWK.out) ?_); rintro e w2 ⟨g, rfl, hw2⟩; have HW2 := Lib.hid hw2; clear hw2)
  clear q0 q1 q2 q3 q4 q5 q6 q7 q8
  have h1 := HH1.out
  have h2 := HH2.out
  have HB2 := Lib.hid (HB1.out.trans (HW2.out.hb.mono HB1.out.size))
  have q1 := cell_eq (blk_cell (keep_below HW2.out.hb X1.out) 0) rfl
  have q2 := cell_eq (blk_cell (keep_below HW2.out.hb X2.out) 0) rfl
  gi_upto_region 5 with (fail)
  clear q1 q2 h1 h2
  have XO : Hid (Boxed (w2.alloc (.cells #[.slice none 0 0] 28)) w2.heap.size 28 (.slice none 0 0)) := Lib.hid (Boxed.new _ _ _)
  have HB3 : Hid (Below w2.heap.size w2 (w2.alloc (.cells #[.slice none 0 0] 28))) := Lib.hid below_new_
  obtain ⟨bo, hbo⟩ : ∃ x, x = w2.heap.size := ⟨_, rfl⟩
  rw [← hbo] at XO ⊢
  have HBO := Lib.hid (show s5 < bo by have h1 := HS.out; have h2 := HW2.out.hb.size; omega)
  have HBO2 := Lib.hid hbo
  clear hbo
  generalize w2.alloc (.cells #[.slice none 0 0] 28) = w3 at XO HB3 ⊢
  have HW3 : Hid (Wk0 w w3 g a0 a1 a2 a3 a8 A4 A5 A6 A7 c4 c5 c6 c7 l4 l5 l7 l6 (start / 1440) Y M D (start % 1440)) := Lib.hid (by
    have h := HW2.out.below HB3.out
    exact ⟨h.hg, HR.out, HB2.out.trans (HB3.out.mono HB2.out.size), Nat.le_trans HB1.out.size h.ng⟩)
  have HFC := Lib.hid (HF.out g w3 HW3.out)
  have hfn : ¬ frm < 0 := by omega
  have q1 := cell_eq (blk_cell (keep_below HB3.out (keep_below HW2.out.hb X1.out)) 0) rfl
  gi_wp2_with (refine ⟨trivial, ?_⟩; first | ((with_reducible refine CallsIn.mono (callsIn_wide.2 HFC.out) ?_); rintro e w4 ⟨rfl, hb4⟩; have HB4 := Lib.hid hb4; clear hb4) | ((with_reducible refine CallsIn.mono (callsIn_wide.2 (from_any _ _ _)) ?_); rintro e w5 ⟨rfl, rfl⟩))
  have Z1 : Hid (((w4.alloc (.cells #[.pointer (some ⟨g, 0, none⟩)] 39)).alloc (.cells #[.int .i64 (k0 : Int)] 3)).cell? ⟨w4.heap.size, 0, none⟩ = some (.pointer (some ⟨g, 0, none⟩))) := Lib.hid (cell_eq (blk_cell (keep_alloc (alloc_blk w4 _ _) _) 0) rfl)
  have Z2 : Hid (((w4.alloc (.cells #[.pointer (some ⟨g, 0, none⟩)] 39)).alloc (.cells #[.int .i64 (k0 : Int)] 3)).cell? ⟨w4.heap.size + 1, 0, none⟩ = some (.int .i64 (k0 : Int))) := Lib.hid (by
    have h := alloc_blk (w4.alloc (.cells #[.pointer (some ⟨g, 0, none⟩)] 39)) #[.int .i64 (k0 : Int)] 3
    rw [alloc_size] at h
    exact cell_eq (blk_cell h 0) rfl)
  have Z3 : Hid (((w4.alloc (.cells #[.pointer (some ⟨g, 0, none⟩)] 39)).alloc (.cells #[.int .i64 (k0 : Int)] 3)).heap.size = w4.heap.size + 2) := Lib.hid (by rw [alloc_size, alloc_size])
  have HB5 : Hid (Below w4.heap.size w4 ((w4.alloc (.cells #[.pointer (some ⟨g, 0, none⟩)] 39)).alloc (.cells #[.int .i64 (k0 : Int)] 3))) := Lib.hid (below_new_.alloc (by rw [alloc_size]; omega) _)
  generalize ((w4.alloc (.cells #[.pointer (some ⟨g, 0, none⟩)] 39)).alloc (.cells #[.int .i64 (k0 : Int)] 3)) = w5 at Z1 Z2 Z3 HB5 ⊢
  obtain ⟨b1, hb1⟩ : ∃ x, x = w4.heap.size := ⟨_, rfl⟩
  have HB35 : Hid (Below w3.heap.size w3 w5) := Lib.hid (HB4.out.trans (HB5.out.mono HB4.out.size))
  have Z4 := Lib.hid hb1
  rw [← hb1] at Z1 Z2 Z3 ⊢
  clear hb1 q1 hfn
  have HW5 := Lib.hid (HW3.out.below HB35.out)
  have HB25 := Lib.hid (HB3.out.trans (HB35.out.mono HB3.out.size))
  have HB15 := Lib.hid (HW2.out.hb.trans (HB25.out.mono HW2.out.hb.size))
  have HB05 := Lib.hid (HB1.out.trans (HB15.out.mono HB1.out.size))
  generalize decide (lim ≤ frm) = d1
  generalize decide (lim ≤ start) = d2
  generalize (d1 || d2) = d3
  have hmb : 1 ≤ a0 ∧ a0 ≤ 4 ∧ 1 ≤ a1 ∧ a1 ≤ 999 ∧ 0 ≤ a8 ∧ a8 ≤ 6 := may_bd hm
  have HTL : Hid (T.length ≤ 44400000) := Lib.hid (by rw [HT.out]; exact timesL_len _ _ _ _ _ _ _ _ _ _ _ _ _)
  have hI0 : BI w s1 s2 s3 s4 s5 bo frm lim most [] w5 := ⟨_, [], keep_below HB35.out XO.out, World.ownsRow_nil _ _ _ _, fun k hk => (by cases hk), keep_below HB15.out X1.out, keep_below HB15.out X2.out, keep_below HB15.out X3.out, keep_below HB15.out X4.out, keep_below HB15.out X5.out, HB05.out, Nat.le_refl _, fun rest => rfl⟩
  have HI0 := Lib.hid hI0
  have HSZ : Hid (w.heap.size ≤ w5.heap.size) := Lib.hid HB05.out.size
  refine wpIn_rangeFunc_ownG rfl (by decide) (gf := 28) (lb := #[.pointer (some ⟨b1, 0, none⟩), .pointer (some ⟨b1 + 1, 0, none⟩)]) rfl trivial (enters_of Try.func28 (by kernel_rfl) rfl)
    (from1_stops (w0 := w) (w := w5) 4 b1 (b1 + 1) k0 T HW5.out ⟨hmb.1, hmb.2.1⟩ ⟨hmb.2.2.1, hmb.2.2.2.1⟩ hmb.2.2.2.2 (by omega) (by omega) hY.1 hY.2.1 hY.2.2.1 hY.2.2.2 (by omega) hk0 HT.out Z1.out Z2.out (by have := Z3.out; omega) (by have := Z3.out; omega)) Kp.trans (fun W l o o' hl h hc hw => Kp.put HSZ.out W l o o' hl h hc hw) (Below.refl _ _) (fun _ => rfl)
    (BI w s1 s2 s3 s4 s5 bo frm lim most) (BX w s4 s5 frm lim most) (BI_own w s1 s2 s3 s4 s5 bo frm lim most _ HSZ.out) (fun c => BX_own w s4 s5 frm lim most c _ HSZ.out) HI0.out
    (fun x => { tmps := #[.agg #[.int .i64 a0, .int .i64 a1, .int .i64 a2, .int .i64 a3, .slice A4 l4.length c4, .slice A5 l5.length c5, .slice A6 l6.length c6, .slice A7 l7.length c7, .int .i64 a8], .int .i64 start, .int .i64 frm, .int .i64 lim, .int .i64 most, .pointer (some ⟨g0, 0, none⟩), undef, .pointer (some ⟨s1, 0, none⟩), .pointer (some ⟨s2, 0, none⟩), .pointer (some ⟨s3, 0, none⟩), .pointer (some ⟨s4, 0, none⟩), .pointer (some ⟨s5, 0, none⟩), .pointer (some ⟨g, 0, none⟩), .bool true, .pointer (some ⟨bo, 0, none⟩), .int .i64 x, .tuple #[.pointer (some ⟨g, 0, none⟩), .bool true],
      .agg #[.int .i64 a0, .int .i64 a1, .int .i64 a2, .int .i64 a3, .slice A4 l4.length c4, .slice A5 l5.length c5, .slice A6 l6.length c6, .slice A7 l7.length c7, .int .i64 a8], .int .i64 start, .tuple #[.pointer (some ⟨g, 0, none⟩), .bool true], .pointer (some ⟨g, 0, none⟩), .bool true, .bool true, .bool false, .bool false, .int .i64 lim, .int .i64 frm, .bool d1, .bool d1, .bool d1, .int .i64 lim, .int .i64 start, .bool d2, .bool d3, .pointer (some ⟨g, 0, none⟩), .pointer (some ⟨g, 0, none⟩), .int .i64 frm, .int .i64 frm, .int .i64 frm, .int .i64 (k0 : Int), .func (.func 28) #[] #[.pointer (some ⟨b1, 0, none⟩), .pointer (some ⟨b1 + 1, 0, none⟩)], .int .i64 x, undef, undef, undef, undef, undef, undef, undef, undef, undef, undef, undef, undef, undef, undef, undef, undef, undef, undef, undef], defers := [] }) ?assign ?body ?done ?stop
  case assign =>
    intro l x W K hK
    gi_wp2
    exact hK
  case body =>
    rintro l pre x W ⟨v, o, hv, hrow, hown, h1, h2, h3, h4, h5, hB, hlen, hbet⟩ hlt
    have HV := Lib.hid hv
    have HRW := Lib.hid hrow
    have HON := Lib.hid hown
    have K1 := Lib.hid h1
    have K2 := Lib.hid h2
    have K3 := Lib.hid h3
    have K4 := Lib.hid h4
    have K5 := Lib.hid h5
    have HBB := Lib.hid hB
    have HBE := Lib.hid hbet
    obtain ⟨vA, vc, rfl⟩ := owns_slice hrow
    have hc := hv.cell
    have q1 := h1.cell
    have q2 := h2.cell
    have q3 := h3.cell
    have q4 := h4.cell
    have f4 := h4.frozen
    have q5 := h5.cell
    have f5 := h5.frozen
    have hol : o.length ≤ 44400000 := by have := HTL.out; omega
    have HOL := Lib.hid hol
    have HLN := Lib.hid hlen
    have hn45 : ¬ s4 = s5 := by have := HS.out; omega
    have hn54 : ¬ s5 = s4 := by have := HS.out; omega
    clear hv hrow hown h1 h2 h3 h4 h5 hB hbet hlen hlt
    by_cases e1 : lim ≤ x
    · have HR1 : Hid (∀ rest, bet frm lim most [] ((pre ++ [x]) ++ rest) = (o, true)) := Lib.hid (fun rest => by
        rw [List.append_assoc, HBE.out]
        exact if_pos e1)
      gi_wp2
      exact ⟨((KeepsOthers.setCell _ _ _).trans (KeepsOthers.setCell _ _ _)).from _, rfl, _, (o, true), (K4.out.set _).other hn45 _, (K5.out.other hn54 _).set _, two_sets HRW.out HON.out (by have := HS.out; have := HBO.out; omega) (by have := HS.out; have := HBO.out; omega), below_two HBB.out (by have := HS.out; have := HG.out; omega) (by have := HS.out; have := HG.out; omega), HR1.out⟩
    · by_cases e2 : x < frm
      · have HR1 : Hid (∀ rest, bet frm lim most [] ((pre ++ [x]) ++ rest) = bet frm lim most o rest) := Lib.hid (fun rest => by
          rw [List.append_assoc, HBE.out]
          exact (if_neg e1).trans (if_pos e2))
        gi_wp2
        exact ⟨KeepsFrom.refl _ _, Kp.refl _ _, _, o, HV.out, HRW.out, HON.out, K1.out, K2.out, K3.out, K4.out, K5.out, HBB.out, by rw [List.length_append]; have := HLN.out; omega, HR1.out⟩
      · by_cases e3 : most ≤ (o.length : Int)
        · have HR1 : Hid (∀ rest, bet frm lim most [] ((pre ++ [x]) ++ rest) = ([], false)) := Lib.hid (fun rest => by
            rw [List.append_assoc, HBE.out]
            exact (if_neg e1).trans ((if_neg e2).trans (if_pos e3)))
          gi_wp2
          exact ⟨((KeepsOthers.setCell _ _ _).trans (KeepsOthers.setCell _ _ _)).from _, rfl, _, ([], false), (K4.out.set _).other hn45 _, (K5.out.other hn54 _).set _, World.ownsRow_nil _ _ _ _, below_two HBB.out (by have := HS.out; have := HG.out; omega) (by have := HS.out; have := HG.out; omega), HR1.out⟩
        · have HR1 : Hid (∀ rest, bet frm lim most [] ((pre ++ [x]) ++ rest) = bet frm lim most (o ++ [x]) rest) := Lib.hid (fun rest => by
            rw [List.append_assoc, HBE.out]
            exact (if_neg e1).trans ((if_neg e2).trans (if_neg e3)))
          obtain ⟨i0, hi, hz0, hz1, hz2⟩ := info_parts info2_
          have hwsz := HBB.out.size
          gi_wp2_with (gi_at_builtin; apply Stop_)
          show wpListIn _ _ _ _ _ _ _ _
          refine wpListIn_append_own_at _ rfl _ _ 28 rfl w.heap.size 2 i0 (.int .i64 0) 1 8 Try.underlying28 hi hz0 hz1 hz2 rfl (by decide) _ _ _ rfl (HRW.out.alloc _) ⟨W.heap.size, 0, none⟩ 1 1 [.int .i64 x] rfl rfl (cell_one_new _ _ _) (by simp [Value.oneCell']) (by unfold maxLen; omega) (by omega) (by rw [alloc_size]; omega) ?_
          intro v' w1 hown' hgrow _ hat
          obtain ⟨g', cap', rfl⟩ := ownsRow_succ hown'
          have hnb : w.heap.size ≤ bo := by have := HG.out; have := HS.out; have := HBO.out; omega
          obtain ⟨hv1, hv2, hr2, hk2, hb2⟩ := HV.out.appended (by decide) HRW.out hwsz hnb hown' hgrow
          have hc1 := hv1.cell
          have hf1 := hv1.frozen
          have HK2 := Lib.hid (hk2.from w5.heap.size)
          have HKP := Lib.hid (kp_appended HV.out HRW.out hb2 hgrow)
          have HV2 := Lib.hid hv2
          have HR2 := Lib.hid hr2
          have HBB2 := Lib.hid (HBB.out.trans hb2)
          have HO2 : Hid (∀ k, (Value.slice (some ⟨g', 0, none⟩) (o.length + 1) cap').ownBlock = some k → bo < k) := Lib.hid (fun k hk => by
            rcases hat with h | h
            · exact HON.out k (h.symm.trans hk)
            · have e : k = (W.alloc (.cells #[.int .i64 x] 2)).heap.size := Option.some.inj (hk.symm.trans h)
              have := HV.out.lt
              rw [e, alloc_size]
              omega)
          have hbx : ∀ {B : Nat} {t : TypeId} {u : Value}, Boxed W B t u → B < bo → Boxed (w1.setCell ⟨bo, 0, none⟩ (.slice (some ⟨g', 0, none⟩) (o.length + 1) cap')) B t u := fun hb hl =>
            ((hb.alloc _).kept hgrow (fun e => by have := HON.out _ e.symm; omega)).other (by omega) _
          have L1 := Lib.hid (hbx K1.out (by have := HS.out; have := HBO.out; omega))
          have L2 := Lib.hid (hbx K2.out (by have := HS.out; have := HBO.out; omega))
          have L3 := Lib.hid (hbx K3.out (by have := HS.out; have := HBO.out; omega))
          have L4 := Lib.hid (hbx K4.out (by have := HS.out; have := HBO.out; omega))
          have L5 := Lib.hid (hbx K5.out (by have := HBO.out; omega))
          have hx1 : o.length + 1 = (o ++ [x]).length := by rw [List.length_append, List.length_singleton]
          have HX1 := Lib.hid hx1
          clear hown' hgrow hat hv1 hv2 hr2 hk2 hb2 hbx hx1 hnb
          gi_wp2
          exact ⟨HK2.out, HKP.out, _, o ++ [x], HV2.out, by rw [← HX1.out, List.map_append]; exact HR2.out, HO2.out, L1.out, L2.out, L3.out, L4.out, L5.out, HBB2.out, by rw [← HX1.out, List.length_append, List.length_singleton]; have := HLN.out; omega, HR1.out⟩
  case done =>
    rintro DD ys W hD rfl ⟨v, o, hv, hrow, hown, h1, h2, h3, h4, h5, hB, hlen, hbet⟩ hK
    obtain ⟨vA, vc, rfl⟩ := owns_slice hrow
    have hc := hv.cell
    have q4 := h4.cell
    have f4 := h4.frozen
    have q5 := h5.cell
    have f5 := h5.frozen
    have hn45 : ¬ s4 = s5 := by have := HS.out; omega
    have hn54 : ¬ s5 = s4 := by have := HS.out; omega
    have HV := Lib.hid hv
    have HRW := Lib.hid hrow
    have HON := Lib.hid hown
    have K4 := Lib.hid h4
    have K5 := Lib.hid h5
    have HBB := Lib.hid hB
    have HBE := Lib.hid hbet
    have HKK := Lib.hid hK
    have HDD := Lib.hid hD
    clear hv hrow hown h1 h2 h3 h4 h5 hB hbet hlen hD hK
    gi_wp2
    have hbe := HBE.out []
    rw [List.append_nil] at hbe
    have HK9 := Lib.hid (((KeepsOthers.setCell W ⟨s4, 0, none⟩ (.slice vA o.length vc)).trans (KeepsOthers.setCell _ ⟨s5, 0, none⟩ (.bool true))).same DD _ HKK.out rfl)
    have B4 := Lib.hid ((K4.out.set (.slice vA o.length vc)).other hn45 (.bool true))
    have B5 := Lib.hid ((K5.out.other hn54 (.slice vA o.length vc)).set (.bool true))
    have HRW9 := Lib.hid (two_sets (s4 := s4) (s5 := s5) (a := .slice vA o.length vc) (b := .bool true) HRW.out HON.out (by have := HS.out; have := HBO.out; omega) (by have := HS.out; have := HBO.out; omega))
    have HB9 := Lib.hid (below_two (s4 := s4) (s5 := s5) (a := .slice vA o.length vc) (b := .bool true) HBB.out (by have := HS.out; have := HG.out; omega) (by have := HS.out; have := HG.out; omega))
    rw [hbe]
    refine ⟨by simp, .inl ⟨_, _, rfl, run_takeDeferred HK9.out, ?_⟩⟩
    have r4 := (boxed_keep (C := 0) B4.out (grownBy_putObj' _ DD (.deferred none)) (fun r e => by cases e; exact ⟨Nat.zero_le _, _, HK9.out, rfl⟩)).cell
    have r5 := (boxed_keep (C := 0) B5.out (grownBy_putObj' _ DD (.deferred none)) (fun r e => by cases e; exact ⟨Nat.zero_le _, _, HK9.out, rfl⟩)).cell
    have HR4 := Lib.hid r4
    have HR5 := Lib.hid r5
    have HFIN := Lib.hid (ownsRow_putObj HRW9.out (.deferred none) HK9.out rfl)
    have HBF := Lib.hid (belowK_b (w := w) (Nat.le_refl _) _ DD _ (.deferred none) (by have := HDD.out; have := HSZ.out; omega) HK9.out rfl rfl)
    refine ⟨.tuple #[_, _], by simp only [results, Try.f8]; simp [go_sem, r4, r5]; first | done | rfl, _, rfl, HFIN.out, HB9.out.trans HBF.out⟩
  case stop =>
    rintro DD c pre W hD hpre ⟨rfl, v, r, h4, h5, hrow, hB, hbet⟩ hK
    obtain ⟨vA, vc, rfl⟩ := owns_slice hrow
    have q4 := h4.cell
    have q5 := h5.cell
    have K4 := Lib.hid h4
    have K5 := Lib.hid h5
    have HRW := Lib.hid hrow
    have HBB := Lib.hid hB
    have HBE := Lib.hid hbet
    have HKK := Lib.hid hK
    have HDD := Lib.hid hD
    clear hrow h4 h5 hB hbet hD hK
    gi_wp2
    obtain ⟨rest, hr⟩ := hpre
    have hbe := HBE.out rest
    rw [hr] at hbe
    rw [hbe]
    have HK9 := HKK
    have B4 := K4
    have B5 := K5
    have HRW9 := HRW
    have HB9 := HBB
    refine ⟨by simp, .inl ⟨_, _, rfl, run_takeDeferred HK9.out, ?_⟩⟩
    have r4 := (boxed_keep (C := 0) B4.out (grownBy_putObj' _ DD (.deferred none)) (fun r e => by cases e; exact ⟨Nat.zero_le _, _, HK9.out, rfl⟩)).cell
    have r5 := (boxed_keep (C := 0) B5.out (grownBy_putObj' _ DD (.deferred none)) (fun r e => by cases e; exact ⟨Nat.zero_le _, _, HK9.out, rfl⟩)).cell
    have HR4 := Lib.hid r4
    have HR5 := Lib.hid r5
    have HFIN := Lib.hid (ownsRow_putObj HRW9.out (.deferred none) HK9.out rfl)
    have HBF := Lib.hid (belowK_b (w := w) (Nat.le_refl _) _ DD _ (.deferred none) (by have := HDD.out; have := HSZ.out; omega) HK9.out rfl rfl)
    refine ⟨.tuple #[_, _], by simp only [results, Try.f8]; simp [go_sem, r4, r5]; first | done | rfl, _, rfl, HFIN.out, HB9.out.trans HBF.out⟩
end Go.Proofs.Ytinjbpbpgogdhaa.Own
end
section
namespace Go.Proofs.Ytinjbpbpgogdhaa.Own
open Go.RowKit Go.Proofs.YtinjbpbpgogdhaaW.PrintWords Go.Proofs.YtinjbpbpgogdhaaW.PrintLast Go.Proofs.YtinjbpbpgogdhaaW.PrintMore
set_option linter.unusedVariables false
set_option linter.unusedSimpArgs false
/-- Rising. -/
abbrev Asc (l : List Int) : Prop := l.Pairwise (fun a b => a < b)
theorem asc_daysL (P : Int → Bool) (n : Int) : ∀ k : Nat, Asc (daysL P k n)
  | 0 => List.Pairwise.nil
  | k + 1 => by
    show Asc (daysL P k n ++ (if P (n + (k : Int)) = true then [n + (k : Int)] else []))
    refine List.pairwise_append.2 ⟨asc_daysL P n k, ?_, ?_⟩
    · split
      · exact List.pairwise_singleton _ _
      · exact List.Pairwise.nil
    · intro a ha b hb
      have h1 := ((daysL_mem k).1 ha).2.2
      split at hb
      · have e : b = n + (k : Int) := by simpa using hb
        omega
      · cases hb
theorem asc_daysF (P : Int → Bool) (fr : Int) (many : Nat) : Asc (daysF P fr many) := asc_daysL _ _ _
theorem asc_monthL {P : Int → Bool} {l4 xs : List Int} {y m : Int} (h : Asc xs) (hb : Ok y m 1 → ∀ x ∈ xs, x < num y m 1) : Asc (monthL P l4 xs y m) := by
  unfold monthL
  split
  · rename_i hc
    refine List.pairwise_append.2 ⟨h, asc_daysL _ _ _, ?_⟩
    intro a ha b hb'
    have h1 := hb hc.1 a ha
    have h2 := ((daysL_mem _).1 hb').2.1
    omega
  · exact h
/-- A month begins behind each one ahead of it. -/
theorem month_next {y m y' m' : Int} (h : Ok y m 1) (h' : Ok y' m' 1) (hl : 12 * y + m < 12 * y' + m') : num y m 1 + len y m ≤ num y' m' 1 := by
  obtain ⟨h1, h2, h3, h4, h5, h6⟩ := h
  obtain ⟨g1, g2, g3, g4, g5, g6⟩ := h'
  rw [num_eq h3 h4, num_eq g3 g4]
  have hc : cm y m + len y m ≤ 365 + lpi y := by
    unfold cm len lpi mar
    cases lp y <;> simp <;> repeat' split
    all_goals omega
  have hcb := (cm_bd (y := y') g3 g4).1
  by_cases e : y = y'
  · subst e
    have e1 := cm_succ (y := y) h3 (by omega)
    have e2 : cm y (m + 1) ≤ cm y m' := by
      unfold cm mar
      cases lp y <;> simp <;> repeat' split
      all_goals omega
    omega
  · have he : eraZ (y - 1) + 365 + lpi y ≤ eraZ (y' - 1) := by
      rw [← era_succ]
      by_cases e2 : y = y' - 1
      · rw [e2]; exact Int.le_refl _
      · have := era_mono (show y < y' - 1 by omega)
        omega
    omega
theorem asc_yearL (P : Int → Bool) (l4 : List Int) (y : Int) : ∀ k, k ≤ 12 → Asc (yearL P l4 y k)
  | 0, _ => List.Pairwise.nil
  | k + 1, hk => by
    refine asc_monthL (asc_yearL P l4 y k (by omega)) ?_
    intro hok x hx
    obtain ⟨m, hm, ⟨hok2, _⟩, _, h1, h2⟩ := (yearL_mem k).1 hx
    have := month_next hok2 hok (by omega)
    omega
theorem asc_periodL (a0 a8 : Int) (l4 : List Int) (P : Int → Bool) (day sy sm st : Int) : Asc (periodL a0 a8 l4 P day sy sm st).1 := by
  unfold periodL
  split
  · exact asc_daysF _ _ _
  · split
    · exact asc_daysF _ _ _
    · split
      · exact asc_monthL List.Pairwise.nil (fun _ x hx => (by cases hx))
      · exact asc_yearL _ _ _ _ (Nat.le_refl _)
/-- What belongs to a period stands ahead of what belongs to a later one. -/
theorem period_order {a0 a8 : Int} {l4 : List Int} {P : Int → Bool} {day sy sm s1 s2 x y : Int} (hs0 : 0 ≤ sy) (hm : 1 ≤ sm) (hm2 : sm ≤ 12) (h0 : 0 ≤ s1) (h : s1 < s2) (hx : x ∈ (periodL a0 a8 l4 P day sy sm s1).1) (hy : y ∈ (periodL a0 a8 l4 P day sy sm s2).1) : x < y := by
  unfold periodL at hx hy
  split at hx
  · rename_i e
    rw [if_pos e] at hy
    have h1 := (daysF_mem.1 hx).2.2.2
    have h2 := (daysF_mem.1 hy).2.2.1
    omega
  · rename_i e
    rw [if_neg e] at hy
    split at hx
    · rename_i e2
      rw [if_pos e2] at hy
      have h1 := (daysF_mem.1 hx).2.2.2
      have h2 := (daysF_mem.1 hy).2.2.1
      omega
    · rename_i e2
      rw [if_neg e2] at hy
      split at hx
      · rename_i e3
        rw [if_pos e3] at hy
        rcases monthL_mem.1 hx with h1 | h1
        · cases h1
        rcases monthL_mem.1 hy with h2 | h2
        · cases h2
        have := month_next h1.1.1 h2.1.1 (by omega)
        omega
      · rename_i e3
        rw [if_neg e3] at hy
        obtain ⟨m, hm, ⟨hok, _⟩, _, h1, h2⟩ := (yearL_mem _).1 hx
        obtain ⟨m', hm', ⟨hok', _⟩, _, h1', h2'⟩ := (yearL_mem _).1 hy
        have := month_next hok hok' (by omega)
        omega
theorem sub_placesG (l7 l : List Int) : ∀ k, k ≤ l.length → (placesG l7 l k).Sublist (l.take k)
  | 0, _ => by
    show List.Sublist [] _
    exact List.nil_sublist _
  | k + 1, hk => by
    show (placesG l7 l k ++ (if plB l7 (l.length : Int) (k : Int) = true then [rd l (k : Int)] else [])).Sublist _
    have e : l.take (k + 1) = l.take k ++ [rd l (k : Int)] := by
      rw [List.take_succ_eq_append_getElem (by omega)]
      congr 2
      unfold rd
      simp [show k < l.length by omega]
    rw [e]
    refine List.Sublist.append (sub_placesG l7 l k (by omega)) ?_
    split
    · exact List.Sublist.refl _
    · exact List.nil_sublist _
theorem sub_placesL (l7 l : List Int) : (placesL l7 l).Sublist l := by
  unfold placesL
  split
  · exact List.Sublist.refl _
  · have := sub_placesG l7 l l.length (Nat.le_refl _)
    rwa [List.take_length] at this
theorem asc_DLp (a0 a1 a8 : Int) (l4 l7 : List Int) (P : Int → Bool) (day sy sm : Int) (k : Nat) : Asc (DLp a0 a1 a8 l4 l7 P day sy sm k).1 :=
  List.Pairwise.sublist (sub_placesL _ _) (asc_periodL _ _ _ _ _ _ _ _)
theorem endT_no (x : Int) (g : Nat) : endT 0 (-1) x g = false := by
  unfold endT
  simp
/-- The times of days, without an end. -/
def tms (day mi : Int) (ns : List Int) : List Int := (ns.filter (fun n => decide (day ≤ n))).map (fun n => n * 1440 + mi)
theorem goDays_no (day mi : Int) : ∀ (ns : List Int) (g : Nat), goDays 0 (-1) day mi ns g = (tms day mi ns, false)
  | [], _ => rfl
  | n :: ns, g => by
    unfold goDays
    unfold tms
    by_cases h : n < day
    · rw [if_pos h, goDays_no day mi ns g, List.filter_cons_of_neg (by simp; omega)]
      rfl
    · rw [if_neg h, if_neg (by rw [endT_no]; simp), goDays_no day mi ns (g + 1), List.filter_cons_of_pos (by simp; omega), List.map_cons]
      rfl
theorem tms_mem {day mi x : Int} {ns : List Int} : x ∈ tms day mi ns ↔ ∃ n ∈ ns, day ≤ n ∧ x = n * 1440 + mi := by
  unfold tms
  rw [List.mem_map]
  constructor
  · rintro ⟨n, hn, rfl⟩
    rw [List.mem_filter] at hn
    exact ⟨n, hn.1, of_decide_eq_true hn.2, rfl⟩
  · rintro ⟨n, hn, h, rfl⟩
    exact ⟨n, List.mem_filter.2 ⟨hn, decide_eq_true h⟩, rfl⟩
theorem asc_tms {day mi : Int} {ns : List Int} (h : Asc ns) : Asc (tms day mi ns) := by
  unfold tms
  rw [Asc, List.pairwise_map]
  exact (List.Pairwise.filter _ h).imp (fun hab => by omega)
theorem goPer_mem {DL : Nat → List Int × Bool} {day mi x : Int} : ∀ (f k g : Nat), x ∈ goPer DL 0 (-1) day mi f k g ↔ ∃ j, j < f ∧ (∀ i, i ≤ j → (DL (k + i)).2 = true) ∧ x ∈ tms day mi (DL (k + j)).1
  | 0, k, g => by
    refine ⟨fun h => (by cases h), ?_⟩
    rintro ⟨j, hj, _⟩
    omega
  | f + 1, k, g => by
    cases hm : (DL k).2 with
    | false =>
      rw [goPer_no hm]
      refine ⟨fun h => (by cases h), ?_⟩
      rintro ⟨j, _, h, _⟩
      have := h 0 (Nat.zero_le _)
      rw [Nat.add_zero, hm] at this
      cases this
    | true =>
      rw [goPer_yes hm, goDays_no]
      show x ∈ tms day mi (DL k).1 ++ goPer DL 0 (-1) day mi f (k + 1) (g + (tms day mi (DL k).1).length) ↔ _
      rw [List.mem_append, goPer_mem f (k + 1)]
      constructor
      · rintro (h | ⟨j, hj, h1, h2⟩)
        · exact ⟨0, by omega, fun i hi => by rw [show i = 0 from by omega]; exact hm, h⟩
        · refine ⟨j + 1, by omega, fun i hi => ?_, by rw [show k + (j + 1) = k + 1 + j from by omega]; exact h2⟩
          by_cases e : i = 0
          · rw [e]; exact hm
          · have := h1 (i - 1) (by omega)
            rwa [show k + 1 + (i - 1) = k + i from by omega] at this
      · rintro ⟨j, hj, h1, h2⟩
        by_cases e : j = 0
        · rw [e] at h2
          exact .inl h2
        · refine .inr ⟨j - 1, by omega, fun i hi => ?_, ?_⟩
          · have := h1 (i + 1) (by omega)
            rwa [show k + (i + 1) = k + 1 + i from by omega] at this
          · rwa [show k + 1 + (j - 1) = k + j from by omega]
theorem asc_goPer {DL : Nat → List Int × Bool} {day mi : Int} (hA : ∀ k, Asc (DL k).1) (hO : ∀ k k' x y, k < k' → x ∈ (DL k).1 → y ∈ (DL k').1 → x < y) : ∀ (f k g : Nat), Asc (goPer DL 0 (-1) day mi f k g)
  | 0, _, _ => List.Pairwise.nil
  | f + 1, k, g => by
    cases hm : (DL k).2 with
    | false =>
      rw [goPer_no hm]
      exact List.Pairwise.nil
    | true =>
      rw [goPer_yes hm, goDays_no]
      show Asc (tms day mi (DL k).1 ++ goPer DL 0 (-1) day mi f (k + 1) (g + (tms day mi (DL k).1).length))
      refine List.pairwise_append.2 ⟨asc_tms (hA k), asc_goPer hA hO f (k + 1) _, ?_⟩
      intro a ha b hb
      obtain ⟨n, hn, _, rfl⟩ := tms_mem.1 ha
      obtain ⟨j, _, _, h2⟩ := (goPer_mem _ _ _).1 hb
      obtain ⟨n', hn', _, rfl⟩ := tms_mem.1 h2
      have := hO k (k + 1 + j) n n' (by omega) hn hn'
      omega
end Go.Proofs.Ytinjbpbpgogdhaa.Own
end
