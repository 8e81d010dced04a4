-- own text: made by a program of this session out of the plain functions' print
import Derived.Test.YtndelndgioojgaaOwnx0
namespace Go.Proofs.Ytndelndgioojgaa.Own
open Go.RowKit Go.Proofs.YtndelndgioojgaaW.PrintWords Go.Proofs.YtndelndgioojgaaW.PrintLast Go.Proofs.YtndelndgioojgaaW.PrintMore
attribute [local go_sem] max2_int min2_int max_two min_two max_three min_three max_four min_four   -- for this text's walks alone
set_option linter.unusedVariables false
set_option linter.unusedSimpArgs false

-- NOT PRINTED: function 10 (disk_Disk_On)

-- NOT PRINTED: function 4 (disk_Disk_Fall)

-- NOT PRINTED: function 5 (disk_Disk_Fuse)

-- NOT PRINTED: function 6 (disk_Disk_Back)

/-- A state of type 36 at block g of W; what its slices lead to came in by w0. -/
def IsS36 (w0 W : World) (g : Nat) (f0 : List Int) (f1 : List Int) (f2 : List (S38)) (f3 : Bool) (f4 : Int) (f5 : Int) : Prop := ∃ A0 c0, ∃ A1 c1, ∃ A2 c2, W.heap[g]? = some (.cells #[.slice A0 f0.length c0, .slice A1 f1.length c1, .slice A2 f2.length c2, .bool f3, .int .i64 f4, .int .i64 f5] 36 (0, 0)) ∧ w0.heap.size ≤ g ∧ Kd.C (Kd.int .u8) w0 A0 f0.length f0 ∧ Kd.C (Kd.int .u8) w0 A1 f1.length f1 ∧ Kd.C k38 w0 A2 f2.length f2
theorem IsS36.grown {w0 W : World} {g : Nat} {f0 : List Int} {f1 : List Int} {f2 : List (S38)} {f3 : Bool} {f4 : Int} {f5 : Int} {W1 : World} {row : Option Nat} (h : IsS36 w0 W g f0 f1 f2 f3 f4 f5) (hw : W.grownBy W1 row) (hne : some g ≠ row) : IsS36 w0 W1 g f0 f1 f2 f3 f4 f5 := by
  obtain ⟨A0, c0, A1, c1, A2, c2, hb, hg, hr0, hr1, hr2⟩ := h
  exact ⟨A0, c0, A1, c1, A2, c2, blk_grown hb hw hne, hg, hr0, hr1, hr2⟩
theorem IsS36.own_neN {w0 W : World} {g : Nat} {f0 : List Int} {f1 : List Int} {f2 : List (S38)} {f3 : Bool} {f4 : Int} {f5 : Int} {α : Type} {d : Kd α} {e : Nat} {base : Nat} {ok : Nat → Prop} {v : Value} {xs : List α} (h : IsS36 w0 W g f0 f1 f2 f3 f4 f5) (ho : Kd.N d e W base ok v xs) (ht : e ≠ 36) : some g ≠ v.ownBlock := by
  obtain ⟨A0, c0, A1, c1, A2, c2, hb, hg, hr0, hr1, hr2⟩ := h
  exact Kd.N_ne ho hb ht
theorem IsS36.fresh {w0 W : World} {g : Nat} {f0 : List Int} {f1 : List Int} {f2 : List (S38)} {f3 : Bool} {f4 : Int} {f5 : Int} (h : IsS36 w0 W g f0 f1 f2 f3 f4 f5) : ∀ k, W.heap.size ≤ k → k ≠ g := by
  obtain ⟨A0, c0, A1, c1, A2, c2, hb, hg, hr0, hr1, hr2⟩ := h
  exact Kd.freshB hb
theorem IsS36.kept {w0 W : World} {g : Nat} {f0 : List Int} {f1 : List Int} {f2 : List (S38)} {f3 : Bool} {f4 : Int} {f5 : Int} {W1 : World} {S : Nat → Prop} (h : IsS36 w0 W g f0 f1 f2 f3 f4 f5) (hk : Kept W W1 S) (hne : ¬ S g) : IsS36 w0 W1 g f0 f1 f2 f3 f4 f5 := by
  obtain ⟨A0, c0, A1, c1, A2, c2, hb, hg, hr0, hr1, hr2⟩ := h
  exact ⟨A0, c0, A1, c1, A2, c2, blk_kept hb hk hne, hg, hr0, hr1, hr2⟩
theorem IsS36.below {w0 W : World} {g : Nat} {f0 : List Int} {f1 : List Int} {f2 : List (S38)} {f3 : Bool} {f4 : Int} {f5 : Int} {W1 : World} (h : IsS36 w0 W g f0 f1 f2 f3 f4 f5) (hw : Below W.heap.size W W1) : IsS36 w0 W1 g f0 f1 f2 f3 f4 f5 := h.grown (grown_of_below hw none) (by simp)
theorem IsS36.alloc {w0 W : World} {g : Nat} {f0 : List Int} {f1 : List Int} {f2 : List (S38)} {f3 : Bool} {f4 : Int} {f5 : Int} (h : IsS36 w0 W g f0 f1 f2 f3 f4 f5) (o : Obj) : IsS36 w0 (W.alloc o) g f0 f1 f2 f3 f4 f5 := h.below (below_alloc (Below.refl _ _) o)
theorem IsS36.drewN {w0 W : World} {g : Nat} {f0 : List Int} {f1 : List Int} {f2 : List (S38)} {f3 : Bool} {f4 : Int} {f5 : Int} (h : IsS36 w0 W g f0 f1 f2 f3 f4 f5) (m : Nat) : IsS36 w0 (W.drewN m) g f0 f1 f2 f3 f4 f5 := h
theorem IsS36.drew {w0 W : World} {g : Nat} {f0 : List Int} {f1 : List Int} {f2 : List (S38)} {f3 : Bool} {f4 : Int} {f5 : Int} (h : IsS36 w0 W g f0 f1 f2 f3 f4 f5) : IsS36 w0 W.drew g f0 f1 f2 f3 f4 f5 := h
theorem IsS36.at_ {w0 W : World} {g : Nat} {f0 : List Int} {f1 : List Int} {f2 : List (S38)} {f3 : Bool} {f4 : Int} {f5 : Int} {w' : World} {m : Nat} (hq : W.drewN m = w') (h : IsS36 w0 W g f0 f1 f2 f3 f4 f5) : IsS36 w0 w' g f0 f1 f2 f3 f4 f5 := by subst hq; exact IsS36.drewN h m
theorem IsS36.apart {w0 W : World} {g : Nat} {f0 : List Int} {f1 : List Int} {f2 : List (S38)} {f3 : Bool} {f4 : Int} {f5 : Int} {α : Type} {d : Kd α} {e : Nat} {base : Nat} {ok : Nat → Prop} {v : Value} {xs : List α} (h : IsS36 w0 W g f0 f1 f2 f3 f4 f5) (ho : d.R e W base ok v xs) (ht : ∀ q, q ∈ e :: d.E → q ≠ 36) : d.R e W base (fun k => ok k ∧ k ≠ g) v xs := by
  obtain ⟨A0, c0, A1, c1, A2, c2, hb, hg, hr0, hr1, hr2⟩ := h
  exact Kd.R_types ho hb ht
theorem IsS36.own_ne {w0 W : World} {g : Nat} {f0 : List Int} {f1 : List Int} {f2 : List (S38)} {f3 : Bool} {f4 : Int} {f5 : Int} {α : Type} {d : Kd α} {e : Nat} {base : Nat} {ok : Nat → Prop} {v : Value} {xs : List α} (h : IsS36 w0 W g f0 f1 f2 f3 f4 f5) (ho : d.R e W base ok v xs) (ht : e ≠ 36) : some g ≠ v.ownBlock := by
  obtain ⟨A0, c0, A1, c1, A2, c2, hb, hg, hr0, hr1, hr2⟩ := h
  exact Kd.R_ne ho hb ht
theorem IsS36.apartQ {w0 W : World} {g : Nat} {f0 : List Int} {f1 : List Int} {f2 : List (S38)} {f3 : Bool} {f4 : Int} {f5 : Int} {α : Type} {d : Kd α} {e : Nat} {base : Nat} {ok : Nat → Prop} {v : Value} {xs : List α} (h : IsS36 w0 W g f0 f1 f2 f3 f4 f5) (ho : d.Q e W base ok v xs) (ht : ∀ q, q ∈ e :: d.E → q ≠ 36) : d.Q e W base (fun k => ok k ∧ k ≠ g) v xs := by
  obtain ⟨A0, c0, A1, c1, A2, c2, hb, hg, hr0, hr1, hr2⟩ := h
  exact Kd.Q_types ho hb ht
theorem IsS36.own_neQ {w0 W : World} {g : Nat} {f0 : List Int} {f1 : List Int} {f2 : List (S38)} {f3 : Bool} {f4 : Int} {f5 : Int} {α : Type} {d : Kd α} {e : Nat} {base : Nat} {ok : Nat → Prop} {v : Value} {xs : List α} (h : IsS36 w0 W g f0 f1 f2 f3 f4 f5) (ho : d.Q e W base ok v xs) (ht : e ≠ 36) : some g ≠ v.ownBlock := by
  obtain ⟨A0, c0, A1, c1, A2, c2, hb, hg, hr0, hr1, hr2⟩ := h
  exact Kd.Q_ne ho hb ht
theorem IsS36.apartS {w0 W : World} {g : Nat} {f0 : List Int} {f1 : List Int} {f2 : List (S38)} {f3 : Bool} {f4 : Int} {f5 : Int} {α : Type} {d : Kd α} {e : Nat} {base : Nat} {ok : Nat → Prop} {v : Value} {xs : List α} (h : IsS36 w0 W g f0 f1 f2 f3 f4 f5) (ho : d.S e W base ok v xs) (ht : ∀ q, q ∈ e :: d.E → q ≠ 36) : d.S e W base (fun k => ok k ∧ k ≠ g) v xs := by
  obtain ⟨A0, c0, A1, c1, A2, c2, hb, hg, hr0, hr1, hr2⟩ := h
  exact Kd.S_types ho hb ht
theorem IsS36.own_neS {w0 W : World} {g : Nat} {f0 : List Int} {f1 : List Int} {f2 : List (S38)} {f3 : Bool} {f4 : Int} {f5 : Int} {α : Type} {d : Kd α} {e : Nat} {base : Nat} {ok : Nat → Prop} {v : Value} {xs : List α} (h : IsS36 w0 W g f0 f1 f2 f3 f4 f5) (ho : d.S e W base ok v xs) (ht : e ≠ 36) : some g ≠ v.ownBlock := by
  obtain ⟨A0, c0, A1, c1, A2, c2, hb, hg, hr0, hr1, hr2⟩ := h
  exact Kd.S_ne ho hb ht
theorem IsS36.lt {w0 W : World} {g : Nat} {f0 : List Int} {f1 : List Int} {f2 : List (S38)} {f3 : Bool} {f4 : Int} {f5 : Int} (h : IsS36 w0 W g f0 f1 f2 f3 f4 f5) : g < W.heap.size := by
  obtain ⟨A0, c0, A1, c1, A2, c2, hb, hg, hr0, hr1, hr2⟩ := h
  exact blk_lt hb
theorem IsS36.ge {w0 W : World} {g : Nat} {f0 : List Int} {f1 : List Int} {f2 : List (S38)} {f3 : Bool} {f4 : Int} {f5 : Int} (h : IsS36 w0 W g f0 f1 f2 f3 f4 f5) : w0.heap.size ≤ g := by
  obtain ⟨A0, c0, A1, c1, A2, c2, hb, hg, hr0, hr1, hr2⟩ := h
  exact hg
theorem IsS36.ne_blk {w0 W : World} {g : Nat} {f0 : List Int} {f1 : List Int} {f2 : List (S38)} {f3 : Bool} {f4 : Int} {f5 : Int} {a : Nat} {cs : Array Value} {t : TypeId} {fr : Nat × Nat} (h : IsS36 w0 W g f0 f1 f2 f3 f4 f5) (hb2 : W.heap[a]? = some (.cells cs t fr)) (ht : t ≠ 36) : g ≠ a := by
  obtain ⟨A0, c0, A1, c1, A2, c2, hb, hg, hr0, hr1, hr2⟩ := h
  rintro rfl
  rw [hb] at hb2
  injection hb2 with hb2
  injection hb2 with _ ht2
  exact ht ht2.symm
theorem IsS36.far {w0 W : World} {g : Nat} {f0 : List Int} {f1 : List Int} {f2 : List (S38)} {f3 : Bool} {f4 : Int} {f5 : Int} {p : Addr} (h : IsS36 w0 W g f0 f1 f2 f3 f4 f5) (hne : g ≠ p.block) (u : Value) : IsS36 w0 (W.setCell p u) g f0 f1 f2 f3 f4 f5 := by
  obtain ⟨A0, c0, A1, c1, A2, c2, hb, hg, hr0, hr1, hr2⟩ := h
  exact ⟨A0, c0, A1, c1, A2, c2, blk_far hb hne u, hg, hr0, hr1, hr2⟩
theorem cellS36_0 {W : World} {g : Nat} {A0 : Option Addr} {c0 : Nat} {A1 : Option Addr} {c1 : Nat} {A2 : Option Addr} {c2 : Nat} {f0 : List Int} {f1 : List Int} {f2 : List (S38)} {f3 : Bool} {f4 : Int} {f5 : Int} (h : W.heap[g]? = some (.cells #[.slice A0 f0.length c0, .slice A1 f1.length c1, .slice A2 f2.length c2, .bool f3, .int .i64 f4, .int .i64 f5] 36 (0, 0))) : W.cell? ⟨g, 0, none⟩ = some (.slice A0 f0.length c0) := (blk_cell h 0).trans rfl
theorem cellS36_1 {W : World} {g : Nat} {A0 : Option Addr} {c0 : Nat} {A1 : Option Addr} {c1 : Nat} {A2 : Option Addr} {c2 : Nat} {f0 : List Int} {f1 : List Int} {f2 : List (S38)} {f3 : Bool} {f4 : Int} {f5 : Int} (h : W.heap[g]? = some (.cells #[.slice A0 f0.length c0, .slice A1 f1.length c1, .slice A2 f2.length c2, .bool f3, .int .i64 f4, .int .i64 f5] 36 (0, 0))) : W.cell? ⟨g, 1, none⟩ = some (.slice A1 f1.length c1) := (blk_cell h 1).trans rfl
theorem cellS36_2 {W : World} {g : Nat} {A0 : Option Addr} {c0 : Nat} {A1 : Option Addr} {c1 : Nat} {A2 : Option Addr} {c2 : Nat} {f0 : List Int} {f1 : List Int} {f2 : List (S38)} {f3 : Bool} {f4 : Int} {f5 : Int} (h : W.heap[g]? = some (.cells #[.slice A0 f0.length c0, .slice A1 f1.length c1, .slice A2 f2.length c2, .bool f3, .int .i64 f4, .int .i64 f5] 36 (0, 0))) : W.cell? ⟨g, 2, none⟩ = some (.slice A2 f2.length c2) := (blk_cell h 2).trans rfl
theorem cellS36_3 {W : World} {g : Nat} {A0 : Option Addr} {c0 : Nat} {A1 : Option Addr} {c1 : Nat} {A2 : Option Addr} {c2 : Nat} {f0 : List Int} {f1 : List Int} {f2 : List (S38)} {f3 : Bool} {f4 : Int} {f5 : Int} (h : W.heap[g]? = some (.cells #[.slice A0 f0.length c0, .slice A1 f1.length c1, .slice A2 f2.length c2, .bool f3, .int .i64 f4, .int .i64 f5] 36 (0, 0))) : W.cell? ⟨g, 3, none⟩ = some (.bool f3) := (blk_cell h 3).trans rfl
theorem IsS36.set_3 {w0 W : World} {g : Nat} {f0 : List Int} {f1 : List Int} {f2 : List (S38)} {f3 : Bool} {f4 : Int} {f5 : Int} (h : IsS36 w0 W g f0 f1 f2 f3 f4 f5) (x : Bool) : IsS36 w0 (W.setCell ⟨g, 3, none⟩ (.bool x)) g f0 f1 f2 x f4 f5 := by
  obtain ⟨A0, c0, A1, c1, A2, c2, hb, hg, hr0, hr1, hr2⟩ := h
  exact ⟨A0, c0, A1, c1, A2, c2, by simpa using blk_set hb 3 (.bool x), hg, hr0, hr1, hr2⟩
theorem cellS36_4 {W : World} {g : Nat} {A0 : Option Addr} {c0 : Nat} {A1 : Option Addr} {c1 : Nat} {A2 : Option Addr} {c2 : Nat} {f0 : List Int} {f1 : List Int} {f2 : List (S38)} {f3 : Bool} {f4 : Int} {f5 : Int} (h : W.heap[g]? = some (.cells #[.slice A0 f0.length c0, .slice A1 f1.length c1, .slice A2 f2.length c2, .bool f3, .int .i64 f4, .int .i64 f5] 36 (0, 0))) : W.cell? ⟨g, 4, none⟩ = some (.int .i64 f4) := (blk_cell h 4).trans rfl
theorem IsS36.set_4 {w0 W : World} {g : Nat} {f0 : List Int} {f1 : List Int} {f2 : List (S38)} {f3 : Bool} {f4 : Int} {f5 : Int} (h : IsS36 w0 W g f0 f1 f2 f3 f4 f5) (x : Int) : IsS36 w0 (W.setCell ⟨g, 4, none⟩ (.int .i64 x)) g f0 f1 f2 f3 x f5 := by
  obtain ⟨A0, c0, A1, c1, A2, c2, hb, hg, hr0, hr1, hr2⟩ := h
  exact ⟨A0, c0, A1, c1, A2, c2, by simpa using blk_set hb 4 (.int .i64 x), hg, hr0, hr1, hr2⟩
theorem cellS36_5 {W : World} {g : Nat} {A0 : Option Addr} {c0 : Nat} {A1 : Option Addr} {c1 : Nat} {A2 : Option Addr} {c2 : Nat} {f0 : List Int} {f1 : List Int} {f2 : List (S38)} {f3 : Bool} {f4 : Int} {f5 : Int} (h : W.heap[g]? = some (.cells #[.slice A0 f0.length c0, .slice A1 f1.length c1, .slice A2 f2.length c2, .bool f3, .int .i64 f4, .int .i64 f5] 36 (0, 0))) : W.cell? ⟨g, 5, none⟩ = some (.int .i64 f5) := (blk_cell h 5).trans rfl
theorem IsS36.set_5 {w0 W : World} {g : Nat} {f0 : List Int} {f1 : List Int} {f2 : List (S38)} {f3 : Bool} {f4 : Int} {f5 : Int} (h : IsS36 w0 W g f0 f1 f2 f3 f4 f5) (x : Int) : IsS36 w0 (W.setCell ⟨g, 5, none⟩ (.int .i64 x)) g f0 f1 f2 f3 f4 x := by
  obtain ⟨A0, c0, A1, c1, A2, c2, hb, hg, hr0, hr1, hr2⟩ := h
  exact ⟨A0, c0, A1, c1, A2, c2, by simpa using blk_set hb 5 (.int .i64 x), hg, hr0, hr1, hr2⟩
theorem IsS36.new (w0 W : World) (A0 : Option Addr) (c0 : Nat) (A1 : Option Addr) (c1 : Nat) (A2 : Option Addr) (c2 : Nat) (f0 : List Int) (f1 : List Int) (f2 : List (S38)) (f3 : Bool) (f4 : Int) (f5 : Int) (hB : Below w0.heap.size w0 W) (hr0 : Kd.C (Kd.int .u8) w0 A0 f0.length f0) (hr1 : Kd.C (Kd.int .u8) w0 A1 f1.length f1) (hr2 : Kd.C k38 w0 A2 f2.length f2) : IsS36 w0 (W.alloc (.cells #[.slice A0 f0.length c0, .slice A1 f1.length c1, .slice A2 f2.length c2, .bool f3, .int .i64 f4, .int .i64 f5] 36)) W.heap.size f0 f1 f2 f3 f4 f5 := ⟨A0, c0, A1, c1, A2, c2, by simpa using heap_alloc_new W _, hB.size, hr0, hr1, hr2⟩

/-! ### disk_Disk_in: function 13 -/
def disk_Disk_in.f (s0_0 : List Int) (s0_1 : List Int) (s0_2 : List (S38)) (s0_3 : Bool) (s0_4 : Int) (s0_5 : Int) (a1 : Int) (a2 : Int) : Option (Bool × Bool × Int × Int) := if a1 ≥ 0 then (if a2 ≥ 0 then (if a1 ≤ (s0_0.length : Int) then (some (decide (a2 ≤ (wrap64 ((s0_0.length : Int) - a1))), s0_3, s0_4, s0_5)) else (some (false, s0_3, s0_4, s0_5))) else (some (false, s0_3, s0_4, s0_5))) else (some (false, s0_3, s0_4, s0_5))
set_option maxHeartbeats 8000000 in
set_option maxRecDepth 100000 in
theorem disk_Disk_in.calls (g : Nat) (s0_0 : List Int) (s0_1 : List Int) (s0_2 : List (S38)) (s0_3 : Bool) (s0_4 : Int) (s0_5 : Int) (a1 : Int) (a2 : Int) (r1 : Bool) (r2 : Bool) (r3 : Int) (r4 : Int) (w0 w : World) (hI : IsS36 w0 w g s0_0 s0_1 s0_2 s0_3 s0_4 s0_5) (hB : Below w0.heap.size w0 w) (h : disk_Disk_in.f s0_0 s0_1 s0_2 s0_3 s0_4 s0_5 a1 a2 = some (r1, r2, r3, r4)) :
    Calls Try.prog 13 #[.pointer (some ⟨g, 0, none⟩), .int .i64 a1, .int .i64 a2] w fun e w' => e = .returned (.bool r1) ∧ IsS36 w0 w' g s0_0 s0_1 s0_2 r2 r3 r4 ∧ Below w0.heap.size w0 w' ∧ KeepBut w w' g none := by
  have HI0 := Aside0.mk hI
  have HK := Aside0.mk (KeepBut.refl w g none)
  have HL := Aside0.mk hB.size
  clear hI
  have HW0 := Aside0.mk hB.size
  have HB := Aside0.mk hB
  clear hB
  have H : (if a1 ≥ 0 then (if a2 ≥ 0 then (if a1 ≤ (s0_0.length : Int) then (some (decide (a2 ≤ (wrap64 ((s0_0.length : Int) - a1))), s0_3, s0_4, s0_5)) else (some (false, s0_3, s0_4, s0_5))) else (some (false, s0_3, s0_4, s0_5))) else (some (false, s0_3, s0_4, s0_5))) = some (r1, r2, r3, r4) := h
  clear h
  by_cases c4 : a1 ≥ 0
  · rw [if_pos c4] at H
    have c4b0 : decide (0 ≤ a1) = true := decide_eq_true c4
    clear c4
    by_cases c5 : a2 ≥ 0
    · rw [if_pos c5] at H
      have c5b0 : decide (0 ≤ a2) = true := decide_eq_true c5
      clear c5
      by_cases c6 : a1 ≤ (s0_0.length : Int)
      · rw [if_pos c6] at H
        have c6b0 : decide (a1 ≤ (s0_0.length : Int)) = true := decide_eq_true c6
        clear c6
        simp only [Option.some.injEq, Prod.mk.injEq] at H
        obtain ⟨rfl, rfl, rfl, rfl⟩ := H
        obtain ⟨ASz7_0, cSz7_0, ASz7_1, cSz7_1, ASz7_2, cSz7_2, HGz7, hgz7, HSz7_0, HSz7_1, HSz7_2⟩ := HI0.out
        have hcz7_0 := cellS36_0 HGz7
        have hcz7_1 := cellS36_1 HGz7
        have hcz7_2 := cellS36_2 HGz7
        have hcz7_3 := cellS36_3 HGz7
        have hcz7_4 := cellS36_4 HGz7
        have hcz7_5 := cellS36_5 HGz7
        have hfz7_3 := blk_frozen HGz7 3
        have hfz7_4 := blk_frozen HGz7 4
        have hfz7_5 := blk_frozen HGz7 5
        clear HGz7 hgz7
        go_enter Try.func13, Try.ntmps13
        go_wp2
        go_ret
        exact ⟨by first | rfl | (simp [errW_none, errW_some] <;> rfl) | (simp [*, errW_none, errW_some] <;> rfl) | (simp only [IntWalk.i64_left]; rfl), by repeat (first | (with_reducible first | exact HI0.out | apply IsS36.alloc | apply IsS36.drewN | apply IsS36.drew | apply IsS36.set_3 | apply IsS36.set_4 | apply IsS36.set_5) | exact HI0.out), by repeat (first | (with_reducible first | exact HB.out | apply below_alloc | apply pw_below_drewN | apply below_drew1 | refine below_set ?_ (IsS36.ge HI0.out)) | exact HB.out), by repeat (first | (with_reducible first | exact HK.out | apply KeepBut.set_ | apply keep_drewN | apply keep_drew | apply keep_alloc) | exact HK.out)⟩
      · rw [if_neg c6] at H
        have c6b0 : decide (a1 ≤ (s0_0.length : Int)) = false := decide_eq_false c6
        clear c6
        simp only [Option.some.injEq, Prod.mk.injEq] at H
        obtain ⟨rfl, rfl, rfl, rfl⟩ := H
        obtain ⟨ASz8_0, cSz8_0, ASz8_1, cSz8_1, ASz8_2, cSz8_2, HGz8, hgz8, HSz8_0, HSz8_1, HSz8_2⟩ := HI0.out
        have hcz8_0 := cellS36_0 HGz8
        have hcz8_1 := cellS36_1 HGz8
        have hcz8_2 := cellS36_2 HGz8
        have hcz8_3 := cellS36_3 HGz8
        have hcz8_4 := cellS36_4 HGz8
        have hcz8_5 := cellS36_5 HGz8
        have hfz8_3 := blk_frozen HGz8 3
        have hfz8_4 := blk_frozen HGz8 4
        have hfz8_5 := blk_frozen HGz8 5
        clear HGz8 hgz8
        go_enter Try.func13, Try.ntmps13
        go_wp2
        go_ret
        exact ⟨by first | rfl | (simp [errW_none, errW_some] <;> rfl) | (simp [*, errW_none, errW_some] <;> rfl) | (simp only [IntWalk.i64_left]; rfl), by repeat (first | (with_reducible first | exact HI0.out | apply IsS36.alloc | apply IsS36.drewN | apply IsS36.drew | apply IsS36.set_3 | apply IsS36.set_4 | apply IsS36.set_5) | exact HI0.out), by repeat (first | (with_reducible first | exact HB.out | apply below_alloc | apply pw_below_drewN | apply below_drew1 | refine below_set ?_ (IsS36.ge HI0.out)) | exact HB.out), by repeat (first | (with_reducible first | exact HK.out | apply KeepBut.set_ | apply keep_drewN | apply keep_drew | apply keep_alloc) | exact HK.out)⟩
    · rw [if_neg c5] at H
      have c5b0 : decide (0 ≤ a2) = false := decide_eq_false c5
      clear c5
      simp only [Option.some.injEq, Prod.mk.injEq] at H
      obtain ⟨rfl, rfl, rfl, rfl⟩ := H
      go_enter Try.func13, Try.ntmps13
      go_wp2
      go_ret
      exact ⟨by first | rfl | (simp [errW_none, errW_some] <;> rfl) | (simp [*, errW_none, errW_some] <;> rfl) | (simp only [IntWalk.i64_left]; rfl), by repeat (first | (with_reducible first | exact HI0.out | apply IsS36.alloc | apply IsS36.drewN | apply IsS36.drew | apply IsS36.set_3 | apply IsS36.set_4 | apply IsS36.set_5) | exact HI0.out), by repeat (first | (with_reducible first | exact HB.out | apply below_alloc | apply pw_below_drewN | apply below_drew1 | refine below_set ?_ (IsS36.ge HI0.out)) | exact HB.out), by repeat (first | (with_reducible first | exact HK.out | apply KeepBut.set_ | apply keep_drewN | apply keep_drew | apply keep_alloc) | exact HK.out)⟩
  · rw [if_neg c4] at H
    have c4b0 : decide (0 ≤ a1) = false := decide_eq_false c4
    clear c4
    simp only [Option.some.injEq, Prod.mk.injEq] at H
    obtain ⟨rfl, rfl, rfl, rfl⟩ := H
    go_enter Try.func13, Try.ntmps13
    go_wp2
    go_ret
    exact ⟨by first | rfl | (simp [errW_none, errW_some] <;> rfl) | (simp [*, errW_none, errW_some] <;> rfl) | (simp only [IntWalk.i64_left]; rfl), by repeat (first | (with_reducible first | exact HI0.out | apply IsS36.alloc | apply IsS36.drewN | apply IsS36.drew | apply IsS36.set_3 | apply IsS36.set_4 | apply IsS36.set_5) | exact HI0.out), by repeat (first | (with_reducible first | exact HB.out | apply below_alloc | apply pw_below_drewN | apply below_drew1 | refine below_set ?_ (IsS36.ge HI0.out)) | exact HB.out), by repeat (first | (with_reducible first | exact HK.out | apply KeepBut.set_ | apply keep_drewN | apply keep_drew | apply keep_alloc) | exact HK.out)⟩

/-! ### slices_Clone_byte_byte: function 14 -/
def slices_Clone_byte_byte.f (l0 : List Int) : Option (List Int) := (some (([] : List Int) : List Int)).bind fun y101 => (if y101.length + l0.length < 140737488355328 then (some (y101 ++ l0)) else (none))
set_option maxHeartbeats 8000000 in
set_option maxRecDepth 100000 in
theorem slices_Clone_byte_byte.calls_some (A0 : Addr) (c0 : Nat) (l0 : List Int) (r : List Int) (w : World) (hr0 : Kd.C (Kd.int .u8) w (some A0) l0.length l0) (hc0 : l0.length ≤ c0) (h : slices_Clone_byte_byte.f l0 = some r) :
    Calls Try.prog 14 #[.slice (some A0) l0.length c0] w fun e w' => ∃ v0_ : Value, e = .returned (v0_) ∧ Kd.R (Kd.int .u8) 5 w' w.heap.size (fun _ => True) v0_ r ∧ Below w.heap.size w w' := by
  have HR0 := Aside0.mk hr0
  have HC0 := Aside0.mk hc0
  clear hr0 hc0
  have HB := Aside0.mk (Below.refl w.heap.size w)
  have H : ((some (([] : List Int) : List Int)).bind fun y101 => (if y101.length + l0.length < 140737488355328 then (some (y101 ++ l0)) else (none))) = some r := h
  clear h
  obtain ⟨y101, hy101⟩ : ∃ y_ : List Int, y_ = (([] : List Int)) := ⟨_, rfl⟩
  replace H : (if y101.length + l0.length < 140737488355328 then (some (y101 ++ l0)) else (none)) = some r := by first | (rw [hy101]; with_reducible exact H) | (have H2_ := (Option.bind_some _ _).symm.trans H; rw [hy101]; with_reducible exact H2_) | (have H2_ := (Option.bind_some _ _).symm.trans H; with_reducible exact H2_) | with_reducible exact H | (rw [hy101]; exact H) | exact H
  have Ny101 := Aside0.mk hy101
  clear hy101
  by_cases c2 : y101.length + l0.length < 140737488355328
  · rw [if_pos c2] at H
    have LMc2 := Aside0.mk c2
    clear c2
    obtain ⟨y104, hy104⟩ : ∃ y_ : List Int, y_ = (y101 ++ l0) := ⟨_, rfl⟩
    replace H : (some y104) = some r := by first | (rw [hy104]; with_reducible exact H) | (have H2_ := (Option.bind_some _ _).symm.trans H; rw [hy104]; with_reducible exact H2_) | (have H2_ := (Option.bind_some _ _).symm.trans H; with_reducible exact H2_) | with_reducible exact H | (rw [hy104]; exact H) | exact H
    have Ny104 := Aside0.mk hy104
    clear hy104
    obtain rfl := Option.some.inj H
    have hnil := fun (W_ : World) (m_ c_ m2_ c2_ : Nat) => Lib.run_eql_slice_nil (P := Try.prog) W_ 22 5 (some A0) m_ c_ m2_ c2_ Try.underlying22
    go_enter Try.func14, Try.ntmps14
    go_wp2_with (first | ((with_reducible refine gate_dst (N := 5) rfl ?_); refine Kd.R_lit (Kd.int .u8) _ 5 ?hg (N := 5) ?hd (xs := ([] : List Int)) (inner := []) (ok := fun _ => True) (okp := fun _ => True) ?hr ?hp (fun _ hk => hk) trivial (Below.refl _ _) (Nat.le_refl _) (by simp) ?_; (case hd => rfl); (case hg => rfl); (case hr => first | (go_simp; done) | (go_simp; rfl)); (case hp => exact (Reps.none _ _)); intro v102 w3 ho4 hb hg_ hnew_; clear hg_ hnew_; (first | rw [← Ny101.out] at ho4 | (simp only [Int.reduceToNat] at ho4; rw [← Ny101.out] at ho4)); have n0_ := Aside0.mk (Kd.R_lower ho4 (below_size (by repeat (first | (with_reducible first | exact HB.out | apply below_alloc | apply pw_below_drewN | apply below_drew1) | exact HB.out)))); have n1_ := Aside0.mk (below_step (by repeat (first | (with_reducible first | exact HB.out | apply below_alloc | apply pw_below_drewN | apply below_drew1) | exact HB.out)) hb); clear HB; have HO103 := n0_; have HB := n1_; clear n0_ n1_; clear hb ho4) | ((with_reducible refine gate_builtin (b := .append) (xs := #[.tmp 5, .tmp 6]) rfl ?_); at_builtin; refine Kd.R_append_rows (Kd.int .u8) (w0 := w) w.heap.size rfl (.tmp 5) (.tmp 6) 22 5 (.int .u8 0) 1 rfl Try.underlying22 info5 rfl (by decide) (by omega) v102 y101 l0 _ _ _ (fun _ => True) (fun _ => False) rfl rfl ?aO ?aR (fun _ _ h => h) (fun _ h => h.elim) ?aF ?aB ?aS ?aL ?_; (case aR => repeat (first | exact (Kd.C_below HR0.out HB.out) | (with_reducible refine Kd.C_alloc ?_ _) | (with_reducible refine Kd.C_drewN ?_ _) | (with_reducible refine Kd.C_drew ?_))); (case aB => exact (by repeat (first | (with_reducible first | exact HB.out | apply below_alloc | apply pw_below_drewN | apply below_drew1) | exact HB.out))); (case aF => exact (fun _ _ => trivial)); (case aO => exact (by (with_reducible repeat (first | apply Kd.R_alloc | apply Kd.R_drewN | apply Kd.R_drew)); exact HO103.out)); (case aS => exact (below_size (by repeat (first | (with_reducible first | exact HB.out | apply below_alloc | apply pw_below_drewN | apply below_drew1) | exact HB.out)))); (case aL => have := LMc2.out; omega); intro v105 w5 ho hb hg hat; rw [← Ny104.out] at ho; have n0_ := Aside0.mk (hb); have n1_ := Aside0.mk (ho); clear HB; clear HO103; have HB := n0_; have HO106 := n1_; clear n0_ n1_; clear ho hb hg hat))
    go_ret
    exact ⟨_, by first | rfl | (simp [errW_none, errW_some] <;> rfl) | (simp [*, errW_none, errW_some] <;> rfl) | (simp only [IntWalk.i64_left]; rfl), by (with_reducible repeat (first | apply Kd.R_alloc | apply Kd.R_drewN | apply Kd.R_drew)); exact HO106.out, by repeat (first | (with_reducible first | exact HB.out | apply below_alloc | apply pw_below_drewN | apply below_drew1) | exact HB.out)⟩
  · rw [if_neg c2] at H
    exact absurd H (by simp)

set_option maxRecDepth 100000 in
theorem slices_Clone_byte_byte.calls (A0 : Option Addr) (c0 : Nat) (l0 : List Int) (r : List Int) (w : World) (hr0 : Kd.C (Kd.int .u8) w A0 l0.length l0) (hc0 : l0.length ≤ c0) (h : slices_Clone_byte_byte.f l0 = some r) :
    Calls Try.prog 14 #[.slice A0 l0.length c0] w fun e w' => ∃ v0_ : Value, e = .returned (v0_) ∧ Kd.R (Kd.int .u8) 5 w' w.heap.size (fun _ => True) v0_ r ∧ Below w.heap.size w w' := by
  cases A0 with
  | some A0 => exact slices_Clone_byte_byte.calls_some A0 c0 l0 r w hr0 hc0 h
  | none =>
    obtain rfl : l0 = [] := by
      cases l0 with
      | nil => rfl
      | cons x_ l_ =>
        obtain ⟨ad_, e_, _⟩ := (Kd.reads_of_C (d := (0 : Int)) hr0).2.2 (by simp)
        cases e_
    have hr_ : r = [] := by
      unfold slices_Clone_byte_byte.f at h
      simpa using h.symm
    subst hr_
    have hnil := fun (W_ : World) (m_ c_ m2_ c2_ : Nat) => Lib.run_eql_slice_nil (P := Try.prog) W_ 22 5 none m_ c_ m2_ c2_ Try.underlying22
    clear h hr0
    go_enter Try.func14, Try.ntmps14
    go_wp2
    go_ret
    exact ⟨_, rfl, Kd.R_nil _ _ _ _ _, Below.refl _ _⟩

-- NOT PRINTED: function 7 (disk_Disk_Read)

-- NOT PRINTED: function 11 (disk_Disk_Write)

-- NOT PRINTED: function 15 (disk_New)

-- NOT PRINTED: function 8 (vesperslaw05_fixed)

-- NOT PRINTED: function 9 (disk_Disk_Size)

-- NOT PRINTED: function 12 (disk_Disk_Sync)

-- NOT PRINTED: function 3 (vesperslaw05_DiskNil)

end Go.Proofs.Ytndelndgioojgaa.Own
