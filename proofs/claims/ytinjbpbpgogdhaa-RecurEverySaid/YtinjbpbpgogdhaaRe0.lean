import Derived.Test.YtinjbpbpgogdhaaRd3
import Derived.RangeFuncNested
import Derived.RangeFuncBound
import Derived.RangeFuncCalls
import Derived.RangeFuncLeaves
import Derived.RangeFuncBox
import Derived.Shelf.Abstract
import Derived.Shelf.RegionOpen
import Derived.WalkKit
import Derived.OwnWalkIn
import Derived.TacticsInMore
import Derived.LoopNIn
import Derived.LoopIn
import Derived.Maps.AppendAt
namespace Go.Proofs.Ytinjbpbpgogdhaa.Own
open Go.RowKit Go.Shelf Go.Proofs.YtinjbpbpgogdhaaW.PrintWords Go.Proofs.YtinjbpbpgogdhaaW.PrintLast Go.Proofs.YtinjbpbpgogdhaaW.PrintMore
set_option linter.unusedVariables false
set_option linter.unusedSimpArgs false
theorem room_of_none {F : Fence} (hd : F.depth = none) (k : Nat) : F.room k := fun d h => by rw [hd] at h; cases h
theorem roundIn_any {F : Fence} (hd : F.depth = none) {m m' : Nat} {P : Program} {l : Nat} {f : FuncId} {tmps : Array Value} {assign body : Code} {w : World} {R : Ending → World → Prop}
    (h : RoundIn F m P l f tmps assign body w R) : RoundIn F m' P l f tmps assign body w R := ⟨h.1, fun c cs _ => h.2 c cs (room_of_none hd _)⟩
theorem yieldAt_any {F : Fence} (hd : F.depth = none) {m : Nat} (m' : Nat) {P : Program} {l : Nat} {args : Array Value} {W : World} {R : Ending → World → Prop} (h : YieldAt F m P l args W R) : YieldAt F m' P l args W R := by
  obtain ⟨fn, tmps, assign, body, hy, hR⟩ := h
  exact ⟨fn, tmps, assign, body, hy, roundIn_any hd hR⟩
/-- What a round keeps: all that lay ahead of the call; and all cells but rows of stamps and boxes of such rows. -/
def Kp (n0 : Nat) (W W' : World) : Prop :=
  Below n0 W W' ∧ ∀ (k : Nat) (cs : Array Value) (t : TypeId), W.heap[k]? = some (Obj.cells cs t (0, 0)) → t ≠ 2 → t ≠ 28 → W'.heap[k]? = W.heap[k]?
theorem Kp.refl (n0 : Nat) (W : World) : Kp n0 W W := ⟨Below.refl _ _, fun _ _ _ _ _ _ => rfl⟩
theorem Kp.trans {n0 : Nat} {A B C : World} (h : Kp n0 A B) (k : Kp n0 B C) : Kp n0 A C :=
  ⟨h.1.trans k.1, fun i cs t hc h2 h28 => (k.2 i cs t ((h.2 i cs t hc h2 h28).trans hc) h2 h28).trans (h.2 i cs t hc h2 h28)⟩
theorem Kp.put {n0 : Nat} {w : World} (hn : n0 ≤ w.heap.size) (W : World) (l : Nat) (o o' : Obj) (hl : w.heap.size ≤ l) (h : W.heap[l]? = some o) (hc : o.isCells = false) (hw : o.isWalk = false) : Kp n0 W (W.putObj l o') :=
  ⟨belowK_b hn W l o o' hl h hc hw, fun k cs t hk _ _ => World.putObj_heap_other (fun e => by
    rw [e, h] at hk
    cases hk
    cases hc)⟩
theorem Kp.wk {w0 W W' : World} {g : Nat} {a0 a1 a2 a3 a8 : Int} {A4 A5 A6 A7 : Option Addr} {c4 c5 c6 c7 : Nat} {l4 l5 l7 : List Int} {l6 : List S58} {day sy sm sd mi : Int} (h : Kp w0.heap.size W W') (hW : Wk0 w0 W g a0 a1 a2 a3 a8 A4 A5 A6 A7 c4 c5 c6 c7 l4 l5 l7 l6 day sy sm sd mi) : Wk0 w0 W' g a0 a1 a2 a3 a8 A4 A5 A6 A7 c4 c5 c6 c7 l4 l5 l7 l6 day sy sm sd mi :=
  ⟨(h.2 g _ _ hW.hg (by decide) (by decide)).trans hW.hg, hW.rc, hW.hb.trans h.1, hW.ng⟩
theorem Kp.row {n0 : Nat} {W W' : World} {v : Value} {xs : List Int} (h : Kp n0 W W') (hR : Kd.R (Kd.int .i64) 3 W n0 (fun _ => True) v xs) : Kd.R (Kd.int .i64) 3 W' n0 (fun _ => True) v xs :=
  Kd.R_mono (Kd.R_step (Kd.R_bound hR) (fun k hk _ => by
    obtain ⟨_, _, _, q, hq, cs, hc⟩ := hk
    have : q = 3 := by
      rcases List.mem_cons.1 hq with e | e
      · exact e
      · cases e
    subst this
    exact h.2 k cs 3 hc (by decide) (by decide))) (fun _ _ => trivial)
theorem grown_of_below {w W : World} (h : Below w.heap.size w W) : w.grownBy W none := ⟨h.os, h.tape, h.output, h.size, fun k hk _ => h.block k hk⟩
theorem abides_below {J : List Int → World → Prop} {B : Nat} (hJ : AbidesFrom B J) {s : List Int} {w W : World} (h : Below w.heap.size w W) (hs : J s w) : J s W := hJ s w W none hs (grown_of_below h) (fun r e => by cases e)
theorem abides_kept {J : List Int → World → Prop} {B : Nat} (hJ : AbidesFrom B J) {s : List Int} {n0 : Nat} {w0 w W : World} (h : Kept w W (fun _ => False)) (hb1 : Below n0 w0 w) (hb2 : Below n0 w0 W) (hs : J s w) : J s W := hJ s w W none hs ⟨hb2.os.trans hb1.os.symm, hb2.tape.trans hb1.tape.symm, hb2.output.trans hb1.output.symm, h.1, fun k hk _ => h.2 k hk (fun x => x)⟩ (fun r e => by cases e)
/-- No more times. -/
def endT (a2 a3 at' : Int) (g : Nat) : Bool := (decide (0 ≤ a3) && decide (a3 < at')) || (decide (0 < a2) && decide ((g : Int) = a2))
/-- The times of days, so many having come; whether they end. -/
def goDays (a2 a3 day mi : Int) : List Int → Nat → List Int × Bool
  | [], _ => ([], false)
  | n :: ns, g => if n < day then goDays a2 a3 day mi ns g else if endT a2 a3 (n * 1440 + mi) g = true then ([], true) else ((n * 1440 + mi) :: (goDays a2 a3 day mi ns (g + 1)).1, (goDays a2 a3 day mi ns (g + 1)).2)
/-- What comes behind the days of a period. -/
def behind (r : List Int × Bool) (rest : Nat → List Int) (g : Nat) : List Int := if r.2 = true then r.1 else r.1 ++ rest (g + r.1.length)
/-- The times of the periods from one on. -/
def goPer (DL : Nat → List Int × Bool) (a2 a3 day mi : Int) : Nat → Nat → Nat → List Int
  | 0, _, _ => []
  | f + 1, k, g => if (DL k).2 = false then [] else behind (goDays a2 a3 day mi (DL k).1 g) (goPer DL a2 a3 day mi f (k + 1)) g
theorem behind_nil (rest : Nat → List Int) (g : Nat) : behind ([], false) rest g = rest g := by
  unfold behind
  rw [if_neg (by simp)]
  simp
theorem behind_skip {a2 a3 day mi n : Int} {ns : List Int} {g : Nat} (rest : Nat → List Int) (h : n < day) : behind (goDays a2 a3 day mi (n :: ns) g) rest g = behind (goDays a2 a3 day mi ns g) rest g := by
  rw [show goDays a2 a3 day mi (n :: ns) g = goDays a2 a3 day mi ns g from if_pos h]
theorem behind_end {a2 a3 day mi n : Int} {ns : List Int} {g : Nat} (rest : Nat → List Int) (h : ¬ n < day) (h2 : endT a2 a3 (n * 1440 + mi) g = true) : behind (goDays a2 a3 day mi (n :: ns) g) rest g = [] := by
  rw [show goDays a2 a3 day mi (n :: ns) g = ([], true) from (if_neg h).trans (if_pos h2)]
  rfl
theorem behind_more {a2 a3 day mi n : Int} {ns : List Int} {g : Nat} (rest : Nat → List Int) (h : ¬ n < day) (h2 : endT a2 a3 (n * 1440 + mi) g = false) : behind (goDays a2 a3 day mi (n :: ns) g) rest g = (n * 1440 + mi) :: behind (goDays a2 a3 day mi ns (g + 1)) rest (g + 1) := by
  rw [show goDays a2 a3 day mi (n :: ns) g = ((n * 1440 + mi) :: (goDays a2 a3 day mi ns (g + 1)).1, (goDays a2 a3 day mi ns (g + 1)).2) from (if_neg h).trans (if_neg (by rw [h2]; simp))]
  unfold behind
  by_cases e : (goDays a2 a3 day mi ns (g + 1)).2 = true
  · rw [if_pos e, if_pos e]
  · rw [if_neg e, if_neg e]
    rw [List.cons_append, List.length_cons]
    congr 3
    omega
theorem goPer_no {DL : Nat → List Int × Bool} {a2 a3 day mi : Int} {f k g : Nat} (h : (DL k).2 = false) : goPer DL a2 a3 day mi (f + 1) k g = [] := if_pos h
theorem goPer_yes {DL : Nat → List Int × Bool} {a2 a3 day mi : Int} {f k g : Nat} (h : (DL k).2 = true) : goPer DL a2 a3 day mi (f + 1) k g = behind (goDays a2 a3 day mi (DL k).1 g) (goPer DL a2 a3 day mi f (k + 1)) g := if_neg (by rw [h]; simp)
theorem goDays_len (a2 a3 day mi : Int) : ∀ (ns : List Int) (g : Nat), (goDays a2 a3 day mi ns g).1.length ≤ ns.length
  | [], _ => Nat.le_refl _
  | n :: ns, g => by
    have h1 := goDays_len a2 a3 day mi ns g
    have h2 := goDays_len a2 a3 day mi ns (g + 1)
    unfold goDays
    split
    · rw [List.length_cons]; omega
    · split
      · exact Nat.zero_le _
      · show (_ :: _).length ≤ _
        rw [List.length_cons, List.length_cons]; omega
theorem goPer_len {DL : Nat → List Int × Bool} {a2 a3 day mi : Int} {B : Nat} (hB : ∀ k, (DL k).1.length ≤ B) : ∀ f k g, (goPer DL a2 a3 day mi f k g).length ≤ B * f
  | 0, _, _ => Nat.zero_le _
  | f + 1, k, g => by
    unfold goPer
    split
    · exact Nat.zero_le _
    · unfold behind
      have h1 := goDays_len a2 a3 day mi (DL k).1 g
      have h2 := hB k
      have h3 := goPer_len (a2 := a2) (a3 := a3) (day := day) (mi := mi) hB f (k + 1) (g + (goDays a2 a3 day mi (DL k).1 g).1.length)
      rw [Nat.mul_succ]
      split
      · omega
      · rw [List.length_append]; omega
theorem rd_drop {L : List Int} {j : Nat} (h : j < L.length) : L.drop j = rd L (j : Int) :: L.drop (j + 1) := by
  rw [List.drop_eq_getElem_cons h]
  congr 1
  unfold rd
  simp [h]
/-- The days of a period, those at the places told; whether there are more. -/
def DLp (a0 a1 a8 : Int) (l4 l7 : List Int) (P : Int → Bool) (day sy sm : Int) (k : Nat) : List Int × Bool :=
  (placesL l7 (periodL a0 a8 l4 P day sy sm ((k : Int) * a1)).1, (periodL a0 a8 l4 P day sy sm ((k : Int) * a1)).2)
/-- The times of a walker from a period on. -/
def timesL (a0 a1 a2 a3 a8 : Int) (l4 l7 : List Int) (P : Int → Bool) (day sy sm mi : Int) (k : Nat) : List Int :=
  goPer (DLp a0 a1 a8 l4 l7 P day sy sm) a2 a3 day mi (111000 - k) k 0
theorem periodL_len (a0 a8 : Int) (l4 : List Int) (P : Int → Bool) (day sy sm st : Int) : (periodL a0 a8 l4 P day sy sm st).1.length ≤ 400 := by
  unfold periodL daysF
  split
  · refine Nat.le_trans (daysL_len _ _ _) ?_
    split <;> omega
  · split
    · refine Nat.le_trans (daysL_len _ _ _) ?_
      split <;> omega
    · split
      · refine Nat.le_trans (monthL_len _ _ _ _ _) ?_
        simp
      · exact Nat.le_trans (yearL_len _ _ _ _) (by omega)
theorem placesL_len (l7 l : List Int) : (placesL l7 l).length ≤ l.length := by
  unfold placesL
  split
  · exact Nat.le_refl _
  · exact placesG_len _ _ _
theorem timesL_len (a0 a1 a2 a3 a8 : Int) (l4 l7 : List Int) (P : Int → Bool) (day sy sm mi : Int) (k : Nat) : (timesL a0 a1 a2 a3 a8 l4 l7 P day sy sm mi k).length ≤ 44400000 := by
  unfold timesL
  refine Nat.le_trans (goPer_len (B := 400) (fun k => Nat.le_trans (placesL_len _ _) (periodL_len _ _ _ _ _ _ _ _)) _ _ _) ?_
  have h : 111000 - k ≤ 111000 := by omega
  exact Nat.le_trans (Nat.mul_le_mul_left 400 h) (by decide)
theorem period_more {a0 a8 : Int} {l4 : List Int} {P : Int → Bool} {day sy sm st : Int} (hd : 0 ≤ day) (hd1 : day ≤ 109938) (hy : 1900 ≤ sy) (hm : 1 ≤ sm) (h : (periodL a0 a8 l4 P day sy sm st).2 = true) : st < 109938 := by
  have hw := wdZ_bd (wdZ day - a8)
  unfold periodL at h
  split at h
  · have := of_decide_eq_true h
    omega
  · split at h
    · have := of_decide_eq_true h
      omega
    · split at h
      · have := of_decide_eq_true h
        omega
      · have := of_decide_eq_true h
        omega
end Go.Proofs.Ytinjbpbpgogdhaa.Own
