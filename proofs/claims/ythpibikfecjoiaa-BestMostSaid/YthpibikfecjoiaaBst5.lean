import Derived.Test.YthpibikfecjoiaaBst4
import Derived.Deep.OwnRows
namespace Go.Proofs.Ythpibikfecjoiaa.Own
open Go.RowKit Go.Proofs.YthpibikfecjoiaaW.PrintWords Go.Proofs.YthpibikfecjoiaaW.PrintLast Go.Proofs.YthpibikfecjoiaaW.PrintMore
set_option linter.unusedVariables false
set_option linter.unusedSimpArgs false
/-- Is one of the rows (a, b)? -/
def pairIn (l : List S39) (a b : Int) : Bool := l.any fun x => a == x.f0 && b == x.f1
def nbP (l : List S39) (a b : Int) : Bool := pairIn l a b || pairIn l b a
theorem idx_f (l : List S39) (a b : Int) (hl : l.length ≤ 1000000) (n : Nat) : ∀ (k i : Nat), n + 1 ≤ k → i ≤ l.length → l.length - i = n → ∃ r, api_Pair_25.l0 k l (l.length : Int) (i : Int) a b = some r ∧ decide (r ≥ 0) = (l.drop i).any fun x => a == x.f0 && b == x.f1 := by
  induction n with
  | zero =>
    intro k i hk hi hn
    obtain ⟨k, rfl⟩ : ∃ k', k = k' + 1 := ⟨k - 1, by omega⟩
    refine ⟨-1, ?_, ?_⟩
    · rw [api_Pair_25.l0, if_neg (by omega)]
    · rw [List.drop_eq_nil_of_le (by omega)]; rfl
  | succ n ih =>
    intro k i hk hi hn
    obtain ⟨k, rfl⟩ : ∃ k', k = k' + 1 := ⟨k - 1, by omega⟩
    have hil : i < l.length := by omega
    have er : rd_T39 l (i : Int) = l[i] := by
      unfold rd_T39
      rw [Int.toNat_natCast, List.getD_eq_getElem?_getD, List.getElem?_eq_getElem hil]
      rfl
    rw [api_Pair_25.l0, if_pos (by omega), if_pos (by omega), if_pos (by omega), er, List.drop_eq_getElem_cons hil, List.any_cons]
    by_cases c : (a == l[i].f0 && b == l[i].f1) = true
    · rw [if_pos c]
      exact ⟨_, rfl, by rw [c, decide_eq_true (by omega)]; rfl⟩
    · rw [if_neg c, show wrap64 ((i : Int) + 1) = ((i + 1 : Nat) : Int) from by unfold wrap64; omega]
      obtain ⟨r, h1, h2⟩ := ih k (i + 1) (by omega) (by omega) (by omega)
      refine ⟨r, h1, ?_⟩
      rw [h2, show (a == l[i].f0 && b == l[i].f1) = false from by simpa using c, Bool.false_or]
theorem in_f (l : List S39) (a b : Int) (hl : l.length ≤ 1000000) : api_Pair_22.f (l.length + 1) l a b = some (pairIn l a b) := by
  obtain ⟨r, h1, h2⟩ := idx_f l a b hl l.length (l.length + 1) 0 (by omega) (by omega) (by omega)
  unfold api_Pair_22.f api_Pair_25.f pairIn
  rw [show (0 : Int) = ((0 : Nat) : Int) from rfl, h1]
  simp only [Option.bind_some]
  rw [List.drop_zero] at h2
  rw [← h2]
  rfl
theorem not_f (l : List S39) (hl : l.length ≤ 1000000) (a b : Int) : best_not.f (l.length + 1) l a b = some (nbP l a b) := by
  unfold best_not.f nbP
  rw [in_f l a b hl, in_f l b a hl]
  simp only [Option.bind_some]
  cases pairIn l a b <;> simp
theorem info3_ : (Try.prog.info? 3).map (fun i => (i.zero, i.size, i.bytes)) = some (some (.int .i64 0), 1, 8) := by kernel_rfl
theorem info4_ : (Try.prog.info? 4).map (fun i => (i.zero, i.size, i.bytes)) = some (some (.bool false), 1, 1) := by kernel_rfl
theorem made_eq {α : Type} (enc : α → Value) (z : α) (n : Nat) : madeCells #[enc z] n = ((List.replicate n z).map enc).toArray := by
  apply Array.ext
  · simp [madeCells]
  · intro i h1 h2
    simp [madeCells, Nat.mod_one]
/-- The three new blocks of Choose lie there, whichever row was made first. -/
theorem push3 (h : Array Obj) (a b c : Obj) : (((h.push a).push b).push c)[h.size]? = some a ∧ (((h.push a).push b).push c)[h.size + 1]? = some b ∧ (((h.push a).push b).push c)[h.size + 1 + 1]? = some c := by
  simp only [Array.getElem?_push, Array.size_push]
  refine ⟨?_, ?_, ?_⟩
  · rw [if_neg (by omega), if_neg (by omega), if_pos trivial]
  · rw [if_neg (by omega), if_pos trivial]
  · rw [if_pos trivial]
theorem R_setRow {w0 w : World} {C : Nat} {cs row : Array Value} {ok : Nat → Prop} {v : Value} {xs : List Int} (h : Kd.R (Kd.int .u32) 31 w w0.heap.size ok v xs) (hC : w.heap[C]? = some (.cells cs 4 (0, 0))) : Kd.R (Kd.int .u32) 31 (w.setRow C row) w0.heap.size ok v xs := by
  have ho := Kd.own_of_R h
  refine Kd.R_of_own ⟨ho.1, ?_⟩ h.1
  rcases ho.2 with h2 | ⟨g, cap, cur, rfl, hg, hh, r⟩
  · exact .inl h2
  · exact .inr ⟨g, cap, cur, rfl, hg, (setRow_other w C g _ (ne_type hh hC (by decide))).trans hh, r⟩
def canP (n : Nat) (can : List Bool) : List Bool := (List.range n).map fun i => can.getD i false
theorem canP_none {n : Nat} {can : List Bool} (h : Nat.min can.length n = 0) : canP n can = List.replicate n false := by
  rcases Nat.min_eq_zero_iff.1 h with e | e
  · obtain rfl := List.eq_nil_of_length_eq_zero e
    unfold canP
    apply List.ext_getElem
    · simp
    · intro i h1 h2; simp
  · subst e; rfl
theorem canP_row (n : Nat) (can : List Bool) : ((((List.replicate n false).map Value.bool).toArray.toList.take 0 ++ ((can.take n).map Value.bool ++ ((List.replicate n false).map Value.bool).toArray.toList.drop (0 + ((can.take n).map Value.bool).length)))).toArray = ((canP n can).map Value.bool).toArray := by
  congr 1
  apply List.ext_getElem?
  intro i
  simp only [List.take_zero, List.nil_append, Nat.zero_add, List.length_map, List.length_take]
  unfold canP
  by_cases h1 : i < n
  · by_cases h2 : i < can.length
    · rw [List.getElem?_append_left (by simp; omega)]
      simp [h1, h2]
    · rw [List.getElem?_append_right (by simp; omega)]
      simp [h1, h2]
      rw [List.getElem?_replicate, if_pos (by omega)]
  · rw [List.getElem?_eq_none (by simp; omega), List.getElem?_eq_none (by simp; omega)]
theorem Mem.setC {w0 w : World} {p C R : Nat} {cs : Array Value} {can : List Bool} {rest now us : List Int} {nv uv : Value} (h : Mem w0 w p C R cs can rest now us nv uv) (hC : w0.heap.size ≤ C) (can' : List Bool) (row : Array Value) (e : row = (can'.map Value.bool).toArray) :
    Mem w0 (w.setRow C row) p C R cs can' rest now us nv uv := by
  subst e
  have lt : ∀ {b : Nat} {o : Obj}, w.heap[b]? = some o → b < w.heap.size := fun h => (Array.getElem?_eq_some_iff.1 h).1
  exact ⟨(setRow_other w C p _ (ne_type h.hp h.hC (by decide))).trans h.hp, setRow_heap w C _ _ 4 (0, 0) h.hC, (setRow_other w C R _ (ne_type h.hR h.hC (by decide))).trans h.hR,
    R_setRow h.hn h.hC, R_setRow h.hu h.hC, below_setRow h.hb hC _, h.np⟩
/-- What those from a place on count who can come. -/
def rF (l : List S33) (can : List Bool) : Nat → Nat → Int
  | 0, _ => 0
  | m + 1, i => if can.getD i false = true then wrap64 (rF l can m (i + 1) + wt (rd_T33 l (i : Int))) else rF l can m (i + 1)
def restRow (l : List S33) (can : List Bool) (s : Nat) : List Int := (List.range (l.length + 1)).map fun t => if s ≤ t then rF l can (l.length - t) t else 0
theorem restRow_n {l : List S33} {can : List Bool} {s : Nat} (h : l.length ≤ s) : restRow l can s = List.replicate (l.length + 1) 0 := by
  unfold restRow
  apply List.ext_getElem
  · simp
  · intro i h1 h2
    simp only [List.length_map, List.length_range] at h1
    simp only [List.getElem_map, List.getElem_range, List.getElem_replicate]
    by_cases c : s ≤ i
    · rw [if_pos c, show l.length - i = 0 from by omega]; rfl
    · rw [if_neg c]
theorem restRow_len (l : List S33) (can : List Bool) (s : Nat) : (restRow l can s).length = l.length + 1 := by simp [restRow]
theorem canP_len (n : Nat) (can : List Bool) : (canP n can).length = n := by simp [canP]
theorem ne31 : ∀ q, q ∈ 31 :: (Kd.int .u32).E → q ≠ 28 := by
  intro q hq
  have : q = 31 := by simpa [Kd.int, Kd.scalar] using hq
  subst this
  decide
def ChoosePost (w : World) (st : BSt) (e : Ending) (w' : World) : Prop := ∃ v1_ : Value, e = .returned (.agg #[.int .i64 st.bw, v1_, .int .i64 st.vis]) ∧ Kd.R (Kd.int .u32) 31 w' w.heap.size (fun _ => True) v1_ st.us ∧ Below w.heap.size w w'
theorem restRow_at {l : List S33} {can : List Bool} {s i : Nat} (h : s ≤ i) (hi : i ≤ l.length) : ((restRow l can s).map (Value.int .i64)).toArray[i]? = some (.int .i64 (rF l can (l.length - i) i)) := by
  unfold restRow
  simp [show i < l.length + 1 from by omega, h]
theorem row_get {rest : List Int} {n i : Nat} (h : rest.length = n) (hi : i < n) : (rest.map (Value.int .i64)).toArray[i]? = some (.int .i64 (rest.getD i 0)) := by
  rw [List.getD_eq_getElem?_getD, List.getElem?_eq_getElem (by omega)]
  simp [show i < rest.length from by omega]
theorem Mem.storeR {w0 w : World} {p C R : Nat} {cs : Array Value} {can : List Bool} {rest now us : List Int} {nv uv : Value} (h : Mem w0 w p C R cs can rest now us nv uv) (hR : w0.heap.size ≤ R) (j : Nat) (v : Int) :
    Mem w0 (w.setCell ⟨R, j, none⟩ (.int .i64 v)) p C R cs can (rest.set j v) now us nv uv := by
  have h3 : ∀ q, q ∈ 31 :: (Kd.int .u32).E → q ≠ 3 := by
    intro q hq
    have : q = 31 := by simpa [Kd.int, Kd.scalar] using hq
    subst this
    decide
  refine ⟨set_other h.hp _ _ (ne_type h.hp h.hR (by decide)), set_other h.hC _ _ (ne_type h.hC h.hR (by decide)), ?_, Kd.R_set h.hn h.hR h3 j _, Kd.R_set h.hu h.hR h3 j _, h.hb.setCell hR _, h.np⟩
  have := Go.Joins.block_setCell h.hR (i := j) (.int .i64 v)
  rw [this]
  congr 2
  simp [List.map_set]
theorem restRow_set {l : List S33} {can : List Bool} {t : Nat} {v : Int} (h : v = rF l can (l.length - t) t) (ht : t < l.length) : (restRow l can (t + 1)).set t v = restRow l can t := by
  subst h
  unfold restRow
  apply List.ext_getElem
  · simp
  · intro i h1 h2
    simp only [List.length_map, List.length_range] at h2
    rw [List.getElem_set]
    simp only [List.getElem_map, List.getElem_range]
    by_cases c : t = i
    · subst c; rw [if_pos rfl, if_pos (Nat.le_refl _)]
    · rw [if_neg c]
      by_cases c2 : t + 1 ≤ i
      · rw [if_pos c2, if_pos (by omega)]
      · rw [if_neg c2, if_neg (by omega)]
theorem rF_false {l : List S33} {can : List Bool} {t : Nat} (h : can.getD t false = false) (ht : t < l.length) : rF l can (l.length - (t + 1)) (t + 1) = rF l can (l.length - t) t := by
  rw [show l.length - t = (l.length - (t + 1)) + 1 from by omega]
  conv => rhs; unfold rF
  rw [h, if_neg (by simp)]
theorem restRow_set_false {l : List S33} {can : List Bool} {t : Nat} (h : can.getD t false = false) (ht : t < l.length) : (restRow l can (t + 1)).set t (rF l can (l.length - (t + 1)) (t + 1)) = restRow l can t := restRow_set (rF_false h ht) ht
theorem int_pred {n : Nat} (h : 0 < n) : Value.int .i64 ((n : Int) - 1) = .int .i64 ((n - 1 : Nat) : Int) := by
  congr 1; omega
def RestRel (w1 : World) (lA : Option Addr) (n lc : Nat) (seats : Int) (aA : Option Addr) (an ac p C R : Nat) (l : List S33) (can : List Bool) (v : Value) (wd : World) : Prop :=
  (∃ t : Nat, t < l.length ∧ v = .int .i64 t ∧ Hid (Mem w1 wd p C R (scells lA n lc C seats aA an ac R (.slice none 0 0) 0 (.slice none 0 0) 0 false) (canP l.length can) (restRow l (canP l.length can) (t + 1)) [] [] (.slice none 0 0) (.slice none 0 0))) ∨
  (v = .int .i64 (-1) ∧ Hid (Mem w1 wd p C R (scells lA n lc C seats aA an ac R (.slice none 0 0) 0 (.slice none 0 0) 0 false) (canP l.length can) (restRow l (canP l.length can) 0) [] [] (.slice none 0 0) (.slice none 0 0)))
def Start (w : World) (lA : Option Addr) (n lc : Nat) (seats : Int) (aA : Option Addr) (an ac : Nat) (v9 : Value) (wc : World) : Prop :=
  ∃ p C R : Nat, v9 = .pointer (some ⟨p, 0, none⟩) ∧ Mem w wc p C R (scells lA n lc C seats aA an ac R (.slice none 0 0) 0 (.slice none 0 0) 0 false) (List.replicate n false) (List.replicate (n + 1) 0) [] [] (.slice none 0 0) (.slice none 0 0) ∧ w.heap.size ≤ C ∧ w.heap.size ≤ R
/-- A piece of a function's code: the region, or block, of a number. -/
def regC (k : Nat) : Code → Option Code
  | .region id ops d => if id = k then some (.region id ops d) else none
  | .seq a b => match regC k a with
    | some c => some c
    | none => regC k b
  | .cond _ a b => match regC k a with
    | some c => some c
    | none => regC k b
  | .block _ c => regC k c
  | .scope c => regC k c
  | .loop c => regC k c
  | _ => none
def blkC (k : Nat) : Code → Option Code
  | .seq a b => match blkC k a with
    | some c => some c
    | none => blkC k b
  | .cond _ a b => match blkC k a with
    | some c => some c
    | none => blkC k b
  | .block id c => if id = k then some (.block id c) else blkC k c
  | .scope c => blkC k c
  | .loop c => blkC k c
  | _ => none
noncomputable def ch7 : Code := (Try.f8.body.bind (regC 7)).getD .skip
noncomputable def ch9 : Code := (Try.f8.body.bind (regC 9)).getD .skip
noncomputable def chB1 : Code := (Try.f8.body.bind (blkC 1)).getD .skip
end Go.Proofs.Ythpibikfecjoiaa.Own
