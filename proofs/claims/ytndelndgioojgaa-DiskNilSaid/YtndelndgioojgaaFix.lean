import Derived.Test.YtndelndgioojgaaRows
import Derived.WalkKit
import Derived.WalkSpells
import Derived.WalkLawsBesides
import Derived.Laws.CopyOwn
import Derived.Lib.SmallJoins
import Derived.Lib.Hide
import Derived.Deep.QuietTactic
import Derived.BigQuiet
import Derived.Test.YtndelndgioojgaaOwnx1
namespace Go.Proofs.Ytndelndgioojgaa
open Go.RowKit
theorem Try.info5 : (Try.prog.info? 5).map (fun i => (i.zero, i.size, i.bytes)) = some (some (.int .u8 0), 1, 1) := by kernel_rfl
theorem mk4 (w : World) : Sem.run Try.prog (Instr.makeSlice 22 (.int .i64 4) (.int .i64 4)) w = .ok (.slice (some ⟨w.heap.size, 0, none⟩) 4 4) (w.alloc (.cells #[.int .u8 0, .int .u8 0, .int .u8 0, .int .u8 0] 5)) := by kernel_rfl
/-- A block of cells, read and written. -/
theorem blk_cell {w : World} {b : Nat} {cs : Array Value} {t : TypeId} (h : w.heap[b]? = some (.cells cs t (0, 0))) (i : Nat) : w.cell? ⟨b, i, none⟩ = cs[i]? := by simp [World.cell?, h]
theorem blk_frozen {w : World} {b : Nat} {cs : Array Value} {t : TypeId} (h : w.heap[b]? = some (.cells cs t (0, 0))) (i : Nat) : w.frozen? ⟨b, i, none⟩ = false := by simp [World.frozen?, h]
/-- A disk in memory: its own block, what is laid down, what is seen. -/
def DiskAt (w : World) (p S E : Nat) (cs ce : List Value) (wt : Value) (off : Bool) (fuse keep : Int) : Prop :=
  w.heap[p]? = some (.cells #[.slice (some ⟨S, 0, none⟩) 4 4, .slice (some ⟨E, 0, none⟩) 4 4, wt, .bool off, .int .i64 fuse, .int .i64 keep] 36 (0, 0)) ∧
  w.heap[S]? = some (.cells cs.toArray 5 (0, 0)) ∧ w.heap[E]? = some (.cells ce.toArray 5 (0, 0)) ∧ p ≠ S ∧ p ≠ E ∧ S ≠ E
def zs4 : List Value := [.int .u8 0, .int .u8 0, .int .u8 0, .int .u8 0]
theorem push3 (h : Array Obj) (a b c : Obj) : (((h.push a).push b).push c)[h.size]? = some a ∧ (((h.push a).push b).push c)[h.size + 1]? = some b ∧ (((h.push a).push b).push c)[h.size + 1 + 1]? = some c := by
  simp only [Array.getElem?_push, Array.size_push]
  refine ⟨?_, ?_, ?_⟩
  · rw [if_neg (by omega), if_neg (by omega), if_pos trivial]
  · rw [if_neg (by omega), if_pos trivial]
  · rw [if_pos trivial]
def New4Post (w : World) (e : Ending) (w' : World) : Prop := ∃ p S E : Nat, e = .returned (.pointer (some ⟨p, 0, none⟩)) ∧ DiskAt w' p S E zs4 zs4 (.slice none 0 0) false (-1) 0 ∧ w.heap.size ≤ p ∧ w.heap.size ≤ S ∧ w.heap.size ≤ E ∧ Below w.heap.size w w'
theorem set_other {w : World} {b : Nat} {o : Option Obj} (h : w.heap[b]? = o) (a : Addr) (v : Value) (hne : b ≠ a.block) : (w.setCell a v).heap[b]? = o := (heap_setCell_other w a b v hne).trans h
set_option maxHeartbeats 1000000 in
theorem new_4 (w : World) : Calls Try.prog 15 #[.int .i64 4] w (New4Post w) := by
  have hmk := mk4
  go_enter Try.func15, Try.ntmps15
  go_wp2
  go_region
  · go_wp2
    go_ret
    refine ⟨_, w.heap.size, w.heap.size + 1, rfl, ⟨?_, ?_, ?_, by omega, by omega, by omega⟩, by omega, by omega, by omega, ?_⟩
    · exact (push3 w.heap _ _ _).2.2
    · exact (push3 w.heap _ _ _).1
    · exact (push3 w.heap _ _ _).2.1
    · exact (((((Below.refl _ _).alloc (Nat.le_refl _) _).alloc (by simp) _).alloc (by simp; omega) _)).drew
  · go_wp2
    go_ret
    refine ⟨_, w.heap.size + 1, w.heap.size, rfl, ⟨?_, ?_, ?_, by omega, by omega, by omega⟩, by omega, by omega, by omega, ?_⟩
    · exact (push3 w.heap _ _ _).2.2
    · exact (push3 w.heap _ _ _).2.1
    · exact (push3 w.heap _ _ _).1
    · exact (((((Below.refl _ _).alloc (Nat.le_refl _) _).alloc (by simp) _).alloc (by simp; omega) _)).drew
theorem on_at {p : Nat} {off : Bool} (w : World) (h3 : w.cell? ⟨p, 3, none⟩ = some (.bool off)) : Calls Try.prog 10 #[.pointer (some ⟨p, 0, none⟩)] w fun e w' => e = .returned (.bool (!off)) ∧ w = w' := by
  go_enter Try.func10, Try.ntmps10
  go_wp2
  go_ret
  exact ⟨rfl, rfl⟩
theorem in_at {p n c : Nat} {S : Option Addr} (w : World) (a k : Int) (h0 : w.cell? ⟨p, 0, none⟩ = some (.slice S n c)) (ha : 0 ≤ a) (hk : 0 ≤ k) (hn : a ≤ n) (hm : a + k ≤ n) (hx : n ≤ 1000000) :
    Calls Try.prog 13 #[.pointer (some ⟨p, 0, none⟩), .int .i64 a, .int .i64 k] w fun e w' => e = .returned (.bool true) ∧ w = w' := by
  have hm' : k ≤ (n : Int) - a := by omega
  go_enter Try.func13, Try.ntmps13
  go_wp2
  go_ret
  exact ⟨rfl, rfl⟩
theorem back_at {p S E : Nat} {cs ce : List Value} {wt : Value} {off : Bool} {f k : Int} (w : World) (h : DiskAt w p S E cs ce wt off f k) (B : Nat) (hB : B ≤ p) :
    Calls Try.prog 6 #[.pointer (some ⟨p, 0, none⟩)] w fun e w' => e = .returned (.tuple #[]) ∧ DiskAt w' p S E cs ce wt false (-1) k ∧ Below B w w' := by
  obtain ⟨hp, hS, hE, n1, n2, n3⟩ := h
  have c3 := blk_cell hp 3
  have c4 := blk_cell hp 4
  have f3 := blk_frozen hp 3
  have f4 := blk_frozen hp 4
  simp at c3 c4
  have HP := Lib.hid hp
  have HS := Lib.hid hS
  have HE := Lib.hid hE
  clear hp hS hE
  go_enter Try.func6, Try.ntmps6
  go_wp2
  go_end0
  refine ⟨rfl, ⟨?_, ?_, ?_, n1, n2, n3⟩, ((Below.refl _ _).setCell hB _).setCell hB _⟩
  · have := Go.Joins.block_setCell (Go.Joins.block_setCell HP.out (i := 3) (.bool false)) (i := 4) (.int .i64 (-1))
    simpa using this
  · exact set_other (set_other HS.out _ _ (fun h => n1 h.symm)) _ _ (fun h => n1 h.symm)
  · exact set_other (set_other HE.out _ _ (fun h => n2 h.symm)) _ _ (fun h => n2 h.symm)
end Go.Proofs.Ytndelndgioojgaa
