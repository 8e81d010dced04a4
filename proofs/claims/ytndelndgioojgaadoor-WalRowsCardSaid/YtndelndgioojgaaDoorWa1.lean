import Derived.Test.YtndelndgioojgaaDoorOwnx1
import Derived.Laws.CopyOwn
import Derived.Lib.SmallJoins
import Derived.Lib.Hide
import Derived.Deep.QuietTactic
import Derived.BigQuiet
namespace Go.Proofs.YtndelndgioojgaaDoor.Own
open Go.RowKit Go.Proofs.YtndelndgioojgaaDoorW.PrintWords Go.Proofs.YtndelndgioojgaaDoorW.PrintLast Go.Proofs.YtndelndgioojgaaDoorW.PrintMore
set_option linter.unusedVariables false
set_option linter.unusedSimpArgs false
/-- A block of cells, read and written. -/
theorem blk_cell {w : World} {b : Nat} {cs : Array Value} {t : TypeId} (h : w.heap[b]? = some (.cells cs t (0, 0))) (i : Nat) : w.cell? ⟨b, i, none⟩ = cs[i]? := by simp [World.cell?, h]
theorem blk_frozen {w : World} {b : Nat} {cs : Array Value} {t : TypeId} (h : w.heap[b]? = some (.cells cs t (0, 0))) (i : Nat) : w.frozen? ⟨b, i, none⟩ = false := by simp [World.frozen?, h]
theorem set_other {w : World} {b : Nat} {o : Option Obj} (h : w.heap[b]? = o) (a : Addr) (v : Value) (hne : b ≠ a.block) : (w.setCell a v).heap[b]? = o := (heap_setCell_other w a b v hne).trans h
theorem keep_below {w w' : World} {b : Nat} {o : Obj} (hb : Below w.heap.size w w') (h : w.heap[b]? = some o) : w'.heap[b]? = some o :=
  (hb.block b (Array.getElem?_eq_some_iff.1 h).1).trans h
theorem keep_alloc {w : World} {b : Nat} {o : Obj} (h : w.heap[b]? = some o) (x : Obj) : (w.alloc x).heap[b]? = some o := by
  have hlt := (Array.getElem?_eq_some_iff.1 h).1
  show (w.heap.push x)[b]? = _
  rw [Array.getElem?_push, if_neg (by omega), h]
theorem ne_type {w : World} {a b : Nat} {ca cb : Array Value} {ta tb : TypeId} (ha : w.heap[a]? = some (.cells ca ta (0, 0))) (hb : w.heap[b]? = some (.cells cb tb (0, 0))) (h : ta ≠ tb) : a ≠ b := by
  intro e
  rw [e, hb] at ha
  simp only [Option.some.injEq, Obj.cells.injEq] at ha
  exact h ha.2.1.symm
theorem heap_lt {w : World} {b : Nat} {o : Obj} (h : w.heap[b]? = some o) : b < w.heap.size := (Array.getElem?_eq_some_iff.1 h).1
theorem alloc_blk (w : World) (cs : Array Value) (t : TypeId) : (w.alloc (.cells cs t)).heap[w.heap.size]? = some (.cells cs t (0, 0)) := by
  show (w.heap.push _)[w.heap.size]? = _
  simp
theorem alloc_size (w : World) (o : Obj) : (w.alloc o).heap.size = w.heap.size + 1 := by
  show (w.heap.push _).size = _
  simp
theorem push3 (h : Array Obj) (a b c : Obj) : (((h.push a).push b).push c)[h.size]? = some a ∧ (((h.push a).push b).push c)[h.size + 1]? = some b ∧ (((h.push a).push b).push c)[h.size + 1 + 1]? = some c := by
  simp only [Array.getElem?_push, Array.size_push]
  refine ⟨?_, ?_, ?_⟩
  · rw [if_neg (by omega), if_neg (by omega), if_pos trivial]
  · rw [if_neg (by omega), if_pos trivial]
  · rw [if_pos trivial]
theorem below_new_ {w : World} {o : Obj} : Below w.heap.size w (w.alloc o) := (Below.refl _ _).alloc (Nat.le_refl _) o
theorem cell_eq {a : Option Value} {o : Option Value} {b : Value} (h : a = o) (e : o = some b) : a = some b := h.trans e
/-- Bytes, as cells. -/
def bytes (bs : List Int) : Array Value := (bs.map (Value.int .u8)).toArray
theorem bytes_get {bs : List Int} {i : Nat} (h : i < bs.length) : (bytes bs)[i]? = some (.int .u8 (bs.getD i 0)) := by
  unfold bytes
  rw [List.getD_eq_getElem?_getD, List.getElem?_eq_getElem h]
  simp [h]
theorem bytes_size (bs : List Int) : (bytes bs).size = bs.length := by simp [bytes]
theorem made_bytes (n : Nat) : madeCells #[Value.int .u8 0] n = bytes (List.replicate n 0) := by
  apply Array.ext
  · simp [madeCells, bytes]
  · intro i h1 h2
    simp [madeCells, bytes, Nat.mod_one]
/-- Bytes laid over others from a place on. -/
def splice (bs : List Int) (at' : Nat) (b : List Int) : List Int := bs.take at' ++ (b ++ bs.drop (at' + b.length))
theorem splice_len {bs : List Int} {at' : Nat} {b : List Int} (h : at' + b.length ≤ bs.length) : (splice bs at' b).length = bs.length := by
  unfold splice
  simp only [List.length_append, List.length_take, List.length_drop]
  omega
theorem splice_cells (bs : List Int) (at' : Nat) (b : List Int) : ((bytes bs).toList.take at' ++ (b.map (Value.int .u8) ++ (bytes bs).toList.drop (at' + (b.map (Value.int .u8)).length))).toArray = bytes (splice bs at' b) := by
  unfold bytes splice
  simp [List.map_append, List.map_take, List.map_drop]
/-- A disk in memory: its own block, what is laid down, what is seen; the writes that wait; w0: the world ahead. -/
structure Dm (w0 w : World) (p S E n : Nat) (sure seen : List Int) (wv : Value) (off : Bool) (fuse keep : Int) : Prop where
  hp : w.heap[p]? = some (.cells #[.slice (some ⟨S, 0, none⟩) n n, .slice (some ⟨E, 0, none⟩) n n, wv, .bool off, .int .i64 fuse, .int .i64 keep] 54 (0, 0))
  hS : w.heap[S]? = some (.cells (bytes sure) 5 (0, 0))
  hE : w.heap[E]? = some (.cells (bytes seen) 5 (0, 0))
  lS : sure.length = n
  lE : seen.length = n
  hb : Below w0.heap.size w0 w
  np : w0.heap.size ≤ p
  nS : w0.heap.size ≤ S
  nE : w0.heap.size ≤ E
  SE : S ≠ E
  hn : n ≤ 4194304
variable {w0 w w1 : World} {p S E n : Nat} {sure seen : List Int} {wv : Value} {off : Bool} {fuse keep : Int}
theorem Dm.pS (h : Dm w0 w p S E n sure seen wv off fuse keep) : p ≠ S := ne_type h.hp h.hS (by decide)
theorem Dm.pE (h : Dm w0 w p S E n sure seen wv off fuse keep) : p ≠ E := ne_type h.hp h.hE (by decide)
/-- What a disk's call writes of the blocks that are there. -/
def DS (p S E k : Nat) : Prop := k = p ∨ k = S ∨ k = E
theorem Dm.below (h : Dm w0 w p S E n sure seen wv off fuse keep) (hb : Below w.heap.size w w1) : Dm w0 w1 p S E n sure seen wv off fuse keep :=
  ⟨keep_below hb h.hp, keep_below hb h.hS, keep_below hb h.hE, h.lS, h.lE, h.hb.trans (hb.mono h.hb.size), h.np, h.nS, h.nE, h.SE, h.hn⟩
theorem Dm.set2 (h : Dm w0 w p S E n sure seen wv off fuse keep) (u : Value) : Dm w0 (w.setCell ⟨p, 2, none⟩ u) p S E n sure seen u off fuse keep :=
  ⟨by simpa using Go.Joins.block_setCell h.hp (i := 2) u, set_other h.hS _ _ h.pS.symm, set_other h.hE _ _ h.pE.symm, h.lS, h.lE, h.hb.setCell h.np u, h.np, h.nS, h.nE, h.SE, h.hn⟩
theorem Dm.set3 (h : Dm w0 w p S E n sure seen wv off fuse keep) (b : Bool) : Dm w0 (w.setCell ⟨p, 3, none⟩ (.bool b)) p S E n sure seen wv b fuse keep :=
  ⟨by simpa using Go.Joins.block_setCell h.hp (i := 3) (.bool b), set_other h.hS _ _ h.pS.symm, set_other h.hE _ _ h.pE.symm, h.lS, h.lE, h.hb.setCell h.np _, h.np, h.nS, h.nE, h.SE, h.hn⟩
theorem Dm.set4 (h : Dm w0 w p S E n sure seen wv off fuse keep) (f : Int) : Dm w0 (w.setCell ⟨p, 4, none⟩ (.int .i64 f)) p S E n sure seen wv off f keep :=
  ⟨by simpa using Go.Joins.block_setCell h.hp (i := 4) (.int .i64 f), set_other h.hS _ _ h.pS.symm, set_other h.hE _ _ h.pE.symm, h.lS, h.lE, h.hb.setCell h.np _, h.np, h.nS, h.nE, h.SE, h.hn⟩
theorem Dm.set5 (h : Dm w0 w p S E n sure seen wv off fuse keep) (f : Int) : Dm w0 (w.setCell ⟨p, 5, none⟩ (.int .i64 f)) p S E n sure seen wv off fuse f :=
  ⟨by simpa using Go.Joins.block_setCell h.hp (i := 5) (.int .i64 f), set_other h.hS _ _ h.pS.symm, set_other h.hE _ _ h.pE.symm, h.lS, h.lE, h.hb.setCell h.np _, h.np, h.nS, h.nE, h.SE, h.hn⟩
theorem Dm.copyE (h : Dm w0 w p S E n sure seen wv off fuse keep) (s : List Int) (hs : s.length = n) : Dm w0 (w.setRow E (bytes s)) p S E n sure s wv off fuse keep :=
  ⟨(setRow_other w E p _ h.pE).trans h.hp, (setRow_other w E S _ h.SE).trans h.hS, setRow_heap w E _ _ 5 (0, 0) h.hE, h.lS, hs, below_setRow h.hb h.nE _, h.np, h.nS, h.nE, h.SE, h.hn⟩
theorem Dm.copyS (h : Dm w0 w p S E n sure seen wv off fuse keep) (s : List Int) (hs : s.length = n) : Dm w0 (w.setRow S (bytes s)) p S E n s seen wv off fuse keep :=
  ⟨(setRow_other w S p _ h.pS).trans h.hp, setRow_heap w S _ _ 5 (0, 0) h.hS, (setRow_other w S E _ h.SE.symm).trans h.hE, hs, h.lE, below_setRow h.hb h.nS _, h.np, h.nS, h.nE, h.SE, h.hn⟩
theorem Dm.kept (h : Dm w0 w p S E n sure seen wv off fuse keep) {X : Nat → Prop} (hk : Kept w w1 X) (hb : Below w0.heap.size w0 w1) (hx : ∀ k, X k → k ≠ p ∧ k ≠ S ∧ k ≠ E) : Dm w0 w1 p S E n sure seen wv off fuse keep :=
  ⟨blk_kept h.hp hk (fun hp => (hx _ hp).1 rfl), blk_kept h.hS hk (fun hp => (hx _ hp).2.1 rfl), blk_kept h.hE hk (fun hp => (hx _ hp).2.2 rfl), h.lS, h.lE, hb, h.np, h.nS, h.nE, h.SE, h.hn⟩
theorem kept_setRow {X : Nat → Prop} {g : Nat} (h : Kept w w1 X) (hg : X g) (row : Array Value) : Kept w (w1.setRow g row) X :=
  h.then_ (S2 := fun k => k = g) ⟨by rw [setRow_size]; exact Nat.le_refl _, fun i _ hn => setRow_other w1 g i row hn⟩ (fun k hk => by rw [hk]; exact .inl hg)
theorem info5_ : (Tryd.prog.info? 5).map (fun i => (i.zero, i.size, i.bytes)) = some (some (.int .u8 0), 1, 1) := by kernel_rfl
/-! ### disk.New, Size, On, in -/
def NewPost (w0 w : World) (n : Nat) (e : Ending) (w' : World) : Prop := ∃ p S E : Nat, e = .returned (.pointer (some ⟨p, 0, none⟩)) ∧ Dm w0 w' p S E n (List.replicate n 0) (List.replicate n 0) (.slice none 0 0) false (-1) 0 ∧ Below w.heap.size w w' ∧ w.heap.size ≤ p ∧ w.heap.size ≤ S ∧ w.heap.size ≤ E
set_option maxHeartbeats 1000000 in
set_option maxRecDepth 100000 in
theorem new_any (w0 w : World) (hb0 : Below w0.heap.size w0 w) (n : Nat) (hn : n ≤ 4194304) : Calls Tryd.prog 7 #[.int .i64 n] w (NewPost w0 w n) := by
  have hmk := fun w => run_make_row' (P := Tryd.prog) 23 5 (.int .u8 0) 1 Tryd.underlying23 info5_ rfl .i64 .i64 n (by omega) (by omega) w
  have HB0 := Lib.hid hb0
  have hsz := hb0.size
  clear hb0
  have hn0 : (n : Int) ≤ 4194304 := by omega
  go_enter Tryd.func7, Tryd.ntmps7
  go_wp2
  go_region
  · go_wp2
    go_ret
    refine ⟨w.heap.size + 1 + 1, w.heap.size, w.heap.size + 1, rfl, ⟨(push3 w.heap _ _ _).2.2, ?_, ?_, by simp, by simp, ?_, by omega, by omega, by omega, by omega, hn⟩, ?_, by omega, by omega, by omega⟩
    · rw [← made_bytes]; exact (push3 w.heap _ _ _).1
    · rw [← made_bytes]; exact (push3 w.heap _ _ _).2.1
    · exact (((HB0.out.alloc hsz _).alloc (by simp; omega) _).alloc (by simp; omega) _).drew
    · exact (((((Below.refl _ _).alloc (Nat.le_refl _) _).alloc (by simp) _).alloc (by simp; omega) _)).drew
  · go_wp2
    go_ret
    refine ⟨w.heap.size + 1 + 1, w.heap.size + 1, w.heap.size, rfl, ⟨(push3 w.heap _ _ _).2.2, ?_, ?_, by simp, by simp, ?_, by omega, by omega, by omega, by omega, hn⟩, ?_, by omega, by omega, by omega⟩
    · rw [← made_bytes]; exact (push3 w.heap _ _ _).2.1
    · rw [← made_bytes]; exact (push3 w.heap _ _ _).1
    · exact (((HB0.out.alloc hsz _).alloc (by simp; omega) _).alloc (by simp; omega) _).drew
    · exact (((((Below.refl _ _).alloc (Nat.le_refl _) _).alloc (by simp) _).alloc (by simp; omega) _)).drew
theorem on_any {p : Nat} {off : Bool} (w : World) (h3 : w.cell? ⟨p, 3, none⟩ = some (.bool off)) : Calls Tryd.prog 16 #[.pointer (some ⟨p, 0, none⟩)] w fun e w' => e = .returned (.bool (!off)) ∧ w = w' := by
  go_enter Tryd.func16, Tryd.ntmps16
  go_wp2
  go_ret
  exact ⟨rfl, rfl⟩
theorem size_any {p n : Nat} {A : Option Addr} {c : Nat} (w : World) (h0 : w.cell? ⟨p, 0, none⟩ = some (.slice A n c)) : Calls Tryd.prog 20 #[.pointer (some ⟨p, 0, none⟩)] w fun e w' => e = .returned (.int .i64 n) ∧ w = w' := by
  go_enter Tryd.func20, Tryd.ntmps20
  go_wp2
  go_ret
  exact ⟨rfl, rfl⟩
theorem in_any {p n c : Nat} {S : Option Addr} (w : World) (a k : Int) (h0 : w.cell? ⟨p, 0, none⟩ = some (.slice S n c)) (ha : 0 ≤ a) (hk : 0 ≤ k) (hm : a + k ≤ n) (hx : n ≤ 4194304) :
    Calls Tryd.prog 36 #[.pointer (some ⟨p, 0, none⟩), .int .i64 a, .int .i64 k] w fun e w' => e = .returned (.bool true) ∧ w = w' := by
  have hn : a ≤ n := by omega
  have hm' : k ≤ (n : Int) - a := by omega
  go_enter Tryd.func36, Tryd.ntmps36
  go_wp2
  go_ret
  exact ⟨rfl, rfl⟩
theorem back_any {p : Nat} (w : World) (h : Dm w0 w p S E n sure seen wv off fuse keep) :
    Calls Tryd.prog 33 #[.pointer (some ⟨p, 0, none⟩)] w fun e w' => e = .returned (.tuple #[]) ∧ Dm w0 w' p S E n sure seen wv false (-1) keep ∧ Kept w w' (DS p S E) := by
  have c3 := cell_eq (blk_cell h.hp 3) rfl
  have c4 := cell_eq (blk_cell h.hp 4) rfl
  have f3 := blk_frozen h.hp 3
  have f4 := blk_frozen h.hp 4
  have H := Lib.hid h
  clear h
  go_enter Tryd.func33, Tryd.ntmps33
  go_wp2
  go_end0
  exact ⟨rfl, (H.out.set3 false).set4 (-1), ((Kept.refl _ _).setCell (.inl (.inl rfl)) _).setCell (.inl (.inl rfl)) _⟩
theorem fuse_any {p : Nat} (w : World) (a k : Int) (h : Dm w0 w p S E n sure seen wv off fuse keep) :
    Calls Tryd.prog 18 #[.pointer (some ⟨p, 0, none⟩), .int .i64 a, .int .i64 k] w fun e w' => e = .returned (.tuple #[]) ∧ Dm w0 w' p S E n sure seen wv off (if a < -1 then -1 else a) k ∧ Kept w w' (DS p S E) := by
  have c5 := cell_eq (blk_cell h.hp 5) rfl
  have c4 := cell_eq (blk_cell h.hp 4) rfl
  have f5 := blk_frozen h.hp 5
  have f4 := blk_frozen h.hp 4
  have H := Lib.hid h
  clear h
  by_cases ha : a < -1
  · go_enter Tryd.func18, Tryd.ntmps18
    go_wp2
    go_end0
    exact ⟨rfl, (H.out.set4 (-1)).set5 k, ((Kept.refl _ _).setCell (.inl (.inl rfl)) _).setCell (.inl (.inl rfl)) _⟩
  · go_enter Tryd.func18, Tryd.ntmps18
    go_wp2
    go_end0
    exact ⟨rfl, (H.out.set4 a).set5 k, ((Kept.refl _ _).setCell (.inl (.inl rfl)) _).setCell (.inl (.inl rfl)) _⟩
/-- A piece of a function's code: the region of a number. -/
def regC (k : Nat) : Code → Option Code
  | .region id ops d => if id = k then some (.region id ops d) else none
  | .seq a b => match regC k a with
    | some c => some c
    | none => regC k b
  | .cond _ a b => match regC k a with
    | some c => some c
    | none => regC k b
  | .block _ c => regC k c
  | .scope c => regC k c
  | .loop c => regC k c
  | _ => none
/-- An operation of a drawing region that is run to its value. -/
theorem runs_ {P : Program} {ops : Array Oper} {Q : Exit → Act → World → Prop} {oi : Oper} {N : Option Tmp} {a : Act} {w w1 : World} {v : Value} {K : Act → World → Prop} (hw : Region.wanted oi (yielded ops a.tmps) = true) (hN : oi.dst = N)
    (hrun : (execOp a.eval oi).run P w = .ok (.value v) w1) (h : K (a.put N v) w1) : if Region.wanted oi (yielded ops a.tmps) = true then Oper.wp P oi a w K Q else K (a.put N undef) w := by
  rw [if_pos hw]
  unfold Oper.wp
  rw [hrun]
  show K (a.put oi.dst v) w1
  rw [hN]
  exact h
/-- 'copy' into a row known whole, as one step of a drawing region; the world written out. -/
theorem step_copy_own {P : Program} {ops : Array Oper} {o : Oper} {a : Act} {w : World} {K : Act → World → Prop} {Q : Exit → Act → World → Prop} {E : Prop} (hgd : o.guard = none) (d s : Operand) (dT sT : TypeId)
    (ho : o.op = .call { callee := .builtin .copy, args := #[d, s], argTypes := #[dT, sT] }) (elem : TypeId) (hu : P.underlying dT = some (.slice elem)) (hsz : (P.info? elem).map (·.size) = some 1)
    (g off dLen dCap : Nat) (ad : Addr) (sLen sCap : Nat) (hd : a.eval d = .slice (some ⟨g, off, none⟩) dLen dCap) (hs : a.eval s = .slice (some ad) sLen sCap)
    (cur : Array Value) (t : TypeId) (hg : w.heap[g]? = some (.cells cur t (0, 0))) (cs : List Value) (hn : cs.length = Nat.min sLen dLen)
    (hsrc : ∀ j v, cs[j]? = some v → w.cell? (ad.add j) = some v) (hfit : off + cs.length ≤ cur.size) (h1 : ∀ v ∈ cs, v.oneCell' = true)
    (h : K (a.put o.dst (goInt cs.length)) (w.setRow g (cur.toList.take off ++ (cs ++ cur.toList.drop (off + cs.length))).toArray)) :
    if Region.wanted o (yielded ops a.tmps) = true then Oper.wp P o a w K Q else E := by
  have hw : Region.wanted o (yielded ops a.tmps) = true := by simp [Region.wanted, hgd]
  rw [if_pos hw]
  have hrun := run_copy_row (P := P) w dT sT o.type elem g off dLen dCap ad sLen sCap cur t cs hu hsz hg hn hsrc hfit h1
  unfold Oper.wp
  simp [execOp, ho, resolve, invoke, builtin, hd, hs, hrun, Result.andThen]
  exact h
theorem info81_ : (Tryd.prog.info? 81).map (fun i => (i.zero, i.size, i.bytes)) = some (some (.agg #[.int .i64 0, .slice none 0 0]), 2, 32) := by kernel_rfl
theorem clone_bytes {l : List Int} (h : l.length ≤ 10000000) : slices_Clone_byte_byte.f l = some l := by
  unfold slices_Clone_byte_byte.f
  simp only [Option.bind_some]
  first | (rw [if_pos (by simp; omega)]; simp) | simp
end Go.Proofs.YtndelndgioojgaaDoor.Own
