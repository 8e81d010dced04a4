import Derived.Test.YtndelndgioojgaaFix
import Derived.Deep.RegionLawGrows
namespace Go.Proofs.Ytndelndgioojgaa
open Go.RowKit Go.Proofs.YtndelndgioojgaaW.PrintWords Go.Proofs.YtndelndgioojgaaW.PrintLast Go.Proofs.YtndelndgioojgaaW.PrintMore
set_option linter.unusedVariables false
set_option linter.unusedSimpArgs false
def l56 : List Value := [.int .u8 5, .int .u8 6]
def zs56 : List Value := [.int .u8 0, .int .u8 5, .int .u8 6, .int .u8 0]
theorem keep_below {w w' : World} {b : Nat} {o : Obj} (hb : Below w.heap.size w w') (h : w.heap[b]? = some o) : w'.heap[b]? = some o :=
  (hb.block b (Array.getElem?_eq_some_iff.1 h).1).trans h
theorem reads56 {w : World} {B : Nat} (h : w.heap[B]? = some (.cells #[.int .u8 5, .int .u8 6] 5 (0, 0))) : ReadsInt w .u8 (some ⟨B, 0, none⟩) [5, 6].length [5, 6] :=
  ⟨rfl, by decide, fun _ => ⟨_, rfl, fun j hj => by
    have h2 : j = 0 ∨ j = 1 := by simp at hj; omega
    rcases h2 with rfl | rfl
    · exact blk_cell h 0
    · exact blk_cell h 1⟩⟩
theorem clone56 {w : World} {base : Nat} {v : Value} (h : Kd.R (Kd.int .u8) 5 w base (fun _ => True) v [5, 6]) : ∃ g c cur, v = .slice (some ⟨g, 0, none⟩) 2 c ∧ base ≤ g ∧ w.heap[g]? = some (.cells cur 5 (0, 0)) ∧ cur.toList.take 2 = l56 ∧ 2 ≤ c := by
  have ho := Kd.own_of_R h
  rcases ho.2 with ⟨_, h0⟩ | ⟨g, cap, cur, rfl, hg, hh, hn, hc, hs, ht⟩
  · exact absurd h0 (by decide)
  · exact ⟨g, cap, cur, rfl, hg, hh, ht, hn⟩
theorem keep_alloc {w : World} {b : Nat} {o : Obj} (h : w.heap[b]? = some o) (x : Obj) : (w.alloc x).heap[b]? = some o := by
  have hlt := (Array.getElem?_eq_some_iff.1 h).1
  show (w.heap.push x)[b]? = _
  rw [Array.getElem?_push, if_neg (by omega), h]
/-- An operation of a drawing region that is run to its value. -/
theorem runs_ {P : Program} {ops : Array Oper} {Q : Exit → Act → World → Prop} {oi : Oper} {N : Option Tmp} {a : Act} {w w1 : World} {v : Value} {K : Act → World → Prop} (hw : Region.wanted oi (yielded ops a.tmps) = true) (hN : oi.dst = N)
    (hrun : (execOp a.eval oi).run P w = .ok (.value v) w1) (h : K (a.put N v) w1) : if Region.wanted oi (yielded ops a.tmps) = true then Oper.wp P oi a w K Q else K (a.put N undef) w := by
  rw [if_pos hw]
  unfold Oper.wp
  rw [hrun]
  show K (a.put oi.dst v) w1
  rw [hN]
  exact h
theorem Try.info38 : (Try.prog.info? 38).map (fun i => (i.zero, i.size, i.bytes)) = some (some (.agg #[.int .i64 0, .slice none 0 0]), 2, 32) := by kernel_rfl
theorem ne_type {w : World} {a b : Nat} {ca cb : Array Value} {ta tb : TypeId} (ha : w.heap[a]? = some (.cells ca ta (0, 0))) (hb : w.heap[b]? = some (.cells cb tb (0, 0))) (h : ta ≠ tb) : a ≠ b := by
  intro e
  rw [e, hb] at ha
  simp only [Option.some.injEq, Obj.cells.injEq] at ha
  exact h ha.2.1.symm
/-- Behind the write of 5, 6 at place 1: what is seen, and the one write that waits. -/
def Write1Post (w : World) (p S E N : Nat) (e : Ending) (w' : World) : Prop := e = .returned (.int .i64 0) ∧ ∃ (g cg : Nat) (cur : Array Value) (q cq : Nat) (curq : Array Value), DiskAt w' p S E zs4 zs56 (.slice (some ⟨q, 0, none⟩) 1 cq) false (-1) 0 ∧
  w'.heap[g]? = some (.cells cur 5 (0, 0)) ∧ cur.toList.take 2 = l56 ∧ w'.heap[q]? = some (.cells curq 38 (0, 0)) ∧ curq.toList.take 2 = [.int .i64 1, .slice (some ⟨g, 0, none⟩) 2 cg] ∧ 2 ≤ cg ∧ Below N w w'
set_option maxHeartbeats 1000000 in
set_option maxRecDepth 100000 in
theorem write_1 {p S E B : Nat} (w : World) (h : DiskAt w p S E zs4 zs4 (.slice none 0 0) false (-1) 0) (hB : w.heap[B]? = some (.cells #[.int .u8 5, .int .u8 6] 5 (0, 0))) (hEB : B ≠ E) (hpB : B ≠ p) (N : Nat) (hN : N ≤ p ∧ N ≤ S ∧ N ≤ E) (hN0 : N ≤ w.heap.size) :
    Calls Try.prog 11 #[.pointer (some ⟨p, 0, none⟩), .int .i64 1, .slice (some ⟨B, 0, none⟩) 2 2] w (Write1Post w p S E N) := by
  obtain ⟨i0, hi, hz0, hz1, hz2⟩ := info_parts Try.info38
  obtain ⟨hp, hS, hE, n1, n2, n3⟩ := h
  have c0 := blk_cell hp 0
  have c1 := blk_cell hp 1
  have c3 := blk_cell hp 3
  simp at c0 c1 c3
  have HP := Lib.hid hp
  have HS := Lib.hid hS
  have HE := Lib.hid hE
  have HB := Lib.hid hB
  clear hp hS hE hB
  go_enter Try.func11, Try.ntmps11
  go_wp2_with (first
    | ((with_reducible refine (on_at _ c3).mono ?_); rintro e w' ⟨rfl, rfl⟩)
    | ((with_reducible refine (in_at _ _ _ c0 (by omega) (by omega) (by omega) (by omega) (by omega)).mono ?_); rintro e w' ⟨rfl, rfl⟩)
    | (with_reducible refine wpList_copy_own rfl (.tmp 23) (.tmp 24) 22 22 rfl 5 Try.underlying22 (by kernel_rfl) E 1 3 3 ⟨B, 0, none⟩ 2 2 rfl rfl zs4.toArray 5 HE.out l56 rfl ?_ ?_ ?_ ?_))
  · intro j v hj
    rw [show (⟨B, 0, none⟩ : Addr).add j = ⟨B, j, none⟩ from by unfold Addr.add; split <;> simp_all, blk_cell HB.out j]
    simpa [l56] using hj
  · simp [zs4, l56]
  · intro v hv
    simp [l56] at hv
    rcases hv with rfl | rfl <;> rfl
  have HE2 := Lib.hid (setRow_heap w E zs4.toArray (zs4.toArray.toList.take 1 ++ (l56 ++ zs4.toArray.toList.drop (1 + l56.length))).toArray 5 (0, 0) HE.out)
  have HP2 := Lib.hid ((setRow_other w E p (zs4.toArray.toList.take 1 ++ (l56 ++ zs4.toArray.toList.drop (1 + l56.length))).toArray n2).trans HP.out)
  have HS2 := Lib.hid ((setRow_other w E S (zs4.toArray.toList.take 1 ++ (l56 ++ zs4.toArray.toList.drop (1 + l56.length))).toArray n3).trans HS.out)
  have HB2 := Lib.hid ((setRow_other w E B (zs4.toArray.toList.take 1 ++ (l56 ++ zs4.toArray.toList.drop (1 + l56.length))).toArray hEB).trans HB.out)
  have HW2 := Lib.hid (below_setRow (Below.refl N w) hN.2.2 (zs4.toArray.toList.take 1 ++ (l56 ++ zs4.toArray.toList.drop (1 + l56.length))).toArray)
  clear c0 c1 c3
  generalize w.setRow E (zs4.toArray.toList.take 1 ++ (l56 ++ zs4.toArray.toList.drop (1 + l56.length))).toArray = w2 at HE2 HP2 HS2 HB2 HW2 ⊢
  go_wp2
  refine start_ (n := 14) (S := fun w' => w'.cell? ⟨p, 2, none⟩ = some (.slice none 0 0)) (ds := [13]) #[false, false, false, false, false, false, false, false, false, false, false, false, false, false] (by kernel_rfl) rfl rfl ?_ (fun hHeld => ?_)
  · exact blk_cell (show w2.drew.heap[p]? = _ from HP2.out) 2
  have HE3 := Lib.hid (show w2.drew.heap[E]? = _ from HE2.out)
  have HP3 := Lib.hid (show w2.drew.heap[p]? = _ from HP2.out)
  have HS3 := Lib.hid (show w2.drew.heap[S]? = _ from HS2.out)
  have HB3 := Lib.hid (show w2.drew.heap[B]? = _ from HB2.out)
  have HW3 := Lib.hid HW2.out.drew
  clear HE2 HP2 HS2 HB2 HW2
  generalize w2.drew = w3 at hHeld HE3 HP3 HS3 HB3 HW3 ⊢
  refine pure_ (i := 0) (N := some 26) (v := ?_) (a' := ?_) #[true, false, false, false, false, false, false, false, false, false, false, false, false, false] rfl rfl (by kernel_rfl) (fun _ _ _ h => h) (Or.inl ⟨by rfl, ?_⟩) ?_ ?_
  rotate_left
  · intro w'
    go_simp
    with_reducible rfl
  rotate_left
  · simp only [Act.put, List.setIfInBounds_toArray, List.set_cons_zero, List.set_cons_succ, i64_w, i32_w]
    rfl
  refine pure_ (i := 1) (N := some 27) (v := ?_) (a' := ?_) #[true, true, false, false, false, false, false, false, false, false, false, false, false, false] rfl rfl (by kernel_rfl) (fun _ _ _ h => h) (Or.inl ⟨by rfl, ?_⟩) ?_ ?_
  rotate_left
  · intro w'
    go_simp
    with_reducible rfl
  rotate_left
  · simp only [Act.put, List.setIfInBounds_toArray, List.set_cons_zero, List.set_cons_succ, i64_w, i32_w]
    rfl
  refine pure_ (i := 2) (N := some 28) (v := ?_) (a' := ?_) #[true, true, true, false, false, false, false, false, false, false, false, false, false, false] rfl rfl (by kernel_rfl) (fun _ _ _ h => h) (Or.inl ⟨by rfl, ?_⟩) ?_ ?_
  rotate_left
  · intro w'
    go_simp
    with_reducible rfl
  rotate_left
  · simp only [Act.put, List.setIfInBounds_toArray, List.set_cons_zero, List.set_cons_succ, i64_w, i32_w]
    rfl
  refine pure_ (i := 3) (N := some 29) (v := ?_) (a' := ?_) #[true, true, true, true, false, false, false, false, false, false, false, false, false, false] rfl rfl (by kernel_rfl) (fun _ _ _ h => h) (Or.inl ⟨by rfl, ?_⟩) ?_ ?_
  rotate_left
  · intro w'
    go_simp
    with_reducible rfl
  rotate_left
  · simp only [Act.put, List.setIfInBounds_toArray, List.set_cons_zero, List.set_cons_succ, i64_w, i32_w]
    rfl
  refine take_ (i := 4) (N := some 30) (v := ?_) (a' := ?_) #[true, true, true, true, true, false, false, false, false, false, false, false, false, false] rfl rfl (by kernel_rfl) (fun _ _ _ h => h) (Or.inl ⟨by rfl, ?_⟩) hHeld ?_ ?_
  rotate_left
  · intro w' s0
    go_simp
    with_reducible rfl
  rotate_left
  · simp only [Act.put, List.setIfInBounds_toArray, List.set_cons_zero, List.set_cons_succ, i64_w, i32_w]
    rfl
  refine pure_ (i := 5) (N := some 31) (v := ?_) (a' := ?_) #[true, true, true, true, true, true, false, false, false, false, false, false, false, false] rfl rfl (by kernel_rfl) (fun _ _ _ h => h) (Or.inl ⟨by rfl, ?_⟩) ?_ ?_
  rotate_left
  · intro w'
    go_simp
    with_reducible rfl
  rotate_left
  · simp only [Act.put, List.setIfInBounds_toArray, List.set_cons_zero, List.set_cons_succ, i64_w, i32_w]
    rfl
  refine pure_ (i := 6) (N := some 32) (v := ?_) (a' := ?_) #[true, true, true, true, true, true, true, false, false, false, false, false, false, false] rfl rfl (by kernel_rfl) (fun _ _ _ h => h) (Or.inl ⟨by rfl, ?_⟩) ?_ ?_
  rotate_left
  · intro w'
    go_simp
    with_reducible rfl
  rotate_left
  · simp only [Act.put, List.setIfInBounds_toArray, List.set_cons_zero, List.set_cons_succ, i64_w, i32_w]
    rfl
  refine one_ (i := 7) (N := some 33) #[true, true, true, true, true, true, true, true, false, false, false, false, false, false] rfl rfl (by kernel_rfl) (by decide) (fun K hK => ?_)
  refine goes_ Try.func14 (by kernel_rfl) rfl #[.slice (some ⟨B, 0, none⟩) 2 2] (by rfl) rfl rfl (by (try simp only [List.map_toArray, List.map_cons, List.map_nil]); first | done | rfl) ?_
  refine (Own.slices_Clone_byte_byte.calls (some ⟨B, 0, none⟩) 2 [5, 6] [5, 6] w3 (Kd.C_of_reads (d := (0 : Int)) (h1 := fun _ => rfl) (reads56 HB3.out)) (Nat.le_refl _) (by rfl)).mono ?_
  rintro e w4 ⟨vb, rfl, hR, hb⟩
  refine ⟨_, rfl, ?_⟩
  obtain ⟨g, cg, cur, rfl, hg0, hg, hcur, hcg⟩ := clone56 hR
  have HE4 := Lib.hid (keep_below hb HE3.out)
  have HP4 := Lib.hid (keep_below hb HP3.out)
  have HS4 := Lib.hid (keep_below hb HS3.out)
  have HW4 := Lib.hid (HW3.out.trans (hb.mono (Nat.le_trans hN0 HW3.out.size)))
  refine hK.out _ _ (blk_cell HP4.out 2) (fun hHeld => ?_)
  clear hK K
  refine pure_ (i := 8) (N := some 34) (v := ?_) (a' := ?_) #[true, true, true, true, true, true, true, true, true, false, false, false, false, false] rfl rfl (by kernel_rfl) (fun _ _ _ h => h) (Or.inl ⟨by rfl, ?_⟩) ?_ ?_
  rotate_left
  · intro w'
    go_simp
    with_reducible rfl
  rotate_left
  · simp only [Act.put, List.setIfInBounds_toArray, List.set_cons_zero, List.set_cons_succ, i64_w, i32_w]
    rfl
  refine one_ (i := 9) (N := some 35) #[true, true, true, true, true, true, true, true, true, true, false, false, false, false] rfl rfl (by kernel_rfl) (by decide) (fun K hK => ?_)
  refine runs_ (by rfl) rfl (v := .slice (some ⟨w4.heap.size, 0, none⟩) 1 1) (w1 := w4.alloc (.cells #[.int .i64 1, .slice (some ⟨g, 0, none⟩) 2 cg] 38)) ?_ ?_
  · go_simp
  have HE5 := Lib.hid (keep_alloc HE4.out (.cells #[.int .i64 1, .slice (some ⟨g, 0, none⟩) 2 cg] 38))
  have HP5 := Lib.hid (keep_alloc HP4.out (.cells #[.int .i64 1, .slice (some ⟨g, 0, none⟩) 2 cg] 38))
  have HS5 := Lib.hid (keep_alloc HS4.out (.cells #[.int .i64 1, .slice (some ⟨g, 0, none⟩) 2 cg] 38))
  have HG5 := Lib.hid (keep_alloc hg (.cells #[.int .i64 1, .slice (some ⟨g, 0, none⟩) 2 cg] 38))
  have HW5 := Lib.hid (HW4.out.alloc (Nat.le_trans hN0 HW4.out.size) (.cells #[.int .i64 1, .slice (some ⟨g, 0, none⟩) 2 cg] 38))
  have HN5 := Lib.hid (show (w4.alloc (.cells #[.int .i64 1, .slice (some ⟨g, 0, none⟩) 2 cg] 38)).heap[w4.heap.size]? = some (.cells #[.int .i64 1, .slice (some ⟨g, 0, none⟩) 2 cg] 38 (0, 0)) from by show (w4.heap.push _)[w4.heap.size]? = _; simp)
  refine hK.out _ _ (blk_cell HP5.out 2) (fun hHeld => ?_)
  clear hK K
  generalize w4.alloc (.cells #[.int .i64 1, .slice (some ⟨g, 0, none⟩) 2 cg] 38) = w5 at hHeld HE5 HP5 HS5 HG5 HW5 HN5 ⊢
  refine one_ (i := 10) (N := some 36) #[true, true, true, true, true, true, true, true, true, true, true, false, false, false] rfl rfl (by kernel_rfl) (by decide) (fun K hK => ?_)
  refine step_append_grows rfl (.tmp 30) (.tmp 35) 34 rfl 38 i0 (.agg #[.int .i64 0, .slice none 0 0]) 2 32 Try.underlying34 hi hz0 hz1 hz2 rfl (by decide) none 0 0 [] rfl (fun _ => ⟨rfl, rfl⟩) rfl (by intro b hb; cases hb) ⟨w4.heap.size, 0, none⟩ 1 1 [.int .i64 1, .slice (some ⟨g, 0, none⟩) 2 cg] rfl rfl ?_ ?_ (by decide) (by unfold maxLen; omega) (by omega) ?_
  · intro j u hj
    rw [show (⟨w4.heap.size, 0, none⟩ : Addr).add j = ⟨w4.heap.size, j, none⟩ from by unfold Addr.add; split <;> simp_all, blk_cell HN5.out j]
    simpa using hj
  · intro u hu
    simp at hu
    rcases hu with rfl | rfl <;> rfl
  intro v' w6 hown hgrow
  have hb6 : Below w5.heap.size w5 w6 := (Below.refl _ _).grown hgrow (Nat.le_refl _) (fun k h => by cases h)
  obtain ⟨q, cq, curq, rfl, hq, htq⟩ : ∃ q cq curq, v' = .slice (some ⟨q, 0, none⟩) 1 cq ∧ w6.heap[q]? = some (.cells curq 38 (0, 0)) ∧ curq.toList.take 2 = [.int .i64 1, .slice (some ⟨g, 0, none⟩) 2 cg] := by
    rcases hown.2 with ⟨_, h0⟩ | ⟨q, cap, curq, rfl, _, hh, _, _, _, ht⟩
    · exact absurd h0 (by decide)
    · exact ⟨q, cap, curq, rfl, hh, ht⟩
  have HE6 := Lib.hid (keep_below hb6 HE5.out)
  have HP6 := Lib.hid (keep_below hb6 HP5.out)
  have HS6 := Lib.hid (keep_below hb6 HS5.out)
  have HG6 := Lib.hid (keep_below hb6 HG5.out)
  have HW6 := Lib.hid (HW5.out.trans (hb6.mono (Nat.le_trans hN0 HW5.out.size)))
  have HQ6 := Lib.hid hq
  clear hq
  refine hK.out _ _ (blk_cell HP6.out 2) (fun hHeld => ?_)
  clear hK K
  refine pure_ (i := 11) (N := some 37) (v := ?_) (a' := ?_) #[true, true, true, true, true, true, true, true, true, true, true, true, false, false] rfl rfl (by kernel_rfl) (fun _ _ _ h => h) (Or.inl ⟨by rfl, ?_⟩) ?_ ?_
  rotate_left
  · intro w'
    go_simp
    with_reducible rfl
  rotate_left
  · simp only [Act.put, List.setIfInBounds_toArray, List.set_cons_zero, List.set_cons_succ, i64_w, i32_w]
    rfl
  refine pure_ (i := 12) (N := some 38) (v := ?_) (a' := ?_) #[true, true, true, true, true, true, true, true, true, true, true, true, true, false] rfl rfl (by kernel_rfl) (fun _ _ _ h => h) (Or.inl ⟨by rfl, ?_⟩) ?_ ?_
  rotate_left
  · intro w'
    go_simp
    with_reducible rfl
  rotate_left
  · simp only [Act.put, List.setIfInBounds_toArray, List.set_cons_zero, List.set_cons_succ, i64_w, i32_w]
    rfl
  refine last_ (i := 13) (N := none) #[true, true, true, true, true, true, true, true, true, true, true, true, true, true] rfl rfl (by kernel_rfl) (by decide) (fun K hK => ?_)
  have hcp := blk_cell HP6.out 2
  have hfp := blk_frozen HP6.out 2
  refine skip_ (w1 := w6.setCell ⟨p, 2, none⟩ (.slice (some ⟨q, 0, none⟩) 1 cq)) (by rfl) rfl ?_ ?_
  · go_simp
  refine hK.out _ _ ?_
  clear hK K
  refine done_ (by kernel_rfl) ?_
  have hgp : g ≠ p := ne_type HG6.out HP6.out (by decide)
  have hqp : q ≠ p := ne_type HQ6.out HP6.out (by decide)
  have HE7 := Lib.hid (set_other HE6.out ⟨p, 2, none⟩ (.slice (some ⟨q, 0, none⟩) 1 cq) (Ne.symm n2))
  have HS7 := Lib.hid (set_other HS6.out ⟨p, 2, none⟩ (.slice (some ⟨q, 0, none⟩) 1 cq) (Ne.symm n1))
  have HG7 := Lib.hid (set_other HG6.out ⟨p, 2, none⟩ (.slice (some ⟨q, 0, none⟩) 1 cq) hgp)
  have HQ7 := Lib.hid (set_other HQ6.out ⟨p, 2, none⟩ (.slice (some ⟨q, 0, none⟩) 1 cq) hqp)
  have HP7 := Lib.hid (Go.Joins.block_setCell HP6.out (i := 2) (.slice (some ⟨q, 0, none⟩) 1 cq))
  have HW7 := Lib.hid (HW6.out.setCell (p := ⟨p, 2, none⟩) hN.1 (.slice (some ⟨q, 0, none⟩) 1 cq))
  clear hcp hfp hHeld
  generalize w6.setCell ⟨p, 2, none⟩ (.slice (some ⟨q, 0, none⟩) 1 cq) = w7 at HE7 HS7 HG7 HQ7 HP7 HW7 ⊢
  have hc4 := blk_cell HP7.out 4
  have hf4 := blk_frozen HP7.out 4
  simp at hc4
  go_wp2
  go_ret
  refine ⟨rfl, g, cg, cur, q, cq, curq, ⟨?_, ?_, ?_, n1, n2, n3⟩, ?_, hcur, ?_, htq, hcg, HW7.out.setCell hN.1 _⟩
  · simpa using Go.Joins.block_setCell HP7.out (i := 4) (.int .i64 (-1))
  · exact set_other HS7.out _ _ (Ne.symm n1)
  · exact set_other HE7.out _ _ (Ne.symm n2)
  · exact set_other HG7.out _ _ hgp
  · exact set_other HQ7.out _ _ hqp
end Go.Proofs.Ytndelndgioojgaa
