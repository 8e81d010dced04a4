import Derived.Test.YtndelndgioojgaaFix2
namespace Go.Proofs.Ytndelndgioojgaa
open Go.RowKit Go.Proofs.YtndelndgioojgaaW.PrintWords Go.Proofs.YtndelndgioojgaaW.PrintLast Go.Proofs.YtndelndgioojgaaW.PrintMore
set_option linter.unusedVariables false
set_option linter.unusedSimpArgs false
def zs05 : List Value := [.int .u8 0, .int .u8 5, .int .u8 0, .int .u8 0]
def l5 : List Value := [.int .u8 5]
theorem take_0 {cur : Array Value} {a b : Value} (h : cur.toList.take 2 = [a, b]) : cur[0]? = some a := by
  have h2 := congrArg (·[0]?) h
  simp at h2
  exact h2
theorem take_1 {cur : Array Value} {a b : Value} (h : cur.toList.take 2 = [a, b]) : cur[1]? = some b := by
  have h2 := congrArg (·[1]?) h
  simp at h2
  exact h2
/-- 'copy' into a row known whole, as one step of a drawing region; the world written out. -/
theorem step_copy_own {P : Program} {ops : Array Oper} {o : Oper} {a : Act} {w : World} {K : Act → World → Prop} {Q : Exit → Act → World → Prop} {E : Prop} (hgd : o.guard = none) (d s : Operand) (dT sT : TypeId)
    (ho : o.op = .call { callee := .builtin .copy, args := #[d, s], argTypes := #[dT, sT] }) (elem : TypeId) (hu : P.underlying dT = some (.slice elem)) (hsz : (P.info? elem).map (·.size) = some 1)
    (g off dLen dCap : Nat) (ad : Addr) (sLen sCap : Nat) (hd : a.eval d = .slice (some ⟨g, off, none⟩) dLen dCap) (hs : a.eval s = .slice (some ad) sLen sCap)
    (cur : Array Value) (t : TypeId) (hg : w.heap[g]? = some (.cells cur t (0, 0))) (cs : List Value) (hn : cs.length = Nat.min sLen dLen)
    (hsrc : ∀ j v, cs[j]? = some v → w.cell? (ad.add j) = some v) (hfit : off + cs.length ≤ cur.size) (h1 : ∀ v ∈ cs, v.oneCell' = true)
    (h : K (a.put o.dst (goInt cs.length)) (w.setRow g (cur.toList.take off ++ (cs ++ cur.toList.drop (off + cs.length))).toArray)) :
    if Region.wanted o (yielded ops a.tmps) = true then Oper.wp P o a w K Q else E := by
  have hw : Region.wanted o (yielded ops a.tmps) = true := by simp [Region.wanted, hgd]
  rw [if_pos hw]
  have hrun := run_copy_row (P := P) w dT sT o.type elem g off dLen dCap ad sLen sCap cur t cs hu hsz hg hn hsrc hfit h1
  unfold Oper.wp
  simp [execOp, ho, resolve, invoke, builtin, hd, hs, hrun, Result.andThen]
  exact h
/-- What the loop of Fall keeps, ahead of its one round and behind it. -/
def FallRel (w : World) (p S E g cg q cq : Nat) (cur curq : Array Value) (N : Nat) (i left : Value) (wr : World) : Prop :=
  (i = .int .i64 0 ∧ left = .int .i64 1 ∧ Hid (wr.heap[p]? = some (.cells #[.slice (some ⟨S, 0, none⟩) 4 4, .slice (some ⟨E, 0, none⟩) 4 4, .slice (some ⟨q, 0, none⟩) 1 cq, .bool false, .int .i64 (-1), .int .i64 0] 36 (0, 0))) ∧
    Hid (wr.heap[S]? = some (.cells zs4.toArray 5 (0, 0))) ∧ Hid (wr.heap[E]? = some (.cells zs56.toArray 5 (0, 0))) ∧ Hid (wr.heap[g]? = some (.cells cur 5 (0, 0))) ∧ Hid (wr.heap[q]? = some (.cells curq 38 (0, 0))) ∧ Hid (Below N w wr)) ∨
  (i = .int .i64 1 ∧ left = .int .i64 0 ∧ Hid (wr.heap[p]? = some (.cells #[.slice (some ⟨S, 0, none⟩) 4 4, .slice (some ⟨E, 0, none⟩) 4 4, .slice (some ⟨q, 0, none⟩) 1 cq, .bool false, .int .i64 (-1), .int .i64 0] 36 (0, 0))) ∧
    Hid (wr.heap[S]? = some (.cells zs05.toArray 5 (0, 0))) ∧ Hid (wr.heap[E]? = some (.cells zs56.toArray 5 (0, 0))) ∧ Hid (Below N w wr))
set_option maxHeartbeats 2000000 in
set_option maxRecDepth 100000 in
theorem fall_1 {p S E g cg q cq : Nat} {cur curq : Array Value} (w : World) (h : DiskAt w p S E zs4 zs56 (.slice (some ⟨q, 0, none⟩) 1 cq) false (-1) 0)
    (hg : w.heap[g]? = some (.cells cur 5 (0, 0))) (hcur : cur.toList.take 2 = l56) (hq : w.heap[q]? = some (.cells curq 38 (0, 0))) (hcurq : curq.toList.take 2 = [.int .i64 1, .slice (some ⟨g, 0, none⟩) 2 cg]) (N : Nat) (hN : N ≤ p ∧ N ≤ S ∧ N ≤ E) (hN0 : N ≤ w.heap.size) (hcg : 2 ≤ cg) :
    Calls Try.prog 4 #[.pointer (some ⟨p, 0, none⟩), .int .i64 1] w (fun e w' => e = .returned (.tuple #[]) ∧ DiskAt w' p S E zs05 zs05 (.slice none 0 0) true (-1) 0 ∧ Below N w w') := by
  obtain ⟨hp, hS, hE, n1, n2, n3⟩ := h
  have c2 := blk_cell hp 2
  have c3 := blk_cell hp 3
  simp at c2 c3
  have HP := Lib.hid hp
  have HS := Lib.hid hS
  have HE := Lib.hid hE
  have HG := Lib.hid hg
  have HQ := Lib.hid hq
  have HC := Lib.hid hcur
  have HCQ := Lib.hid hcurq
  clear hp hS hE hg hq hcur hcurq
  go_enter Try.func4, Try.ntmps4
  go_wp2_with (first
    | ((with_reducible refine (on_at _ c3).mono ?_); rintro e w' ⟨rfl, rfl⟩))
  go_loopw [18, 4] (fun i left wr => FallRel w p S E g cg q cq cur curq N i left wr) (fun i _ _ => 2 - (intOf i).toNat)
  case atStart => exact .inl ⟨rfl, rfl, HP, HS, HE, HG, HQ, Lib.hid (Below.refl N w)⟩
  case round =>
  clear c2 c3
  rcases hrel with ⟨rfl, rfl, HP2, HS2, HE2, HG2, HQ2, HW2⟩ | ⟨rfl, rfl, HP3, HS3, HE3, HW3⟩
  · have q0 := (blk_cell HQ2.out 0).trans (take_0 HCQ.out)
    have q1 := (blk_cell HQ2.out 1).trans (take_1 HCQ.out)
    go_wp2
    have HE3 := Lib.hid (keep_alloc HE2.out (.cells #[.int .i64 1, .slice (some ⟨g, 0, none⟩) 2 cg] 38))
    have HP3 := Lib.hid (keep_alloc HP2.out (.cells #[.int .i64 1, .slice (some ⟨g, 0, none⟩) 2 cg] 38))
    have HS3 := Lib.hid (keep_alloc HS2.out (.cells #[.int .i64 1, .slice (some ⟨g, 0, none⟩) 2 cg] 38))
    have HG3 := Lib.hid (keep_alloc HG2.out (.cells #[.int .i64 1, .slice (some ⟨g, 0, none⟩) 2 cg] 38))
    have HW3 := Lib.hid (HW2.out.alloc (Nat.le_trans hN0 HW2.out.size) (.cells #[.int .i64 1, .slice (some ⟨g, 0, none⟩) 2 cg] 38))
    have HX3 := Lib.hid (show (wr.alloc (.cells #[.int .i64 1, .slice (some ⟨g, 0, none⟩) 2 cg] 38)).heap[wr.heap.size]? = some (.cells #[.int .i64 1, .slice (some ⟨g, 0, none⟩) 2 cg] 38 (0, 0)) from by show (wr.heap.push _)[wr.heap.size]? = _; simp)
    clear q0 q1 HE2 HP2 HS2 HG2 HQ2 HW2
    generalize wr.alloc (.cells #[.int .i64 1, .slice (some ⟨g, 0, none⟩) 2 cg] 38) = w3 at HE3 HP3 HS3 HG3 HW3 HX3 ⊢
    generalize wr.heap.size = x at HX3 ⊢
    have hc1 : (1 : Int) ≤ (cg : Int) := by omega
    refine start_ (n := 12) (S := fun w' => w'.cell? ⟨p, 0, none⟩ = some (.slice (some ⟨S, 0, none⟩) 4 4) ∧ w'.cell? ⟨x, 0, none⟩ = some (.int .i64 1) ∧ w'.cell? ⟨x, 1, none⟩ = some (.slice (some ⟨g, 0, none⟩) 2 cg)) (ds := [11]) #[false, false, false, false, false, false, false, false, false, false, false, false] (by kernel_rfl) rfl rfl ?_ (fun hHeld => ?_)
    · exact ⟨blk_cell (show w3.drew.heap[p]? = _ from HP3.out) 0, blk_cell (show w3.drew.heap[x]? = _ from HX3.out) 0, blk_cell (show w3.drew.heap[x]? = _ from HX3.out) 1⟩
    have HE4 := Lib.hid (show w3.drew.heap[E]? = _ from HE3.out)
    have HP4 := Lib.hid (show w3.drew.heap[p]? = _ from HP3.out)
    have HS4 := Lib.hid (show w3.drew.heap[S]? = _ from HS3.out)
    have HG4 := Lib.hid (show w3.drew.heap[g]? = _ from HG3.out)
    have HW4 := Lib.hid HW3.out.drew
    clear HE3 HP3 HS3 HG3 HW3 HX3
    generalize w3.drew = w4 at hHeld HE4 HP4 HS4 HG4 HW4 ⊢
    refine pure_ (i := 0) (N := some 27) (v := ?_) (a' := ?_) #[true, false, false, false, false, false, false, false, false, false, false, false] rfl rfl (by kernel_rfl) (fun _ _ _ h => h) (Or.inl ⟨by rfl, ?_⟩) ?_ ?_
    rotate_left
    · intro w'
      go_simp
      with_reducible rfl
    rotate_left
    · simp only [Act.put, List.setIfInBounds_toArray, List.set_cons_zero, List.set_cons_succ, i64_w, i32_w]
      rfl
    refine pure_ (i := 1) (N := some 28) (v := ?_) (a' := ?_) #[true, true, false, false, false, false, false, false, false, false, false, false] rfl rfl (by kernel_rfl) (fun _ _ _ h => h) (Or.inl ⟨by rfl, ?_⟩) ?_ ?_
    rotate_left
    · intro w'
      go_simp
      with_reducible rfl
    rotate_left
    · simp only [Act.put, List.setIfInBounds_toArray, List.set_cons_zero, List.set_cons_succ, i64_w, i32_w]
      rfl
    refine pure_ (i := 2) (N := some 29) (v := ?_) (a' := ?_) #[true, true, true, false, false, false, false, false, false, false, false, false] rfl rfl (by kernel_rfl) (fun _ _ _ h => h) (Or.inl ⟨by rfl, ?_⟩) ?_ ?_
    rotate_left
    · intro w'
      go_simp
      with_reducible rfl
    rotate_left
    · simp only [Act.put, List.setIfInBounds_toArray, List.set_cons_zero, List.set_cons_succ, i64_w, i32_w]
      rfl
    refine take_ (i := 3) (N := some 30) (v := ?_) (a' := ?_) #[true, true, true, true, false, false, false, false, false, false, false, false] rfl rfl (by kernel_rfl) (fun _ _ _ h => h) (Or.inl ⟨by rfl, ?_⟩) hHeld ?_ ?_
    rotate_left
    · rintro w' ⟨s0, s1, s2⟩
      go_simp
      with_reducible rfl
    rotate_left
    · simp only [Act.put, List.setIfInBounds_toArray, List.set_cons_zero, List.set_cons_succ, i64_w, i32_w]
      rfl
    refine pure_ (i := 4) (N := some 31) (v := ?_) (a' := ?_) #[true, true, true, true, true, false, false, false, false, false, false, false] rfl rfl (by kernel_rfl) (fun _ _ _ h => h) (Or.inl ⟨by rfl, ?_⟩) ?_ ?_
    rotate_left
    · intro w'
      go_simp
      with_reducible rfl
    rotate_left
    · simp only [Act.put, List.setIfInBounds_toArray, List.set_cons_zero, List.set_cons_succ, i64_w, i32_w]
      rfl
    refine take_ (i := 5) (N := some 32) (v := ?_) (a' := ?_) #[true, true, true, true, true, true, false, false, false, false, false, false] rfl rfl (by kernel_rfl) (fun _ _ _ h => h) (Or.inl ⟨by rfl, ?_⟩) hHeld ?_ ?_
    rotate_left
    · rintro w' ⟨s0, s1, s2⟩
      go_simp
      with_reducible rfl
    rotate_left
    · simp only [Act.put, List.setIfInBounds_toArray, List.set_cons_zero, List.set_cons_succ, i64_w, i32_w]
      rfl
    refine pure_ (i := 6) (N := some 33) (v := ?_) (a' := ?_) #[true, true, true, true, true, true, true, false, false, false, false, false] rfl rfl (by kernel_rfl) (fun _ _ _ h => h) (Or.inl ⟨by rfl, ?_⟩) ?_ ?_
    rotate_left
    · intro w'
      go_simp
      with_reducible rfl
    rotate_left
    · simp only [Act.put, List.setIfInBounds_toArray, List.set_cons_zero, List.set_cons_succ, i64_w, i32_w]
      rfl
    refine pure_ (i := 7) (N := some 34) (v := ?_) (a' := ?_) #[true, true, true, true, true, true, true, true, false, false, false, false] rfl rfl (by kernel_rfl) (fun _ _ _ h => h) (Or.inl ⟨by rfl, ?_⟩) ?_ ?_
    rotate_left
    · intro w'
      go_simp
      with_reducible rfl
    rotate_left
    · simp only [Act.put, List.setIfInBounds_toArray, List.set_cons_zero, List.set_cons_succ, i64_w, i32_w]
      rfl
    refine take_ (i := 8) (N := some 35) (v := ?_) (a' := ?_) #[true, true, true, true, true, true, true, true, true, false, false, false] rfl rfl (by kernel_rfl) (fun _ _ _ h => h) (Or.inl ⟨by rfl, ?_⟩) hHeld ?_ ?_
    rotate_left
    · rintro w' ⟨s0, s1, s2⟩
      go_simp
      with_reducible rfl
    rotate_left
    · simp only [Act.put, List.setIfInBounds_toArray, List.set_cons_zero, List.set_cons_succ, i64_w, i32_w]
      rfl
    refine pure_ (i := 9) (N := some 36) (v := ?_) (a' := ?_) #[true, true, true, true, true, true, true, true, true, true, false, false] rfl rfl (by kernel_rfl) (fun _ _ _ h => h) (Or.inl ⟨by rfl, ?_⟩) ?_ ?_
    rotate_left
    · intro w'
      go_simp
      with_reducible rfl
    rotate_left
    · simp only [Act.put, List.setIfInBounds_toArray, List.set_cons_zero, List.set_cons_succ, i64_w, i32_w]
      rfl
    refine pure_ (i := 10) (N := some 37) (v := ?_) (a' := ?_) #[true, true, true, true, true, true, true, true, true, true, true, false] rfl rfl (by kernel_rfl) (fun _ _ _ h => h) (Or.inl ⟨by rfl, ?_⟩) ?_ ?_
    rotate_left
    · intro w'
      go_simp
      with_reducible rfl
    rotate_left
    · simp only [Act.put, List.setIfInBounds_toArray, List.set_cons_zero, List.set_cons_succ, i64_w, i32_w]
      rfl
    refine last_ (i := 11) (N := some 38) #[true, true, true, true, true, true, true, true, true, true, true, true] rfl rfl (by kernel_rfl) (by decide) (fun K hK => ?_)
    refine step_copy_own rfl (.tmp 33) (.tmp 37) 22 22 rfl 5 Try.underlying22 (by kernel_rfl) S 1 3 3 ⟨g, 0, none⟩ 1 cg rfl rfl zs4.toArray 5 HS4.out l5 rfl ?_ ?_ ?_ ?_
    · intro j v hj
      have hj0 : j = 0 := by
        have := (List.getElem?_eq_some_iff.1 hj).1
        simp [l5] at this; omega
      subst hj0
      have e0 := take_0 HC.out
      rw [show (⟨g, 0, none⟩ : Addr).add 0 = ⟨g, 0, none⟩ from rfl, blk_cell HG4.out 0, e0]
      simpa [l5] using hj
    · simp [zs4, l5]
    · intro v hv
      simp [l5] at hv
      subst hv
      rfl
    have HS5 := Lib.hid (setRow_heap w4 S zs4.toArray (zs4.toArray.toList.take 1 ++ (l5 ++ zs4.toArray.toList.drop (1 + l5.length))).toArray 5 (0, 0) HS4.out)
    have HP5 := Lib.hid ((setRow_other w4 S p (zs4.toArray.toList.take 1 ++ (l5 ++ zs4.toArray.toList.drop (1 + l5.length))).toArray n1).trans HP4.out)
    have HE5 := Lib.hid ((setRow_other w4 S E (zs4.toArray.toList.take 1 ++ (l5 ++ zs4.toArray.toList.drop (1 + l5.length))).toArray (Ne.symm n3)).trans HE4.out)
    have HW5 := Lib.hid (below_setRow HW4.out hN.2.1 (zs4.toArray.toList.take 1 ++ (l5 ++ zs4.toArray.toList.drop (1 + l5.length))).toArray)
    refine hK.out _ _ ?_
    clear hK K
    generalize w4.setRow S (zs4.toArray.toList.take 1 ++ (l5 ++ zs4.toArray.toList.drop (1 + l5.length))).toArray = w5 at HS5 HP5 HE5 HW5 ⊢
    refine done_ (by kernel_rfl) ?_
    go_wp2
    go_roundw
    case rel => exact .inr ⟨rfl, rfl, HP5, HS5, HE5, HW5⟩
    case measure => simp [intOf]

  · go_wp2
    refine start_ (n := 9) (S := fun w' => w'.cell? ⟨p, 0, none⟩ = some (.slice (some ⟨S, 0, none⟩) 4 4) ∧ w'.cell? ⟨p, 1, none⟩ = some (.slice (some ⟨E, 0, none⟩) 4 4)) (ds := [8]) #[false, false, false, false, false, false, false, false, false] (by kernel_rfl) rfl rfl ?_ (fun hHeld => ?_)
    · exact ⟨blk_cell (show wr.drew.heap[p]? = _ from HP3.out) 0, blk_cell (show wr.drew.heap[p]? = _ from HP3.out) 1⟩
    have HE4 := Lib.hid (show wr.drew.heap[E]? = _ from HE3.out)
    have HP4 := Lib.hid (show wr.drew.heap[p]? = _ from HP3.out)
    have HS4 := Lib.hid (show wr.drew.heap[S]? = _ from HS3.out)
    have HW4 := Lib.hid HW3.out.drew
    clear HE3 HP3 HS3 HW3
    generalize wr.drew = w4 at hHeld HE4 HP4 HS4 HW4 ⊢
    refine pure_ (i := 0) (N := some 43) (v := ?_) (a' := ?_) #[true, false, false, false, false, false, false, false, false] rfl rfl (by kernel_rfl) (fun _ _ _ h => h) (Or.inl ⟨by rfl, ?_⟩) ?_ ?_
    rotate_left
    · intro w'
      go_simp
      with_reducible rfl
    rotate_left
    · simp only [Act.put, List.setIfInBounds_toArray, List.set_cons_zero, List.set_cons_succ, i64_w, i32_w]
      rfl
    refine pure_ (i := 1) (N := some 44) (v := ?_) (a' := ?_) #[true, true, false, false, false, false, false, false, false] rfl rfl (by kernel_rfl) (fun _ _ _ h => h) (Or.inl ⟨by rfl, ?_⟩) ?_ ?_
    rotate_left
    · intro w'
      go_simp
      with_reducible rfl
    rotate_left
    · simp only [Act.put, List.setIfInBounds_toArray, List.set_cons_zero, List.set_cons_succ, i64_w, i32_w]
      rfl
    refine pure_ (i := 2) (N := some 45) (v := ?_) (a' := ?_) #[true, true, true, false, false, false, false, false, false] rfl rfl (by kernel_rfl) (fun _ _ _ h => h) (Or.inl ⟨by rfl, ?_⟩) ?_ ?_
    rotate_left
    · intro w'
      go_simp
      with_reducible rfl
    rotate_left
    · simp only [Act.put, List.setIfInBounds_toArray, List.set_cons_zero, List.set_cons_succ, i64_w, i32_w]
      rfl
    refine take_ (i := 3) (N := some 46) (v := ?_) (a' := ?_) #[true, true, true, true, false, false, false, false, false] rfl rfl (by kernel_rfl) (fun _ _ _ h => h) (Or.inl ⟨by rfl, ?_⟩) hHeld ?_ ?_
    rotate_left
    · rintro w' ⟨s0, s1⟩
      go_simp
      with_reducible rfl
    rotate_left
    · simp only [Act.put, List.setIfInBounds_toArray, List.set_cons_zero, List.set_cons_succ, i64_w, i32_w]
      rfl
    refine pure_ (i := 4) (N := some 47) (v := ?_) (a' := ?_) #[true, true, true, true, true, false, false, false, false] rfl rfl (by kernel_rfl) (fun _ _ _ h => h) (Or.inl ⟨by rfl, ?_⟩) ?_ ?_
    rotate_left
    · intro w'
      go_simp
      with_reducible rfl
    rotate_left
    · simp only [Act.put, List.setIfInBounds_toArray, List.set_cons_zero, List.set_cons_succ, i64_w, i32_w]
      rfl
    refine pure_ (i := 5) (N := some 48) (v := ?_) (a' := ?_) #[true, true, true, true, true, true, false, false, false] rfl rfl (by kernel_rfl) (fun _ _ _ h => h) (Or.inl ⟨by rfl, ?_⟩) ?_ ?_
    rotate_left
    · intro w'
      go_simp
      with_reducible rfl
    rotate_left
    · simp only [Act.put, List.setIfInBounds_toArray, List.set_cons_zero, List.set_cons_succ, i64_w, i32_w]
      rfl
    refine pure_ (i := 6) (N := some 49) (v := ?_) (a' := ?_) #[true, true, true, true, true, true, true, false, false] rfl rfl (by kernel_rfl) (fun _ _ _ h => h) (Or.inl ⟨by rfl, ?_⟩) ?_ ?_
    rotate_left
    · intro w'
      go_simp
      with_reducible rfl
    rotate_left
    · simp only [Act.put, List.setIfInBounds_toArray, List.set_cons_zero, List.set_cons_succ, i64_w, i32_w]
      rfl
    refine take_ (i := 7) (N := some 50) (v := ?_) (a' := ?_) #[true, true, true, true, true, true, true, true, false] rfl rfl (by kernel_rfl) (fun _ _ _ h => h) (Or.inl ⟨by rfl, ?_⟩) hHeld ?_ ?_
    rotate_left
    · rintro w' ⟨s0, s1⟩
      go_simp
      with_reducible rfl
    rotate_left
    · simp only [Act.put, List.setIfInBounds_toArray, List.set_cons_zero, List.set_cons_succ, i64_w, i32_w]
      rfl
    refine last_ (i := 8) (N := some 51) #[true, true, true, true, true, true, true, true, true] rfl rfl (by kernel_rfl) (by decide) (fun K hK => ?_)
    refine step_copy_own rfl (.tmp 46) (.tmp 50) 22 22 rfl 5 Try.underlying22 (by kernel_rfl) E 0 4 4 ⟨S, 0, none⟩ 4 4 rfl rfl zs56.toArray 5 HE4.out zs05 rfl ?_ ?_ ?_ ?_
    · intro j v hj
      rw [show (⟨S, 0, none⟩ : Addr).add j = ⟨S, j, none⟩ from by unfold Addr.add; split <;> simp_all, blk_cell HS4.out j]
      simpa using hj
    · simp [zs56, zs05]
    · intro v hv
      simp [zs05] at hv
      rcases hv with rfl | rfl | rfl <;> rfl
    have HE5 := Lib.hid (setRow_heap w4 E zs56.toArray (zs56.toArray.toList.take 0 ++ (zs05 ++ zs56.toArray.toList.drop (0 + zs05.length))).toArray 5 (0, 0) HE4.out)
    have HP5 := Lib.hid ((setRow_other w4 E p (zs56.toArray.toList.take 0 ++ (zs05 ++ zs56.toArray.toList.drop (0 + zs05.length))).toArray n2).trans HP4.out)
    have HS5 := Lib.hid ((setRow_other w4 E S (zs56.toArray.toList.take 0 ++ (zs05 ++ zs56.toArray.toList.drop (0 + zs05.length))).toArray n3).trans HS4.out)
    have HW5 := Lib.hid (below_setRow HW4.out hN.2.2 (zs56.toArray.toList.take 0 ++ (zs05 ++ zs56.toArray.toList.drop (0 + zs05.length))).toArray)
    refine hK.out _ _ ?_
    clear hK K
    generalize w4.setRow E (zs56.toArray.toList.take 0 ++ (zs05 ++ zs56.toArray.toList.drop (0 + zs05.length))).toArray = w5 at HS5 HP5 HE5 HW5 ⊢
    refine done_ (by kernel_rfl) ?_
    have k2 := blk_cell HP5.out 2
    have k3 := blk_cell HP5.out 3
    have k4 := blk_cell HP5.out 4
    have g2 := blk_frozen HP5.out 2
    have g3 := blk_frozen HP5.out 3
    have g4 := blk_frozen HP5.out 4
    simp at k2 k3 k4
    clear hHeld
    go_wp2
    first | go_end0 | refine bodyPost_ret (results_none rfl _ _ _) rfl ?_
    refine ⟨rfl, ⟨?_, ?_, ?_, n1, n2, n3⟩, ((HW5.out.setCell hN.1 _).setCell hN.1 _).setCell hN.1 _⟩
    · have := Go.Joins.block_setCell (Go.Joins.block_setCell (Go.Joins.block_setCell HP5.out (i := 2) (.slice none 0 0)) (i := 3) (.bool true)) (i := 4) (.int .i64 (-1))
      simpa using this
    · exact set_other (set_other (set_other HS5.out _ _ (Ne.symm n1)) _ _ (Ne.symm n1)) _ _ (Ne.symm n1)
    · exact set_other (set_other (set_other HE5.out _ _ (Ne.symm n2)) _ _ (Ne.symm n2)) _ _ (Ne.symm n2)

end Go.Proofs.Ytndelndgioojgaa
