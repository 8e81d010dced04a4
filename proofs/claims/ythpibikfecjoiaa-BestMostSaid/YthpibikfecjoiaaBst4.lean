import Derived.Test.YthpibikfecjoiaaBst3
namespace Go.Proofs.Ythpibikfecjoiaa.Own
open Go.RowKit Go.Proofs.YthpibikfecjoiaaW.PrintWords Go.Proofs.YthpibikfecjoiaaW.PrintLast Go.Proofs.YthpibikfecjoiaaW.PrintMore
set_option linter.unusedVariables false
set_option linter.unusedSimpArgs false
/-- A search in memory, its rows, who has been chosen, who is the best choice; w0: the world at the call of Choose. -/
structure Mem (w0 w : World) (p C R : Nat) (cs : Array Value) (can : List Bool) (rest now us : List Int) (nv uv : Value) : Prop where
  hp : w.heap[p]? = some (.cells cs 42 (0, 0))
  hC : w.heap[C]? = some (.cells (can.map Value.bool).toArray 4 (0, 0))
  hR : w.heap[R]? = some (.cells (rest.map (Value.int .i64)).toArray 3 (0, 0))
  hn : Kd.R (Kd.int .u32) 31 w w0.heap.size (fun _ => True) nv now
  hu : Kd.R (Kd.int .u32) 31 w w0.heap.size (fun k => True ∧ some k ≠ nv.ownBlock) uv us
  hb : Below w0.heap.size w0 w
  np : w0.heap.size ≤ p
variable {w0 w w1 : World} {p C R : Nat} {cs : Array Value} {can : List Bool} {rest now us : List Int} {nv uv : Value}
theorem R_setp {ok : Nat → Prop} {v : Value} {xs : List Int} (h : Kd.R (Kd.int .u32) 31 w w0.heap.size ok v xs) (hp : w.heap[p]? = some (.cells cs 42 (0, 0))) (j : Nat) (u : Value) : Kd.R (Kd.int .u32) 31 (w.setCell ⟨p, j, none⟩ u) w0.heap.size ok v xs := by
  refine Kd.R_of_own ?_ h.1
  have ho := Kd.own_of_R h
  exact own_setCell ho (own_ne ho hp (by decide)) u
theorem Mem.store (h : Mem w0 w p C R cs can rest now us nv uv) (j : Nat) (u : Value) : Mem w0 (w.setCell ⟨p, j, none⟩ u) p C R (cs.setIfInBounds j u) can rest now us nv uv :=
  ⟨Go.Joins.block_setCell h.hp u, set_other h.hC _ _ (ne_type h.hC h.hp (by decide)), set_other h.hR _ _ (ne_type h.hR h.hp (by decide)), R_setp h.hn h.hp j u, R_setp h.hu h.hp j u, h.hb.setCell h.np u, h.np⟩
theorem Mem.below (h : Mem w0 w p C R cs can rest now us nv uv) (hb : Below w.heap.size w w1) : Mem w0 w1 p C R cs can rest now us nv uv :=
  ⟨keep_below hb h.hp, keep_below hb h.hC, keep_below hb h.hR, Kd.R_below h.hn hb, Kd.R_below h.hu hb, h.hb.trans (hb.mono h.hb.size), h.np⟩
/-- What a search has found: what the best choice counts, its users, how many parts were visited, whether there is one. -/
structure BSt where
  bw : Int
  us : List Int
  vis : Int
  found : Bool
def wt (x : S33) : Int := mn (mx x.f1 0) 1000
def visP (q : List Int → Int → Bool) (l : List S33) (rest : List Int) : Nat → Nat → List Int → Int → BSt → BSt
  | 0, i, now, sum, st => if (st.found && decide (wrap64 (sum + rd rest (i : Int)) ≤ st.bw)) = true then ⟨st.bw, st.us, wrap64 (st.vis + 1), st.found⟩ else ⟨sum, now, wrap64 (st.vis + 1), true⟩
  | m + 1, i, now, sum, st => if (st.found && decide (wrap64 (sum + rd rest (i : Int)) ≤ st.bw)) = true then ⟨st.bw, st.us, wrap64 (st.vis + 1), st.found⟩ else
      visP q l rest m (i + 1) now sum (if q now (i : Int) = true then visP q l rest m (i + 1) (now ++ [(rd_T33 l (i : Int)).f0]) (wrap64 (sum + wt (rd_T33 l (i : Int)))) ⟨st.bw, st.us, wrap64 (st.vis + 1), st.found⟩ else ⟨st.bw, st.us, wrap64 (st.vis + 1), st.found⟩)
def VisPost (w0 : World) (p C R : Nat) (lA : Option Addr) (n lc : Nat) (seats : Int) (aA : Option Addr) (an ac : Nat) (can : List Bool) (rest now : List Int) (st : BSt) (e : Ending) (w' : World) : Prop :=
  e = .returned (.tuple #[]) ∧ ∃ nv uv, Mem w0 w' p C R (scells lA n lc C seats aA an ac R nv st.bw uv st.vis st.found) can rest now st.us nv uv
theorem rest_at {rest : List Int} {i : Nat} (h : i < rest.length) : (rest.map (Value.int .i64)).toArray[i]? = some (.int .i64 (rd rest (i : Int))) := by
  unfold rd
  rw [Int.toNat_natCast, List.getD_eq_getElem?_getD, List.getElem?_eq_getElem h]
  simp [h]
theorem Mem.choose {wc : World} {v : Value} (h : Mem w0 w p C R cs can rest now us nv uv) (hR : Kd.R (Kd.int .u32) 31 w wc.heap.size (fun _ => True) v now) (hn : Kd.R (Kd.int .u32) 31 wc w0.heap.size (fun _ => True) nv now) (hz : w0.heap.size ≤ wc.heap.size) : Mem w0 w p C R cs can rest now now nv v :=
  { h with hu := Kd.R_of_own (Kd.own_of_R (Kd.R_lower hR hz)) (fun k hk => ⟨trivial, fun e => by
      have h1 := Kd.R_base hR k hk
      have h2 := ((Kd.R_bound hn).1 k e.symm).2.2.1
      omega⟩) }
theorem can_at {can : List Bool} {i : Nat} (h : i < can.length) : (can.map Value.bool).toArray[i]? = some (.bool (can.getD i false)) := by
  rw [List.getD_eq_getElem?_getD, List.getElem?_eq_getElem h]
  simp [h]
theorem info31_ : (Try.prog.info? 31).map (fun i => (i.zero, i.size, i.bytes)) = some (some (.int .u32 0), (Kd.int .u32).sz, 4) := by kernel_rfl
theorem Mem.grown {now' : List Int} {v1 : Value} (h : Mem w0 w p C R cs can rest now us nv uv) (hg : w.grownBy w1 nv.ownBlock) (hR : Kd.R (Kd.int .u32) 31 w1 w0.heap.size (fun _ => True) v1 now') (hat : v1.ownBlock = nv.ownBlock ∨ ∃ b, v1.ownBlock = some b ∧ w.heap.size ≤ b) (hb : Below w0.heap.size w0 w1) :
    Mem w0 w1 p C R cs can rest now' us v1 uv := by
  have lt : ∀ {b : Nat} {o : Obj}, w.heap[b]? = some o → b < w.heap.size := fun h => (Array.getElem?_eq_some_iff.1 h).1
  have ho := Kd.own_of_R h.hn
  exact ⟨(hg.block p (lt h.hp) (own_ne ho h.hp (by decide))).trans h.hp, (hg.block C (lt h.hC) (own_ne ho h.hC (by decide))).trans h.hC, (hg.block R (lt h.hR) (own_ne ho h.hR (by decide))).trans h.hR, hR, Kd.R_after h.hu hg hat, hb, h.np⟩
/-- An operation of a drawing region that is run to its value. -/
theorem runs_ {P : Program} {ops : Array Oper} {Q : Exit → Act → World → Prop} {oi : Oper} {N : Option Tmp} {a : Act} {w w1 : World} {v : Value} {K : Act → World → Prop} (hw : Region.wanted oi (yielded ops a.tmps) = true) (hN : oi.dst = N)
    (hrun : (execOp a.eval oi).run P w = .ok (.value v) w1) (h : K (a.put N v) w1) : if Region.wanted oi (yielded ops a.tmps) = true then Oper.wp P oi a w K Q else K (a.put N undef) w := by
  rw [if_pos hw]
  unfold Oper.wp
  rw [hrun]
  show K (a.put oi.dst v) w1
  rw [hN]
  exact h
theorem below_new_ {w : World} {o : Obj} : Below w.heap.size w (w.alloc o) := (Below.refl _ _).alloc (Nat.le_refl _) o
theorem Mem.cut {A : Option Addr} {c n : Nat} {xs : List Int} {u : Int} (h : Mem w0 w p C R cs can rest (xs ++ [u]) us (.slice A n c) uv) (e : xs.length = xs.length) : Mem w0 w p C R cs can rest xs us (.slice A xs.length c) uv :=
  { h with
    hn := by
      have := Kd.R_take h.hn (m := xs.length) (by simp)
      rwa [List.take_left] at this
    hu := Kd.R_mono h.hu (fun k hk => ⟨trivial, by cases A <;> exact hk.2⟩) }
theorem clone_u {now : List Int} (h : now.length ≤ 100) : slices_Clone_uint32_uint32.f now = some now := by
  unfold slices_Clone_uint32_uint32.f
  simp only [Option.bind_some, List.length_nil, List.nil_append]
  rw [if_pos (by omega)]
theorem cell_eq {a : Option Value} {o : Option Value} {b : Value} (h : a = o) (e : o = some b) : a = some b := h.trans e
set_option maxHeartbeats 4000000 in
set_option maxRecDepth 100000 in
/-- The first two statements: one visit more; is there no more to come? -/
theorem visit_step {lA aA : Option Addr} {lc ac : Nat} {l : List S33} {apart : List S39} {seats : Int} {k : Nat} {nb : Int → Int → Bool}
    (hl : Kd.C k33 w0 lA l.length l) (ha : Kd.C k39 w0 aA apart.length apart) (hac : apart.length ≤ ac) (hnb : ∀ a b, best_not.f k apart a b = some (nb a b)) (hcan : can.length = l.length) (hrest : rest.length = l.length + 1) (h16 : l.length ≤ 16)
    (w : World) (i : Nat) (sum : Int) (now : List Int) (st : BSt) (nv uv : Value) (hm : Mem w0 w p C R (scells lA l.length lc C seats aA apart.length ac R nv st.bw uv st.vis st.found) can rest now st.us nv uv) (hi : i ≤ l.length) (hnow : now.length ≤ i) (m : Nat) (him : i + m = l.length)
    (ih : ∀ m', m = m' + 1 → ∀ (w : World) (sum : Int) (now : List Int) (st : BSt) (nv uv : Value), Mem w0 w p C R (scells lA l.length lc C seats aA apart.length ac R nv st.bw uv st.vis st.found) can rest now st.us nv uv → now.length ≤ i + 1 →
      Calls Try.prog 12 #[.pointer (some ⟨p, 0, none⟩), .int .i64 ((i : Int) + 1), .int .i64 sum] w (VisPost w0 p C R lA l.length lc seats aA apart.length ac can rest now (visP (fun x j => fitsB can seats nb l x j) l rest m' (i + 1) now sum st))) :
    Calls Try.prog 12 #[.pointer (some ⟨p, 0, none⟩), .int .i64 i, .int .i64 sum] w (VisPost w0 p C R lA l.length lc seats aA apart.length ac can rest now (visP (fun x j => fitsB can seats nb l x j) l rest m i now sum st)) := by
  have IH := Lib.hid ih
  clear ih
  have HM := Lib.hid hm
  have HL := Lib.hid hl
  have HA := Lib.hid ha
  have HNB := Lib.hid hnb
  have HCAN := Lib.hid hcan
  have HREST := Lib.hid hrest
  clear hm hl ha hnb hcan hrest
  have c8 : w.cell? ⟨p, 8, none⟩ = some (.int .i64 st.vis) := blk_cell HM.out.hp 8
  have f8 := blk_frozen HM.out.hp 8
  go_enter Try.func12, Try.ntmps12
  go_upto_region 1 with (fail)
  have HM1 := Lib.hid (HM.out.store 8 (.int .i64 (wrap64 (st.vis + 1))))
  clear c8 f8 HM
  generalize w.setCell ⟨p, 8, none⟩ (.int .i64 (wrap64 (st.vis + 1))) = w1 at HM1 ⊢
  go_cut [15] (fun v15 wc => v15 = .bool (st.found && decide (wrap64 (sum + rd rest (i : Int)) ≤ st.bw)) ∧ Hid (Mem w0 wc p C R (scells lA l.length lc C seats aA apart.length ac R nv st.bw uv (wrap64 (st.vis + 1)) st.found) can rest now st.us nv uv))
  case first =>
    have k9 : w1.cell? ⟨p, 9, none⟩ = some (.bool st.found) := blk_cell HM1.out.hp 9
    have k4 : w1.cell? ⟨p, 4, none⟩ = some (.slice (some ⟨R, 0, none⟩) (l.length + 1) (l.length + 1)) := blk_cell HM1.out.hp 4
    have k6 : w1.cell? ⟨p, 6, none⟩ = some (.int .i64 st.bw) := blk_cell HM1.out.hp 6
    have kr : w1.cell? ⟨R, i, none⟩ = some (.int .i64 (rd rest (i : Int))) := (blk_cell HM1.out.hR i).trans (rest_at (by have := HREST.out; omega))
    have hi' : (i : Int) < (l.length : Int) + 1 := by omega
    cases hf : st.found with
    | false =>
      rw [hf] at k9
      have HF := Lib.hid hf
      clear hf
      go_quiet (fail)
      try go_wp2
      go_meet
      case rel => exact ⟨by rw [HF.out]; rfl, Lib.hid (HM1.out.below (pw_below_drewN (Below.refl _ _) nq))⟩
    | true =>
      rw [hf] at k9
      have HF := Lib.hid hf
      clear hf
      go_quiet (fail)
      try go_wp2
      go_meet
      case rel => exact ⟨by rw [HF.out]; rfl, Lib.hid (HM1.out.below (pw_below_drewN (Below.refl _ _) nq))⟩
  case rest =>
    obtain ⟨rfl, HM2⟩ := hcut
    cases hb : (st.found && decide (wrap64 (sum + rd rest (i : Int)) ≤ st.bw)) with
    | true =>
      have HBB := Lib.hid hb
      clear hb
      go_wp2
      first | go_end0 | refine bodyPost_ret (results_none rfl _ _ _) rfl ?_
      refine ⟨rfl, nv, uv, ?_⟩
      have e : visP (fun x j => fitsB can seats nb l x j) l rest m i now sum st = ⟨st.bw, st.us, wrap64 (st.vis + 1), st.found⟩ := by
        cases m <;> (unfold visP; rw [if_pos HBB.out])
      rw [e]
      exact HM2.out
    | false =>
      have HBB := Lib.hid hb
      clear hb
      obtain ⟨A, cn, rfl, hcn, hC⟩ := Kd.R_reads HM2.out.hn
      have HCN := Lib.hid hC
      clear hC
      have k0 : wc.cell? ⟨p, 0, none⟩ = some (.slice lA l.length lc) := blk_cell HM2.out.hp 0
      have k5 : wc.cell? ⟨p, 5, none⟩ = some (.slice A now.length cn) := blk_cell HM2.out.hp 5
      cases m with
      | zero =>
        obtain rfl : i = l.length := by omega
        have hcl : slices_Clone_uint32_uint32.f now = some now := clone_u (by omega)
        go_wp2_with (first | ((with_reducible refine (slices_Clone_uint32_uint32.calls A cn now now wc HCN.out hcn hcl).mono ?_); rintro e w3 ⟨v, rfl, hR, hb3⟩; obtain ⟨Av, cv, rfl, _, _⟩ := Kd.R_reads hR; have HR3 := Lib.hid hR; have HB3 := Lib.hid hb3; clear hR hb3; have HM3 := Lib.hid (HM2.out.below HB3.out); have a6 := cell_eq (blk_cell HM3.out.hp 6) rfl; have a7 := cell_eq (blk_cell HM3.out.hp 7) rfl; have a9 := cell_eq (blk_cell HM3.out.hp 9) rfl; have f6 := blk_frozen HM3.out.hp 6; have f7 := blk_frozen HM3.out.hp 7; have f9 := blk_frozen HM3.out.hp 9))
        first | go_end0 | refine bodyPost_ret (results_none rfl _ _ _) rfl ?_
        have e : visP (fun x j => fitsB can seats nb l x j) l rest 0 l.length now sum st = ⟨sum, now, wrap64 (st.vis + 1), true⟩ := by
          unfold visP
          rw [if_neg (by rw [HBB.out]; simp)]
        refine ⟨rfl, .slice A now.length cn, .slice Av now.length cv, ?_⟩
        rw [e]
        exact ((((HM3.out.choose HR3.out HM2.out.hn HM2.out.hb.size).store 6 (.int .i64 sum)).store 7 (.slice Av now.length cv)).store 9 (.bool true))
      | succ m =>
        have hlt : i < l.length := by omega
        have hne : ¬ i = l.length := by omega
        obtain ⟨ad, rfl, hu0, hw0⟩ := at_T33 (Kd.C_below HL.out HM2.out.hb) (i : Int) (by omega) (by omega)
        have hdn : decide (i = l.length) = false := decide_eq_false hne
        have FI : Hid (FitsIn wc p C (i : Int) seats aA A ad apart l can now ac lc cn) := Lib.hid ⟨k0, cell_eq (blk_cell HM2.out.hp 1) rfl, cell_eq (blk_cell HM2.out.hp 2) rfl, cell_eq (blk_cell HM2.out.hp 3) rfl, k5, hu0,
          (blk_cell HM2.out.hC _).trans (can_at (by have := HCAN.out; rw [Int.toNat_natCast]; omega)), Kd.C_below HA.out HM2.out.hb, hac, HCN.out, by omega, by omega, by omega⟩
        rw [Int.toNat_natCast] at hu0 hw0
        cases hq : fitsB can seats nb l now (i : Int) with
        | true =>
          have HFC : Hid (Calls Try.prog 19 #[.pointer (some ⟨p, 0, none⟩), .int .i64 (i : Int)] wc fun e w' => e = .returned (.bool true) ∧ Below wc.heap.size wc w') := Lib.hid (by have := fits_any wc FI.out HNB.out; rw [hq] at this; exact this)
          have HQ := Lib.hid hq
          clear hq
          go_wp2_with (first | ((with_reducible refine HFC.out.mono ?_); rintro e w3 ⟨rfl, hb3⟩; have HB3 := Lib.hid hb3; clear hb3))
          have q5 := pw_cell_below HB3.out k5
          have q0 := pw_cell_below HB3.out k0
          have qu := pw_cell_below HB3.out hu0
          have qw := Lib.hid (pw_cell_below HB3.out hw0)
          have HM3 := Lib.hid (HM2.out.below HB3.out)
          clear k5 k0 hu0 hw0 HM2 FI HFC
          refine start_ (n := 18) (S := fun w' => w'.cell? ⟨p, 5, none⟩ = some (.slice A now.length cn) ∧ w'.cell? ⟨p, 0, none⟩ = some (.slice (some ad) l.length lc) ∧ w'.cell? (ad.add (i * 2)) = some (.int .u32 (rd_T33 l (i : Int)).f0)) (ds := [14, 17]) #[false, false, false, false, false, false, false, false, false, false, false, false, false, false, false, false, false, false] (by kernel_rfl) rfl rfl ?_ (fun hHeld => ?_)
          · exact ⟨q5, q0, qu⟩
          have HM4 := Lib.hid (HM3.out.below (Below.refl _ _).drew)
          clear HM3 q5 q0 qu
          generalize w3.drew = w4 at hHeld HM4 ⊢
          refine pure_ (i := 0) (N := some 65) (v := ?_) (a' := ?_) #[true, false, false, false, false, false, false, false, false, false, false, false, false, false, false, false, false, false] rfl rfl (by kernel_rfl) (fun _ _ _ h => h) (Or.inl ⟨by rfl, ?_⟩) ?_ ?_
          rotate_left
          · intro w'
            go_simp
            with_reducible rfl
          rotate_left
          · simp only [Act.put, List.setIfInBounds_toArray, List.set_cons_zero, List.set_cons_succ, i64_w, i32_w]
            rfl
          refine pure_ (i := 1) (N := some 66) (v := ?_) (a' := ?_) #[true, true, false, false, false, false, false, false, false, false, false, false, false, false, false, false, false, false] rfl rfl (by kernel_rfl) (fun _ _ _ h => h) (Or.inl ⟨by rfl, ?_⟩) ?_ ?_
          rotate_left
          · intro w'
            go_simp
            with_reducible rfl
          rotate_left
          · simp only [Act.put, List.setIfInBounds_toArray, List.set_cons_zero, List.set_cons_succ, i64_w, i32_w]
            rfl
          refine pure_ (i := 2) (N := some 67) (v := ?_) (a' := ?_) #[true, true, true, false, false, false, false, false, false, false, false, false, false, false, false, false, false, false] rfl rfl (by kernel_rfl) (fun _ _ _ h => h) (Or.inl ⟨by rfl, ?_⟩) ?_ ?_
          rotate_left
          · intro w'
            go_simp
            with_reducible rfl
          rotate_left
          · simp only [Act.put, List.setIfInBounds_toArray, List.set_cons_zero, List.set_cons_succ, i64_w, i32_w]
            rfl
          refine pure_ (i := 3) (N := some 68) (v := ?_) (a' := ?_) #[true, true, true, true, false, false, false, false, false, false, false, false, false, false, false, false, false, false] rfl rfl (by kernel_rfl) (fun _ _ _ h => h) (Or.inl ⟨by rfl, ?_⟩) ?_ ?_
          rotate_left
          · intro w'
            go_simp
            with_reducible rfl
          rotate_left
          · simp only [Act.put, List.setIfInBounds_toArray, List.set_cons_zero, List.set_cons_succ, i64_w, i32_w]
            rfl
          refine take_ (i := 4) (N := some 69) (v := ?_) (a' := ?_) #[true, true, true, true, true, false, false, false, false, false, false, false, false, false, false, false, false, false] rfl rfl (by kernel_rfl) (fun _ _ _ h => h) (Or.inl ⟨by rfl, ?_⟩) hHeld ?_ ?_
          rotate_left
          · rintro w' ⟨s0, s1, s2⟩
            go_simp
            with_reducible rfl
          rotate_left
          · simp only [Act.put, List.setIfInBounds_toArray, List.set_cons_zero, List.set_cons_succ, i64_w, i32_w]
            rfl
          refine pure_ (i := 5) (N := some 70) (v := ?_) (a' := ?_) #[true, true, true, true, true, true, false, false, false, false, false, false, false, false, false, false, false, false] rfl rfl (by kernel_rfl) (fun _ _ _ h => h) (Or.inl ⟨by rfl, ?_⟩) ?_ ?_
          rotate_left
          · intro w'
            go_simp
            with_reducible rfl
          rotate_left
          · simp only [Act.put, List.setIfInBounds_toArray, List.set_cons_zero, List.set_cons_succ, i64_w, i32_w]
            rfl
          refine pure_ (i := 6) (N := some 71) (v := ?_) (a' := ?_) #[true, true, true, true, true, true, true, false, false, false, false, false, false, false, false, false, false, false] rfl rfl (by kernel_rfl) (fun _ _ _ h => h) (Or.inl ⟨by rfl, ?_⟩) ?_ ?_
          rotate_left
          · intro w'
            go_simp
            with_reducible rfl
          rotate_left
          · simp only [Act.put, List.setIfInBounds_toArray, List.set_cons_zero, List.set_cons_succ, i64_w, i32_w]
            rfl
          refine pure_ (i := 7) (N := some 72) (v := ?_) (a' := ?_) #[true, true, true, true, true, true, true, true, false, false, false, false, false, false, false, false, false, false] rfl rfl (by kernel_rfl) (fun _ _ _ h => h) (Or.inl ⟨by rfl, ?_⟩) ?_ ?_
          rotate_left
          · intro w'
            go_simp
            with_reducible rfl
          rotate_left
          · simp only [Act.put, List.setIfInBounds_toArray, List.set_cons_zero, List.set_cons_succ, i64_w, i32_w]
            rfl
          refine take_ (i := 8) (N := some 73) (v := ?_) (a' := ?_) #[true, true, true, true, true, true, true, true, true, false, false, false, false, false, false, false, false, false] rfl rfl (by kernel_rfl) (fun _ _ _ h => h) (Or.inl ⟨by rfl, ?_⟩) hHeld ?_ ?_
          rotate_left
          · rintro w' ⟨s0, s1, s2⟩
            go_simp
            with_reducible rfl
          rotate_left
          · simp only [Act.put, List.setIfInBounds_toArray, List.set_cons_zero, List.set_cons_succ, i64_w, i32_w]
            rfl
          refine pure_ (i := 9) (N := some 74) (v := ?_) (a' := ?_) #[true, true, true, true, true, true, true, true, true, true, false, false, false, false, false, false, false, false] rfl rfl (by kernel_rfl) (fun _ _ _ h => h) (Or.inl ⟨by rfl, ?_⟩) ?_ ?_
          rotate_left
          · intro w'
            go_simp
            with_reducible rfl
          rotate_left
          · simp only [Act.put, List.setIfInBounds_toArray, List.set_cons_zero, List.set_cons_succ, i64_w, i32_w]
            rfl
          refine pure_ (i := 10) (N := some 75) (v := ?_) (a' := ?_) #[true, true, true, true, true, true, true, true, true, true, true, false, false, false, false, false, false, false] rfl rfl (by kernel_rfl) (fun _ _ _ h => h) (Or.inl ⟨by rfl, ?_⟩) ?_ ?_
          rotate_left
          · intro w'
            go_simp
            with_reducible rfl
          rotate_left
          · simp only [Act.put, List.setIfInBounds_toArray, List.set_cons_zero, List.set_cons_succ, i64_w, i32_w]
            rfl
          refine pure_ (i := 11) (N := some 76) (v := ?_) (a' := ?_) #[true, true, true, true, true, true, true, true, true, true, true, true, false, false, false, false, false, false] rfl rfl (by kernel_rfl) (fun _ _ _ h => h) (Or.inl ⟨by rfl, ?_⟩) ?_ ?_
          rotate_left
          · intro w'
            go_simp
            with_reducible rfl
          rotate_left
          · simp only [Act.put, List.setIfInBounds_toArray, List.set_cons_zero, List.set_cons_succ, i64_w, i32_w]
            rfl
          refine take_ (i := 12) (N := some 77) (v := ?_) (a' := ?_) #[true, true, true, true, true, true, true, true, true, true, true, true, true, false, false, false, false, false] rfl rfl (by kernel_rfl) (fun _ _ _ h => h) (Or.inl ⟨by rfl, ?_⟩) hHeld ?_ ?_
          rotate_left
          · rintro w' ⟨s0, s1, s2⟩
            go_simp
            with_reducible rfl
          rotate_left
          · simp only [Act.put, List.setIfInBounds_toArray, List.set_cons_zero, List.set_cons_succ, i64_w, i32_w]
            rfl
          refine one_ (i := 13) (N := some 78) #[true, true, true, true, true, true, true, true, true, true, true, true, true, true, false, false, false, false] rfl rfl (by kernel_rfl) (by decide) (fun K hK => ?_)
          refine runs_ (by rfl) rfl (v := .slice (some ⟨w4.heap.size, 0, none⟩) 1 1) (w1 := w4.alloc (.cells #[.int .u32 (rd_T33 l (i : Int)).f0] 31)) ?_ ?_
          · go_simp
          refine hK.out _ _ ⟨pw_cell_below below_new_ hHeld.1, pw_cell_below below_new_ hHeld.2.1, pw_cell_below below_new_ hHeld.2.2⟩ (fun hHeld2 => ?_)
          clear hK K
          refine last_ (i := 14) (N := some 79) #[true, true, true, true, true, true, true, true, true, true, true, true, true, true, true, false, false, false] rfl rfl (by kernel_rfl) (by decide) (fun K hK => ?_)
          refine Kd.R_append_step (W := w4) (w0 := w0) (Kd.int .u32) w0.heap.size (by rfl) (.tmp 69) (.tmp 78) 26 31 (.int .u32 0) 4 rfl Try.underlying26 info31_ rfl (by decide) (by decide) (.slice A now.length cn) now (rd_T33 l (i : Int)).f0 [.int .u32 (rd_T33 l (i : Int)).f0] (fun _ => True) (fun _ => False) rfl rfl rfl (fun _ h => h.elim) (fun _ _ => trivial) HM4.out.hn HM4.out.hb HM4.out.hb.size (by omega) ?_
          intro v1 w5 hR5 hb5 hg5 hat5
          obtain ⟨A1, c1, rfl, hc1, hC1⟩ := Kd.R_reads hR5
          have HM5 := Lib.hid (HM4.out.grown hg5 hR5 hat5 hb5)
          clear hR5 hb5 hg5 hat5 hc1 hC1
          refine hK.out _ _ ?_
          clear hK K
          refine pure_ (i := 15) (N := some 80) (v := ?_) (a' := ?_) #[true, true, true, true, true, true, true, true, true, true, true, true, true, true, true, true, false, false] rfl rfl (by kernel_rfl) (fun _ _ _ h => h) (Or.inl ⟨by rfl, ?_⟩) ?_ ?_
          rotate_left
          · intro w'
            go_simp
            with_reducible rfl
          rotate_left
          · simp only [Act.put, List.setIfInBounds_toArray, List.set_cons_zero, List.set_cons_succ, i64_w, i32_w]
            rfl
          refine pure_ (i := 16) (N := some 81) (v := ?_) (a' := ?_) #[true, true, true, true, true, true, true, true, true, true, true, true, true, true, true, true, true, false] rfl rfl (by kernel_rfl) (fun _ _ _ h => h) (Or.inl ⟨by rfl, ?_⟩) ?_ ?_
          rotate_left
          · intro w'
            go_simp
            with_reducible rfl
          rotate_left
          · simp only [Act.put, List.setIfInBounds_toArray, List.set_cons_zero, List.set_cons_succ, i64_w, i32_w]
            rfl
          refine last_ (i := 17) (N := none) #[true, true, true, true, true, true, true, true, true, true, true, true, true, true, true, true, true, true] rfl rfl (by kernel_rfl) (by decide) (fun K hK => ?_)
          have hcp := cell_eq (blk_cell HM5.out.hp 5) rfl
          have hfp := blk_frozen HM5.out.hp 5
          refine skip_ (w1 := w5.setCell ⟨p, 5, none⟩ (.slice A1 (now ++ [(rd_T33 l (i : Int)).f0]).length c1)) (by rfl) rfl ?_ ?_
          · go_simp
          refine hK.out _ _ ?_
          clear hK K
          refine done_ (by kernel_rfl) ?_
          have HM6 := Lib.hid (HM5.out.store 5 (.slice A1 (now ++ [(rd_T33 l (i : Int)).f0]).length c1))
          clear hcp hfp hHeld hHeld2 HM5
          generalize w5.setCell ⟨p, 5, none⟩ (.slice A1 (now ++ [(rd_T33 l (i : Int)).f0]).length c1) = w6 at HM6 ⊢
          obtain ⟨ad2, had2, hu6, hw6⟩ := at_T33 (Kd.C_below HL.out HM6.out.hb) (i : Int) (by omega) (by omega)
          obtain rfl := Option.some.inj had2
          clear had2
          rw [Int.toNat_natCast] at hu6 hw6
          have j0 : w6.cell? ⟨p, 0, none⟩ = some (.slice (some ad) l.length lc) := blk_cell HM6.out.hp 0
          have hi15 : i ≤ 15 := by omega
          go_wp2_with (first | ((with_reducible refine (best_weight.calls _ _ (wt (rd_T33 l (i : Int))) _ rfl).mono ?_); rintro e w7 ⟨rfl, hb7⟩; have HB7 := Lib.hid hb7; clear hb7))
          refine (IH.out m rfl w7 _ (now ++ [(rd_T33 l (i : Int)).f0]) ⟨st.bw, st.us, wrap64 (st.vis + 1), st.found⟩ (.slice A1 (now ++ [(rd_T33 l (i : Int)).f0]).length c1) uv (HM6.out.below HB7.out) (by simp; omega)).mono ?_
          rintro e w8 ⟨rfl, nv8, uv8, hm8⟩
          obtain ⟨st8, hst8⟩ : ∃ z, z = visP (fun x j => fitsB can seats nb l x j) l rest m (i + 1) (now ++ [(rd_T33 l (i : Int)).f0]) (wrap64 (sum + wt (rd_T33 l (i : Int)))) ⟨st.bw, st.us, wrap64 (st.vis + 1), st.found⟩ := ⟨_, rfl⟩
          rw [← hst8] at hm8
          have HST8 := Lib.hid hst8
          have HM8 := Lib.hid hm8
          clear hst8 hm8 HM6 j0 hu6 hw6 HB7
          obtain ⟨A8, c8, rfl, hc8, hC8⟩ := Kd.R_reads HM8.out.hn
          clear hC8
          have hlen8 : (now ++ [(rd_T33 l (i : Int)).f0]).length = now.length + 1 := by simp
          rw [hlen8] at hc8 HM8
          clear hlen8
          go_wp2_with fail
          refine start_ (n := 15) (S := fun w' => w'.cell? ⟨p, 5, none⟩ = some (.slice A8 (now.length + 1) c8)) (ds := [14]) #[false, false, false, false, false, false, false, false, false, false, false, false, false, false, false] (by kernel_rfl) rfl rfl ?_ (fun hHeld => ?_)
          · exact blk_cell (show w8.drew.heap[p]? = _ from HM8.out.hp) 5
          have HM9 := Lib.hid (HM8.out.below (Below.refl _ _).drew)
          clear HM8
          generalize w8.drew = w9 at hHeld HM9 ⊢
          have hcI : (now.length : Int) ≤ (c8 : Int) := by omega
          have hcN : now.length ≤ c8 := by omega
          have hwn : wrap64 (now.length : Int) = (now.length : Int) := by unfold wrap64; omega
          refine pure_ (i := 0) (N := some 96) (v := ?_) (a' := ?_) #[true, false, false, false, false, false, false, false, false, false, false, false, false, false, false] rfl rfl (by kernel_rfl) (fun _ _ _ h => h) (Or.inl ⟨by rfl, ?_⟩) ?_ ?_
          rotate_left
          · intro w'
            go_simp
            with_reducible rfl
          rotate_left
          · simp only [Act.put, List.setIfInBounds_toArray, List.set_cons_zero, List.set_cons_succ, i64_w, i32_w]
            rfl
          refine pure_ (i := 1) (N := some 97) (v := ?_) (a' := ?_) #[true, true, false, false, false, false, false, false, false, false, false, false, false, false, false] rfl rfl (by kernel_rfl) (fun _ _ _ h => h) (Or.inl ⟨by rfl, ?_⟩) ?_ ?_
          rotate_left
          · intro w'
            go_simp
            with_reducible rfl
          rotate_left
          · simp only [Act.put, List.setIfInBounds_toArray, List.set_cons_zero, List.set_cons_succ, i64_w, i32_w]
            rfl
          refine pure_ (i := 2) (N := some 98) (v := ?_) (a' := ?_) #[true, true, true, false, false, false, false, false, false, false, false, false, false, false, false] rfl rfl (by kernel_rfl) (fun _ _ _ h => h) (Or.inl ⟨by rfl, ?_⟩) ?_ ?_
          rotate_left
          · intro w'
            go_simp
            with_reducible rfl
          rotate_left
          · simp only [Act.put, List.setIfInBounds_toArray, List.set_cons_zero, List.set_cons_succ, i64_w, i32_w]
            rfl
          refine pure_ (i := 3) (N := some 99) (v := ?_) (a' := ?_) #[true, true, true, true, false, false, false, false, false, false, false, false, false, false, false] rfl rfl (by kernel_rfl) (fun _ _ _ h => h) (Or.inl ⟨by rfl, ?_⟩) ?_ ?_
          rotate_left
          · intro w'
            go_simp
            with_reducible rfl
          rotate_left
          · simp only [Act.put, List.setIfInBounds_toArray, List.set_cons_zero, List.set_cons_succ, i64_w, i32_w]
            rfl
          refine take_ (i := 4) (N := some 100) (v := ?_) (a' := ?_) #[true, true, true, true, true, false, false, false, false, false, false, false, false, false, false] rfl rfl (by kernel_rfl) (fun _ _ _ h => h) (Or.inl ⟨by rfl, ?_⟩) hHeld ?_ ?_
          rotate_left
          · intro w' s0
            go_simp
            with_reducible rfl
          rotate_left
          · simp only [Act.put, List.setIfInBounds_toArray, List.set_cons_zero, List.set_cons_succ, i64_w, i32_w]
            rfl
          refine pure_ (i := 5) (N := some 101) (v := ?_) (a' := ?_) #[true, true, true, true, true, true, false, false, false, false, false, false, false, false, false] rfl rfl (by kernel_rfl) (fun _ _ _ h => h) (Or.inl ⟨by rfl, ?_⟩) ?_ ?_
          rotate_left
          · intro w'
            go_simp
            with_reducible rfl
          rotate_left
          · simp only [Act.put, List.setIfInBounds_toArray, List.set_cons_zero, List.set_cons_succ, i64_w, i32_w]
            rfl
          refine pure_ (i := 6) (N := some 102) (v := ?_) (a' := ?_) #[true, true, true, true, true, true, true, false, false, false, false, false, false, false, false] rfl rfl (by kernel_rfl) (fun _ _ _ h => h) (Or.inl ⟨by rfl, ?_⟩) ?_ ?_
          rotate_left
          · intro w'
            go_simp
            with_reducible rfl
          rotate_left
          · simp only [Act.put, List.setIfInBounds_toArray, List.set_cons_zero, List.set_cons_succ, i64_w, i32_w]
            rfl
          refine pure_ (i := 7) (N := some 103) (v := ?_) (a' := ?_) #[true, true, true, true, true, true, true, true, false, false, false, false, false, false, false] rfl rfl (by kernel_rfl) (fun _ _ _ h => h) (Or.inl ⟨by rfl, ?_⟩) ?_ ?_
          rotate_left
          · intro w'
            go_simp
            with_reducible rfl
          rotate_left
          · simp only [Act.put, List.setIfInBounds_toArray, List.set_cons_zero, List.set_cons_succ, i64_w, i32_w]
            rfl
          refine take_ (i := 8) (N := some 104) (v := ?_) (a' := ?_) #[true, true, true, true, true, true, true, true, true, false, false, false, false, false, false] rfl rfl (by kernel_rfl) (fun _ _ _ h => h) (Or.inl ⟨by rfl, ?_⟩) hHeld ?_ ?_
          rotate_left
          · intro w' s0
            go_simp
            with_reducible rfl
          rotate_left
          · simp only [Act.put, List.setIfInBounds_toArray, List.set_cons_zero, List.set_cons_succ, i64_w, i32_w]
            rfl
          refine pure_ (i := 9) (N := some 105) (v := ?_) (a' := ?_) #[true, true, true, true, true, true, true, true, true, true, false, false, false, false, false] rfl rfl (by kernel_rfl) (fun _ _ _ h => h) (Or.inl ⟨by rfl, ?_⟩) ?_ ?_
          rotate_left
          · intro w'
            go_simp
            with_reducible rfl
          rotate_left
          · simp only [Act.put, List.setIfInBounds_toArray, List.set_cons_zero, List.set_cons_succ, i64_w, i32_w]
            rfl
          refine pure_ (i := 10) (N := some 106) (v := ?_) (a' := ?_) #[true, true, true, true, true, true, true, true, true, true, true, false, false, false, false] rfl rfl (by kernel_rfl) (fun _ _ _ h => h) (Or.inl ⟨by rfl, ?_⟩) ?_ ?_
          rotate_left
          · intro w'
            go_simp
            with_reducible rfl
          rotate_left
          · simp only [Act.put, List.setIfInBounds_toArray, List.set_cons_zero, List.set_cons_succ, i64_w, i32_w]
            rfl
          refine pure_ (i := 11) (N := some 107) (v := ?_) (a' := ?_) #[true, true, true, true, true, true, true, true, true, true, true, true, false, false, false] rfl rfl (by kernel_rfl) (fun _ _ _ h => h) (Or.inl ⟨by rfl, ?_⟩) ?_ ?_
          rotate_left
          · intro w'
            go_simp
            with_reducible rfl
          rotate_left
          · simp only [Act.put, List.setIfInBounds_toArray, List.set_cons_zero, List.set_cons_succ, i64_w, i32_w]
            rfl
          refine pure_ (i := 12) (N := some 108) (v := ?_) (a' := ?_) #[true, true, true, true, true, true, true, true, true, true, true, true, true, false, false] rfl rfl (by kernel_rfl) (fun _ _ _ h => h) (Or.inl ⟨by rfl, ?_⟩) ?_ ?_
          rotate_left
          · intro w'
            go_simp
            with_reducible rfl
          rotate_left
          · simp only [Act.put, List.setIfInBounds_toArray, List.set_cons_zero, List.set_cons_succ, i64_w, i32_w]
            rfl
          refine pure_ (i := 13) (N := some 109) (v := ?_) (a' := ?_) #[true, true, true, true, true, true, true, true, true, true, true, true, true, true, false] rfl rfl (by kernel_rfl) (fun _ _ _ h => h) (Or.inl ⟨by rfl, ?_⟩) ?_ ?_
          rotate_left
          · intro w'
            go_simp
            with_reducible rfl
          rotate_left
          · simp only [Act.put, List.setIfInBounds_toArray, List.set_cons_zero, List.set_cons_succ, i64_w, i32_w]
            rfl
          refine last_ (i := 14) (N := none) #[true, true, true, true, true, true, true, true, true, true, true, true, true, true, true] rfl rfl (by kernel_rfl) (by decide) (fun K hK => ?_)
          have hcp := cell_eq (blk_cell HM9.out.hp 5) rfl
          have hfp := blk_frozen HM9.out.hp 5
          refine skip_ (w1 := w9.setCell ⟨p, 5, none⟩ (.slice A8 now.length c8)) (by rfl) rfl ?_ ?_
          · go_simp
          refine hK.out _ _ ?_
          clear hK K
          refine done_ (by kernel_rfl) ?_
          have HM10 : Hid (Mem w0 (w9.setCell ⟨p, 5, none⟩ (.slice A8 now.length c8)) p C R (scells (some ad) l.length lc C seats aA apart.length ac R (.slice A8 now.length c8) st8.bw uv8 st8.vis st8.found) can rest now st8.us (.slice A8 now.length c8) uv8) := Lib.hid ((HM9.out.cut (xs := now) (u := (rd_T33 l (i : Int)).f0) rfl).store 5 (.slice A8 now.length c8))
          clear hcp hfp hHeld HM9 hwn
          generalize w9.setCell ⟨p, 5, none⟩ (.slice A8 now.length c8) = w10 at HM10 ⊢
          go_wp2_with fail
          refine (IH.out m rfl w10 sum now st8 (.slice A8 now.length c8) uv8 HM10.out (by omega)).mono ?_
          rintro e w11 ⟨rfl, nv11, uv11, hm11⟩
          have HM11 := Lib.hid hm11
          clear hm11
          go_wp2_with fail
          first | go_end0 | refine bodyPost_ret (results_none rfl _ _ _) rfl ?_
          refine ⟨rfl, nv11, uv11, ?_⟩
          have e : visP (fun x j => fitsB can seats nb l x j) l rest (m + 1) i now sum st = visP (fun x j => fitsB can seats nb l x j) l rest m (i + 1) now sum st8 := by
            rw [HST8.out]
            conv => lhs; unfold visP
            rw [if_neg (by rw [HBB.out]; simp), if_pos HQ.out]
          rw [e]
          exact HM11.out
        | false =>
          have HFC : Hid (Calls Try.prog 19 #[.pointer (some ⟨p, 0, none⟩), .int .i64 (i : Int)] wc fun e w' => e = .returned (.bool false) ∧ Below wc.heap.size wc w') := Lib.hid (by have := fits_any wc FI.out HNB.out; rw [hq] at this; exact this)
          have HQ := Lib.hid hq
          clear hq
          have hi15 : i ≤ 15 := by omega
          go_wp2_with (first | ((with_reducible refine HFC.out.mono ?_); rintro e w3 ⟨rfl, hb3⟩; have HB3 := Lib.hid hb3; clear hb3))
          refine (IH.out m rfl w3 sum now ⟨st.bw, st.us, wrap64 (st.vis + 1), st.found⟩ (.slice A now.length cn) uv (HM2.out.below HB3.out) (by omega)).mono ?_
          rintro e w11 ⟨rfl, nv11, uv11, hm11⟩
          have HM11 := Lib.hid hm11
          clear hm11
          go_wp2_with fail
          first | go_end0 | refine bodyPost_ret (results_none rfl _ _ _) rfl ?_
          refine ⟨rfl, nv11, uv11, ?_⟩
          have e : visP (fun x j => fitsB can seats nb l x j) l rest (m + 1) i now sum st = visP (fun x j => fitsB can seats nb l x j) l rest m (i + 1) now sum ⟨st.bw, st.us, wrap64 (st.vis + 1), st.found⟩ := by
            conv => lhs; unfold visP
            rw [if_neg (by rw [HBB.out]; simp), if_neg (by rw [HQ.out]; simp)]
          rw [e]
          exact HM11.out
theorem visit_any {lA aA : Option Addr} {lc ac : Nat} {l : List S33} {apart : List S39} {seats : Int} {k : Nat} {nb : Int → Int → Bool}
    (hl : Kd.C k33 w0 lA l.length l) (ha : Kd.C k39 w0 aA apart.length apart) (hac : apart.length ≤ ac) (hnb : ∀ a b, best_not.f k apart a b = some (nb a b)) (hcan : can.length = l.length) (hrest : rest.length = l.length + 1) (h16 : l.length ≤ 16) (m : Nat) :
    ∀ (i : Nat) (w : World) (sum : Int) (now : List Int) (st : BSt) (nv uv : Value), Mem w0 w p C R (scells lA l.length lc C seats aA apart.length ac R nv st.bw uv st.vis st.found) can rest now st.us nv uv → i + m = l.length → now.length ≤ i →
    Calls Try.prog 12 #[.pointer (some ⟨p, 0, none⟩), .int .i64 i, .int .i64 sum] w (VisPost w0 p C R lA l.length lc seats aA apart.length ac can rest now (visP (fun x j => fitsB can seats nb l x j) l rest m i now sum st)) := by
  induction m with
  | zero =>
    intro i w sum now st nv uv hm him hnow
    exact visit_step hl ha hac hnb hcan hrest h16 w i sum now st nv uv hm (by omega) hnow 0 him (fun m' h => by omega)
  | succ m ihm =>
    intro i w sum now st nv uv hm him hnow
    refine visit_step hl ha hac hnb hcan hrest h16 w i sum now st nv uv hm (by omega) hnow (m + 1) him (fun m' h => ?_)
    obtain rfl : m' = m := by omega
    intro w1 sum1 now1 st1 nv1 uv1 hm1 hn1
    have := ihm (i + 1) w1 sum1 now1 st1 nv1 uv1 hm1 (by omega) hn1
    rwa [show (((i + 1 : Nat)) : Int) = (i : Int) + 1 from by omega] at this
end Go.Proofs.Ythpibikfecjoiaa.Own
