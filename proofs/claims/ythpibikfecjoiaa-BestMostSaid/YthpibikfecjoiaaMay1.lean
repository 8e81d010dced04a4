import Derived.Test.YthpibikfecjoiaaBst1
namespace Go.Proofs.Ythpibikfecjoiaa.Own
open Go.RowKit Go.Proofs.YthpibikfecjoiaaW.PrintWords Go.Proofs.YthpibikfecjoiaaW.PrintLast Go.Proofs.YthpibikfecjoiaaW.PrintMore
set_option linter.unusedVariables false
set_option linter.unusedSimpArgs false
/-- What the closure of May reads. -/
structure MayAt (w : World) (b0 b1 b2 : Nat) (p : Int) (aA : Option Addr) (ad : Addr) (apart : List S39) (l : List S33) (ac lc : Nat) : Prop where
  h0 : w.cell? ⟨b0, 0, none⟩ = some (.slice aA apart.length ac)
  h1 : w.cell? ⟨b1, 0, none⟩ = some (.slice (some ad) l.length lc)
  h2 : w.cell? ⟨b2, 0, none⟩ = some (.int .i64 p)
  ha : Kd.C k39 w aA apart.length apart
  hac : apart.length ≤ ac
  hl : Kd.C k33 w (some ad) l.length l
  p0 : 0 ≤ p
  p1 : p < (l.length : Int)
theorem MayAt.below {w w1 : World} {b0 b1 b2 : Nat} {p : Int} {aA : Option Addr} {ad : Addr} {apart : List S39} {l : List S33} {ac lc : Nat} (h : MayAt w b0 b1 b2 p aA ad apart l ac lc) (hb : Below w.heap.size w w1) : MayAt w1 b0 b1 b2 p aA ad apart l ac lc :=
  ⟨pw_cell_below hb h.h0, pw_cell_below hb h.h1, pw_cell_below hb h.h2, Kd.C_below h.ha hb, h.hac, Kd.C_below h.hl hb, h.p0, h.p1⟩
set_option maxHeartbeats 1000000 in
set_option maxRecDepth 100000 in
theorem may1_any {b0 b1 b2 : Nat} {p q : Int} {aA : Option Addr} {ad : Addr} {apart : List S39} {l : List S33} {ac lc k : Nat} {r : Bool} (w : World) (hf : MayAt w b0 b1 b2 p aA ad apart l ac lc)
    (hq0 : 0 ≤ q) (hq1 : q < (l.length : Int)) (hr0 : best_not.f k apart (rd_T33 l p).f0 (rd_T33 l q).f0 = some r) :
    Calls Try.prog 15 #[.int .i64 q, .pointer (some ⟨b0, 0, none⟩), .pointer (some ⟨b1, 0, none⟩), .pointer (some ⟨b2, 0, none⟩)] w fun e w' => e = .returned (.bool r) ∧ Below w.heap.size w w' := by
  have HF := Lib.hid hf
  have hr := Lib.hid hr0
  obtain ⟨ad1, e1, hcp, _⟩ := at_T33 hf.hl p hf.p0 hf.p1
  obtain rfl := Option.some.inj e1
  obtain ⟨ad2, e2, hcq, _⟩ := at_T33 hf.hl q hq0 hq1
  obtain rfl := Option.some.inj e2
  clear hf hr0 e1 e2
  go_enter Try.func15, Try.ntmps15
  go_wp2
  refine start_ (n := 13) (S := fun w' => w'.cell? ⟨b0, 0, none⟩ = some (.slice aA apart.length ac) ∧ w'.cell? ⟨b1, 0, none⟩ = some (.slice (some ad) l.length lc) ∧ w'.cell? ⟨b2, 0, none⟩ = some (.int .i64 p) ∧ w'.cell? (ad.add (p.toNat * 2)) = some (.int .u32 (rd_T33 l p).f0) ∧ w'.cell? (ad.add (q.toNat * 2)) = some (.int .u32 (rd_T33 l q).f0)) (ds := [11]) #[false, false, false, false, false, false, false, false, false, false, false, false, false] (by kernel_rfl) rfl rfl ?_ (fun hHeld => ?_)
  · exact ⟨HF.out.h0, HF.out.h1, HF.out.h2, hcp, hcq⟩
  clear hcp hcq
  have HA2 := Lib.hid (show Kd.C k39 w.drew aA apart.length apart from Kd.C_below HF.out.ha (Below.refl _ _).drew)
  have hac := HF.out.hac
  have hp0 := HF.out.p0
  have hp1 := HF.out.p1
  have HW2 := Lib.hid ((Below.refl w.heap.size w).drew)
  have HZ2 := Lib.hid (show w.heap.size ≤ w.drew.heap.size from Nat.le_refl _)
  generalize w.drew = w2 at hHeld HA2 HW2 HZ2 ⊢
  refine take_ (i := 0) (N := some 6) (v := ?_) (a' := ?_) #[true, false, false, false, false, false, false, false, false, false, false, false, false] rfl rfl (by kernel_rfl) (fun _ _ _ h => h) (Or.inl ⟨by rfl, ?_⟩) hHeld ?_ ?_
  rotate_left
  · rintro w' ⟨s0, s1, s2, s3, s4⟩
    go_simp
    with_reducible rfl
  rotate_left
  · simp only [Act.put, List.setIfInBounds_toArray, List.set_cons_zero, List.set_cons_succ, i64_w, i32_w]
    rfl
  refine take_ (i := 1) (N := some 7) (v := ?_) (a' := ?_) #[true, true, false, false, false, false, false, false, false, false, false, false, false] rfl rfl (by kernel_rfl) (fun _ _ _ h => h) (Or.inl ⟨by rfl, ?_⟩) hHeld ?_ ?_
  rotate_left
  · rintro w' ⟨s0, s1, s2, s3, s4⟩
    go_simp
    with_reducible rfl
  rotate_left
  · simp only [Act.put, List.setIfInBounds_toArray, List.set_cons_zero, List.set_cons_succ, i64_w, i32_w]
    rfl
  refine take_ (i := 2) (N := some 8) (v := ?_) (a' := ?_) #[true, true, true, false, false, false, false, false, false, false, false, false, false] rfl rfl (by kernel_rfl) (fun _ _ _ h => h) (Or.inl ⟨by rfl, ?_⟩) hHeld ?_ ?_
  rotate_left
  · rintro w' ⟨s0, s1, s2, s3, s4⟩
    go_simp
    with_reducible rfl
  rotate_left
  · simp only [Act.put, List.setIfInBounds_toArray, List.set_cons_zero, List.set_cons_succ, i64_w, i32_w]
    rfl
  refine pure_ (i := 3) (N := some 9) (v := ?_) (a' := ?_) #[true, true, true, true, false, false, false, false, false, false, false, false, false] rfl rfl (by kernel_rfl) (fun _ _ _ h => h) (Or.inl ⟨by rfl, ?_⟩) ?_ ?_
  rotate_left
  · intro w'
    go_simp
    with_reducible rfl
  rotate_left
  · simp only [Act.put, List.setIfInBounds_toArray, List.set_cons_zero, List.set_cons_succ, i64_w, i32_w]
    rfl
  refine pure_ (i := 4) (N := some 10) (v := ?_) (a' := ?_) #[true, true, true, true, true, false, false, false, false, false, false, false, false] rfl rfl (by kernel_rfl) (fun _ _ _ h => h) (Or.inl ⟨by rfl, ?_⟩) ?_ ?_
  rotate_left
  · intro w'
    go_simp
    with_reducible rfl
  rotate_left
  · simp only [Act.put, List.setIfInBounds_toArray, List.set_cons_zero, List.set_cons_succ, i64_w, i32_w]
    rfl
  refine take_ (i := 5) (N := some 11) (v := ?_) (a' := ?_) #[true, true, true, true, true, true, false, false, false, false, false, false, false] rfl rfl (by kernel_rfl) (fun _ _ _ h => h) (Or.inl ⟨by rfl, ?_⟩) hHeld ?_ ?_
  rotate_left
  · rintro w' ⟨s0, s1, s2, s3, s4⟩
    go_simp
    with_reducible rfl
  rotate_left
  · simp only [Act.put, List.setIfInBounds_toArray, List.set_cons_zero, List.set_cons_succ, i64_w, i32_w]
    rfl
  refine take_ (i := 6) (N := some 12) (v := ?_) (a' := ?_) #[true, true, true, true, true, true, true, false, false, false, false, false, false] rfl rfl (by kernel_rfl) (fun _ _ _ h => h) (Or.inl ⟨by rfl, ?_⟩) hHeld ?_ ?_
  rotate_left
  · rintro w' ⟨s0, s1, s2, s3, s4⟩
    go_simp
    with_reducible rfl
  rotate_left
  · simp only [Act.put, List.setIfInBounds_toArray, List.set_cons_zero, List.set_cons_succ, i64_w, i32_w]
    rfl
  refine pure_ (i := 7) (N := some 13) (v := ?_) (a' := ?_) #[true, true, true, true, true, true, true, true, false, false, false, false, false] rfl rfl (by kernel_rfl) (fun _ _ _ h => h) (Or.inl ⟨by rfl, ?_⟩) ?_ ?_
  rotate_left
  · intro w'
    go_simp
    with_reducible rfl
  rotate_left
  · simp only [Act.put, List.setIfInBounds_toArray, List.set_cons_zero, List.set_cons_succ, i64_w, i32_w]
    rfl
  refine pure_ (i := 8) (N := some 14) (v := ?_) (a' := ?_) #[true, true, true, true, true, true, true, true, true, false, false, false, false] rfl rfl (by kernel_rfl) (fun _ _ _ h => h) (Or.inl ⟨by rfl, ?_⟩) ?_ ?_
  rotate_left
  · intro w'
    go_simp
    with_reducible rfl
  rotate_left
  · simp only [Act.put, List.setIfInBounds_toArray, List.set_cons_zero, List.set_cons_succ, i64_w, i32_w]
    rfl
  refine pure_ (i := 9) (N := some 15) (v := ?_) (a' := ?_) #[true, true, true, true, true, true, true, true, true, true, false, false, false] rfl rfl (by kernel_rfl) (fun _ _ _ h => h) (Or.inl ⟨by rfl, ?_⟩) ?_ ?_
  rotate_left
  · intro w'
    go_simp
    with_reducible rfl
  rotate_left
  · simp only [Act.put, List.setIfInBounds_toArray, List.set_cons_zero, List.set_cons_succ, i64_w, i32_w]
    rfl
  refine take_ (i := 10) (N := some 16) (v := ?_) (a' := ?_) #[true, true, true, true, true, true, true, true, true, true, true, false, false] rfl rfl (by kernel_rfl) (fun _ _ _ h => h) (Or.inl ⟨by rfl, ?_⟩) hHeld ?_ ?_
  rotate_left
  · rintro w' ⟨s0, s1, s2, s3, s4⟩
    go_simp
    with_reducible rfl
  rotate_left
  · simp only [Act.put, List.setIfInBounds_toArray, List.set_cons_zero, List.set_cons_succ, i64_w, i32_w]
    rfl
  refine last_ (i := 11) (N := some 17) #[true, true, true, true, true, true, true, true, true, true, true, true, false] rfl rfl (by kernel_rfl) (by decide) (fun K hK => ?_)
  refine goes_ Try.func16 (by kernel_rfl) rfl #[.slice aA apart.length ac, .int .u32 (rd_T33 l p).f0, .int .u32 (rd_T33 l q).f0] (by rfl) rfl rfl (by (try simp only [List.map_toArray, List.map_cons, List.map_nil]); first | done | rfl) ?_
  refine (best_not.calls k aA ac apart (rd_T33 l p).f0 (rd_T33 l q).f0 r w2 HA2.out hac hr.out).mono ?_
  rintro e w4 ⟨rfl, hb⟩
  refine ⟨_, rfl, ?_⟩
  have HW4 := Lib.hid (HW2.out.trans (hb.mono HZ2.out))
  refine hK.out _ _ ?_
  clear hK K
  refine pure_ (i := 12) (N := some 5) (v := ?_) (a' := ?_) #[true, true, true, true, true, true, true, true, true, true, true, true, true] rfl rfl (by kernel_rfl) (fun _ _ _ h => h) (Or.inl ⟨by rfl, ?_⟩) ?_ ?_
  rotate_left
  · intro w'
    go_simp
    with_reducible rfl
  rotate_left
  · simp only [Act.put, List.setIfInBounds_toArray, List.set_cons_zero, List.set_cons_succ, i64_w, i32_w]
    rfl
  refine done_ (by kernel_rfl) ?_
  go_wp2
  go_ret
  exact ⟨rfl, HW4.out⟩
end Go.Proofs.Ythpibikfecjoiaa.Own
