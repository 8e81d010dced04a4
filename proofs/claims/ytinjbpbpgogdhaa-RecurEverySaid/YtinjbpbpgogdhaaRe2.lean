import Derived.Test.YtinjbpbpgogdhaaRe1
namespace Go.Proofs.Ytinjbpbpgogdhaa.Own
open Go.RowKit Go.Shelf Go.Proofs.YtinjbpbpgogdhaaW.PrintWords Go.Proofs.YtinjbpbpgogdhaaW.PrintLast Go.Proofs.YtinjbpbpgogdhaaW.PrintMore
set_option linter.unusedVariables false
set_option linter.unusedSimpArgs false
set_option maxHeartbeats 2000000 in
set_option maxRecDepth 100000 in
/-- first, where it tells the first period. -/
theorem first_zero {w0 w : World} {g : Nat} {a0 a1 a2 a3 a8 : Int} {A4 A5 A6 A7 : Option Addr} {c4 c5 c6 c7 : Nat} {l4 l5 l7 : List Int} {l6 : List S58} {day sy sm sd mi : Int} (frm : Int) (hW : Wk0 w0 w g a0 a1 a2 a3 a8 A4 A5 A6 A7 c4 c5 c6 c7 l4 l5 l7 l6 day sy sm sd mi)
    (hf0 : 0 ≤ frm) (hf1 : frm ≤ 158310720) (hd0 : 0 ≤ day) (hd1 : day ≤ 109938) (h : 0 < a2 ∨ frm / 1440 ≤ day) :
    Calls Try.prog 16 #[.pointer (some ⟨g, 0, none⟩), .int .i64 frm] w fun e w' => e = .returned (.int .i64 0) ∧ w' = w := by
  have q2 := cell_eq (blk_cell hW.hg 2) rfl
  have q9 := cell_eq (blk_cell hW.hg 9) rfl
  clear hW
  have ht : Int.tdiv frm 1440 = frm / 1440 := Int.tdiv_eq_ediv_of_nonneg hf0
  obtain ⟨t, hft⟩ : ∃ t, t = frm / 1440 := ⟨_, rfl⟩
  have hft0 : 0 ≤ t ∧ t ≤ 109938 := by omega
  rw [← hft] at ht h
  clear hft hf0 hf1
  have w1 : wrap64 t = t := IntWalk.wrap64_in _ (by omega)
  have w2 : wrap64 (t - day) = t - day := by clear w1; exact IntWalk.wrap64_in _ (by omega)
  by_cases e2 : 0 < a2
  · clear h
    go_enter Try.func16, Try.ntmps16
    go_wp2
    go_ret
    exact ⟨rfl, rfl⟩
  · have h2 : t - day ≤ 0 := by clear w1 w2; omega
    clear h hft0 hd0 hd1
    go_enter Try.func16, Try.ntmps16
    go_wp2
    go_ret
    exact ⟨rfl, rfl⟩
set_option maxHeartbeats 1000000 in
/-- from: the walker and the period are laid into boxes; the function value captures these. -/
theorem from_any (p : Option Addr) (k : Int) (w : World) : Calls Try.prog 15 #[.pointer p, .int .i64 k] w fun e w' => e = .returned (.func (.func 28) #[] #[.pointer (some ⟨w.heap.size, 0, none⟩), .pointer (some ⟨w.heap.size + 1, 0, none⟩)]) ∧ w' = (w.alloc (.cells #[.pointer p] 39)).alloc (.cells #[.int .i64 k] 3) := by
  go_enter Try.func15, Try.ntmps15
  go_wp2
  go_ret
  exact ⟨by simp [World.alloc], rfl⟩
set_option maxHeartbeats 2000000 in
set_option maxRecDepth 100000 in
/-- from's closure hands out T, or a part of it. -/
theorem from1_stops {w0 w : World} {g : Nat} {a0 a1 a2 a3 a8 : Int} {A4 A5 A6 A7 : Option Addr} {c4 c5 c6 c7 : Nat} {l4 l5 l7 : List Int} {l6 : List S58} {day sy sm sd mi : Int} (n b1 b2 k0 : Nat) (T : List Int) (hW : Wk0 w0 w g a0 a1 a2 a3 a8 A4 A5 A6 A7 c4 c5 c6 c7 l4 l5 l7 l6 day sy sm sd mi)
    (ha0 : 1 ≤ a0 ∧ a0 ≤ 4) (ha1 : 1 ≤ a1 ∧ a1 ≤ 999) (ha8 : 0 ≤ a8 ∧ a8 ≤ 6) (hd0 : 0 ≤ day) (hd1 : day ≤ 109938) (hy0 : 1900 ≤ sy) (hy1 : sy ≤ 2200) (hm0 : 1 ≤ sm) (hm1 : sm ≤ 12) (hmi : 0 ≤ mi ∧ mi ≤ 1439) (hk0 : (k0 : Int) * a1 ≤ 110936)
    (hT : T = timesL a0 a1 a2 a3 a8 l4 l7 (dayB a0 l4 l5 l6 day sm sd) day sy sm mi k0)
    (h1 : w.cell? ⟨b1, 0, none⟩ = some (.pointer (some ⟨g, 0, none⟩))) (h2 : w.cell? ⟨b2, 0, none⟩ = some (.int .i64 (k0 : Int))) (hb1 : b1 < w.heap.size) (hb2 : b2 < w.heap.size) :
    SeqStopsK Fence.wide n Try.prog 28 #[.pointer (some ⟨b1, 0, none⟩), .pointer (some ⟨b2, 0, none⟩)] (fun x : Int => #[Value.int .i64 x]) (Kp w0.heap.size) (fun xs => xs = T) (fun pre => pre <+: T) T.length w := fun l J Jx W hB hJ hJx hY h0 => by
  have q1 : W.cell? ⟨b1, 0, none⟩ = some (.pointer (some ⟨g, 0, none⟩)) := (hB.cell (p := ⟨b1, 0, none⟩) hb1).trans h1
  have q2 : W.cell? ⟨b2, 0, none⟩ = some (.int .i64 (k0 : Int)) := (hB.cell (p := ⟨b2, 0, none⟩) hb2).trans h2
  have HT := Lib.hid (times_in (n - 1) l k0 T J Jx W (hW.below hB) ha0 ha1 ha8 hd0 hd1 hy0 hy1 hm0 hm1 hmi hk0 hT hJ (fun pre x W1 h3 h4 => yieldAt_any rfl _ (hY pre x W1 h3 h4)) h0)
  clear hW hT hB hJ hJx hY h0 h1 h2 hb1 hb2 hk0
  refine callsIn_of_wp Try.func28 rfl trivial ?_ rfl
  simp only [Try.ntmps28, List.size_toArray, List.length_cons, List.length_nil, Nat.reduceAdd, Nat.reduceSub, Array.replicate_succ, Array.replicate_zero, List.push_toArray, List.append_toArray, List.nil_append, List.cons_append]
  gi_wp2_with (refine ⟨trivial, wdep _, ?_⟩; (with_reducible refine CallsIn.mono HT.out ?_); rintro e w2 ⟨⟨v, rfl⟩, hp⟩; have HP := Lib.hid hp; clear hp)
  go_end0
  exact ⟨⟨_, rfl⟩, HP.out.imp (fun h => ⟨T, rfl, h⟩) (fun h => h)⟩
end Go.Proofs.Ytinjbpbpgogdhaa.Own
