-- own text: texts of this session merged by a program of it (merge.py), declarations that nothing reaches left out (prune.py)
import Derived.Test.YtinjbpbpgogdhaaHa31
section
namespace Go.Proofs.Ytinjbpbpgogdhaa.Own
open Go.RowKit Go.Shelf Go.Proofs.YtinjbpbpgogdhaaW.PrintWords Go.Proofs.YtinjbpbpgogdhaaW.PrintLast Go.Proofs.YtinjbpbpgogdhaaW.PrintMore
set_option linter.unusedVariables false
set_option linter.unusedSimpArgs false
noncomputable def tm26C : Code := (Try.f9.body.bind (regC 26)).getD .skip
set_option maxHeartbeats 8000000 in
set_option maxRecDepth 100000 in
theorem tm26_wp {a0 a1 a2 a3 a8 : Int} {A4 A5 A6 A7 : Option Addr} {c4 c5 c6 c7 : Nat} {l4 l5 l7 : List Int} {l6 : List S58} {w : World} {g1 g8 g11 : Nat} {sN sy sm sd sW n y m d wd p : Int} {t rb : Bool} {Q : Exit → Act → World → Prop} {z0 z1 z2 z4 z5 z6 z7 z9 z10 z13 z14 z15 z16 z17 z18 z19 z20 z21 z22 z23 z24 z25 z26 z27 z28 z29 z30 z31 z32 z33 z34 z35 z36 z37 z38 z39 z40 z41 z42 z43 z44 z45 z46 z47 z48 z49 z50 z51 z52 z53 z54 z55 z56 z57 z58 z59 z60 z61 z62 z63 z64 z65 z66 z67 z68 z69 z70 z71 z72 z73 z74 z75 z76 z77 z78 z79 z80 z81 z82 z83 z84 z85 z86 z87 z88 z89 z90 z91 z92 z93 z94 z95 z96 z97 z98 z99 z100 z101 z102 z103 z104 z105 z106 z107 z108 z109 z110 z111 z112 z113 z114 z115 z116 z117 z118 z119 z120 z121 z122 z123 z124 z125 z126 z127 z128 z129 z130 z131 z132 z133 z134 z135 z136 z137 z138 z139 z140 z141 z142 z143 z144 z145 : Value}
    (H1 : Hid (w.heap[g1]? = some (.cells #[.int .i64 a0, .int .i64 a1, .int .i64 a2, .int .i64 a3, .slice A4 l4.length c4, .slice A5 l5.length c5, .slice A6 l6.length c6, .slice A7 l7.length c7, .int .i64 a8] 25 (0, 0)))) (H8 : Hid (w.heap[g8]? = some (.cells #[.int .i64 sN, .int .i64 sy, .int .i64 sm, .int .i64 sd, .int .i64 sW] 47 (0, 0)))) (HD : Hid (w.heap[g11]? = some (.cells #[.int .i64 n, .int .i64 y, .int .i64 m, .int .i64 d, .int .i64 wd] 47 (0, 0))))
    (HRR : Hid (∀ W, Below w.heap.size w W → Calls Try.prog 22 #[.agg #[.int .i64 a0, .int .i64 a1, .int .i64 a2, .int .i64 a3, .slice A4 l4.length c4, .slice A5 l5.length c5, .slice A6 l6.length c6, .slice A7 l7.length c7, .int .i64 a8], .agg #[.int .i64 sN, .int .i64 sy, .int .i64 sm, .int .i64 sd, .int .i64 sW], .agg #[.int .i64 n, .int .i64 y, .int .i64 m, .int .i64 d, .int .i64 wd]] W fun e w' => e = .returned (.bool rb) ∧ Below W.heap.size W w'))
    (ha1 : 1 ≤ a1 ∧ a1 ≤ 999) (ht : t = (decide (n < 109938) && (decide (p % a1 = 0) && rb)))
    (HP : Hid (∀ c (a : Act) (N : Option Tmp) (v : Value) (w : World), Q (.panic c) (a.put N v) w → Q (.panic c) a w))
    (HE : Hid (∀ (d123 d124 d125 d126 d127 d128 d129 d130 d131 d132 d133 d134 d135 d136 d137 : Value) (w' : World), Hid (Below w.heap.size w w') → Q .normal ⟨#[z0, z1, z2, .pointer (some ⟨g1, 0, none⟩), z4, z5, z6, z7, .pointer (some ⟨g8, 0, none⟩), z9, z10, .pointer (some ⟨g11, 0, none⟩), .int .i64 p, z13, z14, z15, z16, z17, z18, z19, z20, z21, z22, z23, z24, z25, z26, z27, z28, z29, z30, z31, z32, z33, z34, z35, z36, z37, z38, z39, z40, z41, z42, z43, z44, z45, z46, z47, z48, z49, z50, z51, z52, z53, z54, z55, z56, z57, z58, z59, z60, z61, z62, z63, z64, z65, z66, z67, z68, z69, z70, z71, z72, z73, z74, z75, z76, z77, z78, z79, z80, z81, z82, z83, z84, z85, z86, z87, z88, z89, z90, z91, z92, z93, z94, z95, z96, z97, z98, z99, z100, z101, z102, z103, z104, z105, z106, z107, z108, z109, z110, z111, z112, z113, z114, z115, z116, z117, z118, z119, z120, z121, z122, d123, d124, d125, d126, d127, d128, d129, d130, d131, d132, d133, d134, d135, d136, d137, .bool t, z139, z140, z141, z142, z143, z144, z145], []⟩ w')) :
    Code.wp Try.prog tm26C Q ⟨#[z0, z1, z2, .pointer (some ⟨g1, 0, none⟩), z4, z5, z6, z7, .pointer (some ⟨g8, 0, none⟩), z9, z10, .pointer (some ⟨g11, 0, none⟩), .int .i64 p, z13, z14, z15, z16, z17, z18, z19, z20, z21, z22, z23, z24, z25, z26, z27, z28, z29, z30, z31, z32, z33, z34, z35, z36, z37, z38, z39, z40, z41, z42, z43, z44, z45, z46, z47, z48, z49, z50, z51, z52, z53, z54, z55, z56, z57, z58, z59, z60, z61, z62, z63, z64, z65, z66, z67, z68, z69, z70, z71, z72, z73, z74, z75, z76, z77, z78, z79, z80, z81, z82, z83, z84, z85, z86, z87, z88, z89, z90, z91, z92, z93, z94, z95, z96, z97, z98, z99, z100, z101, z102, z103, z104, z105, z106, z107, z108, z109, z110, z111, z112, z113, z114, z115, z116, z117, z118, z119, z120, z121, z122, z123, z124, z125, z126, z127, z128, z129, z130, z131, z132, z133, z134, z135, z136, z137, z138, z139, z140, z141, z142, z143, z144, z145], []⟩ w := by
  unfold tm26C
  conv => arg 2; whnf
  try simp only [List.append_eq, List.cons_append, List.nil_append]
  obtain ⟨q0, q1, q2, q3, q4, q5, q6, q7, q8⟩ := cells9 H1.out
  obtain ⟨s0, s1, s2, s3, s4⟩ := cells5 H8.out
  obtain ⟨u0, u1, u2, u3, u4⟩ := cells5 HD.out
  obtain ⟨r, hr⟩ : ∃ r, r = Int.tmod p a1 := ⟨_, rfl⟩
  have hrb : wrap64 r = r := by
    have h1 := Int.tmod_lt_of_pos p (show (0 : Int) < a1 by omega)
    have h2 := Int.lt_tmod_of_pos p (show (0 : Int) < a1 by omega)
    exact IntWalk.wrap64_in _ (by omega)
  have hz : r = 0 ↔ p % a1 = 0 := by rw [hr]; exact tmod0 p a1
  have k2 : Int.tmod p a1 = r := hr.symm
  have hp : ¬ a1 = 0 := by omega
  have hpb : (a1 == 0) = false := by rw [Bool.eq_false_iff]; intro h; exact hp (eq_of_beq h)
  have HZ := Lib.hid hz
  have hTT := Lib.hid ht
  clear hz hr ht
  have HQ0 : Hid (Below w.heap.size w w) := Lib.hid (Below.refl _ _)
  by_cases hn : n < 109938
  · by_cases hr0 : r = 0
    · have hr0e := hr0
      subst hr0
      cases rb with
      | true =>
        have HT : Hid (t = true) := Lib.hid (by rw [hTT.out, decide_eq_true hn, decide_eq_true (HZ.out.1 rfl)]; rfl)
        go_wp2_with (first | ((with_reducible refine (HRR.out _ HQ0.out).mono ?_); rintro e w3 ⟨rfl, hb3⟩; have HB3 := Lib.hid hb3; clear hb3))
        rw [HT.out] at HE
        exact HE.out _ _ _ _ _ _ _ _ _ _ _ _ _ _ _ _ HB3
      | false =>
        have HT : Hid (t = false) := Lib.hid (by rw [hTT.out, decide_eq_true hn, decide_eq_true (HZ.out.1 rfl)]; rfl)
        go_wp2_with (first | ((with_reducible refine (HRR.out _ HQ0.out).mono ?_); rintro e w3 ⟨rfl, hb3⟩; have HB3 := Lib.hid hb3; clear hb3))
        rw [HT.out] at HE
        exact HE.out _ _ _ _ _ _ _ _ _ _ _ _ _ _ _ _ HB3
    · have hr0b : (r == 0) = false := by rw [Bool.eq_false_iff]; intro h; exact hr0 (eq_of_beq h)
      have HT : Hid (t = false) := Lib.hid (by rw [hTT.out, decide_eq_true hn, decide_eq_false (fun h => hr0 (HZ.out.2 h))]; rfl)
      go_wp2_with (first | ((with_reducible refine (HRR.out _ HQ0.out).mono ?_); rintro e w3 ⟨rfl, hb3⟩; have HB3 := Lib.hid hb3; clear hb3))
      rw [HT.out] at HE
      exact HE.out _ _ _ _ _ _ _ _ _ _ _ _ _ _ _ _ HQ0
  · have HT : Hid (t = false) := Lib.hid (by rw [hTT.out, decide_eq_false hn]; rfl)
    go_wp2_with (first | ((with_reducible refine (HRR.out _ HQ0.out).mono ?_); rintro e w3 ⟨rfl, hb3⟩; have HB3 := Lib.hid hb3; clear hb3))
    rw [HT.out] at HE
    exact HE.out _ _ _ _ _ _ _ _ _ _ _ _ _ _ _ _ HQ0
end Go.Proofs.Ytinjbpbpgogdhaa.Own
end
section
namespace Go.Proofs.Ytinjbpbpgogdhaa.Own
open Go.RowKit Go.Shelf Go.Proofs.YtinjbpbpgogdhaaW.PrintWords Go.Proofs.YtinjbpbpgogdhaaW.PrintLast Go.Proofs.YtinjbpbpgogdhaaW.PrintMore
set_option linter.unusedVariables false
set_option linter.unusedSimpArgs false
def TmSt (p last n below sN a2 a3 mi : Int) (t : Bool) (l7 l out : List Int) (last' : Int) (l' out' : List Int) : Prop :=
  (p = last ∧ n ≠ 109938 ∧ last' = last ∧ l' = (if t = true then l ++ [n] else l) ∧ out' = out) ∨ ((p ≠ last ∨ n = 109938) ∧ ¬ below ≤ n ∧ last' = p ∧ l' = (if t = true then [n] else []) ∧ out' = flushL a2 a3 sN below mi (placesL l7 l) out)
noncomputable def tmB1C : Code := (Try.f9.body.bind (blkC 1)).getD .skip
set_option maxHeartbeats 16000000 in
set_option maxRecDepth 100000 in
/-- ref10.Times, a day of its main loop. -/
theorem tmB1_wp {a0 a1 a2 a3 a8 : Int} {A4 A5 A6 A7 : Option Addr} {c4 c5 c6 c7 : Nat} {l4 l5 l7 : List Int} {l6 : List S58} {w0 w : World} {g1 g8 g11 : Nat} {sN sy sm sd sW n y m d wd p last below start mi : Int} {l out : List Int} {v7 v9 : Value} {t rb : Bool} {Q : Exit → Act → World → Prop} {z0 z4 z5 z6 z12 z13 z14 z15 z16 z17 z18 z19 z20 z21 z22 z23 z24 z25 z26 z27 z28 z29 z30 z31 z32 z33 z34 z35 z36 z37 z38 z39 z40 z41 z42 z43 z44 z45 z46 z47 z48 z49 z50 z51 z52 z53 z54 z55 z56 z57 z58 z59 z60 z61 z62 z63 z64 z65 z66 z67 z68 z69 z70 z71 z72 z73 z74 z75 z76 z77 z78 z79 z80 z81 z82 z83 z84 z85 z86 z87 z88 z89 z90 z91 z92 z93 z94 z95 z96 z97 z98 z99 z100 z101 z102 z103 z104 z105 z106 z107 z108 z109 z110 z111 z112 z113 z114 z115 z116 z117 z118 z119 z120 z121 z122 z123 z124 z125 z126 z127 z128 z129 z130 z131 z132 z133 z134 z135 z136 z137 z138 z139 z140 z141 z142 z143 z144 z145 : Value}
    (H1 : Hid (w.heap[g1]? = some (.cells #[.int .i64 a0, .int .i64 a1, .int .i64 a2, .int .i64 a3, .slice A4 l4.length c4, .slice A5 l5.length c5, .slice A6 l6.length c6, .slice A7 l7.length c7, .int .i64 a8] 25 (0, 0)))) (H8 : Hid (w.heap[g8]? = some (.cells #[.int .i64 sN, .int .i64 sy, .int .i64 sm, .int .i64 sd, .int .i64 sW] 47 (0, 0)))) (HD : Hid (w.heap[g11]? = some (.cells #[.int .i64 n, .int .i64 y, .int .i64 m, .int .i64 d, .int .i64 wd] 47 (0, 0))))
    (HLR : Hid (Kd.R (Kd.int .i64) 3 w w0.heap.size (fun _ => True) v9 l)) (HOR : Hid (Kd.R (Kd.int .i64) 2 w w0.heap.size (fun _ => True) v7 out)) (HB : Hid (Below w0.heap.size w0 w))
    (HPE : Hid (n < 109938 → ∀ W, Calls Try.prog 20 #[.agg #[.int .i64 a0, .int .i64 a1, .int .i64 a2, .int .i64 a3, .slice A4 l4.length c4, .slice A5 l5.length c5, .slice A6 l6.length c6, .slice A7 l7.length c7, .int .i64 a8], .agg #[.int .i64 sN, .int .i64 sy, .int .i64 sm, .int .i64 sd, .int .i64 sW], .agg #[.int .i64 n, .int .i64 y, .int .i64 m, .int .i64 d, .int .i64 wd]] W fun e w' => e = .returned (.int .i64 p) ∧ Below W.heap.size W w')) (hp0 : n = 109938 → p = 0) (hn : n ≤ 109938)
    (HRR : Hid (∀ W, Below w0.heap.size w0 W → Calls Try.prog 22 #[.agg #[.int .i64 a0, .int .i64 a1, .int .i64 a2, .int .i64 a3, .slice A4 l4.length c4, .slice A5 l5.length c5, .slice A6 l6.length c6, .slice A7 l7.length c7, .int .i64 a8], .agg #[.int .i64 sN, .int .i64 sy, .int .i64 sm, .int .i64 sd, .int .i64 sW], .agg #[.int .i64 n, .int .i64 y, .int .i64 m, .int .i64 d, .int .i64 wd]] W fun e w' => e = .returned (.bool rb) ∧ Below W.heap.size W w'))
    (HKP : Hid (∀ v W, Below w0.heap.size w0 W → Kd.R (Kd.int .i64) 3 W w0.heap.size (fun _ => True) v l → Calls Try.prog 21 #[.agg #[.int .i64 a0, .int .i64 a1, .int .i64 a2, .int .i64 a3, .slice A4 l4.length c4, .slice A5 l5.length c5, .slice A6 l6.length c6, .slice A7 l7.length c7, .int .i64 a8], v] W (PlacesPost w0 W (placesL l7 l))))
    (HL : Hid (∀ x ∈ l, 0 ≤ x ∧ x ≤ 109938)) (hl : l.length ≤ 200000) (ho : out.length ≤ 200000) (ha1 : 1 ≤ a1 ∧ a1 ≤ 999) (HT : Hid (t = (decide (n < 109938) && (decide (p % a1 = 0) && rb)))) (k1 : Int.tmod start 1440 = mi) (hmi : 0 ≤ mi ∧ mi < 1440)
    (HP : Hid (∀ c (a : Act) (N : Option Tmp) (v : Value) (w : World), Q (.panic c) (a.put N v) w → Q (.panic c) a w))
    (HE : Hid (∀ (d12 d13 d14 d15 d42 d43 d44 d45 d46 d47 d48 d49 d50 d51 d52 d53 d54 d55 d56 d57 d58 d59 d60 d61 d62 d63 d64 d65 d66 d67 d68 d69 d70 d71 d72 d73 d74 d75 d76 d77 d78 d79 d80 d81 d82 d83 d84 d85 d86 d87 d88 d89 d90 d91 d92 d93 d94 d95 d96 d97 d98 d99 d100 d101 d102 d103 d104 d105 d106 d107 d108 d109 d110 d111 d112 d113 d114 d115 d116 d117 d118 d119 d120 d121 d122 d123 d124 d125 d126 d127 d128 d129 d130 d131 d132 d133 d134 d135 d136 d137 d138 d139 d140 d141 d142 d143 x7 x9 : Value) (last' : Int) (l' out' : List Int) (w' : World), Hid (TmSt p last n below sN a2 a3 mi t l7 l out last' l' out') → Hid (w'.heap[g1]? = some (.cells #[.int .i64 a0, .int .i64 a1, .int .i64 a2, .int .i64 a3, .slice A4 l4.length c4, .slice A5 l5.length c5, .slice A6 l6.length c6, .slice A7 l7.length c7, .int .i64 a8] 25 (0, 0))) → Hid (w'.heap[g8]? = some (.cells #[.int .i64 sN, .int .i64 sy, .int .i64 sm, .int .i64 sd, .int .i64 sW] 47 (0, 0))) → Hid (w'.heap[g11]? = some (.cells #[.int .i64 n, .int .i64 y, .int .i64 m, .int .i64 d, .int .i64 wd] 47 (0, 0))) → Hid (Kd.R (Kd.int .i64) 3 w' w0.heap.size (fun _ => True) x9 l') → Hid (Kd.R (Kd.int .i64) 2 w' w0.heap.size (fun _ => True) x7 out') → Hid (Below w0.heap.size w0 w') → Q .normal ⟨#[z0, .int .i64 start, .int .i64 below, .pointer (some ⟨g1, 0, none⟩), z4, z5, z6, x7, .pointer (some ⟨g8, 0, none⟩), x9, .int .i64 last', .pointer (some ⟨g11, 0, none⟩), d12, d13, d14, d15, z16, z17, z18, z19, z20, z21, z22, z23, z24, z25, z26, z27, z28, z29, z30, z31, z32, z33, z34, z35, z36, z37, z38, z39, z40, z41, d42, d43, d44, d45, d46, d47, d48, d49, d50, d51, d52, d53, d54, d55, d56, d57, d58, d59, d60, d61, d62, d63, d64, d65, d66, d67, d68, d69, d70, d71, d72, d73, d74, d75, d76, d77, d78, d79, d80, d81, d82, d83, d84, d85, d86, d87, d88, d89, d90, d91, d92, d93, d94, d95, d96, d97, d98, d99, d100, d101, d102, d103, d104, d105, d106, d107, d108, d109, d110, d111, d112, d113, d114, d115, d116, d117, d118, d119, d120, d121, d122, d123, d124, d125, d126, d127, d128, d129, d130, d131, d132, d133, d134, d135, d136, d137, d138, d139, d140, d141, d142, d143, z144, z145], []⟩ w'))
    (HE3 : Hid (∀ (d12 d13 d14 d15 d42 d43 d44 d45 d46 d47 d48 d49 d50 d51 d52 d53 d54 d55 d56 d57 d58 d59 d60 d61 d62 d63 d64 d65 d66 d67 d68 d69 d70 d71 d72 d73 d74 d75 d76 d77 d78 d79 d80 d81 d82 d83 d84 d85 d86 d87 d88 d89 d90 d91 d92 d93 d94 d95 d96 d97 d98 d99 d100 d101 d102 d103 d104 d105 d106 d107 d108 d109 d110 d111 d112 d113 d114 d115 d116 d117 d118 d119 d120 d121 d122 d123 d124 d125 d126 d127 d128 d129 d130 d131 d132 d133 d134 d135 d136 d137 d138 d139 d140 d141 d142 d143 x7 : Value) (w' : World), Hid ((p ≠ last ∨ n = 109938) ∧ below ≤ n) → Hid (Kd.R (Kd.int .i64) 2 w' w0.heap.size (fun _ => True) x7 (flushL a2 a3 sN below mi (placesL l7 l) out)) → Hid (Below w0.heap.size w0 w') → Q .ret ⟨#[z0, .int .i64 start, .int .i64 below, .pointer (some ⟨g1, 0, none⟩), z4, z5, x7, x7, .pointer (some ⟨g8, 0, none⟩), v9, .int .i64 last, .pointer (some ⟨g11, 0, none⟩), d12, d13, d14, d15, z16, z17, z18, z19, z20, z21, z22, z23, z24, z25, z26, z27, z28, z29, z30, z31, z32, z33, z34, z35, z36, z37, z38, z39, z40, z41, d42, d43, d44, d45, d46, d47, d48, d49, d50, d51, d52, d53, d54, d55, d56, d57, d58, d59, d60, d61, d62, d63, d64, d65, d66, d67, d68, d69, d70, d71, d72, d73, d74, d75, d76, d77, d78, d79, d80, d81, d82, d83, d84, d85, d86, d87, d88, d89, d90, d91, d92, d93, d94, d95, d96, d97, d98, d99, d100, d101, d102, d103, d104, d105, d106, d107, d108, d109, d110, d111, d112, d113, d114, d115, d116, d117, d118, d119, d120, d121, d122, d123, d124, d125, d126, d127, d128, d129, d130, d131, d132, d133, d134, d135, d136, d137, d138, d139, d140, d141, d142, d143, z144, z145], []⟩ w')) :
    Code.wp Try.prog tmB1C Q ⟨#[z0, .int .i64 start, .int .i64 below, .pointer (some ⟨g1, 0, none⟩), z4, z5, z6, v7, .pointer (some ⟨g8, 0, none⟩), v9, .int .i64 last, .pointer (some ⟨g11, 0, none⟩), z12, z13, z14, z15, z16, z17, z18, z19, z20, z21, z22, z23, z24, z25, z26, z27, z28, z29, z30, z31, z32, z33, z34, z35, z36, z37, z38, z39, z40, z41, z42, z43, z44, z45, z46, z47, z48, z49, z50, z51, z52, z53, z54, z55, z56, z57, z58, z59, z60, z61, z62, z63, z64, z65, z66, z67, z68, z69, z70, z71, z72, z73, z74, z75, z76, z77, z78, z79, z80, z81, z82, z83, z84, z85, z86, z87, z88, z89, z90, z91, z92, z93, z94, z95, z96, z97, z98, z99, z100, z101, z102, z103, z104, z105, z106, z107, z108, z109, z110, z111, z112, z113, z114, z115, z116, z117, z118, z119, z120, z121, z122, z123, z124, z125, z126, z127, z128, z129, z130, z131, z132, z133, z134, z135, z136, z137, z138, z139, z140, z141, z142, z143, z144, z145], []⟩ w := by
  unfold tmB1C
  conv => arg 2; whnf
  obtain ⟨oA, oc, rfl, hx1, hx2⟩ := Kd.R_reads HLR.out
  clear hx1 hx2
  have PX1 := H1
  obtain ⟨q0, q1, q2, q3, q4, q5, q6, q7, q8⟩ := cells9 H1.out
  obtain ⟨s0, s1, s2, s3, s4⟩ := cells5 H8.out
  obtain ⟨u0, u1, u2, u3, u4⟩ := cells5 HD.out
  by_cases hn2 : n < 109938
  · have HPE := Lib.hid (HPE.out hn2)
    have hn3 : (n == 109938) = false := by rw [Bool.eq_false_iff]; intro h; have := eq_of_beq h; omega
    have hn4 : n ≠ 109938 := by omega
    clear hp0
    go_upto_region 13 with (first | ((with_reducible refine (HPE.out _).mono ?_); rintro e w1 ⟨rfl, hb1⟩; have HW1 := Lib.hid hb1; clear hb1))
    have P1 := Lib.hid (keep_below HW1.out H1.out)
    have P8 := Lib.hid (keep_below HW1.out H8.out)
    have PD := Lib.hid (keep_below HW1.out HD.out)
    have PL := Lib.hid (Kd.R_below HLR.out HW1.out)
    have PO := Lib.hid (Kd.R_below HOR.out HW1.out)
    have PB := Lib.hid (HB.out.trans (HW1.out.mono HB.out.size))
    clear q0 q1 q2 q3 q4 q5 q6 q7 q8 s0 s1 s2 s3 s4 u0 u1 u2 u3 u4 H1 H8 HD HLR HOR HB PX1
    obtain ⟨q0, q1, q2, q3, q4, q5, q6, q7, q8⟩ := cells9 P1.out
    obtain ⟨p0, p1, p2, p3, p4⟩ := cells5 PD.out
    clear p1 p2 p3 p4
    have p1 : True := trivial
    have p2 : True := trivial
    have p3 : True := trivial
    have p4 : True := trivial
    by_cases hpl : p = last
    · have hpb : (p == last) = true := beq_iff_eq.mpr hpl
      have HPL := Lib.hid hpl
      go_upto_region 26 with (fail)
      refine tm26_wp (t := t) (rb := rb) P1 P8 PD (Lib.hid (fun W hW => HRR.out W (PB.out.trans (hW.mono PB.out.size)))) ha1 HT.out (Lib.hid fun c a N v w h => by first | exact HP.out c a N v w h | (cases N <;> exact h)) (Lib.hid ?_)
      intro e123 e124 e125 e126 e127 e128 e129 e130 e131 e132 e133 e134 e135 e136 e137 w5 HB5
      have X1 := Lib.hid (keep_below HB5.out P1.out)
      have X8 := Lib.hid (keep_below HB5.out P8.out)
      have XD := Lib.hid (keep_below HB5.out PD.out)
      have R5 := Lib.hid (Kd.R_below PL.out HB5.out)
      have XO := Lib.hid (Kd.R_below PO.out HB5.out)
      have B5 := Lib.hid (PB.out.trans (HB5.out.mono PB.out.size))
      clear P1 P8 PD PL PO PB
      cases hte : t with
      | false =>
        subst hte
        go_wp2
        exact HE.out _ _ _ _ _ _ _ _ _ _ _ _ _ _ _ _ _ _ _ _ _ _ _ _ _ _ _ _ _ _ _ _ _ _ _ _ _ _ _ _ _ _ _ _ _ _ _ _ _ _ _ _ _ _ _ _ _ _ _ _ _ _ _ _ _ _ _ _ _ _ _ _ _ _ _ _ _ _ _ _ _ _ _ _ _ _ _ _ _ _ _ _ _ _ _ _ _ _ _ _ _ _ _ _ _ _ _ _ _ _ _ _ (Lib.hid (.inl ⟨HPL.out, hn4, rfl, rfl, rfl⟩)) X1 X8 XD R5 XO B5
      | true =>
        subst hte
        obtain ⟨u0, u1, u2, u3, u4⟩ := cells5 XD.out
        clear u1 u2 u3 u4
        go_wp2_with ((with_reducible refine gate_builtin (b := .append) (xs := #[.tmp 139, .tmp 142]) rfl ?_); (try (refine gate_guard (by rfl) ?_; dsimp only)); at_builtin; refine Kd.R_append (w0 := w0) (Kd.int .i64) w0.heap.size rfl (.tmp 139) (.tmp 142) 22 3 (.int .i64 0) 8 rfl Try.underlying22 info3_ rfl (by decide) (by decide) (Value.slice oA l.length oc) l n [.int .i64 n] (fun _ => True) (fun _ => False) rfl rfl rfl (fun _ h => h.elim) (fun _ _ => trivial) R5.out B5.out B5.out.size (by first | (simp; done) | omega) ?_; intro v1 w6 hR6 hb6 hg6 hat6; obtain ⟨cur2, hcur2⟩ : ∃ y, y = l ++ [n] := ⟨_, rfl⟩; rw [← hcur2] at hR6; have HC2 := Lib.hid hcur2; clear hcur2; have HR6 := Lib.hid hR6; have HB6 := Lib.hid hb6; have HG6 := Lib.hid hg6; have HAT := Lib.hid hat6; clear hR6 hb6 hg6 hat6; obtain ⟨A1, c1_, rfl, hx1, hx2⟩ := Kd.R_reads HR6.out; clear hx1 hx2)
        have HK6 : Hid (Kept w5 w6 (fun k => some k = (Value.slice oA l.length oc).ownBlock)) := Lib.hid (Kept.of_grown HG6.out (Kept.refl _ _) (fun k hk => .inl hk.symm))
        exact HE.out _ _ _ _ _ _ _ _ _ _ _ _ _ _ _ _ _ _ _ _ _ _ _ _ _ _ _ _ _ _ _ _ _ _ _ _ _ _ _ _ _ _ _ _ _ _ _ _ _ _ _ _ _ _ _ _ _ _ _ _ _ _ _ _ _ _ _ _ _ _ _ _ _ _ _ _ _ _ _ _ _ _ _ _ _ _ _ _ _ _ _ _ _ _ _ _ _ _ _ _ _ _ _ _ _ _ _ _ _ _ _ _ (Lib.hid (.inl ⟨HPL.out, hn4, rfl, rfl, rfl⟩)) (Lib.hid (blk_out R5.out HK6.out X1.out (by decide))) (Lib.hid (blk_out R5.out HK6.out X8.out (by decide))) (Lib.hid (blk_out R5.out HK6.out XD.out (by decide))) (Lib.hid (by rw [if_pos rfl]; have e := HC2.out; (try simp only [List.nil_append] at e); rw [← e]; exact HR6.out)) (Lib.hid (row_out R5.out HK6.out XO.out (by decide))) HB6
    · have hpb : (p == last) = false := by rw [Bool.eq_false_iff]; intro h; exact hpl (eq_of_beq h)
      go_upto_region 15 with (first | ((with_reducible refine (HKP.out _ _ PB.out PL.out).mono ?_); rintro e w2 ⟨v13, rfl, hR13, hk2, hb2⟩; have R13 := Lib.hid hR13; have HK2 := Lib.hid hk2; have HB2 := Lib.hid hb2; clear hR13 hk2 hb2; obtain ⟨vA, vc, rfl, hx1, hx2⟩ := Kd.R_reads R13.out; clear hx1 hx2))
      have Q1 := Lib.hid (kept_below HK2.out P1.out)
      have Q8 := Lib.hid (kept_below HK2.out P8.out)
      have QD := Lib.hid (kept_below HK2.out PD.out)
      have QO := Lib.hid (Kd.R_kept PO.out HK2.out (fun k _ h => h))
      clear P1 P8 PD PL PO PB p0 p1 p2 p3 p4
      have hlp := placesL_len l7 l
      go_upto_block 2 with (fail)
      refine tmB2_wp (w0 := w0) (mi := mi) (out := out) Q1 Q8 R13 QO HB2 (by omega) (by omega) (Lib.hid (fun j hj => HL.out _ (placesL_mem (rd_mem hj)))) k1 hmi (Lib.hid fun c a N v w h => by first | exact HP.out c a N v w h | (cases N <;> exact h)) (Lib.hid ?_)
      intro e14 e15 e62 e63 e64 e65 e66 e67 e68 e69 e70 e71 e72 e73 e74 e75 e76 e77 e78 e79 e80 e81 e82 e83 e84 e85 e86 e87 e88 e89 e90 e91 e92 e93 e94 e95 e96 e97 e98 e99 e100 e101 e102 e103 e104 e105 e106 e107 e108 e109 e110 e111 e112 e113 e114 e115 x7 w3 HR3 HK3 HB3 HOW3
      have Z1 := Lib.hid (blk_out QO.out HK3.out Q1.out (by decide))
      have Z8 := Lib.hid (blk_out QO.out HK3.out Q8.out (by decide))
      have ZD := Lib.hid (blk_out QO.out HK3.out QD.out (by decide))
      clear Q1 Q8 QD QO HK2 HB2 R13
      obtain ⟨u0, u1, u2, u3, u4⟩ := cells5 ZD.out
      clear u1 u2 u3 u4
      by_cases hbl : below ≤ n
      · go_wp2
        exact HE3.out _ _ _ _ _ _ _ _ _ _ _ _ _ _ _ _ _ _ _ _ _ _ _ _ _ _ _ _ _ _ _ _ _ _ _ _ _ _ _ _ _ _ _ _ _ _ _ _ _ _ _ _ _ _ _ _ _ _ _ _ _ _ _ _ _ _ _ _ _ _ _ _ _ _ _ _ _ _ _ _ _ _ _ _ _ _ _ _ _ _ _ _ _ _ _ _ _ _ _ _ _ _ _ _ _ _ _ _ (Lib.hid ⟨(.inl hpl), hbl⟩) HR3 HB3
      · go_upto_region 25 with ((with_reducible refine gate_dst (N := 121) rfl ?_); (try (refine gate_guard (by rfl) ?_; dsimp only)); refine Kd.R_lit (Kd.int .i64) (w0 := w0) w0.heap.size 3 ?hg (N := 121) ?hd (xs := ([] : List Int)) (inner := []) (ok := fun _ => True) (okp := fun _ => True) ?hr ?hp (fun _ hk => hk) trivial HB3.out HB3.out.size (by simp) ?_; (case hd => rfl); (case hg => rfl); (case hr => first | (go_simp; done) | (go_simp; rfl)); (case hp => exact (Reps.none _ _)); intro v1 w4 ho9 hb hg_ hnew_; have HO9 := Lib.hid ho9; have HB9 := Lib.hid hb; have HG9 := Lib.hid hg_; have HN9 := Lib.hid hnew_; clear ho9 hb hg_ hnew_; obtain ⟨lA, lc, rfl, hx1, hx2⟩ := Kd.R_reads HO9.out; clear hx1 hx2)
        clear u0
        have KK : Hid (Kept w3 w4 (fun _ => False)) := Lib.hid (Kept.of_grown HG9.out (Kept.refl _ _) (fun k h => by cases h))
        have P1 := Lib.hid (kept_below KK.out Z1.out)
        have P8 := Lib.hid (kept_below KK.out Z8.out)
        have PD := Lib.hid (kept_below KK.out ZD.out)
        have PO := Lib.hid (Kd.R_kept HR3.out KK.out (fun k _ h => h))
        have PL := HO9
        have PB := HB9
        clear Z1 Z8 ZD HR3 KK HO9 HB9 HG9 HN9 HK3 HB3 HOW3
        go_upto_region 26 with (fail)
        refine tm26_wp (t := t) (rb := rb) P1 P8 PD (Lib.hid (fun W hW => HRR.out W (PB.out.trans (hW.mono PB.out.size)))) ha1 HT.out (Lib.hid fun c a N v w h => by first | exact HP.out c a N v w h | (cases N <;> exact h)) (Lib.hid ?_)
        intro e123 e124 e125 e126 e127 e128 e129 e130 e131 e132 e133 e134 e135 e136 e137 w5 HB5
        have X1 := Lib.hid (keep_below HB5.out P1.out)
        have X8 := Lib.hid (keep_below HB5.out P8.out)
        have XD := Lib.hid (keep_below HB5.out PD.out)
        have R5 := Lib.hid (Kd.R_below PL.out HB5.out)
        have XO := Lib.hid (Kd.R_below PO.out HB5.out)
        have B5 := Lib.hid (PB.out.trans (HB5.out.mono PB.out.size))
        clear P1 P8 PD PL PO PB
        cases hte : t with
        | false =>
          subst hte
          go_wp2
          exact HE.out _ _ _ _ _ _ _ _ _ _ _ _ _ _ _ _ _ _ _ _ _ _ _ _ _ _ _ _ _ _ _ _ _ _ _ _ _ _ _ _ _ _ _ _ _ _ _ _ _ _ _ _ _ _ _ _ _ _ _ _ _ _ _ _ _ _ _ _ _ _ _ _ _ _ _ _ _ _ _ _ _ _ _ _ _ _ _ _ _ _ _ _ _ _ _ _ _ _ _ _ _ _ _ _ _ _ _ _ _ _ _ _ (Lib.hid (.inr ⟨(.inl hpl), (by first | exact hbl | exact Int.not_le.2 hbl), rfl, rfl, rfl⟩)) X1 X8 XD R5 XO B5
        | true =>
          subst hte
          obtain ⟨u0, u1, u2, u3, u4⟩ := cells5 XD.out
          clear u1 u2 u3 u4
          go_wp2_with ((with_reducible refine gate_builtin (b := .append) (xs := #[.tmp 139, .tmp 142]) rfl ?_); (try (refine gate_guard (by rfl) ?_; dsimp only)); at_builtin; refine Kd.R_append (w0 := w0) (Kd.int .i64) w0.heap.size rfl (.tmp 139) (.tmp 142) 22 3 (.int .i64 0) 8 rfl Try.underlying22 info3_ rfl (by decide) (by decide) (Value.slice lA ([] : List Int).length lc) ([] : List Int) n [.int .i64 n] (fun _ => True) (fun _ => False) rfl rfl rfl (fun _ h => h.elim) (fun _ _ => trivial) R5.out B5.out B5.out.size (by first | (simp; done) | omega) ?_; intro v1 w6 hR6 hb6 hg6 hat6; obtain ⟨cur2, hcur2⟩ : ∃ y, y = ([] : List Int) ++ [n] := ⟨_, rfl⟩; rw [← hcur2] at hR6; have HC2 := Lib.hid hcur2; clear hcur2; have HR6 := Lib.hid hR6; have HB6 := Lib.hid hb6; have HG6 := Lib.hid hg6; have HAT := Lib.hid hat6; clear hR6 hb6 hg6 hat6; obtain ⟨A1, c1_, rfl, hx1, hx2⟩ := Kd.R_reads HR6.out; clear hx1 hx2)
          have HK6 : Hid (Kept w5 w6 (fun k => some k = (Value.slice lA ([] : List Int).length lc).ownBlock)) := Lib.hid (Kept.of_grown HG6.out (Kept.refl _ _) (fun k hk => .inl hk.symm))
          exact HE.out _ _ _ _ _ _ _ _ _ _ _ _ _ _ _ _ _ _ _ _ _ _ _ _ _ _ _ _ _ _ _ _ _ _ _ _ _ _ _ _ _ _ _ _ _ _ _ _ _ _ _ _ _ _ _ _ _ _ _ _ _ _ _ _ _ _ _ _ _ _ _ _ _ _ _ _ _ _ _ _ _ _ _ _ _ _ _ _ _ _ _ _ _ _ _ _ _ _ _ _ _ _ _ _ _ _ _ _ _ _ _ _ (Lib.hid (.inr ⟨(.inl hpl), (by first | exact hbl | exact Int.not_le.2 hbl), rfl, rfl, rfl⟩)) (Lib.hid (blk_out R5.out HK6.out X1.out (by decide))) (Lib.hid (blk_out R5.out HK6.out X8.out (by decide))) (Lib.hid (blk_out R5.out HK6.out XD.out (by decide))) (Lib.hid (by rw [if_pos rfl]; have e := HC2.out; (try simp only [List.nil_append] at e); rw [← e]; exact HR6.out)) (Lib.hid (row_out R5.out HK6.out XO.out (by decide))) HB6
  · have hn5 : n = 109938 := by omega
    have hp1 := hp0 hn5
    have hn3 : (n == 109938) = true := beq_iff_eq.mpr hn5
    have HN2 : Hid (¬ n < 109938) := Lib.hid hn2
    subst hp1
    have P1 := H1
    have P8 := H8
    have PD := HD
    have PL := HLR
    have PO := HOR
    have PB := HB
    clear s0 s1 s2 s3 s4 u1 u2 u3 u4 H1 H8 HD HLR HOR HB PX1 hp0 HPE
    have p0 := u0
    clear u0
    have p1 : True := trivial
    have p2 : True := trivial
    have p3 : True := trivial
    have p4 : True := trivial
    by_cases hpl : 0 = last
    · subst hpl
      go_upto_region 15 with (first | ((with_reducible refine (HKP.out _ _ PB.out PL.out).mono ?_); rintro e w2 ⟨v13, rfl, hR13, hk2, hb2⟩; have R13 := Lib.hid hR13; have HK2 := Lib.hid hk2; have HB2 := Lib.hid hb2; clear hR13 hk2 hb2; obtain ⟨vA, vc, rfl, hx1, hx2⟩ := Kd.R_reads R13.out; clear hx1 hx2))
      have Q1 := Lib.hid (kept_below HK2.out P1.out)
      have Q8 := Lib.hid (kept_below HK2.out P8.out)
      have QD := Lib.hid (kept_below HK2.out PD.out)
      have QO := Lib.hid (Kd.R_kept PO.out HK2.out (fun k _ h => h))
      clear P1 P8 PD PL PO PB p0 p1 p2 p3 p4
      have hlp := placesL_len l7 l
      go_upto_block 2 with (fail)
      refine tmB2_wp (w0 := w0) (mi := mi) (out := out) Q1 Q8 R13 QO HB2 (by omega) (by omega) (Lib.hid (fun j hj => HL.out _ (placesL_mem (rd_mem hj)))) k1 hmi (Lib.hid fun c a N v w h => by first | exact HP.out c a N v w h | (cases N <;> exact h)) (Lib.hid ?_)
      intro e14 e15 e62 e63 e64 e65 e66 e67 e68 e69 e70 e71 e72 e73 e74 e75 e76 e77 e78 e79 e80 e81 e82 e83 e84 e85 e86 e87 e88 e89 e90 e91 e92 e93 e94 e95 e96 e97 e98 e99 e100 e101 e102 e103 e104 e105 e106 e107 e108 e109 e110 e111 e112 e113 e114 e115 x7 w3 HR3 HK3 HB3 HOW3
      have Z1 := Lib.hid (blk_out QO.out HK3.out Q1.out (by decide))
      have Z8 := Lib.hid (blk_out QO.out HK3.out Q8.out (by decide))
      have ZD := Lib.hid (blk_out QO.out HK3.out QD.out (by decide))
      clear Q1 Q8 QD QO HK2 HB2 R13
      obtain ⟨u0, u1, u2, u3, u4⟩ := cells5 ZD.out
      clear u1 u2 u3 u4
      by_cases hbl : below ≤ n
      · go_wp2
        exact HE3.out _ _ _ _ _ _ _ _ _ _ _ _ _ _ _ _ _ _ _ _ _ _ _ _ _ _ _ _ _ _ _ _ _ _ _ _ _ _ _ _ _ _ _ _ _ _ _ _ _ _ _ _ _ _ _ _ _ _ _ _ _ _ _ _ _ _ _ _ _ _ _ _ _ _ _ _ _ _ _ _ _ _ _ _ _ _ _ _ _ _ _ _ _ _ _ _ _ _ _ _ _ _ _ _ _ _ _ _ (Lib.hid ⟨(.inr hn5), hbl⟩) HR3 HB3
      · go_upto_region 25 with ((with_reducible refine gate_dst (N := 121) rfl ?_); (try (refine gate_guard (by rfl) ?_; dsimp only)); refine Kd.R_lit (Kd.int .i64) (w0 := w0) w0.heap.size 3 ?hg (N := 121) ?hd (xs := ([] : List Int)) (inner := []) (ok := fun _ => True) (okp := fun _ => True) ?hr ?hp (fun _ hk => hk) trivial HB3.out HB3.out.size (by simp) ?_; (case hd => rfl); (case hg => rfl); (case hr => first | (go_simp; done) | (go_simp; rfl)); (case hp => exact (Reps.none _ _)); intro v1 w4 ho9 hb hg_ hnew_; have HO9 := Lib.hid ho9; have HB9 := Lib.hid hb; have HG9 := Lib.hid hg_; have HN9 := Lib.hid hnew_; clear ho9 hb hg_ hnew_; obtain ⟨lA, lc, rfl, hx1, hx2⟩ := Kd.R_reads HO9.out; clear hx1 hx2)
        clear u0
        have KK : Hid (Kept w3 w4 (fun _ => False)) := Lib.hid (Kept.of_grown HG9.out (Kept.refl _ _) (fun k h => by cases h))
        have P1 := Lib.hid (kept_below KK.out Z1.out)
        have P8 := Lib.hid (kept_below KK.out Z8.out)
        have PD := Lib.hid (kept_below KK.out ZD.out)
        have PO := Lib.hid (Kd.R_kept HR3.out KK.out (fun k _ h => h))
        have PL := HO9
        have PB := HB9
        clear Z1 Z8 ZD HR3 KK HO9 HB9 HG9 HN9 HK3 HB3 HOW3
        go_upto_region 26 with (fail)
        refine tm26_wp (t := t) (rb := rb) P1 P8 PD (Lib.hid (fun W hW => HRR.out W (PB.out.trans (hW.mono PB.out.size)))) ha1 HT.out (Lib.hid fun c a N v w h => by first | exact HP.out c a N v w h | (cases N <;> exact h)) (Lib.hid ?_)
        intro e123 e124 e125 e126 e127 e128 e129 e130 e131 e132 e133 e134 e135 e136 e137 w5 HB5
        have X1 := Lib.hid (keep_below HB5.out P1.out)
        have X8 := Lib.hid (keep_below HB5.out P8.out)
        have XD := Lib.hid (keep_below HB5.out PD.out)
        have R5 := Lib.hid (Kd.R_below PL.out HB5.out)
        have XO := Lib.hid (Kd.R_below PO.out HB5.out)
        have B5 := Lib.hid (PB.out.trans (HB5.out.mono PB.out.size))
        clear P1 P8 PD PL PO PB
        cases hte : t with
        | false =>
          subst hte
          go_wp2
          exact HE.out _ _ _ _ _ _ _ _ _ _ _ _ _ _ _ _ _ _ _ _ _ _ _ _ _ _ _ _ _ _ _ _ _ _ _ _ _ _ _ _ _ _ _ _ _ _ _ _ _ _ _ _ _ _ _ _ _ _ _ _ _ _ _ _ _ _ _ _ _ _ _ _ _ _ _ _ _ _ _ _ _ _ _ _ _ _ _ _ _ _ _ _ _ _ _ _ _ _ _ _ _ _ _ _ _ _ _ _ _ _ _ _ (Lib.hid (.inr ⟨(.inr hn5), (by first | exact hbl | exact Int.not_le.2 hbl), rfl, rfl, rfl⟩)) X1 X8 XD R5 XO B5
        | true => exact absurd HT.out (by rw [hte, decide_eq_false (show ¬ n < 109938 from by omega)]; simp)
    · have hpb : ((0 : Int) == last) = false := by rw [Bool.eq_false_iff]; intro h; exact hpl (eq_of_beq h)
      go_upto_region 15 with (first | ((with_reducible refine (HKP.out _ _ PB.out PL.out).mono ?_); rintro e w2 ⟨v13, rfl, hR13, hk2, hb2⟩; have R13 := Lib.hid hR13; have HK2 := Lib.hid hk2; have HB2 := Lib.hid hb2; clear hR13 hk2 hb2; obtain ⟨vA, vc, rfl, hx1, hx2⟩ := Kd.R_reads R13.out; clear hx1 hx2))
      have Q1 := Lib.hid (kept_below HK2.out P1.out)
      have Q8 := Lib.hid (kept_below HK2.out P8.out)
      have QD := Lib.hid (kept_below HK2.out PD.out)
      have QO := Lib.hid (Kd.R_kept PO.out HK2.out (fun k _ h => h))
      clear P1 P8 PD PL PO PB p0 p1 p2 p3 p4
      have hlp := placesL_len l7 l
      go_upto_block 2 with (fail)
      refine tmB2_wp (w0 := w0) (mi := mi) (out := out) Q1 Q8 R13 QO HB2 (by omega) (by omega) (Lib.hid (fun j hj => HL.out _ (placesL_mem (rd_mem hj)))) k1 hmi (Lib.hid fun c a N v w h => by first | exact HP.out c a N v w h | (cases N <;> exact h)) (Lib.hid ?_)
      intro e14 e15 e62 e63 e64 e65 e66 e67 e68 e69 e70 e71 e72 e73 e74 e75 e76 e77 e78 e79 e80 e81 e82 e83 e84 e85 e86 e87 e88 e89 e90 e91 e92 e93 e94 e95 e96 e97 e98 e99 e100 e101 e102 e103 e104 e105 e106 e107 e108 e109 e110 e111 e112 e113 e114 e115 x7 w3 HR3 HK3 HB3 HOW3
      have Z1 := Lib.hid (blk_out QO.out HK3.out Q1.out (by decide))
      have Z8 := Lib.hid (blk_out QO.out HK3.out Q8.out (by decide))
      have ZD := Lib.hid (blk_out QO.out HK3.out QD.out (by decide))
      clear Q1 Q8 QD QO HK2 HB2 R13
      obtain ⟨u0, u1, u2, u3, u4⟩ := cells5 ZD.out
      clear u1 u2 u3 u4
      by_cases hbl : below ≤ n
      · go_wp2
        exact HE3.out _ _ _ _ _ _ _ _ _ _ _ _ _ _ _ _ _ _ _ _ _ _ _ _ _ _ _ _ _ _ _ _ _ _ _ _ _ _ _ _ _ _ _ _ _ _ _ _ _ _ _ _ _ _ _ _ _ _ _ _ _ _ _ _ _ _ _ _ _ _ _ _ _ _ _ _ _ _ _ _ _ _ _ _ _ _ _ _ _ _ _ _ _ _ _ _ _ _ _ _ _ _ _ _ _ _ _ _ (Lib.hid ⟨(.inr hn5), hbl⟩) HR3 HB3
      · go_upto_region 25 with ((with_reducible refine gate_dst (N := 121) rfl ?_); (try (refine gate_guard (by rfl) ?_; dsimp only)); refine Kd.R_lit (Kd.int .i64) (w0 := w0) w0.heap.size 3 ?hg (N := 121) ?hd (xs := ([] : List Int)) (inner := []) (ok := fun _ => True) (okp := fun _ => True) ?hr ?hp (fun _ hk => hk) trivial HB3.out HB3.out.size (by simp) ?_; (case hd => rfl); (case hg => rfl); (case hr => first | (go_simp; done) | (go_simp; rfl)); (case hp => exact (Reps.none _ _)); intro v1 w4 ho9 hb hg_ hnew_; have HO9 := Lib.hid ho9; have HB9 := Lib.hid hb; have HG9 := Lib.hid hg_; have HN9 := Lib.hid hnew_; clear ho9 hb hg_ hnew_; obtain ⟨lA, lc, rfl, hx1, hx2⟩ := Kd.R_reads HO9.out; clear hx1 hx2)
        clear u0
        have KK : Hid (Kept w3 w4 (fun _ => False)) := Lib.hid (Kept.of_grown HG9.out (Kept.refl _ _) (fun k h => by cases h))
        have P1 := Lib.hid (kept_below KK.out Z1.out)
        have P8 := Lib.hid (kept_below KK.out Z8.out)
        have PD := Lib.hid (kept_below KK.out ZD.out)
        have PO := Lib.hid (Kd.R_kept HR3.out KK.out (fun k _ h => h))
        have PL := HO9
        have PB := HB9
        clear Z1 Z8 ZD HR3 KK HO9 HB9 HG9 HN9 HK3 HB3 HOW3
        go_upto_region 26 with (fail)
        refine tm26_wp (t := t) (rb := rb) P1 P8 PD (Lib.hid (fun W hW => HRR.out W (PB.out.trans (hW.mono PB.out.size)))) ha1 HT.out (Lib.hid fun c a N v w h => by first | exact HP.out c a N v w h | (cases N <;> exact h)) (Lib.hid ?_)
        intro e123 e124 e125 e126 e127 e128 e129 e130 e131 e132 e133 e134 e135 e136 e137 w5 HB5
        have X1 := Lib.hid (keep_below HB5.out P1.out)
        have X8 := Lib.hid (keep_below HB5.out P8.out)
        have XD := Lib.hid (keep_below HB5.out PD.out)
        have R5 := Lib.hid (Kd.R_below PL.out HB5.out)
        have XO := Lib.hid (Kd.R_below PO.out HB5.out)
        have B5 := Lib.hid (PB.out.trans (HB5.out.mono PB.out.size))
        clear P1 P8 PD PL PO PB
        cases hte : t with
        | false =>
          subst hte
          go_wp2
          exact HE.out _ _ _ _ _ _ _ _ _ _ _ _ _ _ _ _ _ _ _ _ _ _ _ _ _ _ _ _ _ _ _ _ _ _ _ _ _ _ _ _ _ _ _ _ _ _ _ _ _ _ _ _ _ _ _ _ _ _ _ _ _ _ _ _ _ _ _ _ _ _ _ _ _ _ _ _ _ _ _ _ _ _ _ _ _ _ _ _ _ _ _ _ _ _ _ _ _ _ _ _ _ _ _ _ _ _ _ _ _ _ _ _ (Lib.hid (.inr ⟨(.inr hn5), (by first | exact hbl | exact Int.not_le.2 hbl), rfl, rfl, rfl⟩)) X1 X8 XD R5 XO B5
        | true => exact absurd HT.out (by rw [hte, decide_eq_false (show ¬ n < 109938 from by omega)]; simp)
end Go.Proofs.Ytinjbpbpgogdhaa.Own
end
