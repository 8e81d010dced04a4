import Derived.Test.YthpibikfecjoiaaMay3
namespace Go.Proofs.Ythpibikfecjoiaa.Own
open Go.RowKit Go.Proofs.YthpibikfecjoiaaW.PrintWords Go.Proofs.YthpibikfecjoiaaW.PrintLast Go.Proofs.YthpibikfecjoiaaW.PrintMore
set_option linter.unusedVariables false
set_option linter.unusedSimpArgs false
set_option maxHeartbeats 4000000 in
set_option maxRecDepth 100000 in
theorem r6a {lA A1 pA : Option Addr} {lc c1 pc : Nat} {l : List S33} {can : List Bool} {places : List Int} {w6 : World} {p : Int} {j b5 b2 : Nat} {Q : Exit → Act → World → Prop} {e0 e2 e3 e6 e7 e8 e9 e10 e13 e14 e15 e16 e17 e18 e19 e20 e21 e22 e23 e24 e25 e26 e27 e28 e29 e30 e31 e32 e33 e34 e35 e36 e37 e38 e39 e40 e41 e42 e43 e44 e45 e46 e47 e48 e49 e50 e51 e52 e53 e54 e55 e56 e57 e58 e59 e60 e61 : Value}
    (c12 : w6.cell? ⟨b2, 0, none⟩ = some (.int .i64 p)) (c5 : w6.cell? ⟨b5, 0, none⟩ = some (.slice lA l.length lc)) (hj : j ≤ places.length) (hpc : places.length ≤ pc) (hl0 : l.length ≤ 16) (hp9 : places.length ≤ 1000)
    (d0 : decide (p < 0) = true) (HE : Hid (∀ (d28 d29 d30 d31 d32 d33 d34 d35 d36 d37 d38 d39 d40 d41 d42 d43 d44 d45 d46 d47 d48 d49 d50 d51 d52 d53 d54 : Value) (n : Nat), Q .normal ⟨#[e0, .slice A1 can.length c1, e2, e3, .slice pA places.length pc, .pointer (some ⟨b5, 0, none⟩), e6, e7, e8, e9, e10, .int .i64 (j : Int), .pointer (some ⟨b2, 0, none⟩), e13, e14, e15, e16, e17, e18, e19, e20, e21, e22, e23, e24, e25, e26, e27, d28, d29, d30, d31, d32, d33, d34, d35, d36, d37, d38, d39, d40, d41, d42, d43, d44, d45, d46, d47, d48, d49, d50, d51, d52, d53, d54, .bool true, e56, e57, e58, e59, e60, e61], []⟩ (w6.drewN n))) :
    Code.wp Try.prog my6 Q ⟨#[e0, .slice A1 can.length c1, e2, e3, .slice pA places.length pc, .pointer (some ⟨b5, 0, none⟩), e6, e7, e8, e9, e10, .int .i64 (j : Int), .pointer (some ⟨b2, 0, none⟩), e13, e14, e15, e16, e17, e18, e19, e20, e21, e22, e23, e24, e25, e26, e27, e28, e29, e30, e31, e32, e33, e34, e35, e36, e37, e38, e39, e40, e41, e42, e43, e44, e45, e46, e47, e48, e49, e50, e51, e52, e53, e54, e55, e56, e57, e58, e59, e60, e61], []⟩ w6 := by
  unfold my6
  conv => arg 2; whnf
  go_quiet (fail)
  exact HE.out _ _ _ _ _ _ _ _ _ _ _ _ _ _ _ _ _ _ _ _ _ _ _ _ _ _ _ _
set_option maxHeartbeats 4000000 in
set_option maxRecDepth 100000 in
theorem r6b {lA A1 pA : Option Addr} {lc c1 pc : Nat} {l : List S33} {can : List Bool} {places : List Int} {w6 : World} {p : Int} {j b5 b2 : Nat} {Q : Exit → Act → World → Prop} {e0 e2 e3 e6 e7 e8 e9 e10 e13 e14 e15 e16 e17 e18 e19 e20 e21 e22 e23 e24 e25 e26 e27 e28 e29 e30 e31 e32 e33 e34 e35 e36 e37 e38 e39 e40 e41 e42 e43 e44 e45 e46 e47 e48 e49 e50 e51 e52 e53 e54 e55 e56 e57 e58 e59 e60 e61 : Value}
    (c12 : w6.cell? ⟨b2, 0, none⟩ = some (.int .i64 p)) (c5 : w6.cell? ⟨b5, 0, none⟩ = some (.slice lA l.length lc)) (hj : j ≤ places.length) (hpc : places.length ≤ pc) (hl0 : l.length ≤ 16) (hp9 : places.length ≤ 1000)
    (d0 : decide (p < 0) = false) (z0 : 0 ≤ p) (d1 : decide ((l.length : Int) ≤ p) = true) (HE : Hid (∀ (d28 d29 d30 d31 d32 d33 d34 d35 d36 d37 d38 d39 d40 d41 d42 d43 d44 d45 d46 d47 d48 d49 d50 d51 d52 d53 d54 : Value) (n : Nat), Q .normal ⟨#[e0, .slice A1 can.length c1, e2, e3, .slice pA places.length pc, .pointer (some ⟨b5, 0, none⟩), e6, e7, e8, e9, e10, .int .i64 (j : Int), .pointer (some ⟨b2, 0, none⟩), e13, e14, e15, e16, e17, e18, e19, e20, e21, e22, e23, e24, e25, e26, e27, d28, d29, d30, d31, d32, d33, d34, d35, d36, d37, d38, d39, d40, d41, d42, d43, d44, d45, d46, d47, d48, d49, d50, d51, d52, d53, d54, .bool true, e56, e57, e58, e59, e60, e61], []⟩ (w6.drewN n))) :
    Code.wp Try.prog my6 Q ⟨#[e0, .slice A1 can.length c1, e2, e3, .slice pA places.length pc, .pointer (some ⟨b5, 0, none⟩), e6, e7, e8, e9, e10, .int .i64 (j : Int), .pointer (some ⟨b2, 0, none⟩), e13, e14, e15, e16, e17, e18, e19, e20, e21, e22, e23, e24, e25, e26, e27, e28, e29, e30, e31, e32, e33, e34, e35, e36, e37, e38, e39, e40, e41, e42, e43, e44, e45, e46, e47, e48, e49, e50, e51, e52, e53, e54, e55, e56, e57, e58, e59, e60, e61], []⟩ w6 := by
  unfold my6
  conv => arg 2; whnf
  go_quiet (fail)
  exact HE.out _ _ _ _ _ _ _ _ _ _ _ _ _ _ _ _ _ _ _ _ _ _ _ _ _ _ _ _
set_option maxHeartbeats 4000000 in
set_option maxRecDepth 100000 in
theorem r6c {lA A1 pA : Option Addr} {lc c1 pc : Nat} {l : List S33} {can : List Bool} {places : List Int} {w6 : World} {p : Int} {j b5 b2 : Nat} {Q : Exit → Act → World → Prop} {e0 e2 e3 e6 e7 e8 e9 e10 e13 e14 e15 e16 e17 e18 e19 e20 e21 e22 e23 e24 e25 e26 e27 e28 e29 e30 e31 e32 e33 e34 e35 e36 e37 e38 e39 e40 e41 e42 e43 e44 e45 e46 e47 e48 e49 e50 e51 e52 e53 e54 e55 e56 e57 e58 e59 e60 e61 : Value}
    (c12 : w6.cell? ⟨b2, 0, none⟩ = some (.int .i64 p)) (c5 : w6.cell? ⟨b5, 0, none⟩ = some (.slice lA l.length lc)) (hj : j ≤ places.length) (hpc : places.length ≤ pc) (hl0 : l.length ≤ 16) (hp9 : places.length ≤ 1000)
    (d0 : decide (p < 0) = false) (z0 : 0 ≤ p) (d1 : decide ((l.length : Int) ≤ p) = false) (d2 : decide ((can.length : Int) ≤ p) = true) (HE : Hid (∀ (d28 d29 d30 d31 d32 d33 d34 d35 d36 d37 d38 d39 d40 d41 d42 d43 d44 d45 d46 d47 d48 d49 d50 d51 d52 d53 d54 : Value) (n : Nat), Q .normal ⟨#[e0, .slice A1 can.length c1, e2, e3, .slice pA places.length pc, .pointer (some ⟨b5, 0, none⟩), e6, e7, e8, e9, e10, .int .i64 (j : Int), .pointer (some ⟨b2, 0, none⟩), e13, e14, e15, e16, e17, e18, e19, e20, e21, e22, e23, e24, e25, e26, e27, d28, d29, d30, d31, d32, d33, d34, d35, d36, d37, d38, d39, d40, d41, d42, d43, d44, d45, d46, d47, d48, d49, d50, d51, d52, d53, d54, .bool true, e56, e57, e58, e59, e60, e61], []⟩ (w6.drewN n))) :
    Code.wp Try.prog my6 Q ⟨#[e0, .slice A1 can.length c1, e2, e3, .slice pA places.length pc, .pointer (some ⟨b5, 0, none⟩), e6, e7, e8, e9, e10, .int .i64 (j : Int), .pointer (some ⟨b2, 0, none⟩), e13, e14, e15, e16, e17, e18, e19, e20, e21, e22, e23, e24, e25, e26, e27, e28, e29, e30, e31, e32, e33, e34, e35, e36, e37, e38, e39, e40, e41, e42, e43, e44, e45, e46, e47, e48, e49, e50, e51, e52, e53, e54, e55, e56, e57, e58, e59, e60, e61], []⟩ w6 := by
  unfold my6
  conv => arg 2; whnf
  go_quiet (fail)
  exact HE.out _ _ _ _ _ _ _ _ _ _ _ _ _ _ _ _ _ _ _ _ _ _ _ _ _ _ _ _
set_option maxHeartbeats 4000000 in
set_option maxRecDepth 100000 in
theorem r6d {lA A1 pA : Option Addr} {lc c1 pc : Nat} {l : List S33} {can : List Bool} {places : List Int} {w6 : World} {p : Int} {j b5 b2 : Nat} {Q : Exit → Act → World → Prop} {e0 e2 e3 e6 e7 e8 e9 e10 e13 e14 e15 e16 e17 e18 e19 e20 e21 e22 e23 e24 e25 e26 e27 e28 e29 e30 e31 e32 e33 e34 e35 e36 e37 e38 e39 e40 e41 e42 e43 e44 e45 e46 e47 e48 e49 e50 e51 e52 e53 e54 e55 e56 e57 e58 e59 e60 e61 : Value}
    (c12 : w6.cell? ⟨b2, 0, none⟩ = some (.int .i64 p)) (c5 : w6.cell? ⟨b5, 0, none⟩ = some (.slice lA l.length lc)) (hj : j ≤ places.length) (hpc : places.length ≤ pc) (hl0 : l.length ≤ 16) (hp9 : places.length ≤ 1000)
    (d0 : decide (p < 0) = false) (z0 : 0 ≤ p) (d1 : decide ((l.length : Int) ≤ p) = false) (d2 : decide ((can.length : Int) ≤ p) = false) (g2 : p < (can.length : Int)) (cd : Addr) (hA1 : A1 = some cd) (hcc : w6.cell? (cd.add p.toNat) = some (.bool false)) (HE : Hid (∀ (d28 d29 d30 d31 d32 d33 d34 d35 d36 d37 d38 d39 d40 d41 d42 d43 d44 d45 d46 d47 d48 d49 d50 d51 d52 d53 d54 : Value) (n : Nat), Q .normal ⟨#[e0, .slice A1 can.length c1, e2, e3, .slice pA places.length pc, .pointer (some ⟨b5, 0, none⟩), e6, e7, e8, e9, e10, .int .i64 (j : Int), .pointer (some ⟨b2, 0, none⟩), e13, e14, e15, e16, e17, e18, e19, e20, e21, e22, e23, e24, e25, e26, e27, d28, d29, d30, d31, d32, d33, d34, d35, d36, d37, d38, d39, d40, d41, d42, d43, d44, d45, d46, d47, d48, d49, d50, d51, d52, d53, d54, .bool true, e56, e57, e58, e59, e60, e61], []⟩ (w6.drewN n))) :
    Code.wp Try.prog my6 Q ⟨#[e0, .slice A1 can.length c1, e2, e3, .slice pA places.length pc, .pointer (some ⟨b5, 0, none⟩), e6, e7, e8, e9, e10, .int .i64 (j : Int), .pointer (some ⟨b2, 0, none⟩), e13, e14, e15, e16, e17, e18, e19, e20, e21, e22, e23, e24, e25, e26, e27, e28, e29, e30, e31, e32, e33, e34, e35, e36, e37, e38, e39, e40, e41, e42, e43, e44, e45, e46, e47, e48, e49, e50, e51, e52, e53, e54, e55, e56, e57, e58, e59, e60, e61], []⟩ w6 := by
  unfold my6
  conv => arg 2; whnf
  subst hA1
  go_quiet (fail)
  exact HE.out _ _ _ _ _ _ _ _ _ _ _ _ _ _ _ _ _ _ _ _ _ _ _ _ _ _ _ _
set_option maxHeartbeats 4000000 in
set_option maxRecDepth 100000 in
theorem r6e {lA A1 pA : Option Addr} {lc c1 pc : Nat} {l : List S33} {can : List Bool} {places : List Int} {w6 : World} {p : Int} {j b5 b2 : Nat} {Q : Exit → Act → World → Prop} {e0 e2 e3 e6 e7 e8 e9 e10 e13 e14 e15 e16 e17 e18 e19 e20 e21 e22 e23 e24 e25 e26 e27 e28 e29 e30 e31 e32 e33 e34 e35 e36 e37 e38 e39 e40 e41 e42 e43 e44 e45 e46 e47 e48 e49 e50 e51 e52 e53 e54 e55 e56 e57 e58 e59 e60 e61 : Value}
    (c12 : w6.cell? ⟨b2, 0, none⟩ = some (.int .i64 p)) (c5 : w6.cell? ⟨b5, 0, none⟩ = some (.slice lA l.length lc)) (hj : j ≤ places.length) (hpc : places.length ≤ pc) (hl0 : l.length ≤ 16) (hp9 : places.length ≤ 1000)
    (d0 : decide (p < 0) = false) (z0 : 0 ≤ p) (d1 : decide ((l.length : Int) ≤ p) = false) (d2 : decide ((can.length : Int) ≤ p) = false) (g2 : p < (can.length : Int)) (cd : Addr) (hA1 : A1 = some cd) (hcc : w6.cell? (cd.add p.toNat) = some (.bool true)) (pd : Addr) (hpA : pA = some pd) (b : Bool) (HC : Hid (∀ n, Calls Try.prog 13 #[.slice (some pd) j pc, .int .i64 p] (w6.drewN n) fun e w' => e = .returned (.bool b) ∧ ∃ m, w' = (w6.drewN n).drewN m)) (HE : Hid (∀ (d28 d29 d30 d31 d32 d33 d34 d35 d36 d37 d38 d39 d40 d41 d42 d43 d44 d45 d46 d47 d48 d49 d50 d51 d52 d53 d54 : Value) (n : Nat), Q .normal ⟨#[e0, .slice A1 can.length c1, e2, e3, .slice pA places.length pc, .pointer (some ⟨b5, 0, none⟩), e6, e7, e8, e9, e10, .int .i64 (j : Int), .pointer (some ⟨b2, 0, none⟩), e13, e14, e15, e16, e17, e18, e19, e20, e21, e22, e23, e24, e25, e26, e27, d28, d29, d30, d31, d32, d33, d34, d35, d36, d37, d38, d39, d40, d41, d42, d43, d44, d45, d46, d47, d48, d49, d50, d51, d52, d53, d54, .bool b, e56, e57, e58, e59, e60, e61], []⟩ (w6.drewN n))) :
    Code.wp Try.prog my6 Q ⟨#[e0, .slice A1 can.length c1, e2, e3, .slice pA places.length pc, .pointer (some ⟨b5, 0, none⟩), e6, e7, e8, e9, e10, .int .i64 (j : Int), .pointer (some ⟨b2, 0, none⟩), e13, e14, e15, e16, e17, e18, e19, e20, e21, e22, e23, e24, e25, e26, e27, e28, e29, e30, e31, e32, e33, e34, e35, e36, e37, e38, e39, e40, e41, e42, e43, e44, e45, e46, e47, e48, e49, e50, e51, e52, e53, e54, e55, e56, e57, e58, e59, e60, e61], []⟩ w6 := by
  unfold my6
  conv => arg 2; whnf
  subst hA1
  subst hpA
  have hj1 : (j : Int) ≤ (pc : Int) := by omega
  go_quiet ((go_at_call 13; exact Calls.quiet_of (HC.out _)))
  exact HE.out _ _ _ _ _ _ _ _ _ _ _ _ _ _ _ _ _ _ _ _ _ _ _ _ _ _ _ _
end Go.Proofs.Ythpibikfecjoiaa.Own
