import Derived.Test.YtndelndgioojgaaDoorWc3
namespace Go.Proofs.YtndelndgioojgaaDoor.Own
open Go.RowKit Go.Proofs.YtndelndgioojgaaDoorW.PrintWords Go.Proofs.YtndelndgioojgaaDoorW.PrintLast Go.Proofs.YtndelndgioojgaaDoorW.PrintMore
set_option linter.unusedVariables false
set_option linter.unusedSimpArgs false
abbrev zs (n : Nat) : List Int := List.replicate n 0
theorem splice_mid {a x c b : List Int} (h : b.length = x.length) : splice (a ++ (x ++ c)) a.length b = a ++ (b ++ c) := by
  unfold splice
  rw [List.take_left, h, ← List.drop_drop, List.drop_left, List.drop_left]
/-- A disk as New makes it. -/
def Dk.new (n : Nat) : Dk := ⟨zs n, false, -1, 0⟩
/-- A disk whose fuse doesn't burn. -/
structure Free (d : Dk) : Prop where
  off : d.off = false
  fuse : d.fuse = -1
theorem put_free {d : Dk} (h : Free d) (a : Nat) (b : List Int) : d.put a b = (⟨splice d.bs a b, false, -1, d.keep⟩, true) := by
  unfold Dk.put
  rw [if_neg (by rw [h.off]; simp), if_neg (by rw [h.fuse]; decide), h.fuse]
  rfl
theorem get4_zs {n : Nat} (h : 4 ≤ n) : get4 (zs n) = 0 := by
  obtain ⟨m, rfl⟩ : ∃ m, n = m + 4 := ⟨n - 4, by omega⟩
  simp [get4, rd, rdOf, zs, List.replicate_succ]
theorem genOf_zs (n : Nat) : genOf (zs n) = 0 := by
  unfold genOf
  split
  · rfl
  · rename_i h
    rw [List.length_replicate] at h
    rw [zs, List.drop_replicate]
    exact get4_zs (by omega)
/-- The disk behind a log's first opening. -/
def Dk.first (n : Nat) : Dk := ⟨zs (n / 2) ++ (fr 1 0 [] ++ zs (n - n / 2 - 16)), false, -1, 0⟩
def Lg.first (n : Nat) : Lg := ⟨((n / 2 : Nat) : Int), ((n / 2 : Nat) : Int), 16, 1, [], [], false⟩
theorem looks_zs (g : Lg) (n : Nat) (at' : Int) (h : 0 ≤ g.gen) : g.looks (zs n) at' = g := by
  unfold Lg.looks
  rw [if_pos (by rw [genOf_zs]; exact h)]
theorem seen_zs (h : Nat) : Lg.seen h (zs (2 * h)) = Lg.new h := by
  unfold Lg.seen
  rw [zs, List.take_replicate, List.drop_replicate, looks_zs (Lg.new h) _ _ (Int.le_refl 0), looks_zs (Lg.new h) _ _ (Int.le_refl 0)]
theorem zs_split {a b n : Nat} (h : n = a + b) : zs n = zs a ++ zs b := by rw [h]; exact List.replicate_append_replicate.symm
theorem opens_new (n : Nat) (h : 64 ≤ n / 2) : opens n (Dk.new n) = (0, some (Lg.first n), Dk.first n) := by
  unfold opens
  dsimp only
  rw [if_neg (by simp [Dk.new]), if_neg (by omega), show List.take (2 * (n / 2)) (Dk.new n).bs = zs (2 * (n / 2)) by simp [Dk.new, zs, List.take_replicate]; omega, seen_zs]
  have hp : placeP ((n / 2 : Nat) : Int) 1 = ((n / 2 : Nat) : Int) := by unfold placeP; rw [if_neg (by decide)]
  have hb : (Lg.new (n / 2)).begins (Dk.new n) 1 [] = (0, Lg.first n, Dk.first n) := by
    unfold Lg.begins
    have e1 : (Dk.new n).put (placeP (Lg.new (n / 2)).half 1).toNat (List.replicate (Lg.new (n / 2)).half.toNat 0) = (Dk.new n, true) := by
      show (Dk.new n).put (placeP ((n / 2 : Nat) : Int) 1).toNat (List.replicate (((n / 2 : Nat) : Int)).toNat 0) = _
      rw [hp, Int.toNat_natCast, put_free ⟨rfl, rfl⟩]
      have : splice (Dk.new n).bs (n / 2) (zs (n / 2)) = zs n := by
        have h1 : (Dk.new n).bs = zs (n / 2) ++ (zs (n / 2) ++ zs (n - n / 2 - n / 2)) := by
          show zs n = _
          simp only [zs, List.replicate_append_replicate]
          congr 1
          omega
        have h2 := splice_mid (a := zs (n / 2)) (x := zs (n / 2)) (c := zs (n - n / 2 - n / 2)) (b := zs (n / 2)) rfl
        rw [List.length_replicate] at h2
        rw [h1, h2, ← h1]
        rfl
      rw [show List.replicate (n / 2) (0 : Int) = zs (n / 2) from rfl, this]
      rfl
    have e2 : (Dk.new n).put (placeP (Lg.new (n / 2)).half 1).toNat (fr 1 0 []) = (Dk.first n, true) := by
      show (Dk.new n).put (placeP ((n / 2 : Nat) : Int) 1).toNat (fr 1 0 []) = _
      rw [hp, Int.toNat_natCast, put_free ⟨rfl, rfl⟩]
      have h1 : (Dk.new n).bs = zs (n / 2) ++ (zs 16 ++ zs (n - n / 2 - 16)) := by
        show zs n = _
        simp only [zs, List.replicate_append_replicate]
        congr 1
        omega
      have h2 := splice_mid (a := zs (n / 2)) (x := zs 16) (c := zs (n - n / 2 - 16)) (b := fr 1 0 []) (by rw [fr_len]; rfl)
      rw [List.length_replicate] at h2
      rw [h1, h2]
      rfl
    rw [e1]
    rw [e2]
    simp only [if_true]
    rw [show (Lg.new (n / 2)).half = ((n / 2 : Nat) : Int) from rfl, hp]
    rfl
  rw [if_pos (show (Lg.new (n / 2)).gen = 0 from rfl), hb]
  rfl
theorem first_free (n : Nat) : Free (Dk.first n) := ⟨rfl, rfl⟩
theorem first_by (n : Nat) : By (Dk.first n).bs := by_app.2 ⟨zeros_by _, by_app.2 ⟨fr_by (fun x hx => by cases hx), zeros_by _⟩⟩
end Go.Proofs.YtndelndgioojgaaDoor.Own
