import Derived.Test.YtndelndgioojgaaDoorWb9
namespace Go.Proofs.YtndelndgioojgaaDoor.Own
open Go.RowKit Go.Proofs.YtndelndgioojgaaDoorW.PrintWords Go.Proofs.YtndelndgioojgaaDoorW.PrintLast Go.Proofs.YtndelndgioojgaaDoorW.PrintMore
set_option linter.unusedVariables false
set_option linter.unusedSimpArgs false
/-- A log ahead of its opening. -/
def Lg.new (h : Nat) : Lg := ⟨h, 0, 0, 0, [], [], false⟩
/-- What a log has once both halves have been looked at. -/
def Lg.seen (h : Nat) (b : List Int) : Lg := ((Lg.new h).looks (b.take h) 0).looks (b.drop h) h
/-- A log whose half has been read. -/
def Lg.read (g : Lg) (h : Nat) (b : List Int) : Lg :=
  { g with end_ := ((readAll ((b.take (g.frm.toNat + h)).drop g.frm.toNat) g.gen (h + 1) g.end_.toNat []).1 : Int), recs := (readAll ((b.take (g.frm.toNat + h)).drop g.frm.toNat) g.gen (h + 1) g.end_.toNat []).2 }
/-- What lies behind the last record. -/
def Lg.rest (g : Lg) (h : Nat) (b : List Int) : List Int := (b.take (g.frm.toNat + h)).drop (g.frm + g.end_).toNat
/-- A log opened: the error, the log, the disk behind it. -/
def opens (n : Nat) (d : Dk) : Int × Option Lg × Dk :=
  if d.off = true then (12, none, d)
  else if n / 2 < 64 then (3, none, d)
  else
    let b := d.bs.take (2 * (n / 2))
    let g := Lg.seen (n / 2) b
    if g.gen = 0 then
      let r := g.begins d 1 []
      if r.1 = 0 then (0, some r.2.1, r.2.2) else (12, none, r.2.2)
    else
      let g2 := g.read (n / 2) b
      if (g2.rest (n / 2) b).any (fun x => x != 0) = true then
        let r := d.put (g2.frm + g2.end_).toNat (List.replicate (g2.rest (n / 2) b).length 0)
        if r.2 = true then (0, some g2, r.1) else (12, none, r.1)
      else (0, some g2, d)
end Go.Proofs.YtndelndgioojgaaDoor.Own
