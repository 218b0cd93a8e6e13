/- Package lex in plain words, second part: typed numbers, times, words, tokens. -/
import Derived.Test.YtfllgaoknigbnaaGreatDoorNumW
namespace Go.Proofs.YtfllgaoknigbnaaGreatDoor
open Go.RowKit Lx

def strTrue : List UInt8 := [84, 82, 85, 69]
def strFalse : List UInt8 := [70, 65, 76, 83, 69]

/-- A number behind its kind. -/
def lTyped (l : List UInt8) (at_ k : Nat) : Tok × Nat × Int :=
  let rest := l.drop at_
  let w := rest.take (span wordB rest)
  if k = 1 ∧ (w = strTrue ∨ w = strFalse) then (⟨3, k, if w = strTrue then 1 else 0, [], 0⟩, at_ + w.length, 0)
  else if kSigned k = true ∧ Lib.hasPrefix rest [45] = true then
    let d := digits (rest.drop 1) 10
    if d.2 = 0 then (tok0, 0, 120)
    else if -d.1 = kWrap k (-d.1) then (⟨3, k, -d.1, [], 0⟩, at_ + 1 + d.2, 0) else (tok0, 0, 163)
  else
    let m := Lx.number rest
    if m.2.2 ≠ 0 then (tok0, 0, m.2.2)
    else if m.1 = kWrap k m.1 then (⟨3, k, m.1, [], 0⟩, at_ + m.2.1, 0) else (tok0, 0, 163)

def tokV (t : Tok) : Value := .agg #[.int .i64 t.tok, .int .i64 t.kind, .int .i64 t.n, .string ⟨t.text.toArray⟩, .int .i64 t.at_]
def tokR (r : Tok × Nat × Int) : Ending := .returned (.tuple #[tokV r.1, .int .i64 r.2.1, .int .i64 r.2.2])
end Go.Proofs.YtfllgaoknigbnaaGreatDoor
