/- Package lex in plain words, fourth part: blanks and comments, all tokens. -/
import Derived.Test.YtfllgaoknigbnaaGreatDoorLexW9
namespace Go.Proofs.YtfllgaoknigbnaaGreatDoor
open Go.RowKit Lx

def blankB (il : Bool) (c : UInt8) : Bool := c.toNat == 32 || c.toNat == 9 || c.toNat == 13 || (c.toNat == 10 && !il)
/-- Where the blanks and comments that begin at 'a' end; or where a comment begins that has no end. (The first number: as many bytes as may still come.) -/
def blanks (il : Bool) (l : List UInt8) : Nat → Nat → Except Nat Nat
  | 0, a => .ok a
  | f + 1, a => match l.drop a with
    | [] => .ok a
    | c :: t =>
      if blankB il c = true then blanks il l f (a + 1)
      else if Lib.hasPrefix (c :: t) [40, 42] = true then
        if Lib.index ((c :: t).drop 2) [42, 41] < 0 then .error a
        else blanks il l f (a + ((Lib.index ((c :: t).drop 2) [42, 41]).toNat + 4))
      else .ok a

/-- All tokens from 'a' on; or an error's place and number. -/
def tokens (il : Bool) (l : List UInt8) : Nat → Nat → List Tok → Except (Nat × Int) (List Tok)
  | 0, a, _ => .error (a, 0)
  | f + 1, a, out => match blanks il l (l.length + 1) a with
    | .error a' => .error (a', 120)
    | .ok a' =>
      if a' = l.length then .ok (out ++ [⟨0, 0, 0, [], a'⟩])
      else
        let r := lToken (l.drop a')
        if r.2.2 ≠ 0 then .error (a', r.2.2)
        else tokens il l f (a' + r.2.1) (out ++ [{ r.1 with at_ := a' }])

def lTokens (l : List UInt8) (il : Bool) : Except (Nat × Int) (List Tok) :=
  if 65536 < l.length then .error (65536, 121) else tokens il l (l.length + 1) 0 []
end Go.Proofs.YtfllgaoknigbnaaGreatDoor
