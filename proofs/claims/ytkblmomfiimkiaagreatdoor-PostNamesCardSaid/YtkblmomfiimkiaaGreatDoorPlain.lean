/- The plain functions on lists of bytes that the given contracts speak of: names, a value's escapes, a line, a record's text, its reading. Conditions: none; no program stands here. -/
namespace Go.Proofs.YtkblmomfiimkiaaGreatDoor.Fp

/-- a sign of a name -/
def okB (c : UInt8) : Bool := (decide (97 ≤ c.toNat) && decide (c.toNat ≤ 122)) || (decide (48 ≤ c.toNat) && decide (c.toNat ≤ 57)) || decide (c.toNat = 45)
/-- is a text a name -/
def nameB (l : List UInt8) : Bool := !l.isEmpty && decide (l.length ≤ 16) && l.all okB
/-- a byte of a value, as text -/
def escC (c : UInt8) : List UInt8 := if c = 92 then [92, 92] else if c = 10 then [92, 110] else [c]
def esc (l : List UInt8) : List UInt8 := l.flatMap escC
def lineB (n v : List UInt8) : List UInt8 := n ++ 61 :: (esc v ++ [10])
def mayB (n v : List UInt8) : Bool := nameB n && decide (v.length ≤ 4096)

/-- a value out of its text -/
def unesc : List UInt8 → Option (List UInt8)
  | [] => some []
  | c :: r =>
    if c = 92 then
      match r with
      | [] => none
      | d :: q => if d = 110 then (unesc q).map (10 :: ·) else if d = 92 then (unesc q).map (92 :: ·) else none
    else (unesc r).map (c :: ·)

/-- what stands ahead of the first sign c, and what behind it; none: it isn't there -/
def cutAt (c : UInt8) : List UInt8 → Option (List UInt8 × List UInt8)
  | [] => none
  | d :: r => if d = c then some ([], r) else (cutAt c r).map fun p => (d :: p.1, p.2)

/-- a line's name and value -/
def lineP (row : List UInt8) : Option (List UInt8 × List UInt8) :=
  (cutAt 61 row).bind fun p => if nameB p.1 = true then (unesc p.2).bind fun v => if v.length ≤ 4096 then some (p.1, v) else none else none

/-- n: how many lines there may still be; the line's number is 65 - n -/
def parseL : Nat → List UInt8 → List (List UInt8 × List UInt8) → List (List UInt8 × List UInt8) × Int × Int
  | n, s, acc =>
    if s = [] then (acc, 0, 0)
    else match n with
      | 0 => ([], 65, 7)
      | m + 1 =>
        match cutAt 10 s with
        | none => ([], 64 - (m : Int), 2)
        | some (row, rest) =>
          match lineP row with
          | none => ([], 64 - (m : Int), 2)
          | some x => parseL m rest (acc ++ [x])

end Go.Proofs.YtkblmomfiimkiaaGreatDoor.Fp
