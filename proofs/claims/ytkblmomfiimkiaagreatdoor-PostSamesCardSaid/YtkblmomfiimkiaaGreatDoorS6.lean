/- What the claim's theorem leans on. Conditions: none of its own. (Written by prune.py out of the texts Parse, without what the claim doesn't lean on.) -/
import Derived.WalkMore
import Derived.Deep.LoopGhost
import Derived.Scope
import Derived.Test.YtkblmomfiimkiaaGreatDoorS5
section
namespace Go.Proofs.YtkblmomfiimkiaaGreatDoor.P
open Go.RowKit Go.Proofs.YtkblmomfiimkiaaGreatDoorW.PrintWords Go.Proofs.YtkblmomfiimkiaaGreatDoorW.PrintLast Go.Proofs.YtkblmomfiimkiaaGreatDoorW.PrintMore
open Go.Proofs.YtkblmomfiimkiaaGreatDoor.Fp
def fieldOf (p : List UInt8 × List UInt8) : S43 := ⟨⟨p.1.toArray⟩, ⟨p.2.toArray⟩⟩
structure ParseIs (s : ByteArray) (w : World) (k : Nat) (cur : ByteArray) (v5 : Value) (W : World) : Prop where
 small : cur.size ≤ s.size
 below : Below w.heap.size w W
 same : ∃ acc, parseL 64 s.data.toList [] = parseL (65 - k) cur.data.toList acc ∧ acc.length < k ∧ Kd.R k43 43 W w.heap.size (fun _ => True) v5 (acc.map fieldOf)
structure ValIs (raw : ByteArray) (wb : World) (b i : Nat) (W : World) : Prop where
 below : Below wb.heap.size wb W
 same : ∃ done, unesc raw.data.toList = (unesc (raw.data.toList.drop i)).map (done ++ ·) ∧ done.length ≤ i ∧ Lib.IsBuilder 112 5 b b (Lib.byteCells done) W
end Go.Proofs.YtkblmomfiimkiaaGreatDoor.P
end
