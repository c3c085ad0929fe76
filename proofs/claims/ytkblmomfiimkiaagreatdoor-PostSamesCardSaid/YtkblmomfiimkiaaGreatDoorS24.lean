/- What the claim's theorem leans on. Conditions: none of its own. (Written by prune.py out of the texts SamesW, without what the claim doesn't lean on.) -/
import Derived.Test.YtkblmomfiimkiaaGreatDoorS17
import Derived.Test.YtkblmomfiimkiaaGreatDoorS18
import Derived.Test.YtkblmomfiimkiaaGreatDoorS19
import Derived.Test.YtkblmomfiimkiaaGreatDoorS20
import Derived.Test.YtkblmomfiimkiaaGreatDoorS21
import Derived.Test.YtkblmomfiimkiaaGreatDoorS22
import Derived.Test.YtkblmomfiimkiaaGreatDoorS23
section
namespace Go.Proofs.YtkblmomfiimkiaaGreatDoor.P
open Go.RowKit Go.Proofs.YtkblmomfiimkiaaGreatDoorW.PrintWords Go.Proofs.YtkblmomfiimkiaaGreatDoorW.PrintLast Go.Proofs.YtkblmomfiimkiaaGreatDoorW.PrintMore
set_option linter.unusedSimpArgs false
set_option linter.unusedVariables false
theorem sames_1 (x : S33) (A : Option Addr) (c : Nat) (B : Option Addr) (d : Nat) (y : S33) (A' : Option Addr) (c' : Nat) (B' : Option Addr) (d' : Nat) (ra rb e : Bool) (n : Int) (hn0 : 0 ≤ n) (w : World) (h : SamesH x A c B d y A' c' B' d' ra rb e w) :
  Calls Tryz.prog 4 #[.agg (letC x A c B d), .agg (letC y A' c' B' d'), .int .u8 n] w fun e w' => e = .returned (.bool true) ∧ Below w.heap.size w w' := by
 have hm : n % 7 = 0 ∨ n % 7 = 1 ∨ n % 7 = 2 ∨ n % 7 = 3 ∨ n % 7 = 4 ∨ n % 7 = 5 ∨ n % 7 = 6 := by omega
 rcases hm with hc | hc | hc | hc | hc | hc | hc
 ·
  exact sames_c0 x A c B d y A' c' B' d' ra rb e n hn0 hc w h
 ·
  exact sames_c1 x A c B d y A' c' B' d' ra rb e n hn0 hc w h
 ·
  exact sames_c2 x A c B d y A' c' B' d' ra rb e n hn0 hc w h
 ·
  exact sames_c3 x A c B d y A' c' B' d' ra rb e n hn0 hc w h
 ·
  exact sames_c4 x A c B d y A' c' B' d' ra rb e n hn0 hc w h
 ·
  exact sames_c5 x A c B d y A' c' B' d' ra rb e n hn0 hc w h
 ·
  exact sames_c6 x A c B d y A' c' B' d' ra rb e n hn0 hc w h
end Go.Proofs.YtkblmomfiimkiaaGreatDoor.P
end
