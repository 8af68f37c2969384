/- Plain laws of package source: the lines of a text. -/
import Derived.Test.YtmaiillomoehgaaDoorWrdM
namespace Go.Proofs.YtmaiillomoehgaaDoor
def prC (c : UInt8) : Bool := decide (c.toNat = 9) || (decide (32 ≤ c.toNat) && decide (c.toNat ≤ 126))
/-- the lines that have words, or the line of the first error, and the error -/
def linesR : List (List UInt8) → Nat → List (Nat × List (List UInt8)) → List (Nat × List (List UInt8)) × Int × Int
  | [], _, out => (out, 0, 0)
  | l :: t, i, out => if l.all prC = false then ([], (i : Int) + 1, 4) else if 64 < (wordsL l).length then ([], (i : Int) + 1, 3) else linesR t (i + 1) (if wordsL l = [] then out else out ++ [(i + 1, wordsL l)])
def linesL (L : List UInt8) : List (Nat × List (List UInt8)) × Int × Int := if 16384 < L.length then ([], 0, 3) else linesR (partsL 10 L) 0 []
end Go.Proofs.YtmaiillomoehgaaDoor
