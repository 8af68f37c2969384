/- Lines and ranges as plain data, and how they lie in cells. -/
import Derived.Test.YtmaiillomoehgaaDoorGrpC
namespace Go.Proofs.YtmaiillomoehgaaDoor.V
open Go.RowKit
structure Line where
  num : Int
  words : Sl ByteArray
def lineE : Enc Line where
  n := 2
  cells x := [.int .i64 x.num, .slice x.words.a x.words.xs.length x.words.c]
  dflt := ⟨0, ⟨none, 0, []⟩⟩
  wf D h x := inI64 x.num ∧ (slE strE).wf D h x.words
  len _ := rfl
  one x u hu := by simp only [List.mem_cons, List.not_mem_nil, or_false] at hu; rcases hu with rfl | rfl <;> rfl
  keep k h := ⟨h.1, (slE strE).keep k h.2⟩
  mono k h := ⟨h.1, (slE strE).mono k h.2⟩

structure Rng where
  lo : Int
  hi : Int
def rngE : Enc Rng where
  n := 2
  cells x := [.int .u32 x.lo, .int .u32 x.hi]
  dflt := ⟨0, 0⟩
  wf D h x := inU32 x.lo ∧ inU32 x.hi
  len _ := rfl
  one x u hu := by simp only [List.mem_cons, List.not_mem_nil, or_false] at hu; rcases hu with rfl | rfl <;> rfl
  keep k h := ⟨h.1, h.2⟩
  mono k h := ⟨h.1, h.2⟩


end Go.Proofs.YtmaiillomoehgaaDoor.V
