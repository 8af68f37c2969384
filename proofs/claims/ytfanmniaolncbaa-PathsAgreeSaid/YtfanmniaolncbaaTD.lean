/- Topologies and failure states as plain data, and how they lie in cells. -/
import Derived.Test.YtfanmniaolncbaaGrpC
namespace Go.Proofs.Ytfanmniaolncbaa.V
open Go.RowKit
structure Lnk where
  a : Int
  b : Int
  cost : Int
def lnkE : Enc Lnk where
  n := 3
  cells x := [.int .i64 x.a, .int .i64 x.b, .int .i64 x.cost]
  dflt := ⟨0, 0, 0⟩
  wf D h x := inI64 x.a ∧ inI64 x.b ∧ inI64 x.cost
  len _ := rfl
  one x u hu := by simp only [List.mem_cons, List.not_mem_nil, or_false] at hu; rcases hu with rfl | rfl | rfl <;> rfl
  keep k h := ⟨h.1, h.2.1, h.2.2⟩
  mono k h := ⟨h.1, h.2.1, h.2.2⟩

structure Dev where
  name : ByteArray
  cap : Int
  rng : Bool
  vol : Bool
  cls : ByteArray
def devE : Enc Dev where
  n := 5
  cells x := [.string x.name, .int .i64 x.cap, .bool (decide (x.rng = true)), .bool (decide (x.vol = true)), .string x.cls]
  dflt := ⟨⟨#[]⟩, 0, false, false, ⟨#[]⟩⟩
  wf D h x := inStr x.name ∧ inI64 x.cap ∧ True ∧ True ∧ inStr x.cls
  len _ := rfl
  one x u hu := by simp only [List.mem_cons, List.not_mem_nil, or_false] at hu; rcases hu with rfl | rfl | rfl | rfl | rfl <;> rfl
  keep k h := ⟨h.1, h.2.1, h.2.2.1, h.2.2.2.1, h.2.2.2.2⟩
  mono k h := ⟨h.1, h.2.1, h.2.2.1, h.2.2.2.1, h.2.2.2.2⟩

structure Pfx where
  addr : Int
  bits : Int
def pfxE : Enc Pfx where
  n := 2
  cells x := [.int .u32 x.addr, .int .i64 x.bits]
  dflt := ⟨0, 0⟩
  wf D h x := inU32 x.addr ∧ inI64 x.bits
  len _ := rfl
  one x u hu := by simp only [List.mem_cons, List.not_mem_nil, or_false] at hu; rcases hu with rfl | rfl <;> rfl
  keep k h := ⟨h.1, h.2⟩
  mono k h := ⟨h.1, h.2⟩

structure Edg where
  name : ByteArray
  dev : Int
  zone : ByteArray
  pfx : Pfx
  planned : Bool
def edgE : Enc Edg where
  n := 6
  cells x := [.string x.name, .int .i64 x.dev, .string x.zone, .int .u32 x.pfx.addr, .int .i64 x.pfx.bits, .bool (decide (x.planned = true))]
  dflt := ⟨⟨#[]⟩, 0, ⟨#[]⟩, pfxE.dflt, false⟩
  wf D h x := inStr x.name ∧ inI64 x.dev ∧ inStr x.zone ∧ pfxE.wf D h x.pfx ∧ True
  len _ := rfl
  one x u hu := by simp only [List.mem_cons, List.not_mem_nil, or_false] at hu; rcases hu with rfl | rfl | rfl | rfl | rfl | rfl <;> rfl
  keep k h := ⟨h.1, h.2.1, h.2.2.1, pfxE.keep k h.2.2.2.1, h.2.2.2.2⟩
  mono k h := ⟨h.1, h.2.1, h.2.2.1, pfxE.mono k h.2.2.2.1, h.2.2.2.2⟩

structure Topo where
  devs : Sl Dev
  links : Sl Lnk
  edges : Sl Edg
  pools : Sl Pfx
  tol : Int
def topoE : Enc Topo where
  n := 5
  cells x := [.slice x.devs.a x.devs.xs.length x.devs.c, .slice x.links.a x.links.xs.length x.links.c, .slice x.edges.a x.edges.xs.length x.edges.c, .slice x.pools.a x.pools.xs.length x.pools.c, .int .i64 x.tol]
  dflt := ⟨⟨none, 0, []⟩, ⟨none, 0, []⟩, ⟨none, 0, []⟩, ⟨none, 0, []⟩, 0⟩
  wf D h x := (slE devE).wf D h x.devs ∧ (slE lnkE).wf D h x.links ∧ (slE edgE).wf D h x.edges ∧ (slE pfxE).wf D h x.pools ∧ inI64 x.tol
  len _ := rfl
  one x u hu := by simp only [List.mem_cons, List.not_mem_nil, or_false] at hu; rcases hu with rfl | rfl | rfl | rfl | rfl <;> rfl
  keep k h := ⟨(slE devE).keep k h.1, (slE lnkE).keep k h.2.1, (slE edgE).keep k h.2.2.1, (slE pfxE).keep k h.2.2.2.1, h.2.2.2.2⟩
  mono k h := ⟨(slE devE).mono k h.1, (slE lnkE).mono k h.2.1, (slE edgE).mono k h.2.2.1, (slE pfxE).mono k h.2.2.2.1, h.2.2.2.2⟩

structure Fail where
  links : Sl Int
  devs : Sl Int
def failE : Enc Fail where
  n := 2
  cells x := [.slice x.links.a x.links.xs.length x.links.c, .slice x.devs.a x.devs.xs.length x.devs.c]
  dflt := ⟨⟨none, 0, []⟩, ⟨none, 0, []⟩⟩
  wf D h x := (slE intE).wf D h x.links ∧ (slE intE).wf D h x.devs
  len _ := rfl
  one x u hu := by simp only [List.mem_cons, List.not_mem_nil, or_false] at hu; rcases hu with rfl | rfl <;> rfl
  keep k h := ⟨(slE intE).keep k h.1, (slE intE).keep k h.2⟩
  mono k h := ⟨(slE intE).mono k h.1, (slE intE).mono k h.2⟩

end Go.Proofs.Ytfanmniaolncbaa.V
