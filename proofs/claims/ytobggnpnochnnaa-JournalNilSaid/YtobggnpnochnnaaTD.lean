/- Plans, records, controllers as plain data, and how they lie in cells. -/
import Derived.Test.YtobggnpnochnnaaGrpC
import Derived.Test.YtobggnpnochnnaaGrpU
namespace Go.Proofs.Ytobggnpnochnnaa.V
open Go.RowKit
structure Chg where
  dev : Int
  ver : Int
def chgE : Enc Chg where
  n := 2
  cells x := [.int .i64 x.dev, .int .i64 x.ver]
  dflt := ⟨0, 0⟩
  wf D h x := inI64 x.dev ∧ inI64 x.ver
  len _ := rfl
  one x u hu := by simp only [List.mem_cons, List.not_mem_nil, or_false] at hu; rcases hu with rfl | rfl <;> rfl
  keep k h := ⟨h.1, h.2⟩
  mono k h := ⟨h.1, h.2⟩

structure Rec where
  kind : Int
  dev : Int
  inc : Int
  seq : Int
def recE : Enc Rec where
  n := 4
  cells x := [.int .i64 x.kind, .int .i64 x.dev, .int .i64 x.inc, .int .i64 x.seq]
  dflt := ⟨0, 0, 0, 0⟩
  wf D h x := inI64 x.kind ∧ inI64 x.dev ∧ inI64 x.inc ∧ inI64 x.seq
  len _ := rfl
  one x u hu := by simp only [List.mem_cons, List.not_mem_nil, or_false] at hu; rcases hu with rfl | rfl | rfl | rfl <;> rfl
  keep k h := ⟨h.1, h.2.1, h.2.2.1, h.2.2.2⟩
  mono k h := ⟨h.1, h.2.1, h.2.2.1, h.2.2.2⟩

structure Plan where
  staged : Bool
  rounds : Sl (Sl Chg)
def planE : Enc Plan where
  n := 2
  cells x := [.bool (decide (x.staged = true)), .slice x.rounds.a x.rounds.xs.length x.rounds.c]
  dflt := ⟨false, ⟨none, 0, []⟩⟩
  wf D h x := True ∧ (slE (slE chgE)).wf D h x.rounds
  len _ := rfl
  one x u hu := by simp only [List.mem_cons, List.not_mem_nil, or_false] at hu; rcases hu with rfl | rfl <;> rfl
  keep k h := ⟨h.1, (slE (slE chgE)).keep k h.2⟩
  mono k h := ⟨h.1, (slE (slE chgE)).mono k h.2⟩

structure Ctrl where
  round : Int
  back : Bool
  seq : Int
  target : Sl Int
  known : Sl Int
  waiting : Sl Int
def ctrlE : Enc Ctrl where
  n := 6
  cells x := [.int .i64 x.round, .bool (decide (x.back = true)), .int .i64 x.seq, .slice x.target.a x.target.xs.length x.target.c, .slice x.known.a x.known.xs.length x.known.c, .slice x.waiting.a x.waiting.xs.length x.waiting.c]
  dflt := ⟨0, false, 0, ⟨none, 0, []⟩, ⟨none, 0, []⟩, ⟨none, 0, []⟩⟩
  wf D h x := inI64 x.round ∧ True ∧ inI64 x.seq ∧ (slE intE).wf D h x.target ∧ (slE intE).wf D h x.known ∧ (slE intE).wf D h x.waiting
  len _ := rfl
  one x u hu := by simp only [List.mem_cons, List.not_mem_nil, or_false] at hu; rcases hu with rfl | rfl | rfl | rfl | rfl | rfl <;> rfl
  keep k h := ⟨h.1, h.2.1, h.2.2.1, (slE intE).keep k h.2.2.2.1, (slE intE).keep k h.2.2.2.2.1, (slE intE).keep k h.2.2.2.2.2⟩
  mono k h := ⟨h.1, h.2.1, h.2.2.1, (slE intE).mono k h.2.2.2.1, (slE intE).mono k h.2.2.2.2.1, (slE intE).mono k h.2.2.2.2.2⟩

structure Mach where
  rounds : Sl (Sl Chg)
  states : Sl (Sl Int)
  round : Int
  back : Bool
  seq : Int
  target : Sl Int
  known : Sl Int
  waiting : Sl Int
  sent : Sl Int
def machE : Enc Mach where
  n := 9
  cells x := [.slice x.rounds.a x.rounds.xs.length x.rounds.c, .slice x.states.a x.states.xs.length x.states.c, .int .i64 x.round, .bool (decide (x.back = true)), .int .i64 x.seq, .slice x.target.a x.target.xs.length x.target.c, .slice x.known.a x.known.xs.length x.known.c, .slice x.waiting.a x.waiting.xs.length x.waiting.c, .slice x.sent.a x.sent.xs.length x.sent.c]
  dflt := ⟨⟨none, 0, []⟩, ⟨none, 0, []⟩, 0, false, 0, ⟨none, 0, []⟩, ⟨none, 0, []⟩, ⟨none, 0, []⟩, ⟨none, 0, []⟩⟩
  wf D h x := (slE (slE chgE)).wf D h x.rounds ∧ (slE (slE intE)).wf D h x.states ∧ inI64 x.round ∧ True ∧ inI64 x.seq ∧ (slE intE).wf D h x.target ∧ (slE intE).wf D h x.known ∧ (slE intE).wf D h x.waiting ∧ (slE intE).wf D h x.sent
  len _ := rfl
  one x u hu := by simp only [List.mem_cons, List.not_mem_nil, or_false] at hu; rcases hu with rfl | rfl | rfl | rfl | rfl | rfl | rfl | rfl | rfl <;> rfl
  keep k h := ⟨(slE (slE chgE)).keep k h.1, (slE (slE intE)).keep k h.2.1, h.2.2.1, h.2.2.2.1, h.2.2.2.2.1, (slE intE).keep k h.2.2.2.2.2.1, (slE intE).keep k h.2.2.2.2.2.2.1, (slE intE).keep k h.2.2.2.2.2.2.2.1, (slE intE).keep k h.2.2.2.2.2.2.2.2⟩
  mono k h := ⟨(slE (slE chgE)).mono k h.1, (slE (slE intE)).mono k h.2.1, h.2.2.1, h.2.2.2.1, h.2.2.2.2.1, (slE intE).mono k h.2.2.2.2.2.1, (slE intE).mono k h.2.2.2.2.2.2.1, (slE intE).mono k h.2.2.2.2.2.2.2.1, (slE intE).mono k h.2.2.2.2.2.2.2.2⟩

structure Lg where
  m : Nat × Mach
  l : Sl Rec
def lgE : Enc Lg where
  n := 2
  cells x := [.pointer (some ⟨x.m.1, 0, none⟩), .slice x.l.a x.l.xs.length x.l.c]
  dflt := ⟨(0, machE.dflt), ⟨none, 0, []⟩⟩
  wf D h x := (ptE machE 166).wf D h x.m ∧ (slE recE).wf D h x.l
  len _ := rfl
  one x u hu := by simp only [List.mem_cons, List.not_mem_nil, or_false] at hu; rcases hu with rfl | rfl <;> rfl
  keep k h := ⟨(ptE machE 166).keep k h.1, (slE recE).keep k h.2⟩
  mono k h := ⟨(ptE machE 166).mono k h.1, (slE recE).mono k h.2⟩

def machF (B : Nat) (m : Mach) : List OF := [blO B (machE.cells m) 166, rwO intE 3 0 m.target.a m.target.c m.target.xs, rwO intE 3 0 m.known.a m.known.c m.known.xs, rwO intE 3 0 m.waiting.a m.waiting.c m.waiting.xs, rwO intE 3 0 m.sent.a m.sent.c m.sent.xs, daO (slE (slE chgE)) m.rounds, daO (slE (slE intE)) m.states]
theorem mo_mach (B : Nat) (m : Mach) : AllMo (machF B m) := ⟨mo_bl, mo_rw, mo_rw, mo_rw, mo_rw, mo_da, mo_da, trivial⟩
def machK (m : Mach) : Prop := inI64 m.round ∧ inI64 m.seq
theorem rd_mach {F W : Nat → Prop} {w : World} {B : Nat} {m : Mach} (hk : machK m) (D : Nat → Prop) (h : ∀ f ∈ machF B m, f.p F W w) (h1 : ∀ k, In (ow (machF B m)) k → k < w.heap.size → D k) (h2 : ∀ k, k < w.heap.size → Fw F W k → D k) : (ptE machE 166).wf D w.heap (B, m) :=
  have hb : Blk w.heap B (machE.cells m) 166 := h (blO B (machE.cells m) 166) (List.mem_of_getElem? (i := 0) rfl)
  ⟨hb, h1 B (.inl rfl) hb.lt, Enc.mono (slE (slE chgE)) h2 (h (daO (slE (slE chgE)) m.rounds) (List.mem_of_getElem? (i := 5) rfl)), Enc.mono (slE (slE intE)) h2 (h (daO (slE (slE intE)) m.states) (List.mem_of_getElem? (i := 6) rfl)), hk.1, trivial, hk.2, rd_rw (E := intE) (h _ (List.mem_of_getElem? (i := 1) rfl)) (by first | decide | exact Nat.one_pos) (fun k hk => h1 k (in_mem (List.mem_of_getElem? (i := 1) rfl) hk)) h2, rd_rw (E := intE) (h _ (List.mem_of_getElem? (i := 2) rfl)) (by first | decide | exact Nat.one_pos) (fun k hk => h1 k (in_mem (List.mem_of_getElem? (i := 2) rfl) hk)) h2, rd_rw (E := intE) (h _ (List.mem_of_getElem? (i := 3) rfl)) (by first | decide | exact Nat.one_pos) (fun k hk => h1 k (in_mem (List.mem_of_getElem? (i := 3) rfl) hk)) h2, rd_rw (E := intE) (h _ (List.mem_of_getElem? (i := 4) rfl)) (by first | decide | exact Nat.one_pos) (fun k hk => h1 k (in_mem (List.mem_of_getElem? (i := 4) rfl) hk)) h2⟩
def machQ (q : Option (Nat × Mach)) : List OF := match q with
  | none => []
  | some x => machF x.1 x.2
theorem mo_machQ (q : Option (Nat × Mach)) : AllMo (machQ q) := match q with
  | none => trivial
  | some x => mo_mach x.1 x.2
def machQK (q : Option (Nat × Mach)) : Prop := match q with
  | none => True
  | some x => machK x.2
def lgF (B : Nat) (m : Lg) : List OF := [blO B (lgE.cells m) 129, rwO recE 24 0 m.l.a m.l.c m.l.xs, bnO (machF m.m.1 m.m.2)]
theorem mo_lg (B : Nat) (m : Lg) : AllMo (lgF B m) := ⟨mo_bl, mo_rw, (mo_bn (mo_mach _ _)), trivial⟩
def lgK (m : Lg) : Prop := machK m.m.2
theorem rd_lg {F W : Nat → Prop} {w : World} {B : Nat} {m : Lg} (hk : lgK m) (D : Nat → Prop) (h : ∀ f ∈ lgF B m, f.p F W w) (h1 : ∀ k, In (ow (lgF B m)) k → k < w.heap.size → D k) (h2 : ∀ k, k < w.heap.size → Fw F W k → D k) : (ptE lgE 129).wf D w.heap (B, m) :=
  have hb : Blk w.heap B (lgE.cells m) 129 := h (blO B (lgE.cells m) 129) (List.mem_of_getElem? (i := 0) rfl)
  ⟨hb, h1 B (.inl rfl) hb.lt, rd_mach hk D (h (bnO (machF m.m.1 m.m.2)) (List.mem_of_getElem? (i := 2) rfl)).2 (fun k hk => h1 k (in_mem (o := In (ow (machF m.m.1 m.m.2))) (List.mem_of_getElem? (i := 2) rfl) hk)) h2, rd_rw (E := recE) (h _ (List.mem_of_getElem? (i := 1) rfl)) (by first | decide | exact Nat.one_pos) (fun k hk => h1 k (in_mem (List.mem_of_getElem? (i := 1) rfl) hk)) h2⟩
def lgQ (q : Option (Nat × Lg)) : List OF := match q with
  | none => []
  | some x => lgF x.1 x.2
theorem mo_lgQ (q : Option (Nat × Lg)) : AllMo (lgQ q) := match q with
  | none => trivial
  | some x => mo_lg x.1 x.2
def lgQK (q : Option (Nat × Lg)) : Prop := match q with
  | none => True
  | some x => lgK x.2
end Go.Proofs.Ytobggnpnochnnaa.V
