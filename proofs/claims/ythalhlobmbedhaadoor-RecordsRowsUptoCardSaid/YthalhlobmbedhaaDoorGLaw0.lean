import Derived.Test.YthalhlobmbedhaaDoorGFixed
import Derived.Test.YthalhlobmbedhaaDoorGInv
import Derived.Test.YthalhlobmbedhaaDoorPx47
import Derived.Test.YthalhlobmbedhaaDoorPx48
import Derived.Test.YthalhlobmbedhaaDoorPx49
import Derived.Test.YthalhlobmbedhaaDoorPx50
import Derived.Test.YthalhlobmbedhaaDoorPx51
import Derived.Test.YthalhlobmbedhaaDoorPx52
import Derived.Test.YthalhlobmbedhaaDoorPx53
import Derived.Test.YthalhlobmbedhaaDoorPx54
import Derived.Test.YthalhlobmbedhaaDoorPx55
import Derived.Test.YthalhlobmbedhaaDoorPx56
import Derived.Test.YthalhlobmbedhaaDoorPx57
import Derived.Test.YthalhlobmbedhaaDoorPx58
namespace Go.Proofs.YthalhlobmbedhaaDoor.P
open Go.Sort
open Go.RowKit Go.Proofs.YthalhlobmbedhaaDoorW.PrintWords Go.Proofs.YthalhlobmbedhaaDoorW.PrintLast Go.Proofs.YthalhlobmbedhaaDoorW.PrintMore

/-- The block that an address leads to is another. -/
def away (v : Value) (k : Nat) : Prop := match v with
  | .pointer (some a) => k ≠ a.block
  | _ => True
theorem away_undef (k : Nat) : away undef k := trivial

/-- The three boxes, and what lay below. -/
structure Bx (w : World) (vn vs vc : Array Value) (W : World) : Prop where
  n : W.heap[w.heap.size]? = some (.cells vn 24 (0, 0))
  s : W.heap[w.heap.size + 1]? = some (.cells vs 27 (0, 0))
  c : W.heap[w.heap.size + 2]? = some (.cells vc 29 (0, 0))
  size : w.heap.size + 3 ≤ W.heap.size
  bel : Below w.heap.size w W
theorem Bx.step {w : World} {vn vs vc : Array Value} {W W1 : World} (h : Bx w vn vs vc W) (hb : Below W.heap.size W W1) : Bx w vn vs vc W1 := by
  have hz := h.size
  exact ⟨(hb.block _ (by omega)).trans h.n, (hb.block _ (by omega)).trans h.s, (hb.block _ (by omega)).trans h.c, Nat.le_trans hz hb.size, below_then h.bel (by omega) hb⟩
theorem Bx.far {w : World} {vn vs vc : Array Value} {W : World} {g : Nat} (h : Bx w vn vs vc W) (hg : w.heap.size + 3 ≤ g) (u : Value) : Bx w vn vs vc (W.setCell ⟨g, 0, none⟩ u) :=
  ⟨(Below.heap_setCell W ⟨g, 0, none⟩ u _ (by simp; omega)).trans h.n, (Below.heap_setCell W ⟨g, 0, none⟩ u _ (by simp; omega)).trans h.s, (Below.heap_setCell W ⟨g, 0, none⟩ u _ (by simp; omega)).trans h.c, by simpa using h.size, h.bel.setCell (by simp; omega) _⟩

/-- A variable of type 33 that the call has laid. -/
def Slot (N : Nat) (v : Value) (W : World) : Prop := ∃ g, v = .pointer (some ⟨g, 0, none⟩) ∧ N + 3 ≤ g ∧ g < W.heap.size ∧ W.heap[g]? = some (.cells #[.slice none 0 0] 33 (0, 0))
theorem Slot.step {N : Nat} {v : Value} {W W1 : World} (h : Slot N v W) (hb : Below W.heap.size W W1) : Slot N v W1 := by
  obtain ⟨g, e, h1, h2, h3⟩ := h
  exact ⟨g, e, h1, Nat.lt_of_lt_of_le h2 hb.size, (hb.block g h2).trans h3⟩

def act3 (N : Nat) (n0 n1 : ByteArray) (n2 n3 : Int) (s0 s1 s2 : ByteArray) (s3 : Int) (A4 : Option Addr) (c4 : Nat) (l4 : List ByteArray) (s5 s6 : Int) (k0 k1 k2 : ByteArray) (k3 : Int) (k4 : ByteArray) (k5 k6 : Int) (v7 v8 v9 v15 v16 v17 v18 v19 v20 v21 : Value) : Act := ⟨#[.agg #[.string n0, .string n1, .int .u64 n2, .int .u64 n3], .agg #[.string s0, .string s1, .string s2, .int .i64 s3, .slice A4 l4.length c4, .int .u64 s5, .int .u64 s6], .agg #[.string k0, .string k1, .string k2, .int .i64 k3, .string k4, .int .u64 k5, .int .u64 k6], .pointer (some ⟨N, 0, none⟩), .pointer (some ⟨N + 1, 0, none⟩), .pointer (some ⟨N + 1 + 1, 0, none⟩), .bool false, v7, v8, v9, undef, undef, undef, .bool true, .bool false, v15, v16, v17, v18, v19, v20, v21, undef, undef, undef, undef, undef, undef, undef, undef, undef, undef, undef, undef, undef, undef, undef, undef, undef, undef, undef, undef, undef, undef, undef, undef, undef, undef, undef, undef, undef, undef, undef, undef, undef, undef, undef, undef, undef, undef, undef, undef, undef, undef, undef, undef, undef, undef, undef, undef, undef, undef, undef, undef, undef, undef, undef, undef, undef, undef, undef, undef, undef, undef, undef, undef, undef, undef, undef, undef, undef, undef, undef, undef, undef, undef, undef, undef, undef, undef, undef, undef, undef, undef, undef, undef, undef, undef, undef, undef, undef, undef, undef, undef, undef, undef, undef, undef, undef, undef, undef, undef, undef, undef, undef, undef, undef, undef, undef, undef, undef, undef, undef, undef, undef, undef, undef, undef, undef, undef, undef, undef, undef, undef], []⟩

/-- A row of the call's own, told apart from the variables that are there. -/
def Rw (N : Nat) (v7 v8 v9 v : Value) (l : List S39) (W : World) : Prop := ∃ u, v = .agg #[u] ∧ Kd.N k39 39 W (N + 3) (fun k => N + 3 ≤ k ∧ away v7 k ∧ away v8 k ∧ away v9 k) u l
theorem Rw.step {N : Nat} {v7 v8 v9 v : Value} {l : List S39} {W W1 : World} (h : Rw N v7 v8 v9 v l W) (hb : Below W.heap.size W W1) : Rw N v7 v8 v9 v l W1 := by
  obtain ⟨u, e, h⟩ := h
  exact ⟨u, e, Kd.N_below h hb⟩
theorem Rw.new {N : Nat} {v7 v8 v9 : Value} {u : Value} {l : List S39} {W W1 : World} (h : Kd.N k39 39 W1 W.heap.size (fun k_ => W.heap.size ≤ k_) u l) (hN : N + 3 ≤ W.heap.size)
    (h7 : ∀ k, W.heap.size ≤ k → away v7 k) (h8 : ∀ k, W.heap.size ≤ k → away v8 k) (h9 : ∀ k, W.heap.size ≤ k → away v9 k) : Rw N v7 v8 v9 (.agg #[u]) l W1 :=
  ⟨u, rfl, Kd.N_lower (Kd.N_mono h (fun k hk => ⟨by omega, h7 k hk, h8 k hk, h9 k hk⟩)) (by omega)⟩
theorem Rw.slot {N : Nat} {v7 v8 v9 v7' v8' v9' v : Value} {l : List S39} {W W1 : World} (h : Rw N v7 v8 v9 v l W) (hb : Below W.heap.size W W1)
    (h7 : ∀ k, k < W.heap.size → away v7 k → away v7' k) (h8 : ∀ k, k < W.heap.size → away v8 k → away v8' k) (h9 : ∀ k, k < W.heap.size → away v9 k → away v9' k) : Rw N v7' v8' v9' v l W1 := by
  obtain ⟨u, e, h⟩ := h
  exact ⟨u, e, Kd.N_below (Kd.N_mono (Kd.N_bound h) (fun k hk => ⟨hk.1.1, h7 k hk.2 hk.1.2.1, h8 k hk.2 hk.1.2.2.1, h9 k hk.2 hk.1.2.2.2⟩)) hb⟩
theorem Slot.away {N : Nat} {v : Value} {W : World} (h : Slot N v W) (k : Nat) (hk : W.heap.size ≤ k) : away v k := by
  obtain ⟨g, e, h1, h2, h3⟩ := h
  subst e
  show k ≠ g
  omega
theorem away_or {N : Nat} {l : Bool} {v : Value} {W : World} (h1 : l = true → Slot N v W) (h0 : l = false → v = undef) (k : Nat) (hk : W.heap.size ≤ k) : away v k := by
  cases l with
  | true => exact (h1 rfl).away k hk
  | false => rw [h0 rfl]; exact away_undef k

/-- The strings that the copy has. -/
def Tg (N : Nat) (v : Value) (l : List ByteArray) (f : Value → Value) (W : World) : Prop := ∃ u, v = f u ∧ Kd.R Kd.string 9 W N (fun _ => True) u l


def nRow (n0 n1 : ByteArray) (n2 n3 : Int) : List S39 := [⟨n0, 0, []⟩, ⟨n1, 0, []⟩, ⟨⟨#[]⟩, n2, []⟩, ⟨⟨#[]⟩, n3, []⟩]
def sRow (s0 s1 s2 : ByteArray) (s3 : Int) (l4 : List ByteArray) (s5 s6 : Int) : List S39 := [⟨s0, 0, []⟩, ⟨s1, 0, []⟩, ⟨s2, 0, []⟩, ⟨⟨#[]⟩, IntKind.u64.wrap s3, []⟩, ⟨⟨#[]⟩, 0, l4⟩, ⟨⟨#[]⟩, s5, []⟩, ⟨⟨#[]⟩, s6, []⟩]
def cRow (k0 k1 k2 : ByteArray) (k3 : Int) (k4 : ByteArray) (k5 k6 : Int) : List S39 := [⟨k0, 0, []⟩, ⟨k1, 0, []⟩, ⟨k2, 0, []⟩, ⟨⟨#[]⟩, IntKind.u64.wrap k3, []⟩, ⟨k4, 0, []⟩, ⟨⟨#[]⟩, k5, []⟩, ⟨⟨#[]⟩, k6, []⟩]
theorem nRow_f (n0 n1 : ByteArray) (n2 n3 : Int) : records_NodeRow.f n0 n1 n2 n3 = some (nRow n0 n1 n2 n3) := rfl
theorem sRow_f (s0 s1 s2 : ByteArray) (s3 : Int) (l4 : List ByteArray) (s5 s6 : Int) (h : l4.length < 2000000) : records_ServiceRow.f s0 s1 s2 s3 l4 s5 s6 = some (sRow s0 s1 s2 s3 l4 s5 s6) := by
  have : slices_Clone_string_string.f l4 = some l4 := by unfold slices_Clone_string_string.f; rw [if_pos (by omega)]
  simp only [records_ServiceRow.f, records_text.f, records_num.f, this, Option.bind_some, sRow]
theorem cRow_f (k0 k1 k2 : ByteArray) (k3 : Int) (k4 : ByteArray) (k5 k6 : Int) : records_CheckRow.f k0 k1 k2 k3 k4 k5 k6 = some (cRow k0 k1 k2 k3 k4 k5 k6) := rfl
theorem copy_f (s0 s1 s2 : ByteArray) (s3 : Int) (l4 : List ByteArray) (s5 s6 : Int) (h : l4.length < 2000000) : musterref09_CopyService.f s0 s1 s2 s3 l4 s5 s6 = some (s0, s1, s2, s3, l4, s5, s6) := by
  simp only [musterref09_CopyService.f, Option.bind_some, List.length_nil, List.nil_append]
  rw [if_pos (by omega)]

def sAgg (s0 s1 s2 : ByteArray) (s3 s5 s6 : Int) (u : Value) : Value := .agg #[.string s0, .string s1, .string s2, .int .i64 s3, u, .int .u64 s5, .int .u64 s6]

structure LI (w : World) (n0 n1 : ByteArray) (n2 n3 : Int) (s0 s1 s2 : ByteArray) (s3 : Int) (A4 : Option Addr) (c4 : Nat) (l4 : List ByteArray) (s5 s6 : Int) (k0 k1 k2 : ByteArray) (k3 : Int) (k4 : ByteArray) (k5 k6 : Int) (l0 l1 l2 l3 l4_ l5 l6 l7 l8 l9 : Bool) (v7 v8 v9 v15 v16 v17 v18 v19 v20 v21 : Value) (W : World) : Prop where
  bx : Bx w #[.string n0, .string n1, .int .u64 n2, .int .u64 n3] #[.string s0, .string s1, .string s2, .int .i64 s3, .slice A4 l4.length c4, .int .u64 s5, .int .u64 s6] #[.string k0, .string k1, .string k2, .int .i64 k3, .string k4, .int .u64 k5, .int .u64 k6] W
  h15 : l0 = true → v15 = .agg #[.string n0, .string n1, .int .u64 n2, .int .u64 n3]
  h16 : l1 = true → Rw w.heap.size v7 v8 v9 v16 (nRow n0 n1 n2 n3) W
  h17 : l2 = true → v17 = .agg #[.string s0, .string s1, .string s2, .int .i64 s3, .slice A4 l4.length c4, .int .u64 s5, .int .u64 s6]
  h18 : l3 = true → ∃ u, v18 = sAgg s0 s1 s2 s3 s5 s6 u ∧ Kd.R Kd.string 9 W w.heap.size (fun _ => True) u l4
  h19 : l4_ = true → Rw w.heap.size v7 v8 v9 v19 (sRow s0 s1 s2 s3 l4 s5 s6) W
  h20 : l5 = true → v20 = .agg #[.string k0, .string k1, .string k2, .int .i64 k3, .string k4, .int .u64 k5, .int .u64 k6]
  h21 : l6 = true → Rw w.heap.size v7 v8 v9 v21 (cRow k0 k1 k2 k3 k4 k5 k6) W
  h7 : l7 = true → Slot w.heap.size v7 W
  h8 : l8 = true → Slot w.heap.size v8 W
  h9 : l9 = true → Slot w.heap.size v9 W
  z7 : l7 = false → v7 = undef
  z8 : l8 = false → v8 = undef
  z9 : l9 = false → v9 = undef
  c1 : l1 = true → l0 = true
  c3 : l3 = true → l1 = true ∧ l2 = true
  c4 : l4_ = true → l3 = true
  c6 : l6 = true → l4_ = true ∧ l5 = true
  d78 : l7 = true → l8 = true → v7 ≠ v8
  d79 : l7 = true → l9 = true → v7 ≠ v9
  d89 : l8 = true → l9 = true → v8 ≠ v9
def Inv3 (w : World) (n0 n1 : ByteArray) (n2 n3 : Int) (s0 s1 s2 : ByteArray) (s3 : Int) (A4 : Option Addr) (c4 : Nat) (l4 : List ByteArray) (s5 s6 : Int) (k0 k1 k2 : ByteArray) (k3 : Int) (k4 : ByteArray) (k5 k6 : Int) (listed : Array Bool) (a : Act) (W : World) : Prop :=
  ∃ l0 l1 l2 l3 l4_ l5 l6 l7 l8 l9 v7 v8 v9 v15 v16 v17 v18 v19 v20 v21, listed = #[l0, l1, l2, l3, l4_, l5, l6, l7, l8, l9, false, false, false] ∧ a = act3 w.heap.size n0 n1 n2 n3 s0 s1 s2 s3 A4 c4 l4 s5 s6 k0 k1 k2 k3 k4 k5 k6 v7 v8 v9 v15 v16 v17 v18 v19 v20 v21 ∧
    LI w n0 n1 n2 n3 s0 s1 s2 s3 A4 c4 l4 s5 s6 k0 k1 k2 k3 k4 k5 k6 l0 l1 l2 l3 l4_ l5 l6 l7 l8 l9 v7 v8 v9 v15 v16 v17 v18 v19 v20 v21 W
theorem LI.step {w : World} {n0 n1 : ByteArray} {n2 n3 : Int} {s0 s1 s2 : ByteArray} {s3 : Int} {A4 : Option Addr} {c4 : Nat} {l4 : List ByteArray} {s5 s6 : Int} {k0 k1 k2 : ByteArray} {k3 : Int} {k4 : ByteArray} {k5 k6 : Int} {l0 l1 l2 l3 l4_ l5 l6 l7 l8 l9 : Bool} {v7 v8 v9 v15 v16 v17 v18 v19 v20 v21 : Value} {W W1 : World} (h : LI w n0 n1 n2 n3 s0 s1 s2 s3 A4 c4 l4 s5 s6 k0 k1 k2 k3 k4 k5 k6 l0 l1 l2 l3 l4_ l5 l6 l7 l8 l9 v7 v8 v9 v15 v16 v17 v18 v19 v20 v21 W) (hb : Below W.heap.size W W1) :
    LI w n0 n1 n2 n3 s0 s1 s2 s3 A4 c4 l4 s5 s6 k0 k1 k2 k3 k4 k5 k6 l0 l1 l2 l3 l4_ l5 l6 l7 l8 l9 v7 v8 v9 v15 v16 v17 v18 v19 v20 v21 W1 :=
  { h with
    bx := h.bx.step hb
    h16 := fun e => (h.h16 e).step hb
    h18 := fun e => by obtain ⟨u, e1, e2⟩ := h.h18 e; exact ⟨u, e1, Kd.R_below e2 hb⟩
    h19 := fun e => (h.h19 e).step hb
    h21 := fun e => (h.h21 e).step hb
    h7 := fun e => (h.h7 e).step hb
    h8 := fun e => (h.h8 e).step hb
    h9 := fun e => (h.h9 e).step hb }
structure L3 (w : World) (n0 n1 : ByteArray) (n2 n3 : Int) (s0 s1 s2 : ByteArray) (s3 : Int) (A4 : Option Addr) (c4 : Nat) (l4 : List ByteArray) (s5 s6 : Int) (k0 k1 k2 : ByteArray) (k3 : Int) (k4 : ByteArray) (k5 k6 : Int) (g7 g8 g9 : Nat) (A16 : Option Addr) (k16 : Nat) (A19 : Option Addr) (k19 : Nat) (A21 : Option Addr) (k21 : Nat) (W : World) : Prop where
  bx : Bx w #[.string n0, .string n1, .int .u64 n2, .int .u64 n3] #[.string s0, .string s1, .string s2, .int .i64 s3, .slice A4 l4.length c4, .int .u64 s5, .int .u64 s6] #[.string k0, .string k1, .string k2, .int .i64 k3, .string k4, .int .u64 k5, .int .u64 k6] W
  b7 : W.heap[g7]? = some (.cells #[.slice A16 (nRow n0 n1 n2 n3).length k16] 33 (0, 0))
  b8 : W.heap[g8]? = some (.cells #[.slice A19 (sRow s0 s1 s2 s3 l4 s5 s6).length k19] 33 (0, 0))
  b9 : W.heap[g9]? = some (.cells #[.slice A21 (cRow k0 k1 k2 k3 k4 k5 k6).length k21] 33 (0, 0))
  q7 : g7 < W.heap.size
  q8 : g8 < W.heap.size
  q9 : g9 < W.heap.size
  r16 : Kd.C k39 W A16 (nRow n0 n1 n2 n3).length (nRow n0 n1 n2 n3) ∧ (nRow n0 n1 n2 n3).length ≤ k16
  r19 : Kd.C k39 W A19 (sRow s0 s1 s2 s3 l4 s5 s6).length (sRow s0 s1 s2 s3 l4 s5 s6) ∧ (sRow s0 s1 s2 s3 l4 s5 s6).length ≤ k19
  r21 : Kd.N k39 39 W (w.heap.size + 3) (fun k => w.heap.size + 3 ≤ k ∧ k ≠ g7 ∧ k ≠ g8 ∧ k ≠ g9) (.slice A21 (cRow k0 k1 k2 k3 k4 k5 k6).length k21) (cRow k0 k1 k2 k3 k4 k5 k6)
theorem L3.step {w : World} {n0 n1 : ByteArray} {n2 n3 : Int} {s0 s1 s2 : ByteArray} {s3 : Int} {A4 : Option Addr} {c4 : Nat} {l4 : List ByteArray} {s5 s6 : Int} {k0 k1 k2 : ByteArray} {k3 : Int} {k4 : ByteArray} {k5 k6 : Int} {g7 g8 g9 : Nat} {A16 : Option Addr} {k16 : Nat} {A19 : Option Addr} {k19 : Nat} {A21 : Option Addr} {k21 : Nat} {W W1 : World}
    (h : L3 w n0 n1 n2 n3 s0 s1 s2 s3 A4 c4 l4 s5 s6 k0 k1 k2 k3 k4 k5 k6 g7 g8 g9 A16 k16 A19 k19 A21 k21 W) (hb : Below W.heap.size W W1) : L3 w n0 n1 n2 n3 s0 s1 s2 s3 A4 c4 l4 s5 s6 k0 k1 k2 k3 k4 k5 k6 g7 g8 g9 A16 k16 A19 k19 A21 k21 W1 where
  bx := h.bx.step hb
  b7 := (hb.block _ h.q7).trans h.b7
  b8 := (hb.block _ h.q8).trans h.b8
  b9 := (hb.block _ h.q9).trans h.b9
  q7 := Nat.lt_of_lt_of_le h.q7 hb.size
  q8 := Nat.lt_of_lt_of_le h.q8 hb.size
  q9 := Nat.lt_of_lt_of_le h.q9 hb.size
  r16 := ⟨Kd.C_below h.r16.1 hb, h.r16.2⟩
  r19 := ⟨Kd.C_below h.r19.1 hb, h.r19.2⟩
  r21 := Kd.N_below h.r21 hb
end Go.Proofs.YthalhlobmbedhaaDoor.P
