import Derived.Test.YthalhlobmbedhaaDoorGLaw1
namespace Go.Proofs.YthalhlobmbedhaaDoor.P
open Go.Sort
open Go.RowKit Go.Proofs.YthalhlobmbedhaaDoorW.PrintWords Go.Proofs.YthalhlobmbedhaaDoorW.PrintLast Go.Proofs.YthalhlobmbedhaaDoorW.PrintMore
set_option linter.unusedVariables false

theorem C_of_block {α : Type} {d : Kd α} {W : World} {g t : Nat} {cs : Array Value} {l : List α} (h : W.heap[g]? = some (.cells cs t (0, 0))) (hr : Reps (d.K W) d.sz l cs.toList) (hl : l.length ≤ 9223372036854775807) : d.C W (some ⟨g, 0, none⟩) l.length l := by
  refine ⟨rfl, hl, fun _ => ⟨_, rfl, fun j p hj => ⟨(cs.toList.drop (j * d.sz)).take d.sz, ?_, hr.2 j p hj, fun i u hi => ?_⟩⟩⟩
  · have hj' : j < l.length := (List.getElem?_eq_some_iff.1 hj).1
    have h1 := hr.1
    have h2 : (j + 1) * d.sz ≤ l.length * d.sz := Nat.mul_le_mul_right _ hj'
    rw [Nat.add_mul, Nat.one_mul] at h2
    rw [List.length_take, List.length_drop, h1]
    omega
  · have hi2 : cs.toList[j * d.sz + i]? = some u := by
      rw [List.getElem?_take] at hi
      split at hi
      · rw [List.getElem?_drop] at hi; exact hi
      · cases hi
    have : (⟨g, 0, none⟩ : Addr).add (j * d.sz + i) = ⟨g, j * d.sz + i, none⟩ := by simp [Addr.add]; intro a b; rw [a, b]
    rw [this, blk_cell h]
    simpa using hi2
theorem k39_mk0 (W : World) (a : ByteArray) (n : Int) : k39.K W ⟨a, n, []⟩ [.string a, .int .u64 n, .slice none 0 0] := k39_mk W ⟨a, n, []⟩ (A2 := none) (c2 := 0) (Nat.le_refl 0) (Kd.C_nil _ _)
theorem k39_sz : k39.sz = 3 := rfl

theorem nReps (W : World) (n0 n1 : ByteArray) (n2 n3 : Int) : Reps (k39.K W) 3 (nRow n0 n1 n2 n3) [.string n0, .int .u64 0, .slice none 0 0, .string n1, .int .u64 0, .slice none 0 0, .string { data := #[] }, .int .u64 n2, .slice none 0 0, .string { data := #[] }, .int .u64 n3, .slice none 0 0] :=
  (Reps.snoc (Reps.snoc (Reps.snoc (Reps.snoc (Reps.none _ _) (k39_mk0 W n0 0) rfl) (k39_mk0 W n1 0) rfl) (k39_mk0 W ⟨#[]⟩ n2) rfl) (k39_mk0 W ⟨#[]⟩ n3) rfl)
theorem sReps (W : World) (s0 s1 s2 : ByteArray) (s3 : Int) (A4 : Option Addr) (c4 : Nat) (l4 : List ByteArray) (s5 s6 : Int) (hr : Kd.C Kd.string W A4 l4.length l4) (hc : l4.length ≤ c4) : Reps (k39.K W) 3 (sRow s0 s1 s2 s3 l4 s5 s6) [.string s0, .int .u64 0, .slice none 0 0, .string s1, .int .u64 0, .slice none 0 0, .string s2, .int .u64 0, .slice none 0 0, .string { data := #[] }, .int .u64 (IntKind.u64.wrap s3), .slice none 0 0, .string { data := #[] }, .int .u64 0, .slice A4 l4.length c4, .string { data := #[] }, .int .u64 s5, .slice none 0 0, .string { data := #[] }, .int .u64 s6, .slice none 0 0] :=
  (Reps.snoc (Reps.snoc (Reps.snoc (Reps.snoc (Reps.snoc (Reps.snoc (Reps.snoc (Reps.none _ _) (k39_mk0 W s0 0) rfl) (k39_mk0 W s1 0) rfl) (k39_mk0 W s2 0) rfl) (k39_mk0 W ⟨#[]⟩ (IntKind.u64.wrap s3)) rfl) (k39_mk W ⟨⟨#[]⟩, 0, l4⟩ hc hr) rfl) (k39_mk0 W ⟨#[]⟩ s5) rfl) (k39_mk0 W ⟨#[]⟩ s6) rfl)
theorem cReps (W : World) (k0 k1 k2 : ByteArray) (k3 : Int) (k4 : ByteArray) (k5 k6 : Int) : Reps (k39.K W) 3 (cRow k0 k1 k2 k3 k4 k5 k6) [.string k0, .int .u64 0, .slice none 0 0, .string k1, .int .u64 0, .slice none 0 0, .string k2, .int .u64 0, .slice none 0 0, .string { data := #[] }, .int .u64 (IntKind.u64.wrap k3), .slice none 0 0, .string k4, .int .u64 0, .slice none 0 0, .string { data := #[] }, .int .u64 k5, .slice none 0 0, .string { data := #[] }, .int .u64 k6, .slice none 0 0] :=
  (Reps.snoc (Reps.snoc (Reps.snoc (Reps.snoc (Reps.snoc (Reps.snoc (Reps.snoc (Reps.none _ _) (k39_mk0 W k0 0) rfl) (k39_mk0 W k1 0) rfl) (k39_mk0 W k2 0) rfl) (k39_mk0 W ⟨#[]⟩ (IntKind.u64.wrap k3)) rfl) (k39_mk0 W k4 0) rfl) (k39_mk0 W ⟨#[]⟩ k5) rfl) (k39_mk0 W ⟨#[]⟩ k6) rfl)

/-- Behind region 6. -/
structure L6 (w : World) (n0 n1 : ByteArray) (n2 n3 : Int) (s0 s1 s2 : ByteArray) (s3 : Int) (A4 : Option Addr) (c4 : Nat) (l4 : List ByteArray) (s5 s6 : Int) (k0 k1 k2 : ByteArray) (k3 : Int) (k4 : ByteArray) (k5 k6 : Int) (N : Nat) (g7 g8 g9 : Nat) (A16 : Option Addr) (k16 : Nat) (A19 : Option Addr) (k19 : Nat) (A21 : Option Addr) (k21 : Nat) (W : World) : Prop where
  l3 : L3 w n0 n1 n2 n3 s0 s1 s2 s3 A4 c4 l4 s5 s6 k0 k1 k2 k3 k4 k5 k6 g7 g8 g9 A16 k16 A19 k19 A21 k21 W
  sz : N + 6 ≤ W.heap.size
  b10 : W.heap[N + 1]? = some (.cells #[.slice (some ⟨N, 0, none⟩) 4 4] 33 (0, 0))
  b11 : W.heap[N + 3]? = some (.cells #[.slice (some ⟨N + 2, 0, none⟩) 7 7] 33 (0, 0))
  b12 : W.heap[N + 5]? = some (.cells #[.slice (some ⟨N + 4, 0, none⟩) 7 7] 33 (0, 0))
  r10 : Kd.C k39 W (some ⟨N, 0, none⟩) 4 (nRow n0 n1 n2 n3)
  r11 : Kd.C k39 W (some ⟨N + 2, 0, none⟩) 7 (sRow s0 s1 s2 s3 l4 s5 s6)
  r12 : Kd.C k39 W (some ⟨N + 4, 0, none⟩) 7 (cRow k0 k1 k2 k3 k4 k5 k6)

theorem L6.step {w : World} {n0 n1 : ByteArray} {n2 n3 : Int} {s0 s1 s2 : ByteArray} {s3 : Int} {A4 : Option Addr} {c4 : Nat} {l4 : List ByteArray} {s5 s6 : Int} {k0 k1 k2 : ByteArray} {k3 : Int} {k4 : ByteArray} {k5 k6 : Int} {N g7 g8 g9 : Nat} {A16 : Option Addr} {k16 : Nat} {A19 : Option Addr} {k19 : Nat} {A21 : Option Addr} {k21 : Nat} {W W1 : World}
    (h : L6 w n0 n1 n2 n3 s0 s1 s2 s3 A4 c4 l4 s5 s6 k0 k1 k2 k3 k4 k5 k6 N g7 g8 g9 A16 k16 A19 k19 A21 k21 W) (hb : Below W.heap.size W W1) : L6 w n0 n1 n2 n3 s0 s1 s2 s3 A4 c4 l4 s5 s6 k0 k1 k2 k3 k4 k5 k6 N g7 g8 g9 A16 k16 A19 k19 A21 k21 W1 where
  l3 := h.l3.step hb
  sz := Nat.le_trans h.sz hb.size
  b10 := (hb.block _ (by have := h.sz; omega)).trans h.b10
  b11 := (hb.block _ (by have := h.sz; omega)).trans h.b11
  b12 := (hb.block _ (by have := h.sz; omega)).trans h.b12
  r10 := Kd.C_below h.r10 hb
  r11 := Kd.C_below h.r11 hb
  r12 := Kd.C_below h.r12 hb
theorem heap_push_at {W : World} {o : Obj} {g : Nat} (h : g = W.heap.size) : (W.alloc o).heap[g]? = some o := by
  subst h
  show (W.heap.push o)[W.heap.size]? = _
  simp
theorem heap_push_lt {W : World} {o : Obj} {g : Nat} {x : Option Obj} (hg : g < W.heap.size) (h : W.heap[g]? = x) : (W.alloc o).heap[g]? = x := by
  show (W.heap.push o)[g]? = _
  rw [Array.getElem?_push, if_neg (by omega)]
  exact h
theorem size_alloc' (W : World) (o : Obj) : (W.alloc o).heap.size = W.heap.size + 1 := by
  show (W.heap.push o).size = _
  simp
set_option maxRecDepth 100000 in
theorem L6.start {w : World} {n0 n1 : ByteArray} {n2 n3 : Int} {s0 s1 s2 : ByteArray} {s3 : Int} {A4 : Option Addr} {c4 : Nat} {l4 : List ByteArray} {s5 s6 : Int} {k0 k1 k2 : ByteArray} {k3 : Int} {k4 : ByteArray} {k5 k6 : Int} {g7 g8 g9 : Nat} {A16 : Option Addr} {k16 : Nat} {A19 : Option Addr} {k19 : Nat} {A21 : Option Addr} {k21 : Nat} {W3 : World}
    (h : L3 w n0 n1 n2 n3 s0 s1 s2 s3 A4 c4 l4 s5 s6 k0 k1 k2 k3 k4 k5 k6 g7 g8 g9 A16 k16 A19 k19 A21 k21 W3) (hr : Kd.C Kd.string w A4 l4.length l4) (hc : l4.length ≤ c4) : L6 w n0 n1 n2 n3 s0 s1 s2 s3 A4 c4 l4 s5 s6 k0 k1 k2 k3 k4 k5 k6 W3.heap.size g7 g8 g9 A16 k16 A19 k19 A21 k21 ((((((W3.alloc (.cells #[.string n0, .int .u64 0, .slice none 0 0, .string n1, .int .u64 0, .slice none 0 0, .string { data := #[] }, .int .u64 n2, .slice none 0 0, .string { data := #[] }, .int .u64 n3, .slice none 0 0] 39)).alloc (.cells #[.slice (some ⟨W3.heap.size, 0, none⟩) 4 4] 33)).alloc (.cells #[.string s0, .int .u64 0, .slice none 0 0, .string s1, .int .u64 0, .slice none 0 0, .string s2, .int .u64 0, .slice none 0 0, .string { data := #[] }, .int .u64 (IntKind.u64.wrap s3), .slice none 0 0, .string { data := #[] }, .int .u64 0, .slice A4 l4.length c4, .string { data := #[] }, .int .u64 s5, .slice none 0 0, .string { data := #[] }, .int .u64 s6, .slice none 0 0] 39)).alloc (.cells #[.slice (some ⟨W3.heap.size + 1 + 1, 0, none⟩) 7 7] 33)).alloc (.cells #[.string k0, .int .u64 0, .slice none 0 0, .string k1, .int .u64 0, .slice none 0 0, .string k2, .int .u64 0, .slice none 0 0, .string { data := #[] }, .int .u64 (IntKind.u64.wrap k3), .slice none 0 0, .string k4, .int .u64 0, .slice none 0 0, .string { data := #[] }, .int .u64 k5, .slice none 0 0, .string { data := #[] }, .int .u64 k6, .slice none 0 0] 39)).alloc (.cells #[.slice (some ⟨W3.heap.size + 1 + 1 + 1 + 1, 0, none⟩) 7 7] 33)) := by
  generalize e1 : Obj.cells #[.string n0, .int .u64 0, .slice none 0 0, .string n1, .int .u64 0, .slice none 0 0, .string { data := #[] }, .int .u64 n2, .slice none 0 0, .string { data := #[] }, .int .u64 n3, .slice none 0 0] 39 = o1
  generalize e2 : Obj.cells #[.string s0, .int .u64 0, .slice none 0 0, .string s1, .int .u64 0, .slice none 0 0, .string s2, .int .u64 0, .slice none 0 0, .string { data := #[] }, .int .u64 (IntKind.u64.wrap s3), .slice none 0 0, .string { data := #[] }, .int .u64 0, .slice A4 l4.length c4, .string { data := #[] }, .int .u64 s5, .slice none 0 0, .string { data := #[] }, .int .u64 s6, .slice none 0 0] 39 = o2
  generalize e3 : Obj.cells #[.string k0, .int .u64 0, .slice none 0 0, .string k1, .int .u64 0, .slice none 0 0, .string k2, .int .u64 0, .slice none 0 0, .string { data := #[] }, .int .u64 (IntKind.u64.wrap k3), .slice none 0 0, .string k4, .int .u64 0, .slice none 0 0, .string { data := #[] }, .int .u64 k5, .slice none 0 0, .string { data := #[] }, .int .u64 k6, .slice none 0 0] 39 = o3
  have hb : ∀ o1 o2 o3 o4 o5 o6, Below W3.heap.size W3 ((((((W3.alloc o1).alloc o2).alloc o3).alloc o4).alloc o5).alloc o6) := fun o1 o2 o3 o4 o5 o6 => below_alloc (below_alloc (below_alloc (below_alloc (below_alloc (below_alloc (Below.refl _ _) _) _) _) _) _) _
  have hsz : ∀ o1 o2 o3 o4 o5 o6, ((((((W3.alloc o1).alloc o2).alloc o3).alloc o4).alloc o5).alloc o6).heap.size = W3.heap.size + 6 := fun o1 o2 o3 o4 o5 o6 => by simp only [size_alloc']
  have hl3 := h.step (hb o1 (.cells #[.slice (some ⟨W3.heap.size, 0, none⟩) 4 4] 33) o2 (.cells #[.slice (some ⟨W3.heap.size + 1 + 1, 0, none⟩) 7 7] 33) o3 (.cells #[.slice (some ⟨W3.heap.size + 1 + 1 + 1 + 1, 0, none⟩) 7 7] 33))
  refine { l3 := hl3, sz := by rw [hsz]; exact Nat.le_refl _, b10 := ?_, b11 := ?_, b12 := ?_, r10 := ?_, r11 := ?_, r12 := ?_ }
  · exact heap_push_lt (by simp only [size_alloc']; omega) (heap_push_lt (by simp only [size_alloc']; omega) (heap_push_lt (by simp only [size_alloc']; omega) (heap_push_lt (by simp only [size_alloc']; omega) (heap_push_at (by simp only [size_alloc'])))))
  · exact heap_push_lt (by simp only [size_alloc']; omega) (heap_push_lt (by simp only [size_alloc']; omega) (heap_push_at (by simp only [size_alloc'])))
  · exact heap_push_at (by simp only [size_alloc'])
  · subst e1
    exact C_of_block (heap_push_lt (by simp only [size_alloc']; omega) (heap_push_lt (by simp only [size_alloc']; omega) (heap_push_lt (by simp only [size_alloc']; omega) (heap_push_lt (by simp only [size_alloc']; omega) (heap_push_lt (by simp only [size_alloc']; omega) (heap_push_at rfl)))))) (nReps _ n0 n1 n2 n3) (by simp [nRow])
  · subst e2
    exact C_of_block (heap_push_lt (by simp only [size_alloc']; omega) (heap_push_lt (by simp only [size_alloc']; omega) (heap_push_lt (by simp only [size_alloc']; omega) (heap_push_at (by simp only [size_alloc']))))) (sReps _ s0 s1 s2 s3 A4 c4 l4 s5 s6 (Kd.C_below hr hl3.bx.bel) hc) (by simp [sRow])
  · subst e3
    exact C_of_block (heap_push_lt (by simp only [size_alloc']; omega) (heap_push_at (by simp only [size_alloc']))) (cReps _ k0 k1 k2 k3 k4 k5 k6) (by simp [cRow])

theorem Bx.step3 {w : World} {vn vs vc : Array Value} {W W1 : World} (h : Bx w vn vs vc W) (hb : Below (w.heap.size + 3) W W1) : Bx w vn vs vc W1 :=
  ⟨(hb.block _ (by omega)).trans h.n, (hb.block _ (by omega)).trans h.s, (hb.block _ (by omega)).trans h.c, Nat.le_trans h.size hb.size, h.bel.trans (hb.mono (by omega))⟩
structure LB (w : World) (n0 n1 : ByteArray) (n2 n3 : Int) (s0 s1 s2 : ByteArray) (s3 : Int) (A4 : Option Addr) (c4 : Nat) (l4 : List ByteArray) (s5 s6 : Int) (k0 k1 k2 : ByteArray) (k3 : Int) (k4 : ByteArray) (k5 k6 : Int) (g7 g8 g9 : Nat) (A16 : Option Addr) (k16 : Nat) (A19 : Option Addr) (k19 : Nat) (A21 : Option Addr) (k21 : Nat) (W : World) : Prop where
  bx : Bx w #[.string n0, .string n1, .int .u64 n2, .int .u64 n3] #[.string s0, .string s1, .string s2, .int .i64 s3, .slice A4 l4.length c4, .int .u64 s5, .int .u64 s6] #[.string k0, .string k1, .string k2, .int .i64 k3, .string k4, .int .u64 k5, .int .u64 k6] W
  b7 : W.heap[g7]? = some (.cells #[.slice A16 (nRow n0 n1 n2 n3).length k16] 33 (0, 0))
  b8 : W.heap[g8]? = some (.cells #[.slice A19 (sRow s0 s1 s2 s3 l4 s5 s6).length k19] 33 (0, 0))
  b9 : W.heap[g9]? = some (.cells #[.slice A21 (cRow k0 k1 k2 k3 k4 k5 k6).length k21] 33 (0, 0))
  q7 : g7 < W.heap.size
  q8 : g8 < W.heap.size
  q9 : g9 < W.heap.size
theorem L3.lb {w : World} {n0 n1 : ByteArray} {n2 n3 : Int} {s0 s1 s2 : ByteArray} {s3 : Int} {A4 : Option Addr} {c4 : Nat} {l4 : List ByteArray} {s5 s6 : Int} {k0 k1 k2 : ByteArray} {k3 : Int} {k4 : ByteArray} {k5 k6 : Int} {g7 g8 g9 : Nat} {A16 : Option Addr} {k16 : Nat} {A19 : Option Addr} {k19 : Nat} {A21 : Option Addr} {k21 : Nat} {W : World}
    (h : L3 w n0 n1 n2 n3 s0 s1 s2 s3 A4 c4 l4 s5 s6 k0 k1 k2 k3 k4 k5 k6 g7 g8 g9 A16 k16 A19 k19 A21 k21 W) : LB w n0 n1 n2 n3 s0 s1 s2 s3 A4 c4 l4 s5 s6 k0 k1 k2 k3 k4 k5 k6 g7 g8 g9 A16 k16 A19 k19 A21 k21 W := ⟨h.bx, h.b7, h.b8, h.b9, h.q7, h.q8, h.q9⟩
theorem LB.step {w : World} {n0 n1 : ByteArray} {n2 n3 : Int} {s0 s1 s2 : ByteArray} {s3 : Int} {A4 : Option Addr} {c4 : Nat} {l4 : List ByteArray} {s5 s6 : Int} {k0 k1 k2 : ByteArray} {k3 : Int} {k4 : ByteArray} {k5 k6 : Int} {g7 g8 g9 : Nat} {A16 : Option Addr} {k16 : Nat} {A19 : Option Addr} {k19 : Nat} {A21 : Option Addr} {k21 : Nat} {W W1 : World}
    (h : LB w n0 n1 n2 n3 s0 s1 s2 s3 A4 c4 l4 s5 s6 k0 k1 k2 k3 k4 k5 k6 g7 g8 g9 A16 k16 A19 k19 A21 k21 W) (hb : Below W.heap.size W W1) : LB w n0 n1 n2 n3 s0 s1 s2 s3 A4 c4 l4 s5 s6 k0 k1 k2 k3 k4 k5 k6 g7 g8 g9 A16 k16 A19 k19 A21 k21 W1 :=
  ⟨h.bx.step hb, (hb.block _ h.q7).trans h.b7, (hb.block _ h.q8).trans h.b8, (hb.block _ h.q9).trans h.b9, Nat.lt_of_lt_of_le h.q7 hb.size, Nat.lt_of_lt_of_le h.q8 hb.size, Nat.lt_of_lt_of_le h.q9 hb.size⟩
theorem LB.grown {w : World} {n0 n1 : ByteArray} {n2 n3 : Int} {s0 s1 s2 : ByteArray} {s3 : Int} {A4 : Option Addr} {c4 : Nat} {l4 : List ByteArray} {s5 s6 : Int} {k0 k1 k2 : ByteArray} {k3 : Int} {k4 : ByteArray} {k5 k6 : Int} {g7 g8 g9 : Nat} {A16 : Option Addr} {k16 : Nat} {A19 : Option Addr} {k19 : Nat} {A21 : Option Addr} {k21 : Nat} {W W1 : World} {ob : Option Nat}
    (h : LB w n0 n1 n2 n3 s0 s1 s2 s3 A4 c4 l4 s5 s6 k0 k1 k2 k3 k4 k5 k6 g7 g8 g9 A16 k16 A19 k19 A21 k21 W) (hb : Below (w.heap.size + 3) W W1) (hg : W.grownBy W1 ob) (ho : ∀ k, ob = some k → w.heap.size + 3 ≤ k ∧ k ≠ g7 ∧ k ≠ g8 ∧ k ≠ g9) : LB w n0 n1 n2 n3 s0 s1 s2 s3 A4 c4 l4 s5 s6 k0 k1 k2 k3 k4 k5 k6 g7 g8 g9 A16 k16 A19 k19 A21 k21 W1 :=
  ⟨h.bx.step3 hb, (hg.block _ h.q7 (fun e => (ho _ e.symm).2.1 rfl)).trans h.b7, (hg.block _ h.q8 (fun e => (ho _ e.symm).2.2.1 rfl)).trans h.b8, (hg.block _ h.q9 (fun e => (ho _ e.symm).2.2.2 rfl)).trans h.b9, Nat.lt_of_lt_of_le h.q7 hb.size, Nat.lt_of_lt_of_le h.q8 hb.size, Nat.lt_of_lt_of_le h.q9 hb.size⟩
theorem LB.cells {w : World} {n0 n1 : ByteArray} {n2 n3 : Int} {s0 s1 s2 : ByteArray} {s3 : Int} {A4 : Option Addr} {c4 : Nat} {l4 : List ByteArray} {s5 s6 : Int} {k0 k1 k2 : ByteArray} {k3 : Int} {k4 : ByteArray} {k5 k6 : Int} {g7 g8 g9 : Nat} {A16 : Option Addr} {k16 : Nat} {A19 : Option Addr} {k19 : Nat} {A21 : Option Addr} {k21 : Nat} {W : World}
    (h : LB w n0 n1 n2 n3 s0 s1 s2 s3 A4 c4 l4 s5 s6 k0 k1 k2 k3 k4 k5 k6 g7 g8 g9 A16 k16 A19 k19 A21 k21 W) : W.cell? ⟨g7, 0, none⟩ = some (.slice A16 (nRow n0 n1 n2 n3).length k16) ∧ W.cell? ⟨g8, 0, none⟩ = some (.slice A19 (sRow s0 s1 s2 s3 l4 s5 s6).length k19) ∧ W.cell? ⟨g9, 0, none⟩ = some (.slice A21 (cRow k0 k1 k2 k3 k4 k5 k6).length k21) :=
  ⟨(blk_cell h.b7 0).trans rfl, (blk_cell h.b8 0).trans rfl, (blk_cell h.b9 0).trans rfl⟩

theorem ap39 {ops : Array Oper} {o : Oper} {a : Act} {Q : Exit → Act → World → Prop} {Kc : Act → World → Prop} {W : World} (hw : Region.wanted o (yielded ops a.tmps) = true) (base : Nat) (s x : Operand)
    (ho : o.op = .call { callee := .builtin .append, args := #[s, x], argTypes := #[31, 31] }) (A : Option Addr) (c : Nat) (xs : List S39) (n : Int)
    (hs : a.eval s = .slice A xs.length c) (hx : a.eval x = .slice (some ⟨W.heap.size, 0, none⟩) 1 1) (ok : Nat → Prop) (hok : ∀ k, W.heap.size ≤ k → ok k) (HO : Kd.N k39 39 W base ok (.slice A xs.length c) xs) (hbase : base ≤ W.heap.size) (hl : xs.length < 2000000)
    (h : ∀ v1 w1, Kd.N k39 39 w1 base ok v1 (xs ++ [⟨⟨#[]⟩, n, []⟩]) → Below base W w1 → W.grownBy w1 (Value.slice A xs.length c).ownBlock → (∀ k, (Value.slice A xs.length c).ownBlock = some k → ok k) → Kc (a.put o.dst v1) w1) :
    Oper.wp Tryd.prog o a (W.alloc (.cells #[.string ⟨#[]⟩, .int .u64 n, .slice none 0 0] 39)) Kc Q := by
  have h2 := Kd.N_append_step (P := Tryd.prog) (ops := ops) (o := o) (a := a) (Q := Q) (Kc := Kc) k39 (w0 := W) (W := W) base hw s x 31 39 (.agg #[.string ⟨#[]⟩, .int .u64 0, .slice none 0 0]) 48 ho Tryd.underlying31 info39 rfl (by decide) (by decide) (.slice A xs.length c) xs ⟨⟨#[]⟩, n, []⟩ [.string ⟨#[]⟩, .int .u64 n, .slice none 0 0] ok (fun _ => False) hs hx (k39_mkF _ _ ⟨⟨#[]⟩, n, []⟩ (Nat.le_refl 0) (Kd.F_nil _ _ _)) (fun _ h => h.elim) hok HO (Below.refl _ _) hbase (by omega) (fun v1 w1 hN hb hg _ => h v1 w1 hN hb hg HO.1)
  rwa [if_pos hw] at h2
/-- What the region's loads read. -/
def L6C (w : World) (n0 n1 : ByteArray) (n2 n3 : Int) (s0 s1 s2 : ByteArray) (s3 : Int) (A4 : Option Addr) (c4 : Nat) (l4 : List ByteArray) (s5 s6 : Int) (k0 k1 k2 : ByteArray) (k3 : Int) (k4 : ByteArray) (k5 k6 : Int) (N : Nat) (g7 g8 g9 : Nat) (A16 : Option Addr) (k16 : Nat) (A19 : Option Addr) (k19 : Nat) (A21 : Option Addr) (k21 : Nat) (W : World) : Prop :=
  W.cell? ⟨g7, 0, none⟩ = some (.slice A16 (nRow n0 n1 n2 n3).length k16) ∧ W.cell? ⟨g8, 0, none⟩ = some (.slice A19 (sRow s0 s1 s2 s3 l4 s5 s6).length k19) ∧ W.cell? ⟨g9, 0, none⟩ = some (.slice A21 (cRow k0 k1 k2 k3 k4 k5 k6).length k21) ∧
  W.cell? ⟨N + 1, 0, none⟩ = some (.slice (some ⟨N, 0, none⟩) 4 4) ∧ W.cell? ⟨N + 1 + 1 + 1, 0, none⟩ = some (.slice (some ⟨N + 1 + 1, 0, none⟩) 7 7) ∧ W.cell? ⟨N + 1 + 1 + 1 + 1 + 1, 0, none⟩ = some (.slice (some ⟨N + 1 + 1 + 1 + 1, 0, none⟩) 7 7)
theorem L6.cells {w : World} {n0 n1 : ByteArray} {n2 n3 : Int} {s0 s1 s2 : ByteArray} {s3 : Int} {A4 : Option Addr} {c4 : Nat} {l4 : List ByteArray} {s5 s6 : Int} {k0 k1 k2 : ByteArray} {k3 : Int} {k4 : ByteArray} {k5 k6 : Int} {N g7 g8 g9 : Nat} {A16 : Option Addr} {k16 : Nat} {A19 : Option Addr} {k19 : Nat} {A21 : Option Addr} {k21 : Nat} {W : World}
    (h : L6 w n0 n1 n2 n3 s0 s1 s2 s3 A4 c4 l4 s5 s6 k0 k1 k2 k3 k4 k5 k6 N g7 g8 g9 A16 k16 A19 k19 A21 k21 W) : L6C w n0 n1 n2 n3 s0 s1 s2 s3 A4 c4 l4 s5 s6 k0 k1 k2 k3 k4 k5 k6 N g7 g8 g9 A16 k16 A19 k19 A21 k21 W :=
  ⟨(blk_cell h.l3.b7 0).trans rfl, (blk_cell h.l3.b8 0).trans rfl, (blk_cell h.l3.b9 0).trans rfl, (blk_cell h.b10 0).trans rfl, (blk_cell h.b11 0).trans rfl, (blk_cell h.b12 0).trans rfl⟩
theorem L6.c21 {w : World} {n0 n1 : ByteArray} {n2 n3 : Int} {s0 s1 s2 : ByteArray} {s3 : Int} {A4 : Option Addr} {c4 : Nat} {l4 : List ByteArray} {s5 s6 : Int} {k0 k1 k2 : ByteArray} {k3 : Int} {k4 : ByteArray} {k5 k6 : Int} {N g7 g8 g9 : Nat} {A16 : Option Addr} {k16 : Nat} {A19 : Option Addr} {k19 : Nat} {A21 : Option Addr} {k21 : Nat} {W : World}
    (h : L6 w n0 n1 n2 n3 s0 s1 s2 s3 A4 c4 l4 s5 s6 k0 k1 k2 k3 k4 k5 k6 N g7 g8 g9 A16 k16 A19 k19 A21 k21 W) : Kd.C k39 W A21 (cRow k0 k1 k2 k3 k4 k5 k6).length (cRow k0 k1 k2 k3 k4 k5 k6) ∧ (cRow k0 k1 k2 k3 k4 k5 k6).length ≤ k21 :=
  ⟨(Kd.N_reads' h.l3.r21).2.2, (Kd.N_reads' h.l3.r21).2.1⟩

def BoxC (w : World) (n0 n1 : ByteArray) (n2 n3 : Int) (s0 s1 s2 : ByteArray) (s3 : Int) (A4 : Option Addr) (c4 : Nat) (l4 : List ByteArray) (s5 s6 : Int) (k0 k1 k2 : ByteArray) (k3 : Int) (k4 : ByteArray) (k5 k6 : Int) (W : World) : Prop :=
  W.cell? ⟨w.heap.size, 0, none⟩ = some (.string n0) ∧ W.cell? ⟨w.heap.size, 1, none⟩ = some (.string n1) ∧ W.cell? ⟨w.heap.size, 2, none⟩ = some (.int .u64 n2) ∧ W.cell? ⟨w.heap.size, 3, none⟩ = some (.int .u64 n3) ∧ W.cell? ⟨w.heap.size + 1, 0, none⟩ = some (.string s0) ∧ W.cell? ⟨w.heap.size + 1, 1, none⟩ = some (.string s1) ∧ W.cell? ⟨w.heap.size + 1, 2, none⟩ = some (.string s2) ∧ W.cell? ⟨w.heap.size + 1, 3, none⟩ = some (.int .i64 s3) ∧ W.cell? ⟨w.heap.size + 1, 4, none⟩ = some (.slice A4 l4.length c4) ∧ W.cell? ⟨w.heap.size + 1, 5, none⟩ = some (.int .u64 s5) ∧ W.cell? ⟨w.heap.size + 1, 6, none⟩ = some (.int .u64 s6) ∧ W.cell? ⟨w.heap.size + 1 + 1, 0, none⟩ = some (.string k0) ∧ W.cell? ⟨w.heap.size + 1 + 1, 1, none⟩ = some (.string k1) ∧ W.cell? ⟨w.heap.size + 1 + 1, 2, none⟩ = some (.string k2) ∧ W.cell? ⟨w.heap.size + 1 + 1, 3, none⟩ = some (.int .i64 k3) ∧ W.cell? ⟨w.heap.size + 1 + 1, 4, none⟩ = some (.string k4) ∧ W.cell? ⟨w.heap.size + 1 + 1, 5, none⟩ = some (.int .u64 k5) ∧ W.cell? ⟨w.heap.size + 1 + 1, 6, none⟩ = some (.int .u64 k6)
theorem Bx.cells {w : World} {n0 n1 : ByteArray} {n2 n3 : Int} {s0 s1 s2 : ByteArray} {s3 : Int} {A4 : Option Addr} {c4 : Nat} {l4 : List ByteArray} {s5 s6 : Int} {k0 k1 k2 : ByteArray} {k3 : Int} {k4 : ByteArray} {k5 k6 : Int} {W : World} (h : Bx w #[.string n0, .string n1, .int .u64 n2, .int .u64 n3] #[.string s0, .string s1, .string s2, .int .i64 s3, .slice A4 l4.length c4, .int .u64 s5, .int .u64 s6] #[.string k0, .string k1, .string k2, .int .i64 k3, .string k4, .int .u64 k5, .int .u64 k6] W) : BoxC w n0 n1 n2 n3 s0 s1 s2 s3 A4 c4 l4 s5 s6 k0 k1 k2 k3 k4 k5 k6 W :=
  ⟨(blk_cell h.n 0).trans rfl, (blk_cell h.n 1).trans rfl, (blk_cell h.n 2).trans rfl, (blk_cell h.n 3).trans rfl, (blk_cell h.s 0).trans rfl, (blk_cell h.s 1).trans rfl, (blk_cell h.s 2).trans rfl, (blk_cell h.s 3).trans rfl, (blk_cell h.s 4).trans rfl, (blk_cell h.s 5).trans rfl, (blk_cell h.s 6).trans rfl, (blk_cell h.c 0).trans rfl, (blk_cell h.c 1).trans rfl, (blk_cell h.c 2).trans rfl, (blk_cell h.c 3).trans rfl, (blk_cell h.c 4).trans rfl, (blk_cell h.c 5).trans rfl, (blk_cell h.c 6).trans rfl⟩
end Go.Proofs.YthalhlobmbedhaaDoor.P
