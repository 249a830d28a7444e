import Derived.Test.YthalhlobmbedhaaDoorGLaw2
import Derived.Deep.CutBlock
import Derived.Deep.RegionHeld3
namespace Go.Proofs.YthalhlobmbedhaaDoor.P
open Go.Sort
open Go.RowKit Go.Proofs.YthalhlobmbedhaaDoorW.PrintWords Go.Proofs.YthalhlobmbedhaaDoorW.PrintLast Go.Proofs.YthalhlobmbedhaaDoorW.PrintMore

theorem slot_new {N : Nat} (W : World) (h : N + 3 ≤ W.heap.size) : Slot N (.pointer (some ⟨W.heap.size, 0, none⟩)) (W.alloc (.cells #[.slice none 0 0] 33)) :=
  ⟨W.heap.size, rfl, h, by simp, by show (W.heap.push _)[W.heap.size]? = _; simp⟩
theorem slot_ne {N : Nat} {v : Value} {W : World} (h : Slot N v W) : Value.pointer (some ⟨W.heap.size, 0, none⟩) ≠ v := by
  obtain ⟨g, e, h1, h2, h3⟩ := h
  subst e
  intro h_
  injection h_ with h_
  injection h_ with h_
  injection h_ with h_ _
  omega
theorem Bx.start (w : World) (vn vs vc : Array Value) : Bx w vn vs vc (((w.alloc (.cells vn 24)).alloc (.cells vs 27)).alloc (.cells vc 29)) := by
  refine ⟨?_, ?_, ?_, by simp, below_alloc (below_alloc (below_alloc (Below.refl _ _) _) _) _⟩
  · show (((w.heap.push _).push _).push _)[w.heap.size]? = _
    simp only [Array.getElem?_push, Array.size_push]
    rw [if_neg (by omega), if_neg (by omega), if_pos trivial]
  · show (((w.heap.push _).push _).push _)[w.heap.size + 1]? = _
    simp only [Array.getElem?_push, Array.size_push]
    rw [if_neg (by omega), if_pos trivial]
  · show (((w.heap.push _).push _).push _)[w.heap.size + 2]? = _
    simp only [Array.getElem?_push, Array.size_push]
    rw [if_pos trivial]

set_option maxHeartbeats 4000000 in
set_option maxRecDepth 100000 in
theorem law_calls (n0 n1 : ByteArray) (n2 n3 : Int) (s0 s1 s2 : ByteArray) (s3 : Int) (A4 : Option Addr) (c4 : Nat) (l4 : List ByteArray) (s5 s6 : Int) (k0 k1 k2 : ByteArray) (k3 : Int) (k4 : ByteArray) (k5 k6 : Int)
    (w : World) (hG : Glob w) (hr : Kd.C Kd.string w A4 l4.length l4) (hc : l4.length ≤ c4) (hl : l4.length < 2000000) (h3 : -9223372036854775808 ≤ s3 ∧ s3 < 9223372036854775808) (h4 : -9223372036854775808 ≤ k3 ∧ k3 < 9223372036854775808) :
    Calls Tryd.prog 3 #[.agg #[.string n0, .string n1, .int .u64 n2, .int .u64 n3], .agg #[.string s0, .string s1, .string s2, .int .i64 s3, .slice A4 l4.length c4, .int .u64 s5, .int .u64 s6], .agg #[.string k0, .string k1, .string k2, .int .i64 k3, .string k4, .int .u64 k5, .int .u64 k6]] w
      fun e w' => e = .returned (.bool true) ∧ Below w.heap.size w w' := by
  have HR := Lib.hid hr
  have HC := Lib.hid hc
  have HL := Lib.hid hl
  have HG := Lib.hid hG
  have H3 := Lib.hid h3
  have H4 := Lib.hid h4
  clear hr hc hl hG h3 h4
  go_enter Tryd.func3, Tryd.ntmps3
  go_wp2_with (go_at_call 4; refine (musterlaw09_recordsFixed.calls _ (HG.out.below (below_alloc (below_alloc (below_alloc (Below.refl _ _) _) _) _))).mono ?_; rintro e w1 ⟨rfl, hb1⟩)
  have hB1 := Lib.hid (Bx.step (Bx.start w _ _ _) hb1)
  clear hb1
  refine InvRegion.region_inv (by kernel_rfl) (Inv3 w n0 n1 n2 n3 s0 s1 s2 s3 A4 c4 l4 s5 s6 k0 k1 k2 k3 k4 k5 k6) (fun l => l = #[true, true, true, true, true, true, true, true, true, true, false, false, false]) ?h0 ?hstep ?hend ?hout
  case h0 =>
    refine ⟨false, false, false, false, false, false, false, false, false, false, undef, undef, undef, undef, undef, undef, undef, undef, undef, undef, rfl, rfl, ?_⟩
    exact { bx := hB1.out.step (below_drew (Below.refl _ _)), h15 := nofun, h16 := nofun, h17 := nofun, h18 := nofun, h19 := nofun, h20 := nofun, h21 := nofun, h7 := nofun, h8 := nofun, h9 := nofun, z7 := fun _ => rfl, z8 := fun _ => rfl, z9 := fun _ => rfl, d78 := nofun, d79 := nofun, d89 := nofun, c1 := nofun, c3 := nofun, c4 := nofun, c6 := nofun }
  case hend =>
    rintro listed a W ⟨l0, l1, l2, l3, l4_, l5, l6, l7, l8, l9, v7, v8, v9, v15, v16, v17, v18, v19, v20, v21, rfl, rfl, hI⟩ hno hr
    exfalso
    refine hno ?_
    have e0 : l0 = true := InvRegion.not_ready hr (i := 0) (l := []) (by decide) (by kernel_rfl) nofun
    have e1 : l1 = true := InvRegion.not_ready hr (i := 1) (l := [0]) (by decide) (by kernel_rfl) (by simpa using e0)
    have e2 : l2 = true := InvRegion.not_ready hr (i := 2) (l := []) (by decide) (by kernel_rfl) nofun
    have e3 : l3 = true := InvRegion.not_ready hr (i := 3) (l := [2, 1]) (by decide) (by kernel_rfl) (by simpa using ⟨e2, e1⟩)
    have e4 : l4_ = true := InvRegion.not_ready hr (i := 4) (l := [3, 3]) (by decide) (by kernel_rfl) (by simpa using e3)
    have e5 : l5 = true := InvRegion.not_ready hr (i := 5) (l := []) (by decide) (by kernel_rfl) nofun
    have e6 : l6 = true := InvRegion.not_ready hr (i := 6) (l := [5, 4]) (by decide) (by kernel_rfl) (by simpa using ⟨e5, e4⟩)
    have e7 : l7 = true := InvRegion.not_ready hr (i := 7) (l := []) (by decide) (by kernel_rfl) nofun
    have e8 : l8 = true := InvRegion.not_ready hr (i := 8) (l := []) (by decide) (by kernel_rfl) nofun
    have e9 : l9 = true := InvRegion.not_ready hr (i := 9) (l := []) (by decide) (by kernel_rfl) nofun
    rw [e0, e1, e2, e3, e4, e5, e6, e7, e8, e9]
  case hstep =>
    rintro listed a W i ⟨l0, l1, l2, l3, l4_, l5, l6, l7, l8, l9, v7, v8, v9, v15, v16, v17, v18, v19, v20, v21, rfl, rfl, hI⟩ hno hi
    have hlt := InvRegion.ready_lt hi
    have hnew := InvRegion.ready_new hi
    match i, hlt with
    | 0, _ =>
      have hcz0 : W.cell? ⟨w.heap.size, 0, none⟩ = some (.string n0) := (blk_cell hI.bx.n 0).trans rfl
      have hcz1 : W.cell? ⟨w.heap.size, 1, none⟩ = some (.string n1) := (blk_cell hI.bx.n 1).trans rfl
      have hcz2 : W.cell? ⟨w.heap.size, 2, none⟩ = some (.int .u64 n2) := (blk_cell hI.bx.n 2).trans rfl
      have hcz3 : W.cell? ⟨w.heap.size, 3, none⟩ = some (.int .u64 n3) := (blk_cell hI.bx.n 3).trans rfl
      have HI := Lib.hid hI
      clear hI hi hno hnew hlt
      refine wpOp_step rfl (fun K' hK => ?_)
      simp only [act3]
      go_simp
      exact hK _ _ ⟨true, l1, l2, l3, l4_, l5, l6, l7, l8, l9, v7, v8, v9, _, v16, v17, v18, v19, v20, v21, rfl, rfl, { HI.out with h15 := fun _ => rfl, c1 := fun _ => rfl }⟩
    | 1, _ =>
      have d0 : l0 = true := InvRegion.ready_deps hi (l := [0]) (by kernel_rfl) 0 (by simp)
      obtain rfl := hI.h15 d0
      have HI := Lib.hid hI
      clear hI hi hno hnew hlt
      refine wpOp_step rfl (fun K' hK => ?_)
      simp only [act3]
      go_simp
      refine (records_NodeRow.calls n0 n1 n2 n3 _ W (nRow_f n0 n1 n2 n3)).mono ?_
      rintro e W1 ⟨u, rfl, hN, hb⟩
      exact hK _ _ ⟨l0, true, l2, l3, l4_, l5, l6, l7, l8, l9, v7, v8, v9, _, _, v17, v18, v19, v20, v21, rfl, rfl, { HI.out.step hb with h16 := fun _ => Rw.new hN HI.out.bx.size (away_or HI.out.h7 HI.out.z7) (away_or HI.out.h8 HI.out.z8) (away_or HI.out.h9 HI.out.z9), c1 := fun _ => d0, c3 := fun e => ⟨rfl, (HI.out.c3 e).2⟩ }⟩
    | 2, _ =>
      have hcz0 : W.cell? ⟨w.heap.size + 1, 0, none⟩ = some (.string s0) := (blk_cell hI.bx.s 0).trans rfl
      have hcz1 : W.cell? ⟨w.heap.size + 1, 1, none⟩ = some (.string s1) := (blk_cell hI.bx.s 1).trans rfl
      have hcz2 : W.cell? ⟨w.heap.size + 1, 2, none⟩ = some (.string s2) := (blk_cell hI.bx.s 2).trans rfl
      have hcz3 : W.cell? ⟨w.heap.size + 1, 3, none⟩ = some (.int .i64 s3) := (blk_cell hI.bx.s 3).trans rfl
      have hcz4 : W.cell? ⟨w.heap.size + 1, 4, none⟩ = some (.slice A4 l4.length c4) := (blk_cell hI.bx.s 4).trans rfl
      have hcz5 : W.cell? ⟨w.heap.size + 1, 5, none⟩ = some (.int .u64 s5) := (blk_cell hI.bx.s 5).trans rfl
      have hcz6 : W.cell? ⟨w.heap.size + 1, 6, none⟩ = some (.int .u64 s6) := (blk_cell hI.bx.s 6).trans rfl
      have HI := Lib.hid hI
      clear hI hi hno hnew hlt
      refine wpOp_step rfl (fun K' hK => ?_)
      simp only [act3]
      go_simp
      exact hK _ _ ⟨l0, l1, true, l3, l4_, l5, l6, l7, l8, l9, v7, v8, v9, v15, v16, _, v18, v19, v20, v21, rfl, rfl, { HI.out with h17 := fun _ => rfl, c3 := fun e => ⟨(HI.out.c3 e).1, rfl⟩ }⟩
    | 3, _ =>
      have d2 : l2 = true := InvRegion.ready_deps hi (l := [2, 1]) (by kernel_rfl) 2 (by simp)
      have d1 : l1 = true := InvRegion.ready_deps hi (l := [2, 1]) (by kernel_rfl) 1 (by simp)
      obtain rfl := hI.h17 d2
      have HI := Lib.hid hI
      clear hI hi hno hnew hlt
      refine wpOp_step rfl (fun K' hK => ?_)
      simp only [act3]
      go_simp
      refine (musterref09_CopyService.calls s0 s1 s2 s3 A4 c4 l4 s5 s6 _ _ _ _ _ _ _ W (Kd.C_below HR.out HI.out.bx.bel) HC.out (copy_f s0 s1 s2 s3 l4 s5 s6 HL.out)).mono ?_
      rintro e W1 ⟨u, rfl, hN, hb⟩
      exact hK _ _ ⟨l0, l1, l2, true, l4_, l5, l6, l7, l8, l9, v7, v8, v9, v15, v16, _, _, v19, v20, v21, rfl, rfl, { HI.out.step hb with h18 := fun _ => ⟨u, rfl, Kd.R_lower hN (by have := HI.out.bx.size; omega)⟩, c3 := fun _ => ⟨d1, d2⟩, c4 := fun _ => rfl }⟩
    | 4, _ =>
      have d3 : l3 = true := InvRegion.ready_deps hi (l := [3, 3]) (by kernel_rfl) 3 (by simp)
      obtain ⟨u, rfl, hu⟩ := hI.h18 d3
      obtain ⟨A, c, rfl, hlc, hC⟩ := Kd.R_reads hu
      clear hu
      have HI := Lib.hid hI
      clear hI hi hno hnew hlt
      refine wpOp_step rfl (fun K' hK => ?_)
      simp only [act3, sAgg]
      go_simp
      refine (records_ServiceRow.calls s0 s1 s2 s3 A c l4 s5 s6 _ W hC hlc (sRow_f s0 s1 s2 s3 l4 s5 s6 HL.out)).mono ?_
      rintro e W1 ⟨u, rfl, hN, hb⟩
      exact hK _ _ ⟨l0, l1, l2, l3, true, l5, l6, l7, l8, l9, v7, v8, v9, v15, v16, v17, _, _, v20, v21, rfl, rfl, { HI.out.step hb with h19 := fun _ => Rw.new hN HI.out.bx.size (away_or HI.out.h7 HI.out.z7) (away_or HI.out.h8 HI.out.z8) (away_or HI.out.h9 HI.out.z9), c4 := fun _ => d3, c6 := fun e => ⟨rfl, (HI.out.c6 e).2⟩ }⟩
    | 5, _ =>
      have hcz0 : W.cell? ⟨w.heap.size + 1 + 1, 0, none⟩ = some (.string k0) := (blk_cell hI.bx.c 0).trans rfl
      have hcz1 : W.cell? ⟨w.heap.size + 1 + 1, 1, none⟩ = some (.string k1) := (blk_cell hI.bx.c 1).trans rfl
      have hcz2 : W.cell? ⟨w.heap.size + 1 + 1, 2, none⟩ = some (.string k2) := (blk_cell hI.bx.c 2).trans rfl
      have hcz3 : W.cell? ⟨w.heap.size + 1 + 1, 3, none⟩ = some (.int .i64 k3) := (blk_cell hI.bx.c 3).trans rfl
      have hcz4 : W.cell? ⟨w.heap.size + 1 + 1, 4, none⟩ = some (.string k4) := (blk_cell hI.bx.c 4).trans rfl
      have hcz5 : W.cell? ⟨w.heap.size + 1 + 1, 5, none⟩ = some (.int .u64 k5) := (blk_cell hI.bx.c 5).trans rfl
      have hcz6 : W.cell? ⟨w.heap.size + 1 + 1, 6, none⟩ = some (.int .u64 k6) := (blk_cell hI.bx.c 6).trans rfl
      have HI := Lib.hid hI
      clear hI hi hno hnew hlt
      refine wpOp_step rfl (fun K' hK => ?_)
      simp only [act3]
      go_simp
      exact hK _ _ ⟨l0, l1, l2, l3, l4_, true, l6, l7, l8, l9, v7, v8, v9, v15, v16, v17, v18, v19, _, v21, rfl, rfl, { HI.out with h20 := fun _ => rfl, c6 := fun e => ⟨(HI.out.c6 e).1, rfl⟩ }⟩
    | 6, _ =>
      have d5 : l5 = true := InvRegion.ready_deps hi (l := [5, 4]) (by kernel_rfl) 5 (by simp)
      have d4 : l4_ = true := InvRegion.ready_deps hi (l := [5, 4]) (by kernel_rfl) 4 (by simp)
      obtain rfl := hI.h20 d5
      have HI := Lib.hid hI
      clear hI hi hno hnew hlt
      refine wpOp_step rfl (fun K' hK => ?_)
      simp only [act3]
      go_simp
      refine (records_CheckRow.calls k0 k1 k2 k3 k4 k5 k6 _ W (cRow_f k0 k1 k2 k3 k4 k5 k6)).mono ?_
      rintro e W1 ⟨u, rfl, hN, hb⟩
      exact hK _ _ ⟨l0, l1, l2, l3, l4_, l5, true, l7, l8, l9, v7, v8, v9, v15, v16, v17, v18, v19, _, _, rfl, rfl, { HI.out.step hb with h21 := fun _ => Rw.new hN HI.out.bx.size (away_or HI.out.h7 HI.out.z7) (away_or HI.out.h8 HI.out.z8) (away_or HI.out.h9 HI.out.z9), c6 := fun _ => ⟨d4, d5⟩ }⟩
    | 7, _ =>
      have hf : l7 = false := hnew
      obtain rfl := hI.z7 hf
      have HI := Lib.hid hI
      clear hI hi hno hnew hlt
      refine wpOp_step rfl (fun K' hK => ?_)
      simp only [act3]
      go_simp
      have hb : Below W.heap.size W (W.alloc (.cells #[.slice none 0 0] 33)) := below_alloc (Below.refl _ _) _
      exact hK _ _ ⟨l0, l1, l2, l3, l4_, l5, l6, true, l8, l9, _, v8, v9, v15, v16, v17, v18, v19, v20, v21, rfl, rfl, { HI.out.step hb with h16 := fun e => (HI.out.h16 e).slot hb (fun k hk _ => Nat.ne_of_lt hk) (fun _ _ h => h) (fun _ _ h => h), h19 := fun e => (HI.out.h19 e).slot hb (fun k hk _ => Nat.ne_of_lt hk) (fun _ _ h => h) (fun _ _ h => h), h21 := fun e => (HI.out.h21 e).slot hb (fun k hk _ => Nat.ne_of_lt hk) (fun _ _ h => h) (fun _ _ h => h), h7 := fun _ => slot_new W HI.out.bx.size, z7 := nofun, d78 := fun _ e => slot_ne (HI.out.h8 e), d79 := fun _ e => slot_ne (HI.out.h9 e) }⟩
    | 8, _ =>
      have hf : l8 = false := hnew
      obtain rfl := hI.z8 hf
      have HI := Lib.hid hI
      clear hI hi hno hnew hlt
      refine wpOp_step rfl (fun K' hK => ?_)
      simp only [act3]
      go_simp
      have hb : Below W.heap.size W (W.alloc (.cells #[.slice none 0 0] 33)) := below_alloc (Below.refl _ _) _
      exact hK _ _ ⟨l0, l1, l2, l3, l4_, l5, l6, l7, true, l9, v7, _, v9, v15, v16, v17, v18, v19, v20, v21, rfl, rfl, { HI.out.step hb with h16 := fun e => (HI.out.h16 e).slot hb (fun _ _ h => h) (fun k hk _ => Nat.ne_of_lt hk) (fun _ _ h => h), h19 := fun e => (HI.out.h19 e).slot hb (fun _ _ h => h) (fun k hk _ => Nat.ne_of_lt hk) (fun _ _ h => h), h21 := fun e => (HI.out.h21 e).slot hb (fun _ _ h => h) (fun k hk _ => Nat.ne_of_lt hk) (fun _ _ h => h), h8 := fun _ => slot_new W HI.out.bx.size, z8 := nofun, d78 := fun e _ => fun h_ => slot_ne (HI.out.h7 e) h_.symm, d89 := fun _ e => slot_ne (HI.out.h9 e) }⟩
    | 9, _ =>
      have hf : l9 = false := hnew
      obtain rfl := hI.z9 hf
      have HI := Lib.hid hI
      clear hI hi hno hnew hlt
      refine wpOp_step rfl (fun K' hK => ?_)
      simp only [act3]
      go_simp
      have hb : Below W.heap.size W (W.alloc (.cells #[.slice none 0 0] 33)) := below_alloc (Below.refl _ _) _
      exact hK _ _ ⟨l0, l1, l2, l3, l4_, l5, l6, l7, l8, true, v7, v8, _, v15, v16, v17, v18, v19, v20, v21, rfl, rfl, { HI.out.step hb with h16 := fun e => (HI.out.h16 e).slot hb (fun _ _ h => h) (fun _ _ h => h) (fun k hk _ => Nat.ne_of_lt hk), h19 := fun e => (HI.out.h19 e).slot hb (fun _ _ h => h) (fun _ _ h => h) (fun k hk _ => Nat.ne_of_lt hk), h21 := fun e => (HI.out.h21 e).slot hb (fun _ _ h => h) (fun _ _ h => h) (fun k hk _ => Nat.ne_of_lt hk), h9 := fun _ => slot_new W HI.out.bx.size, z9 := nofun, d79 := fun e _ => fun h_ => slot_ne (HI.out.h7 e) h_.symm, d89 := fun e _ => fun h_ => slot_ne (HI.out.h8 e) h_.symm }⟩
    | 10, _ =>
      exfalso
      have D := InvRegion.ready_deps hi (l := [7, 1, 6, 0, 1, 7, 8, 9]) (by kernel_rfl)
      have e0 : l0 = true := D 0 (by simp)
      have e6 : l6 = true := D 6 (by simp)
      have e7 : l7 = true := D 7 (by simp)
      have e8 : l8 = true := D 8 (by simp)
      have e9 : l9 = true := D 9 (by simp)
      obtain ⟨e4, e5⟩ := hI.c6 e6
      have e3 := hI.c4 e4
      obtain ⟨e1, e2⟩ := hI.c3 e3
      exact hno (by rw [e0, e1, e2, e3, e4, e5, e6, e7, e8, e9])
    | 11, _ => exact absurd (InvRegion.ready_deps hi rfl 10 (by decide +kernel)) (by simp)
    | 12, _ => exact absurd (InvRegion.ready_deps hi rfl 11 (by decide +kernel)) (by simp)
    | n + 13, h => exact absurd h (by simp)
  case hout =>
    rintro listed a W fuel ⟨l0, l1, l2, l3, l4_, l5, l6, l7, l8, l9, v7, v8, v9, v15, v16, v17, v18, v19, v20, v21, hl, rfl, hI⟩ hall hfuel
    obtain rfl : listed = _ := hall
    injection hl with hl
    simp only [List.cons.injEq, and_true] at hl
    obtain ⟨rfl, rfl, rfl, rfl, rfl, rfl, rfl, rfl, rfl, rfl⟩ := hl
    obtain ⟨u16, rfl, r16⟩ := hI.h16 rfl
    obtain ⟨u19, rfl, r19⟩ := hI.h19 rfl
    obtain ⟨u21, rfl, r21⟩ := hI.h21 rfl
    obtain ⟨A16, k16, rfl⟩ := Kd.N_slice r16
    obtain ⟨A19, k19, rfl⟩ := Kd.N_slice r19
    obtain ⟨A21, k21, rfl⟩ := Kd.N_slice r21
    obtain ⟨g7, rfl, p7, q7, b7⟩ := hI.h7 rfl
    obtain ⟨g8, rfl, p8, q8, b8⟩ := hI.h8 rfl
    obtain ⟨g9, rfl, p9, q9, b9⟩ := hI.h9 rfl
    have d78 : g7 ≠ g8 := fun e => hI.d78 rfl rfl (by rw [e])
    have d79 : g7 ≠ g9 := fun e => hI.d79 rfl rfl (by rw [e])
    have d89 : g8 ≠ g9 := fun e => hI.d89 rfl rfl (by rw [e])
    have hbx := hI.bx
    obtain ⟨f, rfl⟩ : ∃ f, fuel = f + 3 := ⟨fuel - 3, by have : InvRegion.left #[true, true, true, true, true, true, true, true, true, true, false, false, false] 13 = 3 := by decide
                                                         have h2 : 3 ≤ fuel := hfuel
                                                         omega⟩
    clear hI hfuel
    have c7 : W.cell? ⟨g7, 0, none⟩ = some (.slice none 0 0) := (blk_cell b7 0).trans rfl
    have z7 := blk_frozen b7 0
    have c8 : W.cell? ⟨g8, 0, none⟩ = some (.slice none 0 0) := (blk_cell b8 0).trans rfl
    have z8 := blk_frozen b8 0
    have c9 : W.cell? ⟨g9, 0, none⟩ = some (.slice none 0 0) := (blk_cell b9 0).trans rfl
    have z9 := blk_frozen b9 0
    refine wpAny_ready (rs := [10]) (by kernel_rfl) nofun (AllReady.cons rfl (fun K1 hK1 => ?_) AllReady.nil)
    simp only [act3]
    go_simp
    refine hK1 _ _ (wpAny_ready (rs := [11]) (by kernel_rfl) nofun (AllReady.cons rfl (fun K2 hK2 => ?_) AllReady.nil))
    go_simp
    refine hK2 _ _ (wpAny_ready (rs := [12]) (by kernel_rfl) nofun (AllReady.cons rfl (fun K3 hK3 => ?_) AllReady.nil))
    go_simp
    refine hK3 _ _ (wpAny_done (by kernel_rfl) ?_ _)
    have HL3 : L3 w n0 n1 n2 n3 s0 s1 s2 s3 A4 c4 l4 s5 s6 k0 k1 k2 k3 k4 k5 k6 g7 g8 g9 A16 k16 A19 k19 A21 k21 (((W.setCell ⟨g7, 0, none⟩ (.slice A16 (nRow n0 n1 n2 n3).length k16)).setCell ⟨g8, 0, none⟩ (.slice A19 (sRow s0 s1 s2 s3 l4 s5 s6).length k19)).setCell ⟨g9, 0, none⟩ (.slice A21 (cRow k0 k1 k2 k3 k4 k5 k6).length k21)) := by
      have t16 := Kd.N_far (p := ⟨g9, 0, none⟩) (Kd.N_far (p := ⟨g8, 0, none⟩) (Kd.N_far (p := ⟨g7, 0, none⟩) r16 (fun k hk => hk.2.1) (.slice A16 (nRow n0 n1 n2 n3).length k16)) (fun k hk => hk.2.2.1) (.slice A19 (sRow s0 s1 s2 s3 l4 s5 s6).length k19)) (fun k hk => hk.2.2.2) (.slice A21 (cRow k0 k1 k2 k3 k4 k5 k6).length k21)
      have t19 := Kd.N_far (p := ⟨g9, 0, none⟩) (Kd.N_far (p := ⟨g8, 0, none⟩) (Kd.N_far (p := ⟨g7, 0, none⟩) r19 (fun k hk => hk.2.1) (.slice A16 (nRow n0 n1 n2 n3).length k16)) (fun k hk => hk.2.2.1) (.slice A19 (sRow s0 s1 s2 s3 l4 s5 s6).length k19)) (fun k hk => hk.2.2.2) (.slice A21 (cRow k0 k1 k2 k3 k4 k5 k6).length k21)
      have t21 := Kd.N_far (p := ⟨g9, 0, none⟩) (Kd.N_far (p := ⟨g8, 0, none⟩) (Kd.N_far (p := ⟨g7, 0, none⟩) r21 (fun k hk => hk.2.1) (.slice A16 (nRow n0 n1 n2 n3).length k16)) (fun k hk => hk.2.2.1) (.slice A19 (sRow s0 s1 s2 s3 l4 s5 s6).length k19)) (fun k hk => hk.2.2.2) (.slice A21 (cRow k0 k1 k2 k3 k4 k5 k6).length k21)
      exact {
        bx := ((hbx.far p7 _).far p8 _).far p9 _
        b7 := blk_far (blk_far (blk_put (cs := #[.slice none 0 0]) b7 0 _ rfl) d78 _) d79 _
        b8 := blk_far (blk_put (cs := #[.slice none 0 0]) (blk_far b8 (Ne.symm d78) _) 0 _ rfl) d89 _
        b9 := blk_put (cs := #[.slice none 0 0]) (blk_far (blk_far b9 (Ne.symm d79) _) (Ne.symm d89) _) 0 _ rfl
        q7 := by simpa using q7
        q8 := by simpa using q8
        q9 := by simpa using q9
        r16 := ⟨(Kd.N_reads' t16).2.2, (Kd.N_reads' t16).2.1⟩
        r19 := ⟨(Kd.N_reads' t19).2.2, (Kd.N_reads' t19).2.1⟩
        r21 := Kd.N_mono t21 (fun k hk => hk) }
    generalize (((W.setCell ⟨g7, 0, none⟩ (.slice A16 (nRow n0 n1 n2 n3).length k16)).setCell ⟨g8, 0, none⟩ (.slice A19 (sRow s0 s1 s2 s3 l4 s5 s6).length k19)).setCell ⟨g9, 0, none⟩ (.slice A21 (cRow k0 k1 k2 k3 k4 k5 k6).length k21)) = W3 at HL3 ⊢
    clear r16 r19 r21 b7 b8 b9 c7 c8 c9 z7 z8 z9 q7 q8 q9 hbx hK1 hK2 hK3 K1 K2 K3
    have hz := HL3.bx.size
    have q0 : w.heap.size < W3.heap.size := by omega
    have q1 : w.heap.size + 1 < W3.heap.size := by omega
    have q2 : w.heap.size + 1 + 1 < W3.heap.size := by omega
    have hcn0 : W3.cell? ⟨w.heap.size, 0, none⟩ = some (.string n0) := (blk_cell HL3.bx.n 0).trans rfl
    have hcn1 : W3.cell? ⟨w.heap.size, 1, none⟩ = some (.string n1) := (blk_cell HL3.bx.n 1).trans rfl
    have hcn2 : W3.cell? ⟨w.heap.size, 2, none⟩ = some (.int .u64 n2) := (blk_cell HL3.bx.n 2).trans rfl
    have hcn3 : W3.cell? ⟨w.heap.size, 3, none⟩ = some (.int .u64 n3) := (blk_cell HL3.bx.n 3).trans rfl
    have hcs0 : W3.cell? ⟨w.heap.size + 1, 0, none⟩ = some (.string s0) := (blk_cell HL3.bx.s 0).trans rfl
    have hcs1 : W3.cell? ⟨w.heap.size + 1, 1, none⟩ = some (.string s1) := (blk_cell HL3.bx.s 1).trans rfl
    have hcs2 : W3.cell? ⟨w.heap.size + 1, 2, none⟩ = some (.string s2) := (blk_cell HL3.bx.s 2).trans rfl
    have hcs3 : W3.cell? ⟨w.heap.size + 1, 3, none⟩ = some (.int .i64 s3) := (blk_cell HL3.bx.s 3).trans rfl
    have hcs4 : W3.cell? ⟨w.heap.size + 1, 4, none⟩ = some (.slice A4 l4.length c4) := (blk_cell HL3.bx.s 4).trans rfl
    have hcs5 : W3.cell? ⟨w.heap.size + 1, 5, none⟩ = some (.int .u64 s5) := (blk_cell HL3.bx.s 5).trans rfl
    have hcs6 : W3.cell? ⟨w.heap.size + 1, 6, none⟩ = some (.int .u64 s6) := (blk_cell HL3.bx.s 6).trans rfl
    have hcc0 : W3.cell? ⟨w.heap.size + 1 + 1, 0, none⟩ = some (.string k0) := (blk_cell HL3.bx.c 0).trans rfl
    have hcc1 : W3.cell? ⟨w.heap.size + 1 + 1, 1, none⟩ = some (.string k1) := (blk_cell HL3.bx.c 1).trans rfl
    have hcc2 : W3.cell? ⟨w.heap.size + 1 + 1, 2, none⟩ = some (.string k2) := (blk_cell HL3.bx.c 2).trans rfl
    have hcc3 : W3.cell? ⟨w.heap.size + 1 + 1, 3, none⟩ = some (.int .i64 k3) := (blk_cell HL3.bx.c 3).trans rfl
    have hcc4 : W3.cell? ⟨w.heap.size + 1 + 1, 4, none⟩ = some (.string k4) := (blk_cell HL3.bx.c 4).trans rfl
    have hcc5 : W3.cell? ⟨w.heap.size + 1 + 1, 5, none⟩ = some (.int .u64 k5) := (blk_cell HL3.bx.c 5).trans rfl
    have hcc6 : W3.cell? ⟨w.heap.size + 1 + 1, 6, none⟩ = some (.int .u64 k6) := (blk_cell HL3.bx.c 6).trans rfl
    have hc7 : W3.cell? ⟨g7, 0, none⟩ = some (.slice A16 (nRow n0 n1 n2 n3).length k16) := (blk_cell HL3.b7 0).trans rfl
    have hc8 : W3.cell? ⟨g8, 0, none⟩ = some (.slice A19 (sRow s0 s1 s2 s3 l4 s5 s6).length k19) := (blk_cell HL3.b8 0).trans rfl
    have hc9 : W3.cell? ⟨g9, 0, none⟩ = some (.slice A21 (cRow k0 k1 k2 k3 k4 k5 k6).length k21) := (blk_cell HL3.b9 0).trans rfl
    have q7 := HL3.q7
    have q8 := HL3.q8
    have q9 := HL3.q9
    have H3' := Lib.hid HL3
    clear HL3
    go_upto_region 7 with (fail)
    have H6 := L6.start H3'.out HR.out HC.out
    clear H3' hc7 hc8 hc9 q7 q8 q9 q0 q1 q2 hz hcn0 hcn1 hcn2 hcn3 hcs0 hcs1 hcs2 hcs3 hcs4 hcs5 hcs6 hcc0 hcc1 hcc2 hcc3 hcc4 hcc5 hcc6
    generalize ((((((W3.alloc (.cells #[.string n0, .int .u64 0, .slice none 0 0, .string n1, .int .u64 0, .slice none 0 0, .string { data := #[] }, .int .u64 n2, .slice none 0 0, .string { data := #[] }, .int .u64 n3, .slice none 0 0] 39)).alloc (.cells #[.slice (some ⟨W3.heap.size, 0, none⟩) 4 4] 33)).alloc (.cells #[.string s0, .int .u64 0, .slice none 0 0, .string s1, .int .u64 0, .slice none 0 0, .string s2, .int .u64 0, .slice none 0 0, .string { data := #[] }, .int .u64 (IntKind.u64.wrap s3), .slice none 0 0, .string { data := #[] }, .int .u64 0, .slice A4 l4.length c4, .string { data := #[] }, .int .u64 s5, .slice none 0 0, .string { data := #[] }, .int .u64 s6, .slice none 0 0] 39)).alloc (.cells #[.slice (some ⟨W3.heap.size + 1 + 1, 0, none⟩) 7 7] 33)).alloc (.cells #[.string k0, .int .u64 0, .slice none 0 0, .string k1, .int .u64 0, .slice none 0 0, .string k2, .int .u64 0, .slice none 0 0, .string { data := #[] }, .int .u64 (IntKind.u64.wrap k3), .slice none 0 0, .string k4, .int .u64 0, .slice none 0 0, .string { data := #[] }, .int .u64 k5, .slice none 0 0, .string { data := #[] }, .int .u64 k6, .slice none 0 0] 39)).alloc (.cells #[.slice (some ⟨W3.heap.size + 1 + 1 + 1 + 1, 0, none⟩) 7 7] 33)) = W6 at H6 ⊢
    generalize hNN : W3.heap.size = N6 at H6 ⊢
    clear hNN
    have hx : L6C w n0 n1 n2 n3 s0 s1 s2 s3 A4 c4 l4 s5 s6 k0 k1 k2 k3 k4 k5 k6 N6 g7 g8 g9 A16 k16 A19 k19 A21 k21 W6 := H6.cells
    obtain ⟨hc7, hc8, hc9, hc10, hc11, hc12⟩ := hx
    have H7 := Lib.hid H6
    clear H6
    go_wp2_with (first
      | (go_at_call 9; refine (musterref07_SameRow.calls 4000002 A16 k16 (nRow n0 n1 n2 n3) (some ⟨N6, 0, none⟩) 4 (nRow n0 n1 n2 n3) true _ H7.out.l3.r16.1 H7.out.l3.r16.2 H7.out.r10 (Nat.le_refl 4) (sameNRow ..)).mono ?_; rintro e w7 ⟨rfl, hb⟩; have H8 := Lib.hid (H7.out.step hb); clear H7 hb hc7 hc8 hc9 hc10 hc11 hc12; obtain ⟨hc7, hc8, hc9, hc10, hc11, hc12⟩ := H8.out.cells)
      | (go_at_call 9; refine (musterref07_SameRow.calls 4000002 A19 k19 (sRow s0 s1 s2 s3 l4 s5 s6) (some ⟨N6 + 2, 0, none⟩) 7 (sRow s0 s1 s2 s3 l4 s5 s6) true _ H8.out.l3.r19.1 H8.out.l3.r19.2 H8.out.r11 (Nat.le_refl 7) (sameSRow _ _ _ _ _ _ _ HL.out)).mono ?_; rintro e w8 ⟨rfl, hb⟩; have H9 := Lib.hid (H8.out.step hb); clear H8 hb hc7 hc8 hc9 hc10 hc11 hc12; obtain ⟨hc7, hc8, hc9, hc10, hc11, hc12⟩ := H9.out.cells)
      | (go_at_call 9; refine (musterref07_SameRow.calls 4000002 A21 k21 (cRow k0 k1 k2 k3 k4 k5 k6) (some ⟨N6 + 4, 0, none⟩) 7 (cRow k0 k1 k2 k3 k4 k5 k6) true _ H9.out.c21.1 H9.out.c21.2 H9.out.r12 (Nat.le_refl 7) (sameCRow ..)).mono ?_; rintro e w9 ⟨rfl, hb⟩; have H10 := Lib.hid (H9.out.step hb); clear H9 hb hc7 hc8 hc9 hc10 hc11 hc12; obtain ⟨hc7, hc8, hc9, hc10, hc11, hc12⟩ := H10.out.cells))
    obtain ⟨hcn0, hcn1, hcn2, hcn3, hcs0, hcs1, hcs2, hcs3, hcs4, hcs5, hcs6, hcc0, hcc1, hcc2, hcc3, hcc4, hcc5, hcc6⟩ := H10.out.l3.bx.cells
    go_region_held3 (fun w' => w'.cell? ⟨w.heap.size, 0, none⟩ = some (.string n0) ∧ w'.cell? ⟨w.heap.size, 1, none⟩ = some (.string n1) ∧ w'.cell? ⟨w.heap.size, 2, none⟩ = some (.int .u64 n2) ∧ w'.cell? ⟨w.heap.size, 3, none⟩ = some (.int .u64 n3) ∧ w'.cell? ⟨w.heap.size + 1, 0, none⟩ = some (.string s0) ∧ w'.cell? ⟨w.heap.size + 1, 1, none⟩ = some (.string s1) ∧ w'.cell? ⟨w.heap.size + 1, 2, none⟩ = some (.string s2) ∧ w'.cell? ⟨w.heap.size + 1, 3, none⟩ = some (.int .i64 s3) ∧ w'.cell? ⟨w.heap.size + 1, 4, none⟩ = some (.slice A4 l4.length c4) ∧ w'.cell? ⟨w.heap.size + 1, 5, none⟩ = some (.int .u64 s5) ∧ w'.cell? ⟨w.heap.size + 1, 6, none⟩ = some (.int .u64 s6) ∧ w'.cell? ⟨w.heap.size + 1 + 1, 0, none⟩ = some (.string k0) ∧ w'.cell? ⟨w.heap.size + 1 + 1, 1, none⟩ = some (.string k1) ∧ w'.cell? ⟨w.heap.size + 1 + 1, 2, none⟩ = some (.string k2) ∧ w'.cell? ⟨w.heap.size + 1 + 1, 3, none⟩ = some (.int .i64 k3) ∧ w'.cell? ⟨w.heap.size + 1 + 1, 4, none⟩ = some (.string k4) ∧ w'.cell? ⟨w.heap.size + 1 + 1, 5, none⟩ = some (.int .u64 k5) ∧ w'.cell? ⟨w.heap.size + 1 + 1, 6, none⟩ = some (.int .u64 k6) ∧ w'.cell? ⟨g7, 0, none⟩ = some (.slice A16 (nRow n0 n1 n2 n3).length k16) ∧ w'.cell? ⟨g8, 0, none⟩ = some (.slice A19 (sRow s0 s1 s2 s3 l4 s5 s6).length k19) ∧ w'.cell? ⟨g9, 0, none⟩ = some (.slice A21 (cRow k0 k1 k2 k3 k4 k5 k6).length k21)) (first | exact ⟨hcn0, hcn1, hcn2, hcn3, hcs0, hcs1, hcs2, hcs3, hcs4, hcs5, hcs6, hcc0, hcc1, hcc2, hcc3, hcc4, hcc5, hcc6, hc7, hc8, hc9⟩ | go_keep) (first
      | (go_at_call 10; refine (records_RowNode.calls A16 k16 (nRow n0 n1 n2 n3) n0 n1 n2 n3 _ (Kd.C_drew H10.out.l3.r16.1) H10.out.l3.r16.2 (rowNode_n ..)).mono ?_; rintro e w10 ⟨rfl, hb⟩; have H11 := Lib.hid ((H10.out.step (below_drew (Below.refl _ _))).step hb); clear H10 hb; clear hcn0 hcn1 hcn2 hcn3 hcs0 hcs1 hcs2 hcs3 hcs4 hcs5 hcs6 hcc0 hcc1 hcc2 hcc3 hcc4 hcc5 hcc6 hc7 hc8 hc9 hc10 hc11 hc12; obtain ⟨hc7, hc8, hc9, hc10, hc11, hc12⟩ := H11.out.cells; obtain ⟨hcn0, hcn1, hcn2, hcn3, hcs0, hcs1, hcs2, hcs3, hcs4, hcs5, hcs6, hcc0, hcc1, hcc2, hcc3, hcc4, hcc5, hcc6⟩ := H11.out.l3.bx.cells)
      | (go_at_call 12; refine (records_RowService.calls A19 k19 (sRow s0 s1 s2 s3 l4 s5 s6) s0 s1 s2 s3 l4 s5 s6 _ H11.out.l3.r19.1 H11.out.l3.r19.2 (rowService_s _ _ _ _ _ _ _ H3.out HL.out)).mono ?_; rintro e w11 ⟨v4_, rfl, hv, hb⟩; obtain ⟨A5, c5, rfl, hc5, hr5⟩ := Kd.R_reads hv; have H12 := Lib.hid (H11.out.step hb); have HR5 := Lib.hid hr5; have HC5 := Lib.hid hc5; clear H11 hb hv hr5 hc5; clear hcn0 hcn1 hcn2 hcn3 hcs0 hcs1 hcs2 hcs3 hcs4 hcs5 hcs6 hcc0 hcc1 hcc2 hcc3 hcc4 hcc5 hcc6 hc7 hc8 hc9 hc10 hc11 hc12; obtain ⟨hc7, hc8, hc9, hc10, hc11, hc12⟩ := H12.out.cells; obtain ⟨hcn0, hcn1, hcn2, hcn3, hcs0, hcs1, hcs2, hcs3, hcs4, hcs5, hcs6, hcc0, hcc1, hcc2, hcc3, hcc4, hcc5, hcc6⟩ := H12.out.l3.bx.cells)
      | (go_at_call 11; refine (musterref09_SameService.calls 2000001 s0 s1 s2 s3 A5 c5 l4 s5 s6 s0 s1 s2 s3 A4 c4 l4 s5 s6 true _ HR5.out HC5.out (Kd.C_below HR.out H12.out.l3.bx.bel) HC.out (sameService_self _ _ _ _ _ _ _ HL.out)).mono ?_; rintro e w12 ⟨rfl, hb⟩; have H13 := Lib.hid (H12.out.step hb); clear H12 HR5 hb; clear hcn0 hcn1 hcn2 hcn3 hcs0 hcs1 hcs2 hcs3 hcs4 hcs5 hcs6 hcc0 hcc1 hcc2 hcc3 hcc4 hcc5 hcc6 hc7 hc8 hc9 hc10 hc11 hc12; obtain ⟨hc7, hc8, hc9, hc10, hc11, hc12⟩ := H13.out.cells; obtain ⟨hcn0, hcn1, hcn2, hcn3, hcs0, hcs1, hcs2, hcs3, hcs4, hcs5, hcs6, hcc0, hcc1, hcc2, hcc3, hcc4, hcc5, hcc6⟩ := H13.out.l3.bx.cells)
      | (go_at_call 13; refine (records_RowCheck.calls A21 k21 (cRow k0 k1 k2 k3 k4 k5 k6) k0 k1 k2 k3 k4 k5 k6 _ H13.out.c21.1 H13.out.c21.2 (rowCheck_c _ _ _ _ _ _ _ H4.out)).mono ?_; rintro e w13 ⟨rfl, hb⟩; have H14 := Lib.hid (H13.out.step hb); have hk16 := H13.out.l3.r16.2; clear H13 hb; clear hcn0 hcn1 hcn2 hcn3 hcs0 hcs1 hcs2 hcs3 hcs4 hcs5 hcs6 hcc0 hcc1 hcc2 hcc3 hcc4 hcc5 hcc6 hc7 hc8 hc9 hc10 hc11 hc12; obtain ⟨hc7, hc8, hc9, hc10, hc11, hc12⟩ := H14.out.cells; obtain ⟨hcn0, hcn1, hcn2, hcn3, hcs0, hcs1, hcs2, hcs3, hcs4, hcs5, hcs6, hcc0, hcc1, hcc2, hcc3, hcc4, hcc5, hcc6⟩ := H14.out.l3.bx.cells; have hk16' : (1 : Int) ≤ (k16 : Int) := by (have hk17 : 4 ≤ k16 := hk16); omega)
      | (go_at_call 10; refine (records_RowNode.calls A16 k16 [⟨n0, 0, []⟩] n0 ⟨#[]⟩ 0 0 _ (Kd.C_take (m := 1) H14.out.l3.r16.1 (by simp [nRow])) (Nat.le_trans (by simp [nRow]) H14.out.l3.r16.2) (rowNode_1 ..)).mono ?_; rintro e w14 ⟨rfl, hb⟩; have H15 := Lib.hid (H14.out.step hb); clear H14 hb; clear hcn0 hcn1 hcn2 hcn3 hcs0 hcs1 hcs2 hcs3 hcs4 hcs5 hcs6 hcc0 hcc1 hcc2 hcc3 hcc4 hcc5 hcc6 hc7 hc8 hc9 hc10 hc11 hc12; obtain ⟨hc7, hc8, hc9, hc10, hc11, hc12⟩ := H15.out.cells; obtain ⟨hcn0, hcn1, hcn2, hcn3, hcs0, hcs1, hcs2, hcs3, hcs4, hcs5, hcs6, hcc0, hcc1, hcc2, hcc3, hcc4, hcc5, hcc6⟩ := H15.out.l3.bx.cells)
      | (go_at_call 12; refine (records_RowService.calls none 0 [] ⟨#[]⟩ ⟨#[]⟩ ⟨#[]⟩ 0 [] 0 0 _ (Kd.C_nil _ _) (Nat.le_refl 0) rowService_0).mono ?_; rintro e w15 ⟨v5_, rfl, hv, hb⟩; obtain ⟨A6, c6, rfl, hc6, hr6⟩ := Kd.R_reads hv; have H16 := Lib.hid (H15.out.step hb); have HR6 := Lib.hid hr6; have HC6 := Lib.hid hc6; clear H15 hb hv hr6 hc6; clear hcn0 hcn1 hcn2 hcn3 hcs0 hcs1 hcs2 hcs3 hcs4 hcs5 hcs6 hcc0 hcc1 hcc2 hcc3 hcc4 hcc5 hcc6 hc7 hc8 hc9 hc10 hc11 hc12; obtain ⟨hc7, hc8, hc9, hc10, hc11, hc12⟩ := H16.out.cells; obtain ⟨hcn0, hcn1, hcn2, hcn3, hcs0, hcs1, hcs2, hcs3, hcs4, hcs5, hcs6, hcc0, hcc1, hcc2, hcc3, hcc4, hcc5, hcc6⟩ := H16.out.l3.bx.cells)
      | (go_at_call 11; refine (musterref09_SameService.calls 2000001 ⟨#[]⟩ ⟨#[]⟩ ⟨#[]⟩ 0 A6 c6 [] 0 0 ⟨#[]⟩ ⟨#[]⟩ ⟨#[]⟩ 0 none 0 [] 0 0 true _ HR6.out HC6.out (Kd.C_nil _ _) (Nat.le_refl 0) (sameService_self _ _ _ _ _ _ _ (by decide))).mono ?_; rintro e w16 ⟨rfl, hb⟩; have H17 := Lib.hid (H16.out.step hb); clear H16 HR6 hb; clear hcn0 hcn1 hcn2 hcn3 hcs0 hcs1 hcs2 hcs3 hcs4 hcs5 hcs6 hcc0 hcc1 hcc2 hcc3 hcc4 hcc5 hcc6 hc7 hc8 hc9 hc10 hc11 hc12; obtain ⟨hc7, hc8, hc9, hc10, hc11, hc12⟩ := H17.out.cells; obtain ⟨hcn0, hcn1, hcn2, hcn3, hcs0, hcs1, hcs2, hcs3, hcs4, hcs5, hcs6, hcc0, hcc1, hcc2, hcc3, hcc4, hcc5, hcc6⟩ := H17.out.l3.bx.cells)
      | (go_at_call 13; refine (records_RowCheck.calls A7 k7 ((cRow k0 k1 k2 k3 k4 k5 k6) ++ [⟨⟨#[]⟩, 9, []⟩]) k0 k1 k2 k3 k4 k5 k6 _ HN.out.2 HN.out.1 (rowCheck_9 _ _ _ _ _ _ _ H4.out _)).mono ?_; rintro e w18 ⟨rfl, hb⟩; have H19 := Lib.hid (H18.out.step hb); clear H18 HN hb hcn0 hcn1 hcn2 hcn3 hcs0 hcs1 hcs2 hcs3 hcs4 hcs5 hcs6 hcc0 hcc1 hcc2 hcc3 hcc4 hcc5 hcc6 hc7 hc8 hc9; obtain ⟨hc7, hc8, hc9⟩ := H19.out.cells; obtain ⟨hcn0, hcn1, hcn2, hcn3, hcs0, hcs1, hcs2, hcs3, hcs4, hcs5, hcs6, hcc0, hcc1, hcc2, hcc3, hcc4, hcc5, hcc6⟩ := H19.out.bx.cells)
      | (rw [if_pos (by rfl)]; (refine ap39 (ops := opsOf Tryd.f3 9) (W := w16) (by rfl) (w.heap.size + 3) (.tmp 135) (.tmp 137) (by rfl) A21 k21 (cRow k0 k1 k2 k3 k4 k5 k6) 9 (by rfl) (by rfl) (fun k => w.heap.size + 3 ≤ k ∧ k ≠ g7 ∧ k ≠ g8 ∧ k ≠ g9) (fun k hk => ⟨Nat.le_trans H17.out.l3.bx.size hk, Nat.ne_of_gt (Nat.lt_of_lt_of_le H17.out.l3.q7 hk), Nat.ne_of_gt (Nat.lt_of_lt_of_le H17.out.l3.q8 hk), Nat.ne_of_gt (Nat.lt_of_lt_of_le H17.out.l3.q9 hk)⟩) H17.out.l3.r21 H17.out.l3.bx.size (by simp [cRow]) ?_); intro v1 w17 hN hb hg ho; obtain ⟨A7, k7, rfl⟩ := Kd.N_slice hN; have HN := Lib.hid (Kd.N_reads' hN).2; have H18 := Lib.hid (H17.out.l3.lb.grown hb hg ho); clear H17 hN hb hg ho hcn0 hcn1 hcn2 hcn3 hcs0 hcs1 hcs2 hcs3 hcs4 hcs5 hcs6 hcc0 hcc1 hcc2 hcc3 hcc4 hcc5 hcc6 hc7 hc8 hc9 hc10 hc11 hc12; obtain ⟨hc7, hc8, hc9⟩ := H18.out.cells; obtain ⟨hcn0, hcn1, hcn2, hcn3, hcs0, hcs1, hcs2, hcs3, hcs4, hcs5, hcs6, hcc0, hcc1, hcc2, hcc3, hcc4, hcc5, hcc6⟩ := H18.out.bx.cells)
      | fail "no arm")
    all_goals go_wp2
    all_goals (go_ret; exact ⟨rfl, H19.out.bx.bel⟩)
end Go.Proofs.YthalhlobmbedhaaDoor.P
