/- PROVED: for every three records of bulk at most 1048576 together (and the listed package variables as the text lays them) musterlaw09.RecordsRows returns true and leaves what it was handed as it was: the second form's card. -/
import Derived.Test.YthalhlobmbedhaaDoorCards
import Derived.Test.YthalhlobmbedhaaDoorBulk
import Derived.Test.YthalhlobmbedhaaDoorGOpen
import Derived.Test.YthalhlobmbedhaaDoorGLaw
import Derived.Test.YthalhlobmbedhaaDoorGRow0
import Derived.ProofKit
import Derived.OpenShut
import Derived.Carry
namespace Go.Proofs.YthalhlobmbedhaaDoor.P
open Go.ChangeShapes Go.WideShapes Go.ChangeAt Go.RowKit
open Go.RowKit Go.Proofs.YthalhlobmbedhaaDoorW.PrintWords Go.Proofs.YthalhlobmbedhaaDoorW.PrintLast Go.Proofs.YthalhlobmbedhaaDoorW.PrintMore
set_option linter.unusedVariables false

theorem own : ownKnob Tryd.prog.godebug = none := by kernel_rfl
theorem laidOut : laidOutB Tryd.prog = true := by kernel_rfl
theorem i64_range {x : Int} (h : (Lit.int .i64 x).wf = true) : -9223372036854775808 ≤ x ∧ x < 9223372036854775808 := by
  simp only [Lit.wf, go_sem, Bool.and_eq_true, decide_eq_true_eq] at h
  have h1 : IntKind.i64.min = -9223372036854775808 := rfl
  have h2 : IntKind.i64.max = 9223372036854775807 := rfl
  omega

set_option maxRecDepth 100000 in
theorem contract (H : Type) (enc : TypeId × Value → H) (W : World) (base : Nat) (args : Array Value) (ds gs : List (DataW H)) (before : List MemPlace)
    (hval : ∀ (j : Nat) t v, Tryd.f3.params[j]? = some t → args[j]? = some v → Value.okWide Tryd.prog W .any base t v)
    (hW : DataW.Whole enc Tryd.prog Tryd.f3.params.toList Rows.recordsRowsSpec.vars false W args.toList ds gs before)
    (hk : Rows.uptoSmall H (ds ++ gs) = true) (hL : laidMetH Tryd.prog Rows.recordsRowsUptoRow.laid W) (hS : W.ShapedOpen Tryd.prog) :
    Calls Tryd.prog 3 args W fun e W' => ∃ v, e = .returned v ∧ Rows.recordsRowsSpec.post enc Tryd.prog Tryd.f3 false true false false W args v W' := by
  have hW' := hW
  obtain ⟨p, q, hA0, hV, rfl, hfz, hnd⟩ := hW
  have hA : DataW.TrodAll enc Tryd.prog W 0 (fun _ => true) true Tryd.f3.params.toList args.toList ds p := hA0
  rw [Tryd.params3] at hA hval
  obtain ⟨v0, vs0, d0, ds0, p0, q0, hargs, rfl, rfl, h0, r0⟩ := trodAll_cons hA
  obtain ⟨v1, vs1, d1, ds1, p1, q1, rfl, rfl, rfl, h1, r1⟩ := trodAll_cons r0
  obtain ⟨v2, vs2, d2, ds2, p2, q2, rfl, rfl, rfl, h2, r2⟩ := trodAll_cons r1
  obtain ⟨rfl, rfl, rfl⟩ := trodAll_nil r2
  obtain rfl : args = #[v0, v1, v2] := by cases args; simp_all
  obtain ⟨rfl, rfl⟩ := trodVars_none hV
  have k0 := h0
  have k1 := h1
  have k2 := h2
  have lt0 : ∀ x ∈ p0, x.block < W.heap.size := by obtain ⟨m, hm⟩ := k0; exact DataW.trod_lt m _ _ _ hm
  have lt1 : ∀ x ∈ p1, x.block < W.heap.size := by obtain ⟨m, hm⟩ := k1; exact DataW.trod_lt m _ _ _ hm
  have lt2 : ∀ x ∈ p2, x.block < W.heap.size := by obtain ⟨m, hm⟩ := k2; exact DataW.trod_lt m _ _ _ hm
  obtain ⟨c0, c1, c2, c3, y0, y1, y2, y3, n, rfl, rfl, _, t0, t1, t2, t3⟩ := Joins.open_agg4 Tryd.underlying24 (by kernel_rfl) (by kernel_rfl) (hval 0 24 v0 rfl rfl) h0
  obtain ⟨n0, e0, -, -⟩ := DataW.trod_string Tryd.underlying9 t0
  obtain ⟨n1, e1, -, -⟩ := DataW.trod_string Tryd.underlying9 t1
  obtain ⟨n2, e2, -, -⟩ := DataW.trod_int Tryd.underlying22 t2
  obtain ⟨n3, e3, -, -⟩ := DataW.trod_int Tryd.underlying22 t3
  obtain rfl : c0 = .string n0 := by simpa using e0
  obtain rfl : c1 = .string n1 := by simpa using e1
  obtain rfl : c2 = .int .u64 n2 := by simpa using e2
  obtain rfl : c3 = .int .u64 n3 := by simpa using e3
  clear t0 t1 t2 t3 e0 e1 e2 e3
  obtain ⟨c0, c1, c2, c3, c4, c5, c6, z0, z1, z2, z3, z4, z5, z6, m, rfl, rfl, t0, t1, t2, t3, t4, t5, t6⟩ := open_agg7 Tryd.underlying27 (by kernel_rfl) (by kernel_rfl) (hval 1 27 v1 rfl rfl) h1
  obtain ⟨s0, e0, -, -⟩ := DataW.trod_string Tryd.underlying9 t0
  obtain ⟨s1, e1, -, -⟩ := DataW.trod_string Tryd.underlying9 t1
  obtain ⟨s2, e2, -, -⟩ := DataW.trod_string Tryd.underlying9 t2
  obtain ⟨s3, e3, -, w3⟩ := DataW.trod_int Tryd.underlying3 t3
  obtain ⟨A4, cap4, l4, rfl, hc4, hr4, hx4⟩ := C_of_strings Tryd.underlying25 Tryd.underlying9 (by kernel_rfl) t4
  obtain ⟨s5, e5, -, -⟩ := DataW.trod_int Tryd.underlying22 t5
  obtain ⟨s6, e6, -, -⟩ := DataW.trod_int Tryd.underlying22 t6
  obtain rfl : c0 = .string s0 := by simpa using e0
  obtain rfl : c1 = .string s1 := by simpa using e1
  obtain rfl : c2 = .string s2 := by simpa using e2
  obtain rfl : c3 = .int .i64 s3 := by simpa using e3
  obtain rfl : c5 = .int .u64 s5 := by simpa using e5
  obtain rfl : c6 = .int .u64 s6 := by simpa using e6
  clear t0 t1 t2 t3 t4 t5 t6 e0 e1 e2 e3 e5 e6
  have hl : l4.length < 2000000 := by
    have hb := bulks.bound hk
    have h1' := bulks.part_le (d := DataW.agg [z0.1, z1.1, z2.1, z3.1, z4.1, z5.1, z6.1]) (l := [DataW.agg [y0.1, y1.1, y2.1, y3.1], DataW.agg [z0.1, z1.1, z2.1, z3.1, z4.1, z5.1, z6.1], d2] ++ []) (by simp)
    have h2' : Rows.uptoBulk (DataW.agg [z0.1, z1.1, z2.1, z3.1, z4.1, z5.1, z6.1]) = Rows.uptoBulkAll [z0.1, z1.1, z2.1, z3.1, z4.1, z5.1, z6.1] + 1 := by simp [Rows.uptoBulk]
    have h3' := bulks.part_le (d := z4.1) (l := [z0.1, z1.1, z2.1, z3.1, z4.1, z5.1, z6.1]) (by simp)
    rcases hx4 with ⟨_, rfl⟩ | ⟨a, sp, ps, _, hx⟩
    · simp
    · have h4' := bulks.slice_le (H := H) (l4.map fun s => .lit (.string s.data.toList)) sp
      have h5' : Rows.uptoBulk z4.1 = Rows.uptoBulk (.slice (l4.map fun s => .lit (.string s.data.toList)) sp) := by rw [hx]
      simp only [List.length_map] at h4'
      omega
  obtain ⟨c0, c1, c2, c3, c4, c5, c6, z0', z1', z2', z3', z4', z5', z6', m', rfl, rfl, t0, t1, t2, t3, t4, t5, t6⟩ := open_agg7 Tryd.underlying29 (by kernel_rfl) (by kernel_rfl) (hval 2 29 v2 rfl rfl) h2
  obtain ⟨g0, e0, -, -⟩ := DataW.trod_string Tryd.underlying9 t0
  obtain ⟨g1, e1, -, -⟩ := DataW.trod_string Tryd.underlying9 t1
  obtain ⟨g2, e2, -, -⟩ := DataW.trod_string Tryd.underlying9 t2
  obtain ⟨g3, e3, -, w4⟩ := DataW.trod_int Tryd.underlying3 t3
  obtain ⟨g4, e4, -, -⟩ := DataW.trod_string Tryd.underlying9 t4
  obtain ⟨g5, e5, -, -⟩ := DataW.trod_int Tryd.underlying22 t5
  obtain ⟨g6, e6, -, -⟩ := DataW.trod_int Tryd.underlying22 t6
  obtain rfl : c0 = .string g0 := by simpa using e0
  obtain rfl : c1 = .string g1 := by simpa using e1
  obtain rfl : c2 = .string g2 := by simpa using e2
  obtain rfl : c3 = .int .i64 g3 := by simpa using e3
  obtain rfl : c4 = .string g4 := by simpa using e4
  obtain rfl : c5 = .int .u64 g5 := by simpa using e5
  obtain rfl : c6 = .int .u64 g6 := by simpa using e6
  clear t0 t1 t2 t3 t4 t5 t6 e0 e1 e2 e3 e4 e5 e6 hA0
  refine (law_calls n0 n1 n2 n3 s0 s1 s2 s3 A4 cap4 l4 s5 s6 g0 g1 g2 g3 g4 g5 g6 W (glob_of_laid hL hS) hr4 hc4 hl (i64_range w3) (i64_range w4)).mono fun e W' ⟨he, bel⟩ => ?_
  subst he
  exact ⟨_, rfl, _, _, _, [], _, [], hW', trodAll_mk1 (shut_bool Tryd.underlying4 _), (trodAll_cons_mk (Below.trod laidOut (by kernel_rfl) (of_decide_eq_true (by kernel_rfl)) k0 bel lt0) (trodAll_cons_mk (Below.trod laidOut (by kernel_rfl) (of_decide_eq_true (by kernel_rfl)) k1 bel lt1) (trodAll_cons_mk (Below.trod laidOut (by kernel_rfl) (of_decide_eq_true (by kernel_rfl)) k2 bel lt2) trodAll_mk0))), rfl, bel.frame _, fun h => by cases h⟩

set_option maxRecDepth 100000 in
theorem liftedUpto (os : Os) (started : os.Started) (H : Type) (enc : TypeId × Value → H) (F : Stop.Interp) :
    ReturnsInHanded {} Tryd.checked os 3 .any ((Rows.OpenSpec.upto Rows.recordsRowsSpec).preRow enc Tryd.prog Tryd.f3 Rows.recordsRowsUptoRow.domain false Rows.recordsRowsUptoRow.laid) (((Rows.OpenSpec.upto Rows.recordsRowsSpec).at F).post enc Tryd.prog Tryd.f3 false true false false) := by
  obtain ⟨places, hx⟩ := reads os enc
  refine returnsInHanded_of_row (C := Tryd.checked) (s := Rows.OpenSpec.upto Rows.recordsRowsSpec) own started (by kernel_rfl) Tryd.func3
    (witness_row_at (enc := enc) (C := Tryd.checked) false (laidWorld os) wArgs rfl (by kernel_rfl) (by kernel_rfl) (by kernel_rfl)
      (OpenSpec.preRow_of_cond 8 hx (by kernel_rfl) (fun k hk => by cases hk; kernel_rfl) (by kernel_rfl) (laid_met os))) ?_
  intro W base args ds gs before hval hW _ hcond _ hL hS _
  exact contract H enc W base args ds gs before hval hW (hcond _ rfl) hL hS
theorem saidUpto : Rows.RecordsRowsUptoSaid :=
  OpenClaim.holds_of_cond 3 Tryd.f3 rfl rfl rfl rfl rfl rfl rfl ⟨rfl, rfl, rfl, rfl, rfl⟩ rfl rfl rfl rfl rfl (by kernel_rfl) Tryd.func3 (by kernel_rfl)
    (of_decide_eq_true (by kernel_rfl)) (by unfold Func.isWrapper; first | (rw [if_pos (by decide +kernel)]; kernel_rfl) | (rw [if_neg (by decide +kernel)]; exact ⟨rfl, rfl⟩))
    (fun os started H enc _ F => by rw [OpenClaim.pre_eq_preRow]; exact liftedUpto os started H enc F)
theorem plain (f : FuncId) (fn : Func) (hf : Tryd.pinned.checked.prog.funcNamed "muster/musterlaw09.RecordsRows" = some f) (hfn : Tryd.pinned.checked.prog.funcs[f]? = some fn) :
    true = Tryd.pinned.checked.prog.looks [] ∧ ∀ (j : Nat) t, fn.params[j]? = some t → Tryd.pinned.checked.prog.wantsStandIn t = false := by
  obtain rfl : f = 3 := Option.some.inj ((show Tryd.prog.funcNamed "muster/musterlaw09.RecordsRows" = some 3 by kernel_rfl).symm.trans hf) |>.symm
  obtain rfl : fn = Tryd.f3 := (Option.some.inj (Tryd.func3.symm.trans hfn)).symm
  refine ⟨by kernel_rfl, fun j t ht => ?_⟩
  rw [Tryd.params3] at ht
  have ht' := Array.mem_of_getElem? ht
  simp only [List.mem_toArray, List.mem_cons, List.not_mem_nil, or_false] at ht'
  rcases ht' with rfl | rfl | rfl
  · exact (show Tryd.prog.wantsStandIn 24 = false by kernel_rfl)
  · exact (show Tryd.prog.wantsStandIn 27 = false by kernel_rfl)
  · exact (show Tryd.prog.wantsStandIn 29 = false by kernel_rfl)
/-- THE CARD. -/
theorem cardUpto : Rows.RecordsRowsUptoCardSaid :=
  Claim7.holds_tied_plain_at .later [] _ _ _ _ saidUpto (fun _ h => by cases h) (by kernel_rfl) (fun _ h => by cases h) recordsRowsUpto_row_tie rfl ⟨rfl, rfl⟩ (by kernel_rfl) rfl plain (by kernel_rfl)
#print axioms cardUpto
end Go.Proofs.YthalhlobmbedhaaDoor.P
