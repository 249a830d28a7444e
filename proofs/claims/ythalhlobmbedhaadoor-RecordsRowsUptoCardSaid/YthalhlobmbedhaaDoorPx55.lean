-- PRINTED by gprint.py (a program of this session over the kit's print) out of the translation. Not trusted: Lean checks it.
import Derived.Test.YthalhlobmbedhaaDoorPx0
import Derived.Test.YthalhlobmbedhaaDoorPx54
namespace Go.Proofs.YthalhlobmbedhaaDoor.P
open Go.RowKit Go.Proofs.YthalhlobmbedhaaDoorW.PrintWords Go.Proofs.YthalhlobmbedhaaDoorW.PrintLast Go.Proofs.YthalhlobmbedhaaDoorW.PrintMore
attribute [local go_sem] max2_int min2_int max_two min_two max_three min_three max_four min_four   -- for this text's walks alone
set_option linter.unusedVariables false
set_option linter.unusedSimpArgs false

/-! ### records_RowNode: function 10 -/
def records_RowNode.f (l0_0 : List (S39)) : Option (ByteArray × ByteArray × Int × Int) := (records_cells.f l0_0 4).bind fun t271 => (if 0 < (t271.length : Int) then (if 1 < (t271.length : Int) then (if 2 < (t271.length : Int) then (if 3 < (t271.length : Int) then (some ((rd_T39 t271 0).f0, (rd_T39 t271 1).f0, (rd_T39 t271 2).f1, (rd_T39 t271 3).f1)) else (none)) else (none)) else (none)) else (none))
def records_RowNode.T2 : Bool × List (List Nat × List Nat) := (true, [([], []), ([0], [0]), ([1], [1]), ([2], [2]), ([], []), ([4], [4]), ([5], [5]), ([6], [6]), ([], []), ([8], [8]), ([9], [9]), ([10], [10]), ([], []), ([12], [12]), ([13], [13]), ([14], [14]), ([3, 7, 11, 15], [3, 7, 11, 15]), ([16, 0, 1, 2, 3, 4, 5, 6, 7, 8, 9, 10, 11, 12, 13, 14, 15, 16], [16])])
def records_RowNode.B2 : List Nat := [0, 1, 3, 7, 0, 16, 48, 112, 0, 256, 768, 1792, 0, 4096, 12288, 28672, 65535, 131071]
theorem records_RowNode.tab2 : rtab .any (opsOf Tryd.f10 2) = records_RowNode.T2 := by kernel_rfl
theorem records_RowNode.bits2 : waitsOk records_RowNode.T2.2 records_RowNode.B2 = true := by kernel_rfl
set_option maxHeartbeats 8000000 in
set_option maxRecDepth 100000 in
theorem records_RowNode.calls (A0_0 : Option Addr) (c0_0 : Nat) (l0_0 : List (S39)) (r1 : ByteArray) (r2 : ByteArray) (r3 : Int) (r4 : Int) (w : World) (hr0_0 : Kd.C k39 w A0_0 l0_0.length l0_0) (hc0_0 : l0_0.length ≤ c0_0) (h : records_RowNode.f l0_0 = some (r1, r2, r3, r4)) :
    Calls Tryd.prog 10 #[.agg #[.slice A0_0 l0_0.length c0_0]] w fun e w' => e = .returned (.agg #[.string r1, .string r2, .int .u64 r3, .int .u64 r4]) ∧ Below w.heap.size w w' := by
  have hu33 := Tryd.underlying33
  have hu24 := Tryd.underlying24
  have HR0_0 := Aside0.mk hr0_0
  have HC0_0 := Aside0.mk hc0_0
  clear hr0_0 hc0_0
  have HB := Aside0.mk (Below.refl w.heap.size w)
  have H : ((records_cells.f l0_0 4).bind fun t271 => (if 0 < (t271.length : Int) then (if 1 < (t271.length : Int) then (if 2 < (t271.length : Int) then (if 3 < (t271.length : Int) then (some ((rd_T39 t271 0).f0, (rd_T39 t271 1).f0, (rd_T39 t271 2).f1, (rd_T39 t271 3).f1)) else (none)) else (none)) else (none)) else (none))) = some (r1, r2, r3, r4) := h
  clear h
  replace H := Option.bind_eq_some_iff.mp H
  obtain ⟨t271, A20, H⟩ := H
  replace H : (if 0 < (t271.length : Int) then (if 1 < (t271.length : Int) then (if 2 < (t271.length : Int) then (if 3 < (t271.length : Int) then (some ((rd_T39 t271 0).f0, (rd_T39 t271 1).f0, (rd_T39 t271 2).f1, (rd_T39 t271 3).f1)) else (none)) else (none)) else (none)) else (none)) = some (r1, r2, r3, r4) := H
  have A2 := Aside0.mk A20
  clear A20
  by_cases c3 : 0 < (t271.length : Int)
  · rw [if_pos c3] at H
    have c3b0 : decide (0 < (t271.length : Int)) = true := decide_eq_true c3
    have c3b1 : decide (0 < t271.length) = true := decide_eq_true (by omega)
    clear c3
    by_cases c4 : 1 < (t271.length : Int)
    · rw [if_pos c4] at H
      have c4b0 : decide (1 < (t271.length : Int)) = true := decide_eq_true c4
      have c4b1 : decide (1 < t271.length) = true := decide_eq_true (by omega)
      clear c4
      by_cases c5 : 2 < (t271.length : Int)
      · rw [if_pos c5] at H
        have c5b0 : decide (2 < (t271.length : Int)) = true := decide_eq_true c5
        have c5b1 : decide (2 < t271.length) = true := decide_eq_true (by omega)
        clear c5
        by_cases c6 : 3 < (t271.length : Int)
        · rw [if_pos c6] at H
          have c6b0 : decide (3 < (t271.length : Int)) = true := decide_eq_true c6
          have c6b1 : decide (3 < t271.length) = true := decide_eq_true (by omega)
          clear c6
          simp only [Option.some.injEq, Prod.mk.injEq] at H
          obtain ⟨rfl, rfl, rfl, rfl⟩ := H
          go_enter Tryd.func10, Tryd.ntmps10
          try go_wp2_with (first | ((with_reducible refine gate_dst (N := 1) rfl ?_); refine box_event ?hg (N := 1) ?hd (cs := #[.slice A0_0 l0_0.length c0_0]) (t := 33) ?hr ?_; (case hd => rfl); (case hg => rfl); (case hr => first | (go_simp; done) | (go_simp; rfl)); intro gb269 hg w7 hbox hb; have n0_ := Aside0.mk (below_step (by repeat (first | (with_reducible first | exact HB.out | apply below_alloc | apply pw_below_drewN | apply below_drew1) | exact HB.out)) hb); have n1_ := Aside0.mk (hbox); have n2_ := Aside0.mk ((by rw [hg]; exact (below_size (by repeat (first | (with_reducible first | exact HB.out | apply below_alloc | apply pw_below_drewN | apply below_drew1) | exact HB.out))) : w.heap.size ≤ gb269)); have n3_ := Aside0.mk ((by rw [hg]; exact (below_size (by repeat (first | (with_reducible first | exact HB.out | apply below_alloc | apply pw_below_drewN | apply below_drew1) | exact HB.out))) : w.heap.size ≤ gb269)); clear HB; have HB := n0_; have BK269 := n1_; have GW269 := n2_; have GE269 := n3_; clear n0_ n1_ n2_ n3_; clear hb hbox hg) | ((with_reducible refine gate_dst (N := 2) rfl ?_); refine box_event ?hg (N := 2) ?hd (cs := #[.string (⟨#[]⟩ : ByteArray), .string (⟨#[]⟩ : ByteArray), .int .u64 0, .int .u64 0]) (t := 24) ?hr ?_; (case hd => rfl); (case hg => rfl); (case hr => first | (go_simp; done) | (go_simp; rfl)); intro gb270 hg w8 hbox hb; have n0_ := Aside0.mk (blk_below (g := gb269) (o := .cells #[.slice A0_0 l0_0.length c0_0] 33 (0, 0)) (by (with_reducible repeat (first | refine blk_drewN ?_ _ | refine blk_drew ?_ | refine blk_alloc ?_ _)); exact BK269.out) hb); have n1_ := Aside0.mk (below_step (by repeat (first | (with_reducible first | exact HB.out | apply below_alloc | apply pw_below_drewN | apply below_drew1 | refine below_set ?_ GE269.out) | exact HB.out)) hb); have n2_ := Aside0.mk (hbox); have n3_ := Aside0.mk ((by rw [hg]; exact (below_size (by repeat (first | (with_reducible first | exact HB.out | apply below_alloc | apply pw_below_drewN | apply below_drew1 | refine below_set ?_ GE269.out) | exact HB.out))) : w.heap.size ≤ gb270)); have n4_ := Aside0.mk ((by rw [hg]; exact (below_size (by repeat (first | (with_reducible first | exact HB.out | apply below_alloc | apply pw_below_drewN | apply below_drew1 | refine below_set ?_ GE269.out) | exact HB.out))) : w.heap.size ≤ gb270)); have n5_ := Aside0.mk ((by rw [hg]; exact Nat.ne_of_lt (blk_lt (g := gb269) (o := .cells #[.slice A0_0 l0_0.length c0_0] 33 (0, 0)) (by (with_reducible repeat (first | refine blk_drewN ?_ _ | refine blk_drew ?_ | refine blk_alloc ?_ _)); exact BK269.out)) : gb269 ≠ gb270)); have n6_ := Aside0.mk ((by rw [hg]; exact Nat.ne_of_gt (blk_lt (g := gb269) (o := .cells #[.slice A0_0 l0_0.length c0_0] 33 (0, 0)) (by (with_reducible repeat (first | refine blk_drewN ?_ _ | refine blk_drew ?_ | refine blk_alloc ?_ _)); exact BK269.out)) : gb270 ≠ gb269)); clear BK269; clear HB; have BK269 := n0_; have HB := n1_; have BK270 := n2_; have GW270 := n3_; have GE270 := n4_; have NB269_270 := n5_; have NB270_269 := n6_; clear n0_ n1_ n2_ n3_ n4_ n5_ n6_; clear hb hbox hg; have hnb9 := NB269_270.out; have hnc9 := NB270_269.out; have hcz10_0 : w8.cell? ⟨gb269, 0, none⟩ = some (.slice A0_0 l0_0.length c0_0) := (blk_cell BK269.out 0).trans rfl; have hfz10_0 := blk_frozen BK269.out 0) | ((with_reducible refine gate_callee (f := 20) rfl ?_); refine goesL_ (some 5) rfl rfl Tryd.func20 (by kernel_rfl) rfl #[.agg #[.slice A0_0 l0_0.length c0_0], .int .i64 4] rfl (by (try simp only [List.map_toArray, List.map_cons, List.map_nil]); first | done | rfl | (simp only [List.length_drop, List.length_take]; rfl)) ?_; (with_reducible refine (records_cells.calls (fun k_ => k_ < w.heap.size) _ _ l0_0 4 t271 _ ?side1 A2.out).mono ?_); (case side1 => exact Kd.V_mk HC0_0.out (Kd.F_below (Kd.C_F k39_heap HR0_0.out) (by repeat (first | (with_reducible first | exact HB.out | apply below_alloc | apply pw_below_drewN | apply below_drew1 | refine below_set ?_ GE269.out | refine below_set ?_ GE270.out) | exact HB.out)))); rintro e w11 ⟨v272, rfl, ho0, hb⟩; refine ⟨_, rfl, ?_⟩; have n0_ := Aside0.mk (Kd.N_lower (Kd.N_mono (ok' := fun k_ => k_ ≠ gb269 ∧ k_ ≠ gb270) ho0 (fun k_ hk_ => ⟨Or.elim hk_ (fun hs_ => fun e_ => Nat.not_le.2 hs_ (by rw [e_]; exact GW269.out)) (fun hn_ => (Kd.freshB (g := gb269) (o := .cells #[.slice A0_0 l0_0.length c0_0] 33 (0, 0)) (by (with_reducible repeat (first | refine blk_drewN ?_ _ | refine blk_drew ?_ | refine blk_alloc ?_ _)); exact BK269.out) k_ hn_)), Or.elim hk_ (fun hs_ => fun e_ => Nat.not_le.2 hs_ (by rw [e_]; exact GW270.out)) (fun hn_ => (Kd.freshB (g := gb270) (o := .cells #[.string (⟨#[]⟩ : ByteArray), .string (⟨#[]⟩ : ByteArray), .int .u64 0, .int .u64 0] 24 (0, 0)) (by (with_reducible repeat (first | refine blk_drewN ?_ _ | refine blk_drew ?_ | refine blk_alloc ?_ _)); exact BK270.out) k_ hn_))⟩)) (below_size (by repeat (first | (with_reducible first | exact HB.out | apply below_alloc | apply pw_below_drewN | apply below_drew1 | refine below_set ?_ GE269.out | refine below_set ?_ GE270.out) | exact HB.out)))); have n1_ := Aside0.mk (blk_below (g := gb269) (o := .cells #[.slice A0_0 l0_0.length c0_0] 33 (0, 0)) (by (with_reducible repeat (first | refine blk_drewN ?_ _ | refine blk_drew ?_ | refine blk_alloc ?_ _)); exact BK269.out) hb); have n2_ := Aside0.mk (blk_below (g := gb270) (o := .cells #[.string (⟨#[]⟩ : ByteArray), .string (⟨#[]⟩ : ByteArray), .int .u64 0, .int .u64 0] 24 (0, 0)) (by (with_reducible repeat (first | refine blk_drewN ?_ _ | refine blk_drew ?_ | refine blk_alloc ?_ _)); exact BK270.out) hb); have n3_ := Aside0.mk (below_step (by repeat (first | (with_reducible first | exact HB.out | apply below_alloc | apply pw_below_drewN | apply below_drew1 | refine below_set ?_ GE269.out | refine below_set ?_ GE270.out) | exact HB.out)) hb); clear BK269; clear BK270; clear HB; have HO273 := n0_; have BK269 := n1_; have BK270 := n2_; have HB := n3_; clear n0_ n1_ n2_ n3_; (try clear hb); (try clear hb2); (try clear hk); (try clear hi); (try clear ho0)))
          have n0_ := Aside0.mk (Kd.N_drew HO273.out)
          have n1_ := Aside0.mk (blk_drew BK269.out)
          have n2_ := Aside0.mk (blk_drew BK270.out)
          have n3_ := Aside0.mk (below_drew1 HB.out)
          clear HO273
          clear BK269
          clear BK270
          clear HB
          have HO273 := n0_
          have BK269 := n1_
          have BK270 := n2_
          have HB := n3_
          clear n0_ n1_ n2_ n3_
          obtain ⟨Ao13, co13, eo13⟩ := Kd.N_slice HO273.out
          (first | subst eo13 | (injection eo13 with f1_ f2_ f3_; have f4_ := f1_.symm; have f5_ := f3_.symm; clear f1_ f2_ f3_; subst f4_; subst f5_))
          have p274 : 0 ≤ (0 : Int) := (by omega)
          have q274 : 0 < (t271.length : Int) := of_decide_eq_true (by first | (with_reducible assumption) | assumption)
          obtain ⟨ad274, A274_2, c274_2, e274, hx274_0, hx274_1, hx274_2, hl274_2, hi274_2⟩ := at_T39 (Kd.N_reads' HO273.out).2.2 0 p274 q274
          cases e274
          obtain ⟨ce274, hce274, hMe274, hcc274⟩ := Kd.N_get HO273.out z39 0 p274 (by first | exact q274 | exact of_decide_eq_true (by first | (with_reducible assumption) | assumption) | (have e_ := (Kd.N_reads' HO273.out).1; omega))
          obtain ⟨ua274_2, uc274_2, rfl, ul274_2, ge274_2⟩ := k39_openF hMe274
          have hv274_2 := hcc274 2 _ rfl
          rw [add_field _ _ 2 (by omega)] at hv274_2
          replace hv274_2 := Option.some.inj (hv274_2.symm.trans hx274_2)
          injection hv274_2 with hva_ hvn_ hvc_
          rw [hva_] at ge274_2
          rw [hvc_] at ul274_2
          have HL274_2 := Aside0.mk (show Kd.V Kd.string 9 _ w.heap.size _ _ ((rd_T39 t271 0).f2) from Kd.V_mk ul274_2 ge274_2)
          clear hva_ hvn_ hvc_ ge274_2 ul274_2
          clear hcc274 hce274
          have qi274 : (0 < t271.length) = True := eq_true (by omega)
          (try rw [show ((0 : Int)).toNat = 0 from rfl] at hx274_0)
          (try rw [show 0 * 3 = 0 from rfl] at hx274_0)
          (try rw [Addr.add_zero'] at hx274_0)
          (try rw [show ((0 : Int)).toNat = 0 from rfl] at hx274_1)
          (try rw [show 0 * 3 = 0 from rfl] at hx274_1)
          (try rw [Addr.add_zero'] at hx274_1)
          (try rw [show ((0 : Int)).toNat = 0 from rfl] at hx274_2)
          (try rw [show 0 * 3 = 0 from rfl] at hx274_2)
          (try rw [Addr.add_zero'] at hx274_2)
          have HR274_2 := Aside0.mk hi274_2
          have HC274_2 := Aside0.mk hl274_2
          clear hi274_2 hl274_2
          replace p274 := eq_true p274
          replace q274 := eq_true q274
          have p275 : 0 ≤ (1 : Int) := (by omega)
          have q275 : 1 < (t271.length : Int) := of_decide_eq_true (by first | (with_reducible assumption) | assumption)
          obtain ⟨ad275, A275_2, c275_2, e275, hx275_0, hx275_1, hx275_2, hl275_2, hi275_2⟩ := at_T39 (Kd.N_reads' HO273.out).2.2 1 p275 q275
          obtain rfl : ad274 = ad275 := (by injection e275)
          obtain ⟨ce275, hce275, hMe275, hcc275⟩ := Kd.N_get HO273.out z39 1 p275 (by first | exact q275 | exact of_decide_eq_true (by first | (with_reducible assumption) | assumption) | (have e_ := (Kd.N_reads' HO273.out).1; omega))
          obtain ⟨ua275_2, uc275_2, rfl, ul275_2, ge275_2⟩ := k39_openF hMe275
          have hv275_2 := hcc275 2 _ rfl
          rw [add_field _ _ 2 (by omega)] at hv275_2
          replace hv275_2 := Option.some.inj (hv275_2.symm.trans hx275_2)
          injection hv275_2 with hva_ hvn_ hvc_
          rw [hva_] at ge275_2
          rw [hvc_] at ul275_2
          have HL275_2 := Aside0.mk (show Kd.V Kd.string 9 _ w.heap.size _ _ ((rd_T39 t271 1).f2) from Kd.V_mk ul275_2 ge275_2)
          clear hva_ hvn_ hvc_ ge275_2 ul275_2
          clear hcc275 hce275
          (try simp only [show (1 : Int).toNat = 1 from rfl, Nat.reduceMul, Nat.reduceEqDiff, Go.Addr.add, ↓reduceIte] at hx275_0)
          (try simp only [show (1 : Int).toNat = 1 from rfl, Nat.reduceMul, Nat.reduceEqDiff, Go.Addr.add, ↓reduceIte] at hx275_1)
          (try simp only [show (1 : Int).toNat = 1 from rfl, Nat.reduceMul, Nat.reduceEqDiff, Go.Addr.add, ↓reduceIte] at hx275_2)
          have qi275 : (1 < t271.length) = True := eq_true (by omega)
          (try rw [show ((1 : Int)).toNat = 1 from rfl] at hx275_0)
          (try rw [show 1 * 3 = 3 from rfl] at hx275_0)
          (try rw [show ((1 : Int)).toNat = 1 from rfl] at hx275_1)
          (try rw [show 1 * 3 = 3 from rfl] at hx275_1)
          (try rw [show ((1 : Int)).toNat = 1 from rfl] at hx275_2)
          (try rw [show 1 * 3 = 3 from rfl] at hx275_2)
          have HR275_2 := Aside0.mk hi275_2
          have HC275_2 := Aside0.mk hl275_2
          clear hi275_2 hl275_2
          replace p275 := eq_true p275
          replace q275 := eq_true q275
          have p276 : 0 ≤ (2 : Int) := (by omega)
          have q276 : 2 < (t271.length : Int) := of_decide_eq_true (by first | (with_reducible assumption) | assumption)
          obtain ⟨ad276, A276_2, c276_2, e276, hx276_0, hx276_1, hx276_2, hl276_2, hi276_2⟩ := at_T39 (Kd.N_reads' HO273.out).2.2 2 p276 q276
          obtain rfl : ad274 = ad276 := (by injection e276)
          obtain ⟨ce276, hce276, hMe276, hcc276⟩ := Kd.N_get HO273.out z39 2 p276 (by first | exact q276 | exact of_decide_eq_true (by first | (with_reducible assumption) | assumption) | (have e_ := (Kd.N_reads' HO273.out).1; omega))
          obtain ⟨ua276_2, uc276_2, rfl, ul276_2, ge276_2⟩ := k39_openF hMe276
          have hv276_2 := hcc276 2 _ rfl
          rw [add_field _ _ 2 (by omega)] at hv276_2
          replace hv276_2 := Option.some.inj (hv276_2.symm.trans hx276_2)
          injection hv276_2 with hva_ hvn_ hvc_
          rw [hva_] at ge276_2
          rw [hvc_] at ul276_2
          have HL276_2 := Aside0.mk (show Kd.V Kd.string 9 _ w.heap.size _ _ ((rd_T39 t271 2).f2) from Kd.V_mk ul276_2 ge276_2)
          clear hva_ hvn_ hvc_ ge276_2 ul276_2
          clear hcc276 hce276
          (try simp only [show (2 : Int).toNat = 2 from rfl, Nat.reduceMul, Nat.reduceEqDiff, Go.Addr.add, ↓reduceIte] at hx276_0)
          (try simp only [show (2 : Int).toNat = 2 from rfl, Nat.reduceMul, Nat.reduceEqDiff, Go.Addr.add, ↓reduceIte] at hx276_1)
          (try simp only [show (2 : Int).toNat = 2 from rfl, Nat.reduceMul, Nat.reduceEqDiff, Go.Addr.add, ↓reduceIte] at hx276_2)
          have qi276 : (2 < t271.length) = True := eq_true (by omega)
          (try rw [show ((2 : Int)).toNat = 2 from rfl] at hx276_0)
          (try rw [show 2 * 3 = 6 from rfl] at hx276_0)
          (try rw [show ((2 : Int)).toNat = 2 from rfl] at hx276_1)
          (try rw [show 2 * 3 = 6 from rfl] at hx276_1)
          (try rw [show ((2 : Int)).toNat = 2 from rfl] at hx276_2)
          (try rw [show 2 * 3 = 6 from rfl] at hx276_2)
          have HR276_2 := Aside0.mk hi276_2
          have HC276_2 := Aside0.mk hl276_2
          clear hi276_2 hl276_2
          replace p276 := eq_true p276
          replace q276 := eq_true q276
          have p277 : 0 ≤ (3 : Int) := (by omega)
          have q277 : 3 < (t271.length : Int) := of_decide_eq_true (by first | (with_reducible assumption) | assumption)
          obtain ⟨ad277, A277_2, c277_2, e277, hx277_0, hx277_1, hx277_2, hl277_2, hi277_2⟩ := at_T39 (Kd.N_reads' HO273.out).2.2 3 p277 q277
          obtain rfl : ad274 = ad277 := (by injection e277)
          obtain ⟨ce277, hce277, hMe277, hcc277⟩ := Kd.N_get HO273.out z39 3 p277 (by first | exact q277 | exact of_decide_eq_true (by first | (with_reducible assumption) | assumption) | (have e_ := (Kd.N_reads' HO273.out).1; omega))
          obtain ⟨ua277_2, uc277_2, rfl, ul277_2, ge277_2⟩ := k39_openF hMe277
          have hv277_2 := hcc277 2 _ rfl
          rw [add_field _ _ 2 (by omega)] at hv277_2
          replace hv277_2 := Option.some.inj (hv277_2.symm.trans hx277_2)
          injection hv277_2 with hva_ hvn_ hvc_
          rw [hva_] at ge277_2
          rw [hvc_] at ul277_2
          have HL277_2 := Aside0.mk (show Kd.V Kd.string 9 _ w.heap.size _ _ ((rd_T39 t271 3).f2) from Kd.V_mk ul277_2 ge277_2)
          clear hva_ hvn_ hvc_ ge277_2 ul277_2
          clear hcc277 hce277
          (try simp only [show (3 : Int).toNat = 3 from rfl, Nat.reduceMul, Nat.reduceEqDiff, Go.Addr.add, ↓reduceIte] at hx277_0)
          (try simp only [show (3 : Int).toNat = 3 from rfl, Nat.reduceMul, Nat.reduceEqDiff, Go.Addr.add, ↓reduceIte] at hx277_1)
          (try simp only [show (3 : Int).toNat = 3 from rfl, Nat.reduceMul, Nat.reduceEqDiff, Go.Addr.add, ↓reduceIte] at hx277_2)
          have qi277 : (3 < t271.length) = True := eq_true (by omega)
          (try rw [show ((3 : Int)).toNat = 3 from rfl] at hx277_0)
          (try rw [show 3 * 3 = 9 from rfl] at hx277_0)
          (try rw [show ((3 : Int)).toNat = 3 from rfl] at hx277_1)
          (try rw [show 3 * 3 = 9 from rfl] at hx277_1)
          (try rw [show ((3 : Int)).toNat = 3 from rfl] at hx277_2)
          (try rw [show 3 * 3 = 9 from rfl] at hx277_2)
          have HR277_2 := Aside0.mk hi277_2
          have HC277_2 := Aside0.mk hl277_2
          clear hi277_2 hl277_2
          replace p277 := eq_true p277
          replace q277 := eq_true q277
          refine start_ (n := 18) (S := fun w' => w'.cell? ad274 = some (.string ((rd_T39 t271 0).f0)) ∧ w'.cell? ⟨ad274.block, ad274.off + 1, none⟩ = some (.int .u64 ((rd_T39 t271 0).f1)) ∧ w'.cell? ⟨ad274.block, ad274.off + 2, none⟩ = some (.slice A274_2 ((rd_T39 t271 0).f2).length c274_2) ∧ w'.cell? ⟨ad274.block, ad274.off + 3, none⟩ = some (.string ((rd_T39 t271 1).f0)) ∧ w'.cell? ⟨ad274.block, ad274.off + 3 + 1, none⟩ = some (.int .u64 ((rd_T39 t271 1).f1)) ∧ w'.cell? ⟨ad274.block, ad274.off + 3 + 2, none⟩ = some (.slice A275_2 ((rd_T39 t271 1).f2).length c275_2) ∧ w'.cell? ⟨ad274.block, ad274.off + 6, none⟩ = some (.string ((rd_T39 t271 2).f0)) ∧ w'.cell? ⟨ad274.block, ad274.off + 6 + 1, none⟩ = some (.int .u64 ((rd_T39 t271 2).f1)) ∧ w'.cell? ⟨ad274.block, ad274.off + 6 + 2, none⟩ = some (.slice A276_2 ((rd_T39 t271 2).f2).length c276_2) ∧ w'.cell? ⟨ad274.block, ad274.off + 9, none⟩ = some (.string ((rd_T39 t271 3).f0)) ∧ w'.cell? ⟨ad274.block, ad274.off + 9 + 1, none⟩ = some (.int .u64 ((rd_T39 t271 3).f1)) ∧ w'.cell? ⟨ad274.block, ad274.off + 9 + 2, none⟩ = some (.slice A277_2 ((rd_T39 t271 3).f2).length c277_2)) (ds := []) #[false, false, false, false, false, false, false, false, false, false, false, false, false, false, false, false, false, false] (by kernel_rfl) rfl rfl ⟨hx274_0, hx274_1, hx274_2, hx275_0, hx275_1, hx275_2, hx276_0, hx276_1, hx276_2, hx277_0, hx277_1, hx277_2⟩ (fun hHeld => ?_); refine with_tabW records_RowNode.tab2 records_RowNode.bits2 (fun HT_ HW_ => ?_)
          generalize w11.drew = w12 at HO273 BK269 BK270 HB HL274_2 HL275_2 HL276_2 HL277_2 HR274_2 HR275_2 HR276_2 HR277_2 hx274_0 hx274_1 hx274_2 hx275_0 hx275_1 hx275_2 hx276_0 hx276_1 hx276_2 hx277_0 hx277_1 hx277_2 hHeld ⊢
          refine pure_ (i := 0) (N := some 6) (v := ?_) (a' := ?_) #[true, false, false, false, false, false, false, false, false, false, false, false, false, false, false, false, false, false] rfl rfl (any_of HT_.out (by kernel_rfl)) (fun _ _ _ h => h) (Or.inl ⟨by rfl, ?_⟩) ?_ ?_
          rotate_left
          · intro w'
            go_simp
            with_reducible rfl
          rotate_left
          · simp only [Act.put, List.setIfInBounds_toArray, List.set_cons_zero, List.set_cons_succ, i64_w, i32_w]
            rfl
          refine pure_ (i := 1) (N := some 7) (v := ?_) (a' := ?_) #[true, true, false, false, false, false, false, false, false, false, false, false, false, false, false, false, false, false] rfl rfl (any_of HT_.out (by kernel_rfl)) (fun _ _ _ h => h) (Or.inl ⟨by rfl, ?_⟩) ?_ ?_
          rotate_left
          · intro w'
            go_simp
            with_reducible rfl
          rotate_left
          · simp only [Act.put, List.setIfInBounds_toArray, List.set_cons_zero, List.set_cons_succ, i64_w, i32_w]
            rfl
          refine pure_ (i := 2) (N := some 8) (v := ?_) (a' := ?_) #[true, true, true, false, false, false, false, false, false, false, false, false, false, false, false, false, false, false] rfl rfl (any_of HT_.out (by kernel_rfl)) (fun _ _ _ h => h) (Or.inl ⟨by rfl, ?_⟩) ?_ ?_
          rotate_left
          · intro w'
            go_simp
            with_reducible rfl
          rotate_left
          · simp only [Act.put, List.setIfInBounds_toArray, List.set_cons_zero, List.set_cons_succ, i64_w, i32_w]
            rfl
          refine pure_ (i := 4) (N := some 10) (v := ?_) (a' := ?_) #[true, true, true, false, true, false, false, false, false, false, false, false, false, false, false, false, false, false] rfl rfl (any_of HT_.out (by kernel_rfl)) (fun _ _ _ h => h) (Or.inl ⟨by rfl, ?_⟩) ?_ ?_
          rotate_left
          · intro w'
            go_simp
            with_reducible rfl
          rotate_left
          · simp only [Act.put, List.setIfInBounds_toArray, List.set_cons_zero, List.set_cons_succ, i64_w, i32_w]
            rfl
          refine pure_ (i := 5) (N := some 11) (v := ?_) (a' := ?_) #[true, true, true, false, true, true, false, false, false, false, false, false, false, false, false, false, false, false] rfl rfl (any_of HT_.out (by kernel_rfl)) (fun _ _ _ h => h) (Or.inl ⟨by rfl, ?_⟩) ?_ ?_
          rotate_left
          · intro w'
            go_simp
            with_reducible rfl
          rotate_left
          · simp only [Act.put, List.setIfInBounds_toArray, List.set_cons_zero, List.set_cons_succ, i64_w, i32_w]
            rfl
          refine pure_ (i := 6) (N := some 12) (v := ?_) (a' := ?_) #[true, true, true, false, true, true, true, false, false, false, false, false, false, false, false, false, false, false] rfl rfl (any_of HT_.out (by kernel_rfl)) (fun _ _ _ h => h) (Or.inl ⟨by rfl, ?_⟩) ?_ ?_
          rotate_left
          · intro w'
            go_simp
            with_reducible rfl
          rotate_left
          · simp only [Act.put, List.setIfInBounds_toArray, List.set_cons_zero, List.set_cons_succ, i64_w, i32_w]
            rfl
          refine pure_ (i := 8) (N := some 14) (v := ?_) (a' := ?_) #[true, true, true, false, true, true, true, false, true, false, false, false, false, false, false, false, false, false] rfl rfl (any_of HT_.out (by kernel_rfl)) (fun _ _ _ h => h) (Or.inl ⟨by rfl, ?_⟩) ?_ ?_
          rotate_left
          · intro w'
            go_simp
            with_reducible rfl
          rotate_left
          · simp only [Act.put, List.setIfInBounds_toArray, List.set_cons_zero, List.set_cons_succ, i64_w, i32_w]
            rfl
          refine pure_ (i := 9) (N := some 15) (v := ?_) (a' := ?_) #[true, true, true, false, true, true, true, false, true, true, false, false, false, false, false, false, false, false] rfl rfl (any_of HT_.out (by kernel_rfl)) (fun _ _ _ h => h) (Or.inl ⟨by rfl, ?_⟩) ?_ ?_
          rotate_left
          · intro w'
            go_simp
            with_reducible rfl
          rotate_left
          · simp only [Act.put, List.setIfInBounds_toArray, List.set_cons_zero, List.set_cons_succ, i64_w, i32_w]
            rfl
          refine pure_ (i := 10) (N := some 16) (v := ?_) (a' := ?_) #[true, true, true, false, true, true, true, false, true, true, true, false, false, false, false, false, false, false] rfl rfl (any_of HT_.out (by kernel_rfl)) (fun _ _ _ h => h) (Or.inl ⟨by rfl, ?_⟩) ?_ ?_
          rotate_left
          · intro w'
            go_simp
            with_reducible rfl
          rotate_left
          · simp only [Act.put, List.setIfInBounds_toArray, List.set_cons_zero, List.set_cons_succ, i64_w, i32_w]
            rfl
          refine pure_ (i := 12) (N := some 18) (v := ?_) (a' := ?_) #[true, true, true, false, true, true, true, false, true, true, true, false, true, false, false, false, false, false] rfl rfl (any_of HT_.out (by kernel_rfl)) (fun _ _ _ h => h) (Or.inl ⟨by rfl, ?_⟩) ?_ ?_
          rotate_left
          · intro w'
            go_simp
            with_reducible rfl
          rotate_left
          · simp only [Act.put, List.setIfInBounds_toArray, List.set_cons_zero, List.set_cons_succ, i64_w, i32_w]
            rfl
          refine pure_ (i := 13) (N := some 19) (v := ?_) (a' := ?_) #[true, true, true, false, true, true, true, false, true, true, true, false, true, true, false, false, false, false] rfl rfl (any_of HT_.out (by kernel_rfl)) (fun _ _ _ h => h) (Or.inl ⟨by rfl, ?_⟩) ?_ ?_
          rotate_left
          · intro w'
            go_simp
            with_reducible rfl
          rotate_left
          · simp only [Act.put, List.setIfInBounds_toArray, List.set_cons_zero, List.set_cons_succ, i64_w, i32_w]
            rfl
          refine pure_ (i := 14) (N := some 20) (v := ?_) (a' := ?_) #[true, true, true, false, true, true, true, false, true, true, true, false, true, true, true, false, false, false] rfl rfl (any_of HT_.out (by kernel_rfl)) (fun _ _ _ h => h) (Or.inl ⟨by rfl, ?_⟩) ?_ ?_
          rotate_left
          · intro w'
            go_simp
            with_reducible rfl
          rotate_left
          · simp only [Act.put, List.setIfInBounds_toArray, List.set_cons_zero, List.set_cons_succ, i64_w, i32_w]
            rfl
          refine take_ (i := 3) (N := some 9) (v := ?_) (a' := ?_) #[true, true, true, true, true, true, true, false, true, true, true, false, true, true, true, false, false, false] rfl rfl (take_ofW HT_.out HW_.out (by kernel_rfl)) (fun _ _ _ h => h) (Or.inl ⟨by rfl, ?_⟩) hHeld ?_ ?_
          rotate_left
          · rintro w' ⟨s0, s1, s2, s3, s4, s5, s6, s7, s8, s9, s10, s11⟩
            go_simp
            with_reducible rfl
          rotate_left
          · simp only [Act.put, List.setIfInBounds_toArray, List.set_cons_zero, List.set_cons_succ, i64_w, i32_w]
            rfl
          refine take_ (i := 7) (N := some 13) (v := ?_) (a' := ?_) #[true, true, true, true, true, true, true, true, true, true, true, false, true, true, true, false, false, false] rfl rfl (take_ofW HT_.out HW_.out (by kernel_rfl)) (fun _ _ _ h => h) (Or.inl ⟨by rfl, ?_⟩) hHeld ?_ ?_
          rotate_left
          · rintro w' ⟨s0, s1, s2, s3, s4, s5, s6, s7, s8, s9, s10, s11⟩
            go_simp
            with_reducible rfl
          rotate_left
          · simp only [Act.put, List.setIfInBounds_toArray, List.set_cons_zero, List.set_cons_succ, i64_w, i32_w]
            rfl
          refine take_ (i := 11) (N := some 17) (v := ?_) (a' := ?_) #[true, true, true, true, true, true, true, true, true, true, true, true, true, true, true, false, false, false] rfl rfl (take_ofW HT_.out HW_.out (by kernel_rfl)) (fun _ _ _ h => h) (Or.inl ⟨by rfl, ?_⟩) hHeld ?_ ?_
          rotate_left
          · rintro w' ⟨s0, s1, s2, s3, s4, s5, s6, s7, s8, s9, s10, s11⟩
            go_simp
            with_reducible rfl
          rotate_left
          · simp only [Act.put, List.setIfInBounds_toArray, List.set_cons_zero, List.set_cons_succ, i64_w, i32_w]
            rfl
          refine take_ (i := 15) (N := some 21) (v := ?_) (a' := ?_) #[true, true, true, true, true, true, true, true, true, true, true, true, true, true, true, true, false, false] rfl rfl (take_ofW HT_.out HW_.out (by kernel_rfl)) (fun _ _ _ h => h) (Or.inl ⟨by rfl, ?_⟩) hHeld ?_ ?_
          rotate_left
          · rintro w' ⟨s0, s1, s2, s3, s4, s5, s6, s7, s8, s9, s10, s11⟩
            go_simp
            with_reducible rfl
          rotate_left
          · simp only [Act.put, List.setIfInBounds_toArray, List.set_cons_zero, List.set_cons_succ, i64_w, i32_w]
            rfl
          refine pure_ (i := 16) (N := some 22) (v := ?_) (a' := ?_) #[true, true, true, true, true, true, true, true, true, true, true, true, true, true, true, true, true, false] rfl rfl (any_of HT_.out (by kernel_rfl)) (fun _ _ _ h => h) (Or.inl ⟨by rfl, ?_⟩) ?_ ?_
          rotate_left
          · intro w'
            go_simp
            with_reducible rfl
          rotate_left
          · simp only [Act.put, List.setIfInBounds_toArray, List.set_cons_zero, List.set_cons_succ, i64_w, i32_w]
            rfl
          refine one_ (i := 17) (N := none) #[true, true, true, true, true, true, true, true, true, true, true, true, true, true, true, true, true, true] rfl rfl (one_of HT_.out (by kernel_rfl)) (by decide) (fun K hK => ?_)
          have hs14 : w12.cell? ⟨gb270, 0, none⟩ = some (.string (⟨#[]⟩ : ByteArray)) := (blk_cell BK270.out 0).trans rfl
          have hfs14 := blk_frozen BK270.out 0
          have hns14_0 := NB269_270.out
          have hms14_0 := NB270_269.out
          have hs15 : w12.cell? ⟨gb270, 1, none⟩ = some (.string (⟨#[]⟩ : ByteArray)) := (blk_cell BK270.out 1).trans rfl
          have hfs15 := blk_frozen BK270.out 1
          have hns15_0 := NB269_270.out
          have hms15_0 := NB270_269.out
          have hs16 : w12.cell? ⟨gb270, 2, none⟩ = some (.int .u64 0) := (blk_cell BK270.out 2).trans rfl
          have hfs16 := blk_frozen BK270.out 2
          have hns16_0 := NB269_270.out
          have hms16_0 := NB270_269.out
          have hs17 : w12.cell? ⟨gb270, 3, none⟩ = some (.int .u64 0) := (blk_cell BK270.out 3).trans rfl
          have hfs17 := blk_frozen BK270.out 3
          have hns17_0 := NB269_270.out
          have hms17_0 := NB270_269.out
          refine skip_ (w1 := ?_) (by rfl) rfl ?_ ?_
          rotate_left
          · go_simp
            rfl
          refine hK.out _ _ ⟨((cell_far (p := ⟨gb270, _, none⟩) (by first | exact Kd.own_blk (Kd.N_away HO273.out (fun _ hk => hk.2)) | (rw [add_block]; exact Kd.own_blk (Kd.N_away HO273.out (fun _ hk => hk.2))) | (show (Addr.add _ _).block ≠ _; rw [add_block]; exact Kd.own_blk (Kd.N_away HO273.out (fun _ hk => hk.2))) | (dsimp only; exact Kd.own_blk (Kd.N_away HO273.out (fun _ hk => hk.2)))) _).trans (((cell_far (p := ⟨gb270, _, none⟩) (by first | exact Kd.own_blk (Kd.N_away HO273.out (fun _ hk => hk.2)) | (rw [add_block]; exact Kd.own_blk (Kd.N_away HO273.out (fun _ hk => hk.2))) | (show (Addr.add _ _).block ≠ _; rw [add_block]; exact Kd.own_blk (Kd.N_away HO273.out (fun _ hk => hk.2))) | (dsimp only; exact Kd.own_blk (Kd.N_away HO273.out (fun _ hk => hk.2)))) _).trans (((cell_far (p := ⟨gb270, _, none⟩) (by first | exact Kd.own_blk (Kd.N_away HO273.out (fun _ hk => hk.2)) | (rw [add_block]; exact Kd.own_blk (Kd.N_away HO273.out (fun _ hk => hk.2))) | (show (Addr.add _ _).block ≠ _; rw [add_block]; exact Kd.own_blk (Kd.N_away HO273.out (fun _ hk => hk.2))) | (dsimp only; exact Kd.own_blk (Kd.N_away HO273.out (fun _ hk => hk.2)))) _).trans (((cell_far (p := ⟨gb270, _, none⟩) (by first | exact Kd.own_blk (Kd.N_away HO273.out (fun _ hk => hk.2)) | (rw [add_block]; exact Kd.own_blk (Kd.N_away HO273.out (fun _ hk => hk.2))) | (show (Addr.add _ _).block ≠ _; rw [add_block]; exact Kd.own_blk (Kd.N_away HO273.out (fun _ hk => hk.2))) | (dsimp only; exact Kd.own_blk (Kd.N_away HO273.out (fun _ hk => hk.2)))) _).trans (hHeld.1)))))))), ((cell_far (p := ⟨gb270, _, none⟩) (by first | exact Kd.own_blk (Kd.N_away HO273.out (fun _ hk => hk.2)) | (rw [add_block]; exact Kd.own_blk (Kd.N_away HO273.out (fun _ hk => hk.2))) | (show (Addr.add _ _).block ≠ _; rw [add_block]; exact Kd.own_blk (Kd.N_away HO273.out (fun _ hk => hk.2))) | (dsimp only; exact Kd.own_blk (Kd.N_away HO273.out (fun _ hk => hk.2)))) _).trans (((cell_far (p := ⟨gb270, _, none⟩) (by first | exact Kd.own_blk (Kd.N_away HO273.out (fun _ hk => hk.2)) | (rw [add_block]; exact Kd.own_blk (Kd.N_away HO273.out (fun _ hk => hk.2))) | (show (Addr.add _ _).block ≠ _; rw [add_block]; exact Kd.own_blk (Kd.N_away HO273.out (fun _ hk => hk.2))) | (dsimp only; exact Kd.own_blk (Kd.N_away HO273.out (fun _ hk => hk.2)))) _).trans (((cell_far (p := ⟨gb270, _, none⟩) (by first | exact Kd.own_blk (Kd.N_away HO273.out (fun _ hk => hk.2)) | (rw [add_block]; exact Kd.own_blk (Kd.N_away HO273.out (fun _ hk => hk.2))) | (show (Addr.add _ _).block ≠ _; rw [add_block]; exact Kd.own_blk (Kd.N_away HO273.out (fun _ hk => hk.2))) | (dsimp only; exact Kd.own_blk (Kd.N_away HO273.out (fun _ hk => hk.2)))) _).trans (((cell_far (p := ⟨gb270, _, none⟩) (by first | exact Kd.own_blk (Kd.N_away HO273.out (fun _ hk => hk.2)) | (rw [add_block]; exact Kd.own_blk (Kd.N_away HO273.out (fun _ hk => hk.2))) | (show (Addr.add _ _).block ≠ _; rw [add_block]; exact Kd.own_blk (Kd.N_away HO273.out (fun _ hk => hk.2))) | (dsimp only; exact Kd.own_blk (Kd.N_away HO273.out (fun _ hk => hk.2)))) _).trans (hHeld.2.1)))))))), ((cell_far (p := ⟨gb270, _, none⟩) (by first | exact Kd.own_blk (Kd.N_away HO273.out (fun _ hk => hk.2)) | (rw [add_block]; exact Kd.own_blk (Kd.N_away HO273.out (fun _ hk => hk.2))) | (show (Addr.add _ _).block ≠ _; rw [add_block]; exact Kd.own_blk (Kd.N_away HO273.out (fun _ hk => hk.2))) | (dsimp only; exact Kd.own_blk (Kd.N_away HO273.out (fun _ hk => hk.2)))) _).trans (((cell_far (p := ⟨gb270, _, none⟩) (by first | exact Kd.own_blk (Kd.N_away HO273.out (fun _ hk => hk.2)) | (rw [add_block]; exact Kd.own_blk (Kd.N_away HO273.out (fun _ hk => hk.2))) | (show (Addr.add _ _).block ≠ _; rw [add_block]; exact Kd.own_blk (Kd.N_away HO273.out (fun _ hk => hk.2))) | (dsimp only; exact Kd.own_blk (Kd.N_away HO273.out (fun _ hk => hk.2)))) _).trans (((cell_far (p := ⟨gb270, _, none⟩) (by first | exact Kd.own_blk (Kd.N_away HO273.out (fun _ hk => hk.2)) | (rw [add_block]; exact Kd.own_blk (Kd.N_away HO273.out (fun _ hk => hk.2))) | (show (Addr.add _ _).block ≠ _; rw [add_block]; exact Kd.own_blk (Kd.N_away HO273.out (fun _ hk => hk.2))) | (dsimp only; exact Kd.own_blk (Kd.N_away HO273.out (fun _ hk => hk.2)))) _).trans (((cell_far (p := ⟨gb270, _, none⟩) (by first | exact Kd.own_blk (Kd.N_away HO273.out (fun _ hk => hk.2)) | (rw [add_block]; exact Kd.own_blk (Kd.N_away HO273.out (fun _ hk => hk.2))) | (show (Addr.add _ _).block ≠ _; rw [add_block]; exact Kd.own_blk (Kd.N_away HO273.out (fun _ hk => hk.2))) | (dsimp only; exact Kd.own_blk (Kd.N_away HO273.out (fun _ hk => hk.2)))) _).trans (hHeld.2.2.1)))))))), ((cell_far (p := ⟨gb270, _, none⟩) (by first | exact Kd.own_blk (Kd.N_away HO273.out (fun _ hk => hk.2)) | (rw [add_block]; exact Kd.own_blk (Kd.N_away HO273.out (fun _ hk => hk.2))) | (show (Addr.add _ _).block ≠ _; rw [add_block]; exact Kd.own_blk (Kd.N_away HO273.out (fun _ hk => hk.2))) | (dsimp only; exact Kd.own_blk (Kd.N_away HO273.out (fun _ hk => hk.2)))) _).trans (((cell_far (p := ⟨gb270, _, none⟩) (by first | exact Kd.own_blk (Kd.N_away HO273.out (fun _ hk => hk.2)) | (rw [add_block]; exact Kd.own_blk (Kd.N_away HO273.out (fun _ hk => hk.2))) | (show (Addr.add _ _).block ≠ _; rw [add_block]; exact Kd.own_blk (Kd.N_away HO273.out (fun _ hk => hk.2))) | (dsimp only; exact Kd.own_blk (Kd.N_away HO273.out (fun _ hk => hk.2)))) _).trans (((cell_far (p := ⟨gb270, _, none⟩) (by first | exact Kd.own_blk (Kd.N_away HO273.out (fun _ hk => hk.2)) | (rw [add_block]; exact Kd.own_blk (Kd.N_away HO273.out (fun _ hk => hk.2))) | (show (Addr.add _ _).block ≠ _; rw [add_block]; exact Kd.own_blk (Kd.N_away HO273.out (fun _ hk => hk.2))) | (dsimp only; exact Kd.own_blk (Kd.N_away HO273.out (fun _ hk => hk.2)))) _).trans (((cell_far (p := ⟨gb270, _, none⟩) (by first | exact Kd.own_blk (Kd.N_away HO273.out (fun _ hk => hk.2)) | (rw [add_block]; exact Kd.own_blk (Kd.N_away HO273.out (fun _ hk => hk.2))) | (show (Addr.add _ _).block ≠ _; rw [add_block]; exact Kd.own_blk (Kd.N_away HO273.out (fun _ hk => hk.2))) | (dsimp only; exact Kd.own_blk (Kd.N_away HO273.out (fun _ hk => hk.2)))) _).trans (hHeld.2.2.2.1)))))))), ((cell_far (p := ⟨gb270, _, none⟩) (by first | exact Kd.own_blk (Kd.N_away HO273.out (fun _ hk => hk.2)) | (rw [add_block]; exact Kd.own_blk (Kd.N_away HO273.out (fun _ hk => hk.2))) | (show (Addr.add _ _).block ≠ _; rw [add_block]; exact Kd.own_blk (Kd.N_away HO273.out (fun _ hk => hk.2))) | (dsimp only; exact Kd.own_blk (Kd.N_away HO273.out (fun _ hk => hk.2)))) _).trans (((cell_far (p := ⟨gb270, _, none⟩) (by first | exact Kd.own_blk (Kd.N_away HO273.out (fun _ hk => hk.2)) | (rw [add_block]; exact Kd.own_blk (Kd.N_away HO273.out (fun _ hk => hk.2))) | (show (Addr.add _ _).block ≠ _; rw [add_block]; exact Kd.own_blk (Kd.N_away HO273.out (fun _ hk => hk.2))) | (dsimp only; exact Kd.own_blk (Kd.N_away HO273.out (fun _ hk => hk.2)))) _).trans (((cell_far (p := ⟨gb270, _, none⟩) (by first | exact Kd.own_blk (Kd.N_away HO273.out (fun _ hk => hk.2)) | (rw [add_block]; exact Kd.own_blk (Kd.N_away HO273.out (fun _ hk => hk.2))) | (show (Addr.add _ _).block ≠ _; rw [add_block]; exact Kd.own_blk (Kd.N_away HO273.out (fun _ hk => hk.2))) | (dsimp only; exact Kd.own_blk (Kd.N_away HO273.out (fun _ hk => hk.2)))) _).trans (((cell_far (p := ⟨gb270, _, none⟩) (by first | exact Kd.own_blk (Kd.N_away HO273.out (fun _ hk => hk.2)) | (rw [add_block]; exact Kd.own_blk (Kd.N_away HO273.out (fun _ hk => hk.2))) | (show (Addr.add _ _).block ≠ _; rw [add_block]; exact Kd.own_blk (Kd.N_away HO273.out (fun _ hk => hk.2))) | (dsimp only; exact Kd.own_blk (Kd.N_away HO273.out (fun _ hk => hk.2)))) _).trans (hHeld.2.2.2.2.1)))))))), ((cell_far (p := ⟨gb270, _, none⟩) (by first | exact Kd.own_blk (Kd.N_away HO273.out (fun _ hk => hk.2)) | (rw [add_block]; exact Kd.own_blk (Kd.N_away HO273.out (fun _ hk => hk.2))) | (show (Addr.add _ _).block ≠ _; rw [add_block]; exact Kd.own_blk (Kd.N_away HO273.out (fun _ hk => hk.2))) | (dsimp only; exact Kd.own_blk (Kd.N_away HO273.out (fun _ hk => hk.2)))) _).trans (((cell_far (p := ⟨gb270, _, none⟩) (by first | exact Kd.own_blk (Kd.N_away HO273.out (fun _ hk => hk.2)) | (rw [add_block]; exact Kd.own_blk (Kd.N_away HO273.out (fun _ hk => hk.2))) | (show (Addr.add _ _).block ≠ _; rw [add_block]; exact Kd.own_blk (Kd.N_away HO273.out (fun _ hk => hk.2))) | (dsimp only; exact Kd.own_blk (Kd.N_away HO273.out (fun _ hk => hk.2)))) _).trans (((cell_far (p := ⟨gb270, _, none⟩) (by first | exact Kd.own_blk (Kd.N_away HO273.out (fun _ hk => hk.2)) | (rw [add_block]; exact Kd.own_blk (Kd.N_away HO273.out (fun _ hk => hk.2))) | (show (Addr.add _ _).block ≠ _; rw [add_block]; exact Kd.own_blk (Kd.N_away HO273.out (fun _ hk => hk.2))) | (dsimp only; exact Kd.own_blk (Kd.N_away HO273.out (fun _ hk => hk.2)))) _).trans (((cell_far (p := ⟨gb270, _, none⟩) (by first | exact Kd.own_blk (Kd.N_away HO273.out (fun _ hk => hk.2)) | (rw [add_block]; exact Kd.own_blk (Kd.N_away HO273.out (fun _ hk => hk.2))) | (show (Addr.add _ _).block ≠ _; rw [add_block]; exact Kd.own_blk (Kd.N_away HO273.out (fun _ hk => hk.2))) | (dsimp only; exact Kd.own_blk (Kd.N_away HO273.out (fun _ hk => hk.2)))) _).trans (hHeld.2.2.2.2.2.1)))))))), ((cell_far (p := ⟨gb270, _, none⟩) (by first | exact Kd.own_blk (Kd.N_away HO273.out (fun _ hk => hk.2)) | (rw [add_block]; exact Kd.own_blk (Kd.N_away HO273.out (fun _ hk => hk.2))) | (show (Addr.add _ _).block ≠ _; rw [add_block]; exact Kd.own_blk (Kd.N_away HO273.out (fun _ hk => hk.2))) | (dsimp only; exact Kd.own_blk (Kd.N_away HO273.out (fun _ hk => hk.2)))) _).trans (((cell_far (p := ⟨gb270, _, none⟩) (by first | exact Kd.own_blk (Kd.N_away HO273.out (fun _ hk => hk.2)) | (rw [add_block]; exact Kd.own_blk (Kd.N_away HO273.out (fun _ hk => hk.2))) | (show (Addr.add _ _).block ≠ _; rw [add_block]; exact Kd.own_blk (Kd.N_away HO273.out (fun _ hk => hk.2))) | (dsimp only; exact Kd.own_blk (Kd.N_away HO273.out (fun _ hk => hk.2)))) _).trans (((cell_far (p := ⟨gb270, _, none⟩) (by first | exact Kd.own_blk (Kd.N_away HO273.out (fun _ hk => hk.2)) | (rw [add_block]; exact Kd.own_blk (Kd.N_away HO273.out (fun _ hk => hk.2))) | (show (Addr.add _ _).block ≠ _; rw [add_block]; exact Kd.own_blk (Kd.N_away HO273.out (fun _ hk => hk.2))) | (dsimp only; exact Kd.own_blk (Kd.N_away HO273.out (fun _ hk => hk.2)))) _).trans (((cell_far (p := ⟨gb270, _, none⟩) (by first | exact Kd.own_blk (Kd.N_away HO273.out (fun _ hk => hk.2)) | (rw [add_block]; exact Kd.own_blk (Kd.N_away HO273.out (fun _ hk => hk.2))) | (show (Addr.add _ _).block ≠ _; rw [add_block]; exact Kd.own_blk (Kd.N_away HO273.out (fun _ hk => hk.2))) | (dsimp only; exact Kd.own_blk (Kd.N_away HO273.out (fun _ hk => hk.2)))) _).trans (hHeld.2.2.2.2.2.2.1)))))))), ((cell_far (p := ⟨gb270, _, none⟩) (by first | exact Kd.own_blk (Kd.N_away HO273.out (fun _ hk => hk.2)) | (rw [add_block]; exact Kd.own_blk (Kd.N_away HO273.out (fun _ hk => hk.2))) | (show (Addr.add _ _).block ≠ _; rw [add_block]; exact Kd.own_blk (Kd.N_away HO273.out (fun _ hk => hk.2))) | (dsimp only; exact Kd.own_blk (Kd.N_away HO273.out (fun _ hk => hk.2)))) _).trans (((cell_far (p := ⟨gb270, _, none⟩) (by first | exact Kd.own_blk (Kd.N_away HO273.out (fun _ hk => hk.2)) | (rw [add_block]; exact Kd.own_blk (Kd.N_away HO273.out (fun _ hk => hk.2))) | (show (Addr.add _ _).block ≠ _; rw [add_block]; exact Kd.own_blk (Kd.N_away HO273.out (fun _ hk => hk.2))) | (dsimp only; exact Kd.own_blk (Kd.N_away HO273.out (fun _ hk => hk.2)))) _).trans (((cell_far (p := ⟨gb270, _, none⟩) (by first | exact Kd.own_blk (Kd.N_away HO273.out (fun _ hk => hk.2)) | (rw [add_block]; exact Kd.own_blk (Kd.N_away HO273.out (fun _ hk => hk.2))) | (show (Addr.add _ _).block ≠ _; rw [add_block]; exact Kd.own_blk (Kd.N_away HO273.out (fun _ hk => hk.2))) | (dsimp only; exact Kd.own_blk (Kd.N_away HO273.out (fun _ hk => hk.2)))) _).trans (((cell_far (p := ⟨gb270, _, none⟩) (by first | exact Kd.own_blk (Kd.N_away HO273.out (fun _ hk => hk.2)) | (rw [add_block]; exact Kd.own_blk (Kd.N_away HO273.out (fun _ hk => hk.2))) | (show (Addr.add _ _).block ≠ _; rw [add_block]; exact Kd.own_blk (Kd.N_away HO273.out (fun _ hk => hk.2))) | (dsimp only; exact Kd.own_blk (Kd.N_away HO273.out (fun _ hk => hk.2)))) _).trans (hHeld.2.2.2.2.2.2.2.1)))))))), ((cell_far (p := ⟨gb270, _, none⟩) (by first | exact Kd.own_blk (Kd.N_away HO273.out (fun _ hk => hk.2)) | (rw [add_block]; exact Kd.own_blk (Kd.N_away HO273.out (fun _ hk => hk.2))) | (show (Addr.add _ _).block ≠ _; rw [add_block]; exact Kd.own_blk (Kd.N_away HO273.out (fun _ hk => hk.2))) | (dsimp only; exact Kd.own_blk (Kd.N_away HO273.out (fun _ hk => hk.2)))) _).trans (((cell_far (p := ⟨gb270, _, none⟩) (by first | exact Kd.own_blk (Kd.N_away HO273.out (fun _ hk => hk.2)) | (rw [add_block]; exact Kd.own_blk (Kd.N_away HO273.out (fun _ hk => hk.2))) | (show (Addr.add _ _).block ≠ _; rw [add_block]; exact Kd.own_blk (Kd.N_away HO273.out (fun _ hk => hk.2))) | (dsimp only; exact Kd.own_blk (Kd.N_away HO273.out (fun _ hk => hk.2)))) _).trans (((cell_far (p := ⟨gb270, _, none⟩) (by first | exact Kd.own_blk (Kd.N_away HO273.out (fun _ hk => hk.2)) | (rw [add_block]; exact Kd.own_blk (Kd.N_away HO273.out (fun _ hk => hk.2))) | (show (Addr.add _ _).block ≠ _; rw [add_block]; exact Kd.own_blk (Kd.N_away HO273.out (fun _ hk => hk.2))) | (dsimp only; exact Kd.own_blk (Kd.N_away HO273.out (fun _ hk => hk.2)))) _).trans (((cell_far (p := ⟨gb270, _, none⟩) (by first | exact Kd.own_blk (Kd.N_away HO273.out (fun _ hk => hk.2)) | (rw [add_block]; exact Kd.own_blk (Kd.N_away HO273.out (fun _ hk => hk.2))) | (show (Addr.add _ _).block ≠ _; rw [add_block]; exact Kd.own_blk (Kd.N_away HO273.out (fun _ hk => hk.2))) | (dsimp only; exact Kd.own_blk (Kd.N_away HO273.out (fun _ hk => hk.2)))) _).trans (hHeld.2.2.2.2.2.2.2.2.1)))))))), ((cell_far (p := ⟨gb270, _, none⟩) (by first | exact Kd.own_blk (Kd.N_away HO273.out (fun _ hk => hk.2)) | (rw [add_block]; exact Kd.own_blk (Kd.N_away HO273.out (fun _ hk => hk.2))) | (show (Addr.add _ _).block ≠ _; rw [add_block]; exact Kd.own_blk (Kd.N_away HO273.out (fun _ hk => hk.2))) | (dsimp only; exact Kd.own_blk (Kd.N_away HO273.out (fun _ hk => hk.2)))) _).trans (((cell_far (p := ⟨gb270, _, none⟩) (by first | exact Kd.own_blk (Kd.N_away HO273.out (fun _ hk => hk.2)) | (rw [add_block]; exact Kd.own_blk (Kd.N_away HO273.out (fun _ hk => hk.2))) | (show (Addr.add _ _).block ≠ _; rw [add_block]; exact Kd.own_blk (Kd.N_away HO273.out (fun _ hk => hk.2))) | (dsimp only; exact Kd.own_blk (Kd.N_away HO273.out (fun _ hk => hk.2)))) _).trans (((cell_far (p := ⟨gb270, _, none⟩) (by first | exact Kd.own_blk (Kd.N_away HO273.out (fun _ hk => hk.2)) | (rw [add_block]; exact Kd.own_blk (Kd.N_away HO273.out (fun _ hk => hk.2))) | (show (Addr.add _ _).block ≠ _; rw [add_block]; exact Kd.own_blk (Kd.N_away HO273.out (fun _ hk => hk.2))) | (dsimp only; exact Kd.own_blk (Kd.N_away HO273.out (fun _ hk => hk.2)))) _).trans (((cell_far (p := ⟨gb270, _, none⟩) (by first | exact Kd.own_blk (Kd.N_away HO273.out (fun _ hk => hk.2)) | (rw [add_block]; exact Kd.own_blk (Kd.N_away HO273.out (fun _ hk => hk.2))) | (show (Addr.add _ _).block ≠ _; rw [add_block]; exact Kd.own_blk (Kd.N_away HO273.out (fun _ hk => hk.2))) | (dsimp only; exact Kd.own_blk (Kd.N_away HO273.out (fun _ hk => hk.2)))) _).trans (hHeld.2.2.2.2.2.2.2.2.2.1)))))))), ((cell_far (p := ⟨gb270, _, none⟩) (by first | exact Kd.own_blk (Kd.N_away HO273.out (fun _ hk => hk.2)) | (rw [add_block]; exact Kd.own_blk (Kd.N_away HO273.out (fun _ hk => hk.2))) | (show (Addr.add _ _).block ≠ _; rw [add_block]; exact Kd.own_blk (Kd.N_away HO273.out (fun _ hk => hk.2))) | (dsimp only; exact Kd.own_blk (Kd.N_away HO273.out (fun _ hk => hk.2)))) _).trans (((cell_far (p := ⟨gb270, _, none⟩) (by first | exact Kd.own_blk (Kd.N_away HO273.out (fun _ hk => hk.2)) | (rw [add_block]; exact Kd.own_blk (Kd.N_away HO273.out (fun _ hk => hk.2))) | (show (Addr.add _ _).block ≠ _; rw [add_block]; exact Kd.own_blk (Kd.N_away HO273.out (fun _ hk => hk.2))) | (dsimp only; exact Kd.own_blk (Kd.N_away HO273.out (fun _ hk => hk.2)))) _).trans (((cell_far (p := ⟨gb270, _, none⟩) (by first | exact Kd.own_blk (Kd.N_away HO273.out (fun _ hk => hk.2)) | (rw [add_block]; exact Kd.own_blk (Kd.N_away HO273.out (fun _ hk => hk.2))) | (show (Addr.add _ _).block ≠ _; rw [add_block]; exact Kd.own_blk (Kd.N_away HO273.out (fun _ hk => hk.2))) | (dsimp only; exact Kd.own_blk (Kd.N_away HO273.out (fun _ hk => hk.2)))) _).trans (((cell_far (p := ⟨gb270, _, none⟩) (by first | exact Kd.own_blk (Kd.N_away HO273.out (fun _ hk => hk.2)) | (rw [add_block]; exact Kd.own_blk (Kd.N_away HO273.out (fun _ hk => hk.2))) | (show (Addr.add _ _).block ≠ _; rw [add_block]; exact Kd.own_blk (Kd.N_away HO273.out (fun _ hk => hk.2))) | (dsimp only; exact Kd.own_blk (Kd.N_away HO273.out (fun _ hk => hk.2)))) _).trans (hHeld.2.2.2.2.2.2.2.2.2.2.1)))))))), ((cell_far (p := ⟨gb270, _, none⟩) (by first | exact Kd.own_blk (Kd.N_away HO273.out (fun _ hk => hk.2)) | (rw [add_block]; exact Kd.own_blk (Kd.N_away HO273.out (fun _ hk => hk.2))) | (show (Addr.add _ _).block ≠ _; rw [add_block]; exact Kd.own_blk (Kd.N_away HO273.out (fun _ hk => hk.2))) | (dsimp only; exact Kd.own_blk (Kd.N_away HO273.out (fun _ hk => hk.2)))) _).trans (((cell_far (p := ⟨gb270, _, none⟩) (by first | exact Kd.own_blk (Kd.N_away HO273.out (fun _ hk => hk.2)) | (rw [add_block]; exact Kd.own_blk (Kd.N_away HO273.out (fun _ hk => hk.2))) | (show (Addr.add _ _).block ≠ _; rw [add_block]; exact Kd.own_blk (Kd.N_away HO273.out (fun _ hk => hk.2))) | (dsimp only; exact Kd.own_blk (Kd.N_away HO273.out (fun _ hk => hk.2)))) _).trans (((cell_far (p := ⟨gb270, _, none⟩) (by first | exact Kd.own_blk (Kd.N_away HO273.out (fun _ hk => hk.2)) | (rw [add_block]; exact Kd.own_blk (Kd.N_away HO273.out (fun _ hk => hk.2))) | (show (Addr.add _ _).block ≠ _; rw [add_block]; exact Kd.own_blk (Kd.N_away HO273.out (fun _ hk => hk.2))) | (dsimp only; exact Kd.own_blk (Kd.N_away HO273.out (fun _ hk => hk.2)))) _).trans (((cell_far (p := ⟨gb270, _, none⟩) (by first | exact Kd.own_blk (Kd.N_away HO273.out (fun _ hk => hk.2)) | (rw [add_block]; exact Kd.own_blk (Kd.N_away HO273.out (fun _ hk => hk.2))) | (show (Addr.add _ _).block ≠ _; rw [add_block]; exact Kd.own_blk (Kd.N_away HO273.out (fun _ hk => hk.2))) | (dsimp only; exact Kd.own_blk (Kd.N_away HO273.out (fun _ hk => hk.2)))) _).trans (hHeld.2.2.2.2.2.2.2.2.2.2.2))))))))⟩ (fun hHeld => ?_)
          clear hK K
          refine done_ (done_of HT_.out (by kernel_rfl)) ?_
          try go_wp2
          refine bodyPost_ret (results_cell_row rfl _ _ gb270 24 #[.string ((rd_T39 t271 0).f0), .string ((rd_T39 t271 1).f0), .int .u64 ((rd_T39 t271 2).f1), .int .u64 ((rd_T39 t271 3).f1)] (0, 0) _ rfl (by (with_reducible repeat (first | refine blk_drewN ?_ _ | refine blk_drew ?_ | refine blk_alloc ?_ _)); refine blk_put (cs := #[.string ((rd_T39 t271 0).f0), .string ((rd_T39 t271 1).f0), .int .u64 ((rd_T39 t271 2).f1), .int .u64 0]) ?_ 3 _ rfl; (with_reducible repeat (first | refine blk_drewN ?_ _ | refine blk_drew ?_ | refine blk_alloc ?_ _)); refine blk_put (cs := #[.string ((rd_T39 t271 0).f0), .string ((rd_T39 t271 1).f0), .int .u64 0, .int .u64 0]) ?_ 2 _ rfl; (with_reducible repeat (first | refine blk_drewN ?_ _ | refine blk_drew ?_ | refine blk_alloc ?_ _)); refine blk_put (cs := #[.string ((rd_T39 t271 0).f0), .string (⟨#[]⟩ : ByteArray), .int .u64 0, .int .u64 0]) ?_ 1 _ rfl; (with_reducible repeat (first | refine blk_drewN ?_ _ | refine blk_drew ?_ | refine blk_alloc ?_ _)); refine blk_put (cs := #[.string (⟨#[]⟩ : ByteArray), .string (⟨#[]⟩ : ByteArray), .int .u64 0, .int .u64 0]) ?_ 0 _ rfl; (with_reducible repeat (first | refine blk_drewN ?_ _ | refine blk_drew ?_ | refine blk_alloc ?_ _)); exact BK270.out) Tryd.underlying24 rfl (by kernel_rfl)) rfl ?_
          exact ⟨by first | rfl | (simp [errW_none, errW_some] <;> rfl) | (simp [*, errW_none, errW_some] <;> rfl), by repeat (first | (with_reducible first | exact HB.out | apply below_alloc | apply pw_below_drewN | apply below_drew1 | refine below_set ?_ GE269.out | refine below_set ?_ GE270.out) | exact HB.out)⟩
        · rw [if_neg c6] at H
          exact absurd H (by simp)
      · rw [if_neg c5] at H
        exact absurd H (by simp)
    · rw [if_neg c4] at H
      exact absurd H (by simp)
  · rw [if_neg c3] at H
    exact absurd H (by simp)

end Go.Proofs.YthalhlobmbedhaaDoor.P
