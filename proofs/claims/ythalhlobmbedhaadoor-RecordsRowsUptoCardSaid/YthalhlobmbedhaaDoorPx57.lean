-- PRINTED by gprint.py (a program of this session over the kit's print) out of the translation. Not trusted: Lean checks it.
import Derived.Test.YthalhlobmbedhaaDoorPx0
import Derived.Test.YthalhlobmbedhaaDoorPx54
import Derived.Test.YthalhlobmbedhaaDoorGClone
namespace Go.Proofs.YthalhlobmbedhaaDoor.P
open Go.RowKit Go.Proofs.YthalhlobmbedhaaDoorW.PrintWords Go.Proofs.YthalhlobmbedhaaDoorW.PrintLast Go.Proofs.YthalhlobmbedhaaDoorW.PrintMore
attribute [local go_sem] max2_int min2_int max_two min_two max_three min_three max_four min_four   -- for this text's walks alone
set_option linter.unusedVariables false
set_option linter.unusedSimpArgs false

/-! ### records_RowService: function 12 -/
def records_RowService.f (l0_0 : List (S39)) : Option (ByteArray × ByteArray × ByteArray × Int × List ByteArray × Int × Int) := (records_cells.f l0_0 7).bind fun t283 => (if 0 < (t283.length : Int) then (if 1 < (t283.length : Int) then (if 2 < (t283.length : Int) then (if 3 < (t283.length : Int) then (if 4 < (t283.length : Int) then ((slices_Clone_string_string.f ((rd_T39 t283 4).f2)).bind fun t291 => (if 5 < (t283.length : Int) then (if 6 < (t283.length : Int) then (some ((rd_T39 t283 0).f0, (rd_T39 t283 1).f0, (rd_T39 t283 2).f0, wrap64 ((rd_T39 t283 3).f1), t291, (rd_T39 t283 5).f1, (rd_T39 t283 6).f1)) else (none)) else (none))) else (none)) else (none)) else (none)) else (none)) else (none))
def records_RowService.T2 : Bool × List (List Nat × List Nat) := (true, [([], []), ([0], [0]), ([1], [1]), ([2], [2]), ([], []), ([4], [4]), ([5], [5]), ([6], [6]), ([], []), ([8], [8]), ([9], [9]), ([10], [10]), ([], []), ([12], [12]), ([13], [13]), ([14], [14]), ([15], [15]), ([], []), ([17], [17]), ([18], [18]), ([19], [19]), ([20], [20]), ([], []), ([22], [22]), ([23], [23]), ([24], [24]), ([], []), ([26], [26]), ([27], [27]), ([28], [28]), ([3, 7, 11, 16, 21, 25, 29], [3, 7, 11, 16, 21, 25, 29]), ([30, 21, 0, 1, 2, 3, 4, 5, 6, 7, 8, 9, 10, 11, 12, 13, 14, 15, 16, 17, 18, 19, 20, 21, 22, 23, 24, 25, 26, 27, 28, 29, 30], [30])])
def records_RowService.B2 : List Nat := [0, 1, 3, 7, 0, 16, 48, 112, 0, 256, 768, 1792, 0, 4096, 12288, 28672, 61440, 0, 131072, 393216, 917504, 1966080, 0, 4194304, 12582912, 29360128, 0, 67108864, 201326592, 469762048, 1073741823, 2147483647]
theorem records_RowService.tab2 : rtab .any (opsOf Tryd.f12 2) = records_RowService.T2 := by kernel_rfl
theorem records_RowService.bits2 : waitsOk records_RowService.T2.2 records_RowService.B2 = true := by kernel_rfl
set_option maxHeartbeats 8000000 in
set_option maxRecDepth 100000 in
theorem records_RowService.calls (A0_0 : Option Addr) (c0_0 : Nat) (l0_0 : List (S39)) (r1 : ByteArray) (r2 : ByteArray) (r3 : ByteArray) (r4 : Int) (r5 : List ByteArray) (r6 : Int) (r7 : Int) (w : World) (hr0_0 : Kd.C k39 w A0_0 l0_0.length l0_0) (hc0_0 : l0_0.length ≤ c0_0) (h : records_RowService.f l0_0 = some (r1, r2, r3, r4, r5, r6, r7)) :
    Calls Tryd.prog 12 #[.agg #[.slice A0_0 l0_0.length c0_0]] w fun e w' => ∃ v4_ : Value, e = .returned (.agg #[.string r1, .string r2, .string r3, .int .i64 r4, v4_, .int .u64 r6, .int .u64 r7]) ∧ Kd.R Kd.string 9 w' w.heap.size (fun _ => True) v4_ r5 ∧ Below w.heap.size w w' := by
  have hu33 := Tryd.underlying33
  have hu27 := Tryd.underlying27
  have HR0_0 := Aside0.mk hr0_0
  have HC0_0 := Aside0.mk hc0_0
  clear hr0_0 hc0_0
  have HB := Aside0.mk (Below.refl w.heap.size w)
  have H : ((records_cells.f l0_0 7).bind fun t283 => (if 0 < (t283.length : Int) then (if 1 < (t283.length : Int) then (if 2 < (t283.length : Int) then (if 3 < (t283.length : Int) then (if 4 < (t283.length : Int) then ((slices_Clone_string_string.f ((rd_T39 t283 4).f2)).bind fun t291 => (if 5 < (t283.length : Int) then (if 6 < (t283.length : Int) then (some ((rd_T39 t283 0).f0, (rd_T39 t283 1).f0, (rd_T39 t283 2).f0, wrap64 ((rd_T39 t283 3).f1), t291, (rd_T39 t283 5).f1, (rd_T39 t283 6).f1)) else (none)) else (none))) else (none)) else (none)) else (none)) else (none)) else (none))) = some (r1, r2, r3, r4, r5, r6, r7) := h
  clear h
  replace H := Option.bind_eq_some_iff.mp H
  obtain ⟨t283, A20, H⟩ := H
  replace H : (if 0 < (t283.length : Int) then (if 1 < (t283.length : Int) then (if 2 < (t283.length : Int) then (if 3 < (t283.length : Int) then (if 4 < (t283.length : Int) then ((slices_Clone_string_string.f ((rd_T39 t283 4).f2)).bind fun t291 => (if 5 < (t283.length : Int) then (if 6 < (t283.length : Int) then (some ((rd_T39 t283 0).f0, (rd_T39 t283 1).f0, (rd_T39 t283 2).f0, wrap64 ((rd_T39 t283 3).f1), t291, (rd_T39 t283 5).f1, (rd_T39 t283 6).f1)) else (none)) else (none))) else (none)) else (none)) else (none)) else (none)) else (none)) = some (r1, r2, r3, r4, r5, r6, r7) := H
  have A2 := Aside0.mk A20
  clear A20
  by_cases c3 : 0 < (t283.length : Int)
  · rw [if_pos c3] at H
    have c3b0 : decide (0 < (t283.length : Int)) = true := decide_eq_true c3
    have c3b1 : decide (0 < t283.length) = true := decide_eq_true (by omega)
    clear c3
    by_cases c4 : 1 < (t283.length : Int)
    · rw [if_pos c4] at H
      have c4b0 : decide (1 < (t283.length : Int)) = true := decide_eq_true c4
      have c4b1 : decide (1 < t283.length) = true := decide_eq_true (by omega)
      clear c4
      by_cases c5 : 2 < (t283.length : Int)
      · rw [if_pos c5] at H
        have c5b0 : decide (2 < (t283.length : Int)) = true := decide_eq_true c5
        have c5b1 : decide (2 < t283.length) = true := decide_eq_true (by omega)
        clear c5
        by_cases c6 : 3 < (t283.length : Int)
        · rw [if_pos c6] at H
          have c6b0 : decide (3 < (t283.length : Int)) = true := decide_eq_true c6
          have c6b1 : decide (3 < t283.length) = true := decide_eq_true (by omega)
          clear c6
          by_cases c7 : 4 < (t283.length : Int)
          · rw [if_pos c7] at H
            have c7b0 : decide (4 < (t283.length : Int)) = true := decide_eq_true c7
            have c7b1 : decide (4 < t283.length) = true := decide_eq_true (by omega)
            clear c7
            replace H := Option.bind_eq_some_iff.mp H
            obtain ⟨t291, A80, H⟩ := H
            replace H : (if 5 < (t283.length : Int) then (if 6 < (t283.length : Int) then (some ((rd_T39 t283 0).f0, (rd_T39 t283 1).f0, (rd_T39 t283 2).f0, wrap64 ((rd_T39 t283 3).f1), t291, (rd_T39 t283 5).f1, (rd_T39 t283 6).f1)) else (none)) else (none)) = some (r1, r2, r3, r4, r5, r6, r7) := H
            have A8 := Aside0.mk A80
            clear A80
            by_cases c9 : 5 < (t283.length : Int)
            · rw [if_pos c9] at H
              have c9b0 : decide (5 < (t283.length : Int)) = true := decide_eq_true c9
              have c9b1 : decide (5 < t283.length) = true := decide_eq_true (by omega)
              clear c9
              by_cases c10 : 6 < (t283.length : Int)
              · rw [if_pos c10] at H
                have c10b0 : decide (6 < (t283.length : Int)) = true := decide_eq_true c10
                have c10b1 : decide (6 < t283.length) = true := decide_eq_true (by omega)
                clear c10
                simp only [Option.some.injEq, Prod.mk.injEq] at H
                obtain ⟨rfl, rfl, rfl, rfl, rfl, rfl, rfl⟩ := H
                go_enter Tryd.func12, Tryd.ntmps12
                try go_wp2_with (first | ((with_reducible refine gate_dst (N := 1) rfl ?_); refine box_event ?hg (N := 1) ?hd (cs := #[.slice A0_0 l0_0.length c0_0]) (t := 33) ?hr ?_; (case hd => rfl); (case hg => rfl); (case hr => first | (go_simp; done) | (go_simp; rfl)); intro gb281 hg w11 hbox hb; have n0_ := Aside0.mk (below_step (by repeat (first | (with_reducible first | exact HB.out | apply below_alloc | apply pw_below_drewN | apply below_drew1) | exact HB.out)) hb); have n1_ := Aside0.mk (hbox); have n2_ := Aside0.mk ((by rw [hg]; exact (below_size (by repeat (first | (with_reducible first | exact HB.out | apply below_alloc | apply pw_below_drewN | apply below_drew1) | exact HB.out))) : w.heap.size ≤ gb281)); have n3_ := Aside0.mk ((by rw [hg]; exact (below_size (by repeat (first | (with_reducible first | exact HB.out | apply below_alloc | apply pw_below_drewN | apply below_drew1) | exact HB.out))) : w.heap.size ≤ gb281)); clear HB; have HB := n0_; have BK281 := n1_; have GW281 := n2_; have GE281 := n3_; clear n0_ n1_ n2_ n3_; clear hb hbox hg) | ((with_reducible refine gate_dst (N := 2) rfl ?_); refine box_event ?hg (N := 2) ?hd (cs := #[.string (⟨#[]⟩ : ByteArray), .string (⟨#[]⟩ : ByteArray), .string (⟨#[]⟩ : ByteArray), .int .i64 0, .slice none 0 0, .int .u64 0, .int .u64 0]) (t := 27) ?hr ?_; (case hd => rfl); (case hg => rfl); (case hr => first | (go_simp; done) | (go_simp; rfl)); intro gb282 hg w12 hbox hb; have n0_ := Aside0.mk (blk_below (g := gb281) (o := .cells #[.slice A0_0 l0_0.length c0_0] 33 (0, 0)) (by (with_reducible repeat (first | refine blk_drewN ?_ _ | refine blk_drew ?_ | refine blk_alloc ?_ _)); exact BK281.out) hb); have n1_ := Aside0.mk (below_step (by repeat (first | (with_reducible first | exact HB.out | apply below_alloc | apply pw_below_drewN | apply below_drew1 | refine below_set ?_ GE281.out) | exact HB.out)) hb); have n2_ := Aside0.mk (hbox); have n3_ := Aside0.mk ((by rw [hg]; exact (below_size (by repeat (first | (with_reducible first | exact HB.out | apply below_alloc | apply pw_below_drewN | apply below_drew1 | refine below_set ?_ GE281.out) | exact HB.out))) : w.heap.size ≤ gb282)); have n4_ := Aside0.mk ((by rw [hg]; exact (below_size (by repeat (first | (with_reducible first | exact HB.out | apply below_alloc | apply pw_below_drewN | apply below_drew1 | refine below_set ?_ GE281.out) | exact HB.out))) : w.heap.size ≤ gb282)); have n5_ := Aside0.mk ((by rw [hg]; exact Nat.ne_of_lt (blk_lt (g := gb281) (o := .cells #[.slice A0_0 l0_0.length c0_0] 33 (0, 0)) (by (with_reducible repeat (first | refine blk_drewN ?_ _ | refine blk_drew ?_ | refine blk_alloc ?_ _)); exact BK281.out)) : gb281 ≠ gb282)); have n6_ := Aside0.mk ((by rw [hg]; exact Nat.ne_of_gt (blk_lt (g := gb281) (o := .cells #[.slice A0_0 l0_0.length c0_0] 33 (0, 0)) (by (with_reducible repeat (first | refine blk_drewN ?_ _ | refine blk_drew ?_ | refine blk_alloc ?_ _)); exact BK281.out)) : gb282 ≠ gb281)); clear BK281; clear HB; have BK281 := n0_; have HB := n1_; have BK282 := n2_; have GW282 := n3_; have GE282 := n4_; have NB281_282 := n5_; have NB282_281 := n6_; clear n0_ n1_ n2_ n3_ n4_ n5_ n6_; clear hb hbox hg; have hnb13 := NB281_282.out; have hnc13 := NB282_281.out; have hcz14_0 : w12.cell? ⟨gb281, 0, none⟩ = some (.slice A0_0 l0_0.length c0_0) := (blk_cell BK281.out 0).trans rfl; have hfz14_0 := blk_frozen BK281.out 0) | ((with_reducible refine gate_callee (f := 20) rfl ?_); refine goesL_ (some 5) rfl rfl Tryd.func20 (by kernel_rfl) rfl #[.agg #[.slice A0_0 l0_0.length c0_0], .int .i64 7] rfl (by (try simp only [List.map_toArray, List.map_cons, List.map_nil]); first | done | rfl | (simp only [List.length_drop, List.length_take]; rfl)) ?_; (with_reducible refine (records_cells.calls (fun k_ => k_ < w.heap.size) _ _ l0_0 7 t283 _ ?side1 A2.out).mono ?_); (case side1 => exact Kd.V_mk HC0_0.out (Kd.F_below (Kd.C_F k39_heap HR0_0.out) (by repeat (first | (with_reducible first | exact HB.out | apply below_alloc | apply pw_below_drewN | apply below_drew1 | refine below_set ?_ GE281.out | refine below_set ?_ GE282.out) | exact HB.out)))); rintro e w15 ⟨v284, rfl, ho0, hb⟩; refine ⟨_, rfl, ?_⟩; have n0_ := Aside0.mk (Kd.N_lower (Kd.N_mono (ok' := fun k_ => k_ ≠ gb281 ∧ k_ ≠ gb282) ho0 (fun k_ hk_ => ⟨Or.elim hk_ (fun hs_ => fun e_ => Nat.not_le.2 hs_ (by rw [e_]; exact GW281.out)) (fun hn_ => (Kd.freshB (g := gb281) (o := .cells #[.slice A0_0 l0_0.length c0_0] 33 (0, 0)) (by (with_reducible repeat (first | refine blk_drewN ?_ _ | refine blk_drew ?_ | refine blk_alloc ?_ _)); exact BK281.out) k_ hn_)), Or.elim hk_ (fun hs_ => fun e_ => Nat.not_le.2 hs_ (by rw [e_]; exact GW282.out)) (fun hn_ => (Kd.freshB (g := gb282) (o := .cells #[.string (⟨#[]⟩ : ByteArray), .string (⟨#[]⟩ : ByteArray), .string (⟨#[]⟩ : ByteArray), .int .i64 0, .slice none 0 0, .int .u64 0, .int .u64 0] 27 (0, 0)) (by (with_reducible repeat (first | refine blk_drewN ?_ _ | refine blk_drew ?_ | refine blk_alloc ?_ _)); exact BK282.out) k_ hn_))⟩)) (below_size (by repeat (first | (with_reducible first | exact HB.out | apply below_alloc | apply pw_below_drewN | apply below_drew1 | refine below_set ?_ GE281.out | refine below_set ?_ GE282.out) | exact HB.out)))); have n1_ := Aside0.mk (blk_below (g := gb281) (o := .cells #[.slice A0_0 l0_0.length c0_0] 33 (0, 0)) (by (with_reducible repeat (first | refine blk_drewN ?_ _ | refine blk_drew ?_ | refine blk_alloc ?_ _)); exact BK281.out) hb); have n2_ := Aside0.mk (blk_below (g := gb282) (o := .cells #[.string (⟨#[]⟩ : ByteArray), .string (⟨#[]⟩ : ByteArray), .string (⟨#[]⟩ : ByteArray), .int .i64 0, .slice none 0 0, .int .u64 0, .int .u64 0] 27 (0, 0)) (by (with_reducible repeat (first | refine blk_drewN ?_ _ | refine blk_drew ?_ | refine blk_alloc ?_ _)); exact BK282.out) hb); have n3_ := Aside0.mk (below_step (by repeat (first | (with_reducible first | exact HB.out | apply below_alloc | apply pw_below_drewN | apply below_drew1 | refine below_set ?_ GE281.out | refine below_set ?_ GE282.out) | exact HB.out)) hb); clear BK281; clear BK282; clear HB; have HO285 := n0_; have BK281 := n1_; have BK282 := n2_; have HB := n3_; clear n0_ n1_ n2_ n3_; (try clear hb); (try clear hb2); (try clear hk); (try clear hi); (try clear ho0)))
                have n0_ := Aside0.mk (Kd.N_drew HO285.out)
                have n1_ := Aside0.mk (blk_drew BK281.out)
                have n2_ := Aside0.mk (blk_drew BK282.out)
                have n3_ := Aside0.mk (below_drew1 HB.out)
                clear HO285
                clear BK281
                clear BK282
                clear HB
                have HO285 := n0_
                have BK281 := n1_
                have BK282 := n2_
                have HB := n3_
                clear n0_ n1_ n2_ n3_
                obtain ⟨Ao17, co17, eo17⟩ := Kd.N_slice HO285.out
                (first | subst eo17 | (injection eo17 with f1_ f2_ f3_; have f4_ := f1_.symm; have f5_ := f3_.symm; clear f1_ f2_ f3_; subst f4_; subst f5_))
                have p286 : 0 ≤ (0 : Int) := (by omega)
                have q286 : 0 < (t283.length : Int) := of_decide_eq_true (by first | (with_reducible assumption) | assumption)
                obtain ⟨ad286, A286_2, c286_2, e286, hx286_0, hx286_1, hx286_2, hl286_2, hi286_2⟩ := at_T39 (Kd.N_reads' HO285.out).2.2 0 p286 q286
                cases e286
                obtain ⟨ce286, hce286, hMe286, hcc286⟩ := Kd.N_get HO285.out z39 0 p286 (by first | exact q286 | exact of_decide_eq_true (by first | (with_reducible assumption) | assumption) | (have e_ := (Kd.N_reads' HO285.out).1; omega))
                obtain ⟨ua286_2, uc286_2, rfl, ul286_2, ge286_2⟩ := k39_openF hMe286
                have hv286_2 := hcc286 2 _ rfl
                rw [add_field _ _ 2 (by omega)] at hv286_2
                replace hv286_2 := Option.some.inj (hv286_2.symm.trans hx286_2)
                injection hv286_2 with hva_ hvn_ hvc_
                rw [hva_] at ge286_2
                rw [hvc_] at ul286_2
                have HL286_2 := Aside0.mk (show Kd.V Kd.string 9 _ w.heap.size _ _ ((rd_T39 t283 0).f2) from Kd.V_mk ul286_2 ge286_2)
                clear hva_ hvn_ hvc_ ge286_2 ul286_2
                clear hcc286 hce286
                have qi286 : (0 < t283.length) = True := eq_true (by omega)
                (try rw [show ((0 : Int)).toNat = 0 from rfl] at hx286_0)
                (try rw [show 0 * 3 = 0 from rfl] at hx286_0)
                (try rw [Addr.add_zero'] at hx286_0)
                (try rw [show ((0 : Int)).toNat = 0 from rfl] at hx286_1)
                (try rw [show 0 * 3 = 0 from rfl] at hx286_1)
                (try rw [Addr.add_zero'] at hx286_1)
                (try rw [show ((0 : Int)).toNat = 0 from rfl] at hx286_2)
                (try rw [show 0 * 3 = 0 from rfl] at hx286_2)
                (try rw [Addr.add_zero'] at hx286_2)
                have HR286_2 := Aside0.mk hi286_2
                have HC286_2 := Aside0.mk hl286_2
                clear hi286_2 hl286_2
                replace p286 := eq_true p286
                replace q286 := eq_true q286
                have p287 : 0 ≤ (1 : Int) := (by omega)
                have q287 : 1 < (t283.length : Int) := of_decide_eq_true (by first | (with_reducible assumption) | assumption)
                obtain ⟨ad287, A287_2, c287_2, e287, hx287_0, hx287_1, hx287_2, hl287_2, hi287_2⟩ := at_T39 (Kd.N_reads' HO285.out).2.2 1 p287 q287
                obtain rfl : ad286 = ad287 := (by injection e287)
                obtain ⟨ce287, hce287, hMe287, hcc287⟩ := Kd.N_get HO285.out z39 1 p287 (by first | exact q287 | exact of_decide_eq_true (by first | (with_reducible assumption) | assumption) | (have e_ := (Kd.N_reads' HO285.out).1; omega))
                obtain ⟨ua287_2, uc287_2, rfl, ul287_2, ge287_2⟩ := k39_openF hMe287
                have hv287_2 := hcc287 2 _ rfl
                rw [add_field _ _ 2 (by omega)] at hv287_2
                replace hv287_2 := Option.some.inj (hv287_2.symm.trans hx287_2)
                injection hv287_2 with hva_ hvn_ hvc_
                rw [hva_] at ge287_2
                rw [hvc_] at ul287_2
                have HL287_2 := Aside0.mk (show Kd.V Kd.string 9 _ w.heap.size _ _ ((rd_T39 t283 1).f2) from Kd.V_mk ul287_2 ge287_2)
                clear hva_ hvn_ hvc_ ge287_2 ul287_2
                clear hcc287 hce287
                (try simp only [show (1 : Int).toNat = 1 from rfl, Nat.reduceMul, Nat.reduceEqDiff, Go.Addr.add, ↓reduceIte] at hx287_0)
                (try simp only [show (1 : Int).toNat = 1 from rfl, Nat.reduceMul, Nat.reduceEqDiff, Go.Addr.add, ↓reduceIte] at hx287_1)
                (try simp only [show (1 : Int).toNat = 1 from rfl, Nat.reduceMul, Nat.reduceEqDiff, Go.Addr.add, ↓reduceIte] at hx287_2)
                have qi287 : (1 < t283.length) = True := eq_true (by omega)
                (try rw [show ((1 : Int)).toNat = 1 from rfl] at hx287_0)
                (try rw [show 1 * 3 = 3 from rfl] at hx287_0)
                (try rw [show ((1 : Int)).toNat = 1 from rfl] at hx287_1)
                (try rw [show 1 * 3 = 3 from rfl] at hx287_1)
                (try rw [show ((1 : Int)).toNat = 1 from rfl] at hx287_2)
                (try rw [show 1 * 3 = 3 from rfl] at hx287_2)
                have HR287_2 := Aside0.mk hi287_2
                have HC287_2 := Aside0.mk hl287_2
                clear hi287_2 hl287_2
                replace p287 := eq_true p287
                replace q287 := eq_true q287
                have p288 : 0 ≤ (2 : Int) := (by omega)
                have q288 : 2 < (t283.length : Int) := of_decide_eq_true (by first | (with_reducible assumption) | assumption)
                obtain ⟨ad288, A288_2, c288_2, e288, hx288_0, hx288_1, hx288_2, hl288_2, hi288_2⟩ := at_T39 (Kd.N_reads' HO285.out).2.2 2 p288 q288
                obtain rfl : ad286 = ad288 := (by injection e288)
                obtain ⟨ce288, hce288, hMe288, hcc288⟩ := Kd.N_get HO285.out z39 2 p288 (by first | exact q288 | exact of_decide_eq_true (by first | (with_reducible assumption) | assumption) | (have e_ := (Kd.N_reads' HO285.out).1; omega))
                obtain ⟨ua288_2, uc288_2, rfl, ul288_2, ge288_2⟩ := k39_openF hMe288
                have hv288_2 := hcc288 2 _ rfl
                rw [add_field _ _ 2 (by omega)] at hv288_2
                replace hv288_2 := Option.some.inj (hv288_2.symm.trans hx288_2)
                injection hv288_2 with hva_ hvn_ hvc_
                rw [hva_] at ge288_2
                rw [hvc_] at ul288_2
                have HL288_2 := Aside0.mk (show Kd.V Kd.string 9 _ w.heap.size _ _ ((rd_T39 t283 2).f2) from Kd.V_mk ul288_2 ge288_2)
                clear hva_ hvn_ hvc_ ge288_2 ul288_2
                clear hcc288 hce288
                (try simp only [show (2 : Int).toNat = 2 from rfl, Nat.reduceMul, Nat.reduceEqDiff, Go.Addr.add, ↓reduceIte] at hx288_0)
                (try simp only [show (2 : Int).toNat = 2 from rfl, Nat.reduceMul, Nat.reduceEqDiff, Go.Addr.add, ↓reduceIte] at hx288_1)
                (try simp only [show (2 : Int).toNat = 2 from rfl, Nat.reduceMul, Nat.reduceEqDiff, Go.Addr.add, ↓reduceIte] at hx288_2)
                have qi288 : (2 < t283.length) = True := eq_true (by omega)
                (try rw [show ((2 : Int)).toNat = 2 from rfl] at hx288_0)
                (try rw [show 2 * 3 = 6 from rfl] at hx288_0)
                (try rw [show ((2 : Int)).toNat = 2 from rfl] at hx288_1)
                (try rw [show 2 * 3 = 6 from rfl] at hx288_1)
                (try rw [show ((2 : Int)).toNat = 2 from rfl] at hx288_2)
                (try rw [show 2 * 3 = 6 from rfl] at hx288_2)
                have HR288_2 := Aside0.mk hi288_2
                have HC288_2 := Aside0.mk hl288_2
                clear hi288_2 hl288_2
                replace p288 := eq_true p288
                replace q288 := eq_true q288
                have p289 : 0 ≤ (3 : Int) := (by omega)
                have q289 : 3 < (t283.length : Int) := of_decide_eq_true (by first | (with_reducible assumption) | assumption)
                obtain ⟨ad289, A289_2, c289_2, e289, hx289_0, hx289_1, hx289_2, hl289_2, hi289_2⟩ := at_T39 (Kd.N_reads' HO285.out).2.2 3 p289 q289
                obtain rfl : ad286 = ad289 := (by injection e289)
                obtain ⟨ce289, hce289, hMe289, hcc289⟩ := Kd.N_get HO285.out z39 3 p289 (by first | exact q289 | exact of_decide_eq_true (by first | (with_reducible assumption) | assumption) | (have e_ := (Kd.N_reads' HO285.out).1; omega))
                obtain ⟨ua289_2, uc289_2, rfl, ul289_2, ge289_2⟩ := k39_openF hMe289
                have hv289_2 := hcc289 2 _ rfl
                rw [add_field _ _ 2 (by omega)] at hv289_2
                replace hv289_2 := Option.some.inj (hv289_2.symm.trans hx289_2)
                injection hv289_2 with hva_ hvn_ hvc_
                rw [hva_] at ge289_2
                rw [hvc_] at ul289_2
                have HL289_2 := Aside0.mk (show Kd.V Kd.string 9 _ w.heap.size _ _ ((rd_T39 t283 3).f2) from Kd.V_mk ul289_2 ge289_2)
                clear hva_ hvn_ hvc_ ge289_2 ul289_2
                clear hcc289 hce289
                (try simp only [show (3 : Int).toNat = 3 from rfl, Nat.reduceMul, Nat.reduceEqDiff, Go.Addr.add, ↓reduceIte] at hx289_0)
                (try simp only [show (3 : Int).toNat = 3 from rfl, Nat.reduceMul, Nat.reduceEqDiff, Go.Addr.add, ↓reduceIte] at hx289_1)
                (try simp only [show (3 : Int).toNat = 3 from rfl, Nat.reduceMul, Nat.reduceEqDiff, Go.Addr.add, ↓reduceIte] at hx289_2)
                have qi289 : (3 < t283.length) = True := eq_true (by omega)
                (try rw [show ((3 : Int)).toNat = 3 from rfl] at hx289_0)
                (try rw [show 3 * 3 = 9 from rfl] at hx289_0)
                (try rw [show ((3 : Int)).toNat = 3 from rfl] at hx289_1)
                (try rw [show 3 * 3 = 9 from rfl] at hx289_1)
                (try rw [show ((3 : Int)).toNat = 3 from rfl] at hx289_2)
                (try rw [show 3 * 3 = 9 from rfl] at hx289_2)
                have HR289_2 := Aside0.mk hi289_2
                have HC289_2 := Aside0.mk hl289_2
                clear hi289_2 hl289_2
                replace p289 := eq_true p289
                replace q289 := eq_true q289
                have p290 : 0 ≤ (4 : Int) := (by omega)
                have q290 : 4 < (t283.length : Int) := of_decide_eq_true (by first | (with_reducible assumption) | assumption)
                obtain ⟨ad290, A290_2, c290_2, e290, hx290_0, hx290_1, hx290_2, hl290_2, hi290_2⟩ := at_T39 (Kd.N_reads' HO285.out).2.2 4 p290 q290
                obtain rfl : ad286 = ad290 := (by injection e290)
                obtain ⟨ce290, hce290, hMe290, hcc290⟩ := Kd.N_get HO285.out z39 4 p290 (by first | exact q290 | exact of_decide_eq_true (by first | (with_reducible assumption) | assumption) | (have e_ := (Kd.N_reads' HO285.out).1; omega))
                obtain ⟨ua290_2, uc290_2, rfl, ul290_2, ge290_2⟩ := k39_openF hMe290
                have hv290_2 := hcc290 2 _ rfl
                rw [add_field _ _ 2 (by omega)] at hv290_2
                replace hv290_2 := Option.some.inj (hv290_2.symm.trans hx290_2)
                injection hv290_2 with hva_ hvn_ hvc_
                rw [hva_] at ge290_2
                rw [hvc_] at ul290_2
                have HL290_2 := Aside0.mk (show Kd.V Kd.string 9 _ w.heap.size _ _ ((rd_T39 t283 4).f2) from Kd.V_mk ul290_2 ge290_2)
                clear hva_ hvn_ hvc_ ge290_2 ul290_2
                clear hcc290 hce290
                (try simp only [show (4 : Int).toNat = 4 from rfl, Nat.reduceMul, Nat.reduceEqDiff, Go.Addr.add, ↓reduceIte] at hx290_0)
                (try simp only [show (4 : Int).toNat = 4 from rfl, Nat.reduceMul, Nat.reduceEqDiff, Go.Addr.add, ↓reduceIte] at hx290_1)
                (try simp only [show (4 : Int).toNat = 4 from rfl, Nat.reduceMul, Nat.reduceEqDiff, Go.Addr.add, ↓reduceIte] at hx290_2)
                have qi290 : (4 < t283.length) = True := eq_true (by omega)
                (try rw [show ((4 : Int)).toNat = 4 from rfl] at hx290_0)
                (try rw [show 4 * 3 = 12 from rfl] at hx290_0)
                (try rw [show ((4 : Int)).toNat = 4 from rfl] at hx290_1)
                (try rw [show 4 * 3 = 12 from rfl] at hx290_1)
                (try rw [show ((4 : Int)).toNat = 4 from rfl] at hx290_2)
                (try rw [show 4 * 3 = 12 from rfl] at hx290_2)
                have HR290_2 := Aside0.mk hi290_2
                have HC290_2 := Aside0.mk hl290_2
                clear hi290_2 hl290_2
                replace p290 := eq_true p290
                replace q290 := eq_true q290
                have p294 : 0 ≤ (5 : Int) := (by omega)
                have q294 : 5 < (t283.length : Int) := of_decide_eq_true (by first | (with_reducible assumption) | assumption)
                obtain ⟨ad294, A294_2, c294_2, e294, hx294_0, hx294_1, hx294_2, hl294_2, hi294_2⟩ := at_T39 (Kd.N_reads' HO285.out).2.2 5 p294 q294
                obtain rfl : ad286 = ad294 := (by injection e294)
                obtain ⟨ce294, hce294, hMe294, hcc294⟩ := Kd.N_get HO285.out z39 5 p294 (by first | exact q294 | exact of_decide_eq_true (by first | (with_reducible assumption) | assumption) | (have e_ := (Kd.N_reads' HO285.out).1; omega))
                obtain ⟨ua294_2, uc294_2, rfl, ul294_2, ge294_2⟩ := k39_openF hMe294
                have hv294_2 := hcc294 2 _ rfl
                rw [add_field _ _ 2 (by omega)] at hv294_2
                replace hv294_2 := Option.some.inj (hv294_2.symm.trans hx294_2)
                injection hv294_2 with hva_ hvn_ hvc_
                rw [hva_] at ge294_2
                rw [hvc_] at ul294_2
                have HL294_2 := Aside0.mk (show Kd.V Kd.string 9 _ w.heap.size _ _ ((rd_T39 t283 5).f2) from Kd.V_mk ul294_2 ge294_2)
                clear hva_ hvn_ hvc_ ge294_2 ul294_2
                clear hcc294 hce294
                (try simp only [show (5 : Int).toNat = 5 from rfl, Nat.reduceMul, Nat.reduceEqDiff, Go.Addr.add, ↓reduceIte] at hx294_0)
                (try simp only [show (5 : Int).toNat = 5 from rfl, Nat.reduceMul, Nat.reduceEqDiff, Go.Addr.add, ↓reduceIte] at hx294_1)
                (try simp only [show (5 : Int).toNat = 5 from rfl, Nat.reduceMul, Nat.reduceEqDiff, Go.Addr.add, ↓reduceIte] at hx294_2)
                have qi294 : (5 < t283.length) = True := eq_true (by omega)
                (try rw [show ((5 : Int)).toNat = 5 from rfl] at hx294_0)
                (try rw [show 5 * 3 = 15 from rfl] at hx294_0)
                (try rw [show ((5 : Int)).toNat = 5 from rfl] at hx294_1)
                (try rw [show 5 * 3 = 15 from rfl] at hx294_1)
                (try rw [show ((5 : Int)).toNat = 5 from rfl] at hx294_2)
                (try rw [show 5 * 3 = 15 from rfl] at hx294_2)
                have HR294_2 := Aside0.mk hi294_2
                have HC294_2 := Aside0.mk hl294_2
                clear hi294_2 hl294_2
                replace p294 := eq_true p294
                replace q294 := eq_true q294
                have p295 : 0 ≤ (6 : Int) := (by omega)
                have q295 : 6 < (t283.length : Int) := of_decide_eq_true (by first | (with_reducible assumption) | assumption)
                obtain ⟨ad295, A295_2, c295_2, e295, hx295_0, hx295_1, hx295_2, hl295_2, hi295_2⟩ := at_T39 (Kd.N_reads' HO285.out).2.2 6 p295 q295
                obtain rfl : ad286 = ad295 := (by injection e295)
                obtain ⟨ce295, hce295, hMe295, hcc295⟩ := Kd.N_get HO285.out z39 6 p295 (by first | exact q295 | exact of_decide_eq_true (by first | (with_reducible assumption) | assumption) | (have e_ := (Kd.N_reads' HO285.out).1; omega))
                obtain ⟨ua295_2, uc295_2, rfl, ul295_2, ge295_2⟩ := k39_openF hMe295
                have hv295_2 := hcc295 2 _ rfl
                rw [add_field _ _ 2 (by omega)] at hv295_2
                replace hv295_2 := Option.some.inj (hv295_2.symm.trans hx295_2)
                injection hv295_2 with hva_ hvn_ hvc_
                rw [hva_] at ge295_2
                rw [hvc_] at ul295_2
                have HL295_2 := Aside0.mk (show Kd.V Kd.string 9 _ w.heap.size _ _ ((rd_T39 t283 6).f2) from Kd.V_mk ul295_2 ge295_2)
                clear hva_ hvn_ hvc_ ge295_2 ul295_2
                clear hcc295 hce295
                (try simp only [show (6 : Int).toNat = 6 from rfl, Nat.reduceMul, Nat.reduceEqDiff, Go.Addr.add, ↓reduceIte] at hx295_0)
                (try simp only [show (6 : Int).toNat = 6 from rfl, Nat.reduceMul, Nat.reduceEqDiff, Go.Addr.add, ↓reduceIte] at hx295_1)
                (try simp only [show (6 : Int).toNat = 6 from rfl, Nat.reduceMul, Nat.reduceEqDiff, Go.Addr.add, ↓reduceIte] at hx295_2)
                have qi295 : (6 < t283.length) = True := eq_true (by omega)
                (try rw [show ((6 : Int)).toNat = 6 from rfl] at hx295_0)
                (try rw [show 6 * 3 = 18 from rfl] at hx295_0)
                (try rw [show ((6 : Int)).toNat = 6 from rfl] at hx295_1)
                (try rw [show 6 * 3 = 18 from rfl] at hx295_1)
                (try rw [show ((6 : Int)).toNat = 6 from rfl] at hx295_2)
                (try rw [show 6 * 3 = 18 from rfl] at hx295_2)
                have HR295_2 := Aside0.mk hi295_2
                have HC295_2 := Aside0.mk hl295_2
                clear hi295_2 hl295_2
                replace p295 := eq_true p295
                replace q295 := eq_true q295
                refine start_ (n := 32) (S := fun w' => w'.cell? ad286 = some (.string ((rd_T39 t283 0).f0)) ∧ w'.cell? ⟨ad286.block, ad286.off + 1, none⟩ = some (.int .u64 ((rd_T39 t283 0).f1)) ∧ w'.cell? ⟨ad286.block, ad286.off + 2, none⟩ = some (.slice A286_2 ((rd_T39 t283 0).f2).length c286_2) ∧ w'.cell? ⟨ad286.block, ad286.off + 3, none⟩ = some (.string ((rd_T39 t283 1).f0)) ∧ w'.cell? ⟨ad286.block, ad286.off + 3 + 1, none⟩ = some (.int .u64 ((rd_T39 t283 1).f1)) ∧ w'.cell? ⟨ad286.block, ad286.off + 3 + 2, none⟩ = some (.slice A287_2 ((rd_T39 t283 1).f2).length c287_2) ∧ w'.cell? ⟨ad286.block, ad286.off + 6, none⟩ = some (.string ((rd_T39 t283 2).f0)) ∧ w'.cell? ⟨ad286.block, ad286.off + 6 + 1, none⟩ = some (.int .u64 ((rd_T39 t283 2).f1)) ∧ w'.cell? ⟨ad286.block, ad286.off + 6 + 2, none⟩ = some (.slice A288_2 ((rd_T39 t283 2).f2).length c288_2) ∧ w'.cell? ⟨ad286.block, ad286.off + 9, none⟩ = some (.string ((rd_T39 t283 3).f0)) ∧ w'.cell? ⟨ad286.block, ad286.off + 9 + 1, none⟩ = some (.int .u64 ((rd_T39 t283 3).f1)) ∧ w'.cell? ⟨ad286.block, ad286.off + 9 + 2, none⟩ = some (.slice A289_2 ((rd_T39 t283 3).f2).length c289_2) ∧ w'.cell? ⟨ad286.block, ad286.off + 12, none⟩ = some (.string ((rd_T39 t283 4).f0)) ∧ w'.cell? ⟨ad286.block, ad286.off + 12 + 1, none⟩ = some (.int .u64 ((rd_T39 t283 4).f1)) ∧ w'.cell? ⟨ad286.block, ad286.off + 12 + 2, none⟩ = some (.slice A290_2 ((rd_T39 t283 4).f2).length c290_2) ∧ w'.cell? ⟨ad286.block, ad286.off + 15, none⟩ = some (.string ((rd_T39 t283 5).f0)) ∧ w'.cell? ⟨ad286.block, ad286.off + 15 + 1, none⟩ = some (.int .u64 ((rd_T39 t283 5).f1)) ∧ w'.cell? ⟨ad286.block, ad286.off + 15 + 2, none⟩ = some (.slice A294_2 ((rd_T39 t283 5).f2).length c294_2) ∧ w'.cell? ⟨ad286.block, ad286.off + 18, none⟩ = some (.string ((rd_T39 t283 6).f0)) ∧ w'.cell? ⟨ad286.block, ad286.off + 18 + 1, none⟩ = some (.int .u64 ((rd_T39 t283 6).f1)) ∧ w'.cell? ⟨ad286.block, ad286.off + 18 + 2, none⟩ = some (.slice A295_2 ((rd_T39 t283 6).f2).length c295_2)) (ds := []) #[false, false, false, false, false, false, false, false, false, false, false, false, false, false, false, false, false, false, false, false, false, false, false, false, false, false, false, false, false, false, false, false] (by kernel_rfl) rfl rfl ⟨hx286_0, hx286_1, hx286_2, hx287_0, hx287_1, hx287_2, hx288_0, hx288_1, hx288_2, hx289_0, hx289_1, hx289_2, hx290_0, hx290_1, hx290_2, hx294_0, hx294_1, hx294_2, hx295_0, hx295_1, hx295_2⟩ (fun hHeld => ?_); refine with_tabW records_RowService.tab2 records_RowService.bits2 (fun HT_ HW_ => ?_)
                generalize w15.drew = w16 at HO285 BK281 BK282 HB HL286_2 HL287_2 HL288_2 HL289_2 HL290_2 HL294_2 HL295_2 HR286_2 HR287_2 HR288_2 HR289_2 HR290_2 HR294_2 HR295_2 hx286_0 hx286_1 hx286_2 hx287_0 hx287_1 hx287_2 hx288_0 hx288_1 hx288_2 hx289_0 hx289_1 hx289_2 hx290_0 hx290_1 hx290_2 hx294_0 hx294_1 hx294_2 hx295_0 hx295_1 hx295_2 hHeld ⊢
                refine pure_ (i := 0) (N := some 6) (v := ?_) (a' := ?_) #[true, false, false, false, false, false, false, false, false, false, false, false, false, false, false, false, false, false, false, false, false, false, false, false, false, false, false, false, false, false, false, false] rfl rfl (any_of HT_.out (by kernel_rfl)) (fun _ _ _ h => h) (Or.inl ⟨by rfl, ?_⟩) ?_ ?_
                rotate_left
                · intro w'
                  go_simp
                  with_reducible rfl
                rotate_left
                · simp only [Act.put, List.setIfInBounds_toArray, List.set_cons_zero, List.set_cons_succ, i64_w, i32_w]
                  rfl
                refine pure_ (i := 1) (N := some 7) (v := ?_) (a' := ?_) #[true, true, false, false, false, false, false, false, false, false, false, false, false, false, false, false, false, false, false, false, false, false, false, false, false, false, false, false, false, false, false, false] rfl rfl (any_of HT_.out (by kernel_rfl)) (fun _ _ _ h => h) (Or.inl ⟨by rfl, ?_⟩) ?_ ?_
                rotate_left
                · intro w'
                  go_simp
                  with_reducible rfl
                rotate_left
                · simp only [Act.put, List.setIfInBounds_toArray, List.set_cons_zero, List.set_cons_succ, i64_w, i32_w]
                  rfl
                refine pure_ (i := 2) (N := some 8) (v := ?_) (a' := ?_) #[true, true, true, false, false, false, false, false, false, false, false, false, false, false, false, false, false, false, false, false, false, false, false, false, false, false, false, false, false, false, false, false] rfl rfl (any_of HT_.out (by kernel_rfl)) (fun _ _ _ h => h) (Or.inl ⟨by rfl, ?_⟩) ?_ ?_
                rotate_left
                · intro w'
                  go_simp
                  with_reducible rfl
                rotate_left
                · simp only [Act.put, List.setIfInBounds_toArray, List.set_cons_zero, List.set_cons_succ, i64_w, i32_w]
                  rfl
                refine pure_ (i := 4) (N := some 10) (v := ?_) (a' := ?_) #[true, true, true, false, true, false, false, false, false, false, false, false, false, false, false, false, false, false, false, false, false, false, false, false, false, false, false, false, false, false, false, false] rfl rfl (any_of HT_.out (by kernel_rfl)) (fun _ _ _ h => h) (Or.inl ⟨by rfl, ?_⟩) ?_ ?_
                rotate_left
                · intro w'
                  go_simp
                  with_reducible rfl
                rotate_left
                · simp only [Act.put, List.setIfInBounds_toArray, List.set_cons_zero, List.set_cons_succ, i64_w, i32_w]
                  rfl
                refine pure_ (i := 5) (N := some 11) (v := ?_) (a' := ?_) #[true, true, true, false, true, true, false, false, false, false, false, false, false, false, false, false, false, false, false, false, false, false, false, false, false, false, false, false, false, false, false, false] rfl rfl (any_of HT_.out (by kernel_rfl)) (fun _ _ _ h => h) (Or.inl ⟨by rfl, ?_⟩) ?_ ?_
                rotate_left
                · intro w'
                  go_simp
                  with_reducible rfl
                rotate_left
                · simp only [Act.put, List.setIfInBounds_toArray, List.set_cons_zero, List.set_cons_succ, i64_w, i32_w]
                  rfl
                refine pure_ (i := 6) (N := some 12) (v := ?_) (a' := ?_) #[true, true, true, false, true, true, true, false, false, false, false, false, false, false, false, false, false, false, false, false, false, false, false, false, false, false, false, false, false, false, false, false] rfl rfl (any_of HT_.out (by kernel_rfl)) (fun _ _ _ h => h) (Or.inl ⟨by rfl, ?_⟩) ?_ ?_
                rotate_left
                · intro w'
                  go_simp
                  with_reducible rfl
                rotate_left
                · simp only [Act.put, List.setIfInBounds_toArray, List.set_cons_zero, List.set_cons_succ, i64_w, i32_w]
                  rfl
                refine pure_ (i := 8) (N := some 14) (v := ?_) (a' := ?_) #[true, true, true, false, true, true, true, false, true, false, false, false, false, false, false, false, false, false, false, false, false, false, false, false, false, false, false, false, false, false, false, false] rfl rfl (any_of HT_.out (by kernel_rfl)) (fun _ _ _ h => h) (Or.inl ⟨by rfl, ?_⟩) ?_ ?_
                rotate_left
                · intro w'
                  go_simp
                  with_reducible rfl
                rotate_left
                · simp only [Act.put, List.setIfInBounds_toArray, List.set_cons_zero, List.set_cons_succ, i64_w, i32_w]
                  rfl
                refine pure_ (i := 9) (N := some 15) (v := ?_) (a' := ?_) #[true, true, true, false, true, true, true, false, true, true, false, false, false, false, false, false, false, false, false, false, false, false, false, false, false, false, false, false, false, false, false, false] rfl rfl (any_of HT_.out (by kernel_rfl)) (fun _ _ _ h => h) (Or.inl ⟨by rfl, ?_⟩) ?_ ?_
                rotate_left
                · intro w'
                  go_simp
                  with_reducible rfl
                rotate_left
                · simp only [Act.put, List.setIfInBounds_toArray, List.set_cons_zero, List.set_cons_succ, i64_w, i32_w]
                  rfl
                refine pure_ (i := 10) (N := some 16) (v := ?_) (a' := ?_) #[true, true, true, false, true, true, true, false, true, true, true, false, false, false, false, false, false, false, false, false, false, false, false, false, false, false, false, false, false, false, false, false] rfl rfl (any_of HT_.out (by kernel_rfl)) (fun _ _ _ h => h) (Or.inl ⟨by rfl, ?_⟩) ?_ ?_
                rotate_left
                · intro w'
                  go_simp
                  with_reducible rfl
                rotate_left
                · simp only [Act.put, List.setIfInBounds_toArray, List.set_cons_zero, List.set_cons_succ, i64_w, i32_w]
                  rfl
                refine pure_ (i := 12) (N := some 18) (v := ?_) (a' := ?_) #[true, true, true, false, true, true, true, false, true, true, true, false, true, false, false, false, false, false, false, false, false, false, false, false, false, false, false, false, false, false, false, false] rfl rfl (any_of HT_.out (by kernel_rfl)) (fun _ _ _ h => h) (Or.inl ⟨by rfl, ?_⟩) ?_ ?_
                rotate_left
                · intro w'
                  go_simp
                  with_reducible rfl
                rotate_left
                · simp only [Act.put, List.setIfInBounds_toArray, List.set_cons_zero, List.set_cons_succ, i64_w, i32_w]
                  rfl
                refine pure_ (i := 13) (N := some 19) (v := ?_) (a' := ?_) #[true, true, true, false, true, true, true, false, true, true, true, false, true, true, false, false, false, false, false, false, false, false, false, false, false, false, false, false, false, false, false, false] rfl rfl (any_of HT_.out (by kernel_rfl)) (fun _ _ _ h => h) (Or.inl ⟨by rfl, ?_⟩) ?_ ?_
                rotate_left
                · intro w'
                  go_simp
                  with_reducible rfl
                rotate_left
                · simp only [Act.put, List.setIfInBounds_toArray, List.set_cons_zero, List.set_cons_succ, i64_w, i32_w]
                  rfl
                refine pure_ (i := 14) (N := some 20) (v := ?_) (a' := ?_) #[true, true, true, false, true, true, true, false, true, true, true, false, true, true, true, false, false, false, false, false, false, false, false, false, false, false, false, false, false, false, false, false] rfl rfl (any_of HT_.out (by kernel_rfl)) (fun _ _ _ h => h) (Or.inl ⟨by rfl, ?_⟩) ?_ ?_
                rotate_left
                · intro w'
                  go_simp
                  with_reducible rfl
                rotate_left
                · simp only [Act.put, List.setIfInBounds_toArray, List.set_cons_zero, List.set_cons_succ, i64_w, i32_w]
                  rfl
                refine pure_ (i := 17) (N := some 23) (v := ?_) (a' := ?_) #[true, true, true, false, true, true, true, false, true, true, true, false, true, true, true, false, false, true, false, false, false, false, false, false, false, false, false, false, false, false, false, false] rfl rfl (any_of HT_.out (by kernel_rfl)) (fun _ _ _ h => h) (Or.inl ⟨by rfl, ?_⟩) ?_ ?_
                rotate_left
                · intro w'
                  go_simp
                  with_reducible rfl
                rotate_left
                · simp only [Act.put, List.setIfInBounds_toArray, List.set_cons_zero, List.set_cons_succ, i64_w, i32_w]
                  rfl
                refine pure_ (i := 18) (N := some 24) (v := ?_) (a' := ?_) #[true, true, true, false, true, true, true, false, true, true, true, false, true, true, true, false, false, true, true, false, false, false, false, false, false, false, false, false, false, false, false, false] rfl rfl (any_of HT_.out (by kernel_rfl)) (fun _ _ _ h => h) (Or.inl ⟨by rfl, ?_⟩) ?_ ?_
                rotate_left
                · intro w'
                  go_simp
                  with_reducible rfl
                rotate_left
                · simp only [Act.put, List.setIfInBounds_toArray, List.set_cons_zero, List.set_cons_succ, i64_w, i32_w]
                  rfl
                refine pure_ (i := 19) (N := some 25) (v := ?_) (a' := ?_) #[true, true, true, false, true, true, true, false, true, true, true, false, true, true, true, false, false, true, true, true, false, false, false, false, false, false, false, false, false, false, false, false] rfl rfl (any_of HT_.out (by kernel_rfl)) (fun _ _ _ h => h) (Or.inl ⟨by rfl, ?_⟩) ?_ ?_
                rotate_left
                · intro w'
                  go_simp
                  with_reducible rfl
                rotate_left
                · simp only [Act.put, List.setIfInBounds_toArray, List.set_cons_zero, List.set_cons_succ, i64_w, i32_w]
                  rfl
                refine pure_ (i := 22) (N := some 28) (v := ?_) (a' := ?_) #[true, true, true, false, true, true, true, false, true, true, true, false, true, true, true, false, false, true, true, true, false, false, true, false, false, false, false, false, false, false, false, false] rfl rfl (any_of HT_.out (by kernel_rfl)) (fun _ _ _ h => h) (Or.inl ⟨by rfl, ?_⟩) ?_ ?_
                rotate_left
                · intro w'
                  go_simp
                  with_reducible rfl
                rotate_left
                · simp only [Act.put, List.setIfInBounds_toArray, List.set_cons_zero, List.set_cons_succ, i64_w, i32_w]
                  rfl
                refine pure_ (i := 23) (N := some 29) (v := ?_) (a' := ?_) #[true, true, true, false, true, true, true, false, true, true, true, false, true, true, true, false, false, true, true, true, false, false, true, true, false, false, false, false, false, false, false, false] rfl rfl (any_of HT_.out (by kernel_rfl)) (fun _ _ _ h => h) (Or.inl ⟨by rfl, ?_⟩) ?_ ?_
                rotate_left
                · intro w'
                  go_simp
                  with_reducible rfl
                rotate_left
                · simp only [Act.put, List.setIfInBounds_toArray, List.set_cons_zero, List.set_cons_succ, i64_w, i32_w]
                  rfl
                refine pure_ (i := 24) (N := some 30) (v := ?_) (a' := ?_) #[true, true, true, false, true, true, true, false, true, true, true, false, true, true, true, false, false, true, true, true, false, false, true, true, true, false, false, false, false, false, false, false] rfl rfl (any_of HT_.out (by kernel_rfl)) (fun _ _ _ h => h) (Or.inl ⟨by rfl, ?_⟩) ?_ ?_
                rotate_left
                · intro w'
                  go_simp
                  with_reducible rfl
                rotate_left
                · simp only [Act.put, List.setIfInBounds_toArray, List.set_cons_zero, List.set_cons_succ, i64_w, i32_w]
                  rfl
                refine pure_ (i := 26) (N := some 32) (v := ?_) (a' := ?_) #[true, true, true, false, true, true, true, false, true, true, true, false, true, true, true, false, false, true, true, true, false, false, true, true, true, false, true, false, false, false, false, false] rfl rfl (any_of HT_.out (by kernel_rfl)) (fun _ _ _ h => h) (Or.inl ⟨by rfl, ?_⟩) ?_ ?_
                rotate_left
                · intro w'
                  go_simp
                  with_reducible rfl
                rotate_left
                · simp only [Act.put, List.setIfInBounds_toArray, List.set_cons_zero, List.set_cons_succ, i64_w, i32_w]
                  rfl
                refine pure_ (i := 27) (N := some 33) (v := ?_) (a' := ?_) #[true, true, true, false, true, true, true, false, true, true, true, false, true, true, true, false, false, true, true, true, false, false, true, true, true, false, true, true, false, false, false, false] rfl rfl (any_of HT_.out (by kernel_rfl)) (fun _ _ _ h => h) (Or.inl ⟨by rfl, ?_⟩) ?_ ?_
                rotate_left
                · intro w'
                  go_simp
                  with_reducible rfl
                rotate_left
                · simp only [Act.put, List.setIfInBounds_toArray, List.set_cons_zero, List.set_cons_succ, i64_w, i32_w]
                  rfl
                refine pure_ (i := 28) (N := some 34) (v := ?_) (a' := ?_) #[true, true, true, false, true, true, true, false, true, true, true, false, true, true, true, false, false, true, true, true, false, false, true, true, true, false, true, true, true, false, false, false] rfl rfl (any_of HT_.out (by kernel_rfl)) (fun _ _ _ h => h) (Or.inl ⟨by rfl, ?_⟩) ?_ ?_
                rotate_left
                · intro w'
                  go_simp
                  with_reducible rfl
                rotate_left
                · simp only [Act.put, List.setIfInBounds_toArray, List.set_cons_zero, List.set_cons_succ, i64_w, i32_w]
                  rfl
                refine take_ (i := 3) (N := some 9) (v := ?_) (a' := ?_) #[true, true, true, true, true, true, true, false, true, true, true, false, true, true, true, false, false, true, true, true, false, false, true, true, true, false, true, true, true, false, false, false] rfl rfl (take_ofW HT_.out HW_.out (by kernel_rfl)) (fun _ _ _ h => h) (Or.inl ⟨by rfl, ?_⟩) hHeld ?_ ?_
                rotate_left
                · rintro w' ⟨s0, s1, s2, s3, s4, s5, s6, s7, s8, s9, s10, s11, s12, s13, s14, s15, s16, s17, s18, s19, s20⟩
                  go_simp
                  with_reducible rfl
                rotate_left
                · simp only [Act.put, List.setIfInBounds_toArray, List.set_cons_zero, List.set_cons_succ, i64_w, i32_w]
                  rfl
                refine take_ (i := 7) (N := some 13) (v := ?_) (a' := ?_) #[true, true, true, true, true, true, true, true, true, true, true, false, true, true, true, false, false, true, true, true, false, false, true, true, true, false, true, true, true, false, false, false] rfl rfl (take_ofW HT_.out HW_.out (by kernel_rfl)) (fun _ _ _ h => h) (Or.inl ⟨by rfl, ?_⟩) hHeld ?_ ?_
                rotate_left
                · rintro w' ⟨s0, s1, s2, s3, s4, s5, s6, s7, s8, s9, s10, s11, s12, s13, s14, s15, s16, s17, s18, s19, s20⟩
                  go_simp
                  with_reducible rfl
                rotate_left
                · simp only [Act.put, List.setIfInBounds_toArray, List.set_cons_zero, List.set_cons_succ, i64_w, i32_w]
                  rfl
                refine take_ (i := 11) (N := some 17) (v := ?_) (a' := ?_) #[true, true, true, true, true, true, true, true, true, true, true, true, true, true, true, false, false, true, true, true, false, false, true, true, true, false, true, true, true, false, false, false] rfl rfl (take_ofW HT_.out HW_.out (by kernel_rfl)) (fun _ _ _ h => h) (Or.inl ⟨by rfl, ?_⟩) hHeld ?_ ?_
                rotate_left
                · rintro w' ⟨s0, s1, s2, s3, s4, s5, s6, s7, s8, s9, s10, s11, s12, s13, s14, s15, s16, s17, s18, s19, s20⟩
                  go_simp
                  with_reducible rfl
                rotate_left
                · simp only [Act.put, List.setIfInBounds_toArray, List.set_cons_zero, List.set_cons_succ, i64_w, i32_w]
                  rfl
                refine take_ (i := 15) (N := some 21) (v := ?_) (a' := ?_) #[true, true, true, true, true, true, true, true, true, true, true, true, true, true, true, true, false, true, true, true, false, false, true, true, true, false, true, true, true, false, false, false] rfl rfl (take_ofW HT_.out HW_.out (by kernel_rfl)) (fun _ _ _ h => h) (Or.inl ⟨by rfl, ?_⟩) hHeld ?_ ?_
                rotate_left
                · rintro w' ⟨s0, s1, s2, s3, s4, s5, s6, s7, s8, s9, s10, s11, s12, s13, s14, s15, s16, s17, s18, s19, s20⟩
                  go_simp
                  with_reducible rfl
                rotate_left
                · simp only [Act.put, List.setIfInBounds_toArray, List.set_cons_zero, List.set_cons_succ, i64_w, i32_w]
                  rfl
                refine pure_ (i := 16) (N := some 22) (v := ?_) (a' := ?_) #[true, true, true, true, true, true, true, true, true, true, true, true, true, true, true, true, true, true, true, true, false, false, true, true, true, false, true, true, true, false, false, false] rfl rfl (any_of HT_.out (by kernel_rfl)) (fun _ _ _ h => h) (Or.inl ⟨by rfl, ?_⟩) ?_ ?_
                rotate_left
                · intro w'
                  go_simp
                  with_reducible rfl
                rotate_left
                · simp only [Act.put, List.setIfInBounds_toArray, List.set_cons_zero, List.set_cons_succ, i64_w, i32_w]
                  rfl
                refine take_ (i := 20) (N := some 26) (v := ?_) (a' := ?_) #[true, true, true, true, true, true, true, true, true, true, true, true, true, true, true, true, true, true, true, true, true, false, true, true, true, false, true, true, true, false, false, false] rfl rfl (take_ofW HT_.out HW_.out (by kernel_rfl)) (fun _ _ _ h => h) (Or.inl ⟨by rfl, ?_⟩) hHeld ?_ ?_
                rotate_left
                · rintro w' ⟨s0, s1, s2, s3, s4, s5, s6, s7, s8, s9, s10, s11, s12, s13, s14, s15, s16, s17, s18, s19, s20⟩
                  go_simp
                  with_reducible rfl
                rotate_left
                · simp only [Act.put, List.setIfInBounds_toArray, List.set_cons_zero, List.set_cons_succ, i64_w, i32_w]
                  rfl
                refine take_ (i := 25) (N := some 31) (v := ?_) (a' := ?_) #[true, true, true, true, true, true, true, true, true, true, true, true, true, true, true, true, true, true, true, true, true, false, true, true, true, true, true, true, true, false, false, false] rfl rfl (take_ofW HT_.out HW_.out (by kernel_rfl)) (fun _ _ _ h => h) (Or.inl ⟨by rfl, ?_⟩) hHeld ?_ ?_
                rotate_left
                · rintro w' ⟨s0, s1, s2, s3, s4, s5, s6, s7, s8, s9, s10, s11, s12, s13, s14, s15, s16, s17, s18, s19, s20⟩
                  go_simp
                  with_reducible rfl
                rotate_left
                · simp only [Act.put, List.setIfInBounds_toArray, List.set_cons_zero, List.set_cons_succ, i64_w, i32_w]
                  rfl
                refine take_ (i := 29) (N := some 35) (v := ?_) (a' := ?_) #[true, true, true, true, true, true, true, true, true, true, true, true, true, true, true, true, true, true, true, true, true, false, true, true, true, true, true, true, true, true, false, false] rfl rfl (take_ofW HT_.out HW_.out (by kernel_rfl)) (fun _ _ _ h => h) (Or.inl ⟨by rfl, ?_⟩) hHeld ?_ ?_
                rotate_left
                · rintro w' ⟨s0, s1, s2, s3, s4, s5, s6, s7, s8, s9, s10, s11, s12, s13, s14, s15, s16, s17, s18, s19, s20⟩
                  go_simp
                  with_reducible rfl
                rotate_left
                · simp only [Act.put, List.setIfInBounds_toArray, List.set_cons_zero, List.set_cons_succ, i64_w, i32_w]
                  rfl
                refine one_ (i := 21) (N := some 27) #[true, true, true, true, true, true, true, true, true, true, true, true, true, true, true, true, true, true, true, true, true, true, true, true, true, true, true, true, true, true, false, false] rfl rfl (one_of HT_.out (by kernel_rfl)) (by decide) (fun K hK => ?_)
                refine goes_ Tryd.func18 (by kernel_rfl) rfl #[.slice A290_2 ((rd_T39 t283 4).f2).length c290_2] (by rfl) rfl rfl (by (try simp only [List.map_toArray, List.map_cons, List.map_nil]); first | done | rfl | (simp only [List.length_drop, List.length_take]; rfl)) ?_
                with_reducible refine (slices_Clone_string_string.calls _ _ ((rd_T39 t283 4).f2) t291 _ ?side1 ?side2 A8.out).mono ?_
                (case side1 => repeat (first | exact (by repeat (first | (with_reducible exact HR290_2.out) | (with_reducible refine Kd.C_alloc ?_ _) | (with_reducible refine Kd.C_drewN ?_ _) | (with_reducible refine Kd.C_drew ?_) | exact HR290_2.out)) | (with_reducible refine Kd.C_alloc ?_ _) | (with_reducible refine Kd.C_drewN ?_ _) | (with_reducible refine Kd.C_drew ?_)))
                (case side2 => exact HC290_2.out)
                rintro e w18 ⟨v292, rfl, ho0, hb⟩
                have HS0_ := (hb.cell (World.block_lt_of_cell? _ _ (hHeld.1))).trans (hHeld.1)
                have HS1_ := (hb.cell (World.block_lt_of_cell? _ _ (hHeld.2.1))).trans (hHeld.2.1)
                have HS2_ := (hb.cell (World.block_lt_of_cell? _ _ (hHeld.2.2.1))).trans (hHeld.2.2.1)
                have HS3_ := (hb.cell (World.block_lt_of_cell? _ _ (hHeld.2.2.2.1))).trans (hHeld.2.2.2.1)
                have HS4_ := (hb.cell (World.block_lt_of_cell? _ _ (hHeld.2.2.2.2.1))).trans (hHeld.2.2.2.2.1)
                have HS5_ := (hb.cell (World.block_lt_of_cell? _ _ (hHeld.2.2.2.2.2.1))).trans (hHeld.2.2.2.2.2.1)
                have HS6_ := (hb.cell (World.block_lt_of_cell? _ _ (hHeld.2.2.2.2.2.2.1))).trans (hHeld.2.2.2.2.2.2.1)
                have HS7_ := (hb.cell (World.block_lt_of_cell? _ _ (hHeld.2.2.2.2.2.2.2.1))).trans (hHeld.2.2.2.2.2.2.2.1)
                have HS8_ := (hb.cell (World.block_lt_of_cell? _ _ (hHeld.2.2.2.2.2.2.2.2.1))).trans (hHeld.2.2.2.2.2.2.2.2.1)
                have HS9_ := (hb.cell (World.block_lt_of_cell? _ _ (hHeld.2.2.2.2.2.2.2.2.2.1))).trans (hHeld.2.2.2.2.2.2.2.2.2.1)
                have HS10_ := (hb.cell (World.block_lt_of_cell? _ _ (hHeld.2.2.2.2.2.2.2.2.2.2.1))).trans (hHeld.2.2.2.2.2.2.2.2.2.2.1)
                have HS11_ := (hb.cell (World.block_lt_of_cell? _ _ (hHeld.2.2.2.2.2.2.2.2.2.2.2.1))).trans (hHeld.2.2.2.2.2.2.2.2.2.2.2.1)
                have HS12_ := (hb.cell (World.block_lt_of_cell? _ _ (hHeld.2.2.2.2.2.2.2.2.2.2.2.2.1))).trans (hHeld.2.2.2.2.2.2.2.2.2.2.2.2.1)
                have HS13_ := (hb.cell (World.block_lt_of_cell? _ _ (hHeld.2.2.2.2.2.2.2.2.2.2.2.2.2.1))).trans (hHeld.2.2.2.2.2.2.2.2.2.2.2.2.2.1)
                have HS14_ := (hb.cell (World.block_lt_of_cell? _ _ (hHeld.2.2.2.2.2.2.2.2.2.2.2.2.2.2.1))).trans (hHeld.2.2.2.2.2.2.2.2.2.2.2.2.2.2.1)
                have HS15_ := (hb.cell (World.block_lt_of_cell? _ _ (hHeld.2.2.2.2.2.2.2.2.2.2.2.2.2.2.2.1))).trans (hHeld.2.2.2.2.2.2.2.2.2.2.2.2.2.2.2.1)
                have HS16_ := (hb.cell (World.block_lt_of_cell? _ _ (hHeld.2.2.2.2.2.2.2.2.2.2.2.2.2.2.2.2.1))).trans (hHeld.2.2.2.2.2.2.2.2.2.2.2.2.2.2.2.2.1)
                have HS17_ := (hb.cell (World.block_lt_of_cell? _ _ (hHeld.2.2.2.2.2.2.2.2.2.2.2.2.2.2.2.2.2.1))).trans (hHeld.2.2.2.2.2.2.2.2.2.2.2.2.2.2.2.2.2.1)
                have HS18_ := (hb.cell (World.block_lt_of_cell? _ _ (hHeld.2.2.2.2.2.2.2.2.2.2.2.2.2.2.2.2.2.2.1))).trans (hHeld.2.2.2.2.2.2.2.2.2.2.2.2.2.2.2.2.2.2.1)
                have HS19_ := (hb.cell (World.block_lt_of_cell? _ _ (hHeld.2.2.2.2.2.2.2.2.2.2.2.2.2.2.2.2.2.2.2.1))).trans (hHeld.2.2.2.2.2.2.2.2.2.2.2.2.2.2.2.2.2.2.2.1)
                have HS20_ := (hb.cell (World.block_lt_of_cell? _ _ (hHeld.2.2.2.2.2.2.2.2.2.2.2.2.2.2.2.2.2.2.2.2))).trans (hHeld.2.2.2.2.2.2.2.2.2.2.2.2.2.2.2.2.2.2.2.2)
                refine ⟨_, rfl, ?_⟩
                have n0_ := Aside0.mk (Kd.N_elder' (by (with_reducible repeat (first | apply Kd.N_alloc | apply Kd.N_drewN | apply Kd.N_drew)); exact HO285.out) (Kd.R_base ho0) hb)
                have n1_ := Aside0.mk (Kd.V_elder' (by (with_reducible repeat (first | apply Kd.V_alloc | apply Kd.V_drewN | apply Kd.V_drew)); exact HL286_2.out) (Kd.R_base ho0) hb)
                have n2_ := Aside0.mk (Kd.V_elder' (by (with_reducible repeat (first | apply Kd.V_alloc | apply Kd.V_drewN | apply Kd.V_drew)); exact HL287_2.out) (Kd.R_base ho0) hb)
                have n3_ := Aside0.mk (Kd.V_elder' (by (with_reducible repeat (first | apply Kd.V_alloc | apply Kd.V_drewN | apply Kd.V_drew)); exact HL288_2.out) (Kd.R_base ho0) hb)
                have n4_ := Aside0.mk (Kd.V_elder' (by (with_reducible repeat (first | apply Kd.V_alloc | apply Kd.V_drewN | apply Kd.V_drew)); exact HL289_2.out) (Kd.R_base ho0) hb)
                have n5_ := Aside0.mk (Kd.V_elder' (by (with_reducible repeat (first | apply Kd.V_alloc | apply Kd.V_drewN | apply Kd.V_drew)); exact HL290_2.out) (Kd.R_base ho0) hb)
                have n6_ := Aside0.mk (Kd.V_elder' (by (with_reducible repeat (first | apply Kd.V_alloc | apply Kd.V_drewN | apply Kd.V_drew)); exact HL294_2.out) (Kd.R_base ho0) hb)
                have n7_ := Aside0.mk (Kd.V_elder' (by (with_reducible repeat (first | apply Kd.V_alloc | apply Kd.V_drewN | apply Kd.V_drew)); exact HL295_2.out) (Kd.R_base ho0) hb)
                have n8_ := Aside0.mk (Kd.R_lower ho0 (below_size (by repeat (first | (with_reducible first | exact HB.out | apply below_alloc | apply pw_below_drewN | apply below_drew1 | refine below_set ?_ GE281.out | refine below_set ?_ GE282.out) | exact HB.out))))
                have n9_ := Aside0.mk (blk_below (g := gb281) (o := .cells #[.slice A0_0 l0_0.length c0_0] 33 (0, 0)) (by (with_reducible repeat (first | refine blk_drewN ?_ _ | refine blk_drew ?_ | refine blk_alloc ?_ _)); exact BK281.out) hb)
                have n10_ := Aside0.mk (blk_below (g := gb282) (o := .cells #[.string (⟨#[]⟩ : ByteArray), .string (⟨#[]⟩ : ByteArray), .string (⟨#[]⟩ : ByteArray), .int .i64 0, .slice none 0 0, .int .u64 0, .int .u64 0] 27 (0, 0)) (by (with_reducible repeat (first | refine blk_drewN ?_ _ | refine blk_drew ?_ | refine blk_alloc ?_ _)); exact BK282.out) hb)
                have n11_ := Aside0.mk (Kd.C_below (by repeat (first | (with_reducible exact HR286_2.out) | (with_reducible refine Kd.C_alloc ?_ _) | (with_reducible refine Kd.C_drewN ?_ _) | (with_reducible refine Kd.C_drew ?_) | exact HR286_2.out)) hb)
                have n12_ := Aside0.mk (Kd.C_below (by repeat (first | (with_reducible exact HR287_2.out) | (with_reducible refine Kd.C_alloc ?_ _) | (with_reducible refine Kd.C_drewN ?_ _) | (with_reducible refine Kd.C_drew ?_) | exact HR287_2.out)) hb)
                have n13_ := Aside0.mk (Kd.C_below (by repeat (first | (with_reducible exact HR288_2.out) | (with_reducible refine Kd.C_alloc ?_ _) | (with_reducible refine Kd.C_drewN ?_ _) | (with_reducible refine Kd.C_drew ?_) | exact HR288_2.out)) hb)
                have n14_ := Aside0.mk (Kd.C_below (by repeat (first | (with_reducible exact HR289_2.out) | (with_reducible refine Kd.C_alloc ?_ _) | (with_reducible refine Kd.C_drewN ?_ _) | (with_reducible refine Kd.C_drew ?_) | exact HR289_2.out)) hb)
                have n15_ := Aside0.mk (Kd.C_below (by repeat (first | (with_reducible exact HR290_2.out) | (with_reducible refine Kd.C_alloc ?_ _) | (with_reducible refine Kd.C_drewN ?_ _) | (with_reducible refine Kd.C_drew ?_) | exact HR290_2.out)) hb)
                have n16_ := Aside0.mk (Kd.C_below (by repeat (first | (with_reducible exact HR294_2.out) | (with_reducible refine Kd.C_alloc ?_ _) | (with_reducible refine Kd.C_drewN ?_ _) | (with_reducible refine Kd.C_drew ?_) | exact HR294_2.out)) hb)
                have n17_ := Aside0.mk (Kd.C_below (by repeat (first | (with_reducible exact HR295_2.out) | (with_reducible refine Kd.C_alloc ?_ _) | (with_reducible refine Kd.C_drewN ?_ _) | (with_reducible refine Kd.C_drew ?_) | exact HR295_2.out)) hb)
                have n18_ := Aside0.mk (below_step (by repeat (first | (with_reducible first | exact HB.out | apply below_alloc | apply pw_below_drewN | apply below_drew1 | refine below_set ?_ GE281.out | refine below_set ?_ GE282.out) | exact HB.out)) hb)
                clear HO285
                clear HL286_2
                clear HL287_2
                clear HL288_2
                clear HL289_2
                clear HL290_2
                clear HL294_2
                clear HL295_2
                clear BK281
                clear BK282
                clear HR286_2
                clear HR287_2
                clear HR288_2
                clear HR289_2
                clear HR290_2
                clear HR294_2
                clear HR295_2
                clear HB
                have HO285 := n0_
                have HL286_2 := n1_
                have HL287_2 := n2_
                have HL288_2 := n3_
                have HL289_2 := n4_
                have HL290_2 := n5_
                have HL294_2 := n6_
                have HL295_2 := n7_
                have HO293 := n8_
                have BK281 := n9_
                have BK282 := n10_
                have HR286_2 := n11_
                have HR287_2 := n12_
                have HR288_2 := n13_
                have HR289_2 := n14_
                have HR290_2 := n15_
                have HR294_2 := n16_
                have HR295_2 := n17_
                have HB := n18_
                clear n0_ n1_ n2_ n3_ n4_ n5_ n6_ n7_ n8_ n9_ n10_ n11_ n12_ n13_ n14_ n15_ n16_ n17_ n18_
                (try clear hb)
                (try clear hb2)
                (try clear hk)
                (try clear hi)
                (try clear ho0)
                obtain ⟨Ao19, co19, eo19⟩ := Kd.R_slice HO293.out
                (first | subst eo19 | (injection eo19 with f1_ f2_ f3_; have f4_ := f1_.symm; have f5_ := f3_.symm; clear f1_ f2_ f3_; subst f4_; subst f5_))
                refine hK.out _ _ ⟨HS0_, HS1_, HS2_, HS3_, HS4_, HS5_, HS6_, HS7_, HS8_, HS9_, HS10_, HS11_, HS12_, HS13_, HS14_, HS15_, HS16_, HS17_, HS18_, HS19_, HS20_⟩ (fun hHeld => ?_)
                clear hK K
                refine norm_ (a' := ?_) ?_ ?_
                rotate_left
                · show Act.put _ (some 27) _ = _
                  simp only [Act.put, List.setIfInBounds_toArray, List.set_cons_zero, List.set_cons_succ, i64_w, i32_w]
                  rfl
                refine pure_ (i := 30) (N := some 36) (v := ?_) (a' := ?_) #[true, true, true, true, true, true, true, true, true, true, true, true, true, true, true, true, true, true, true, true, true, true, true, true, true, true, true, true, true, true, true, false] rfl rfl (any_of HT_.out (by kernel_rfl)) (fun _ _ _ h => h) (Or.inl ⟨by rfl, ?_⟩) ?_ ?_
                rotate_left
                · intro w'
                  go_simp
                  with_reducible rfl
                rotate_left
                · simp only [Act.put, List.setIfInBounds_toArray, List.set_cons_zero, List.set_cons_succ, i64_w, i32_w]
                  rfl
                refine one_ (i := 31) (N := none) #[true, true, true, true, true, true, true, true, true, true, true, true, true, true, true, true, true, true, true, true, true, true, true, true, true, true, true, true, true, true, true, true] rfl rfl (one_of HT_.out (by kernel_rfl)) (by decide) (fun K hK => ?_)
                have hs20 : w18.cell? ⟨gb282, 0, none⟩ = some (.string (⟨#[]⟩ : ByteArray)) := (blk_cell BK282.out 0).trans rfl
                have hfs20 := blk_frozen BK282.out 0
                have hns20_0 := NB281_282.out
                have hms20_0 := NB282_281.out
                have hs21 : w18.cell? ⟨gb282, 1, none⟩ = some (.string (⟨#[]⟩ : ByteArray)) := (blk_cell BK282.out 1).trans rfl
                have hfs21 := blk_frozen BK282.out 1
                have hns21_0 := NB281_282.out
                have hms21_0 := NB282_281.out
                have hs22 : w18.cell? ⟨gb282, 2, none⟩ = some (.string (⟨#[]⟩ : ByteArray)) := (blk_cell BK282.out 2).trans rfl
                have hfs22 := blk_frozen BK282.out 2
                have hns22_0 := NB281_282.out
                have hms22_0 := NB282_281.out
                have hs23 : w18.cell? ⟨gb282, 3, none⟩ = some (.int .i64 0) := (blk_cell BK282.out 3).trans rfl
                have hfs23 := blk_frozen BK282.out 3
                have hns23_0 := NB281_282.out
                have hms23_0 := NB282_281.out
                have hs24 : w18.cell? ⟨gb282, 4, none⟩ = some (.slice none 0 0) := (blk_cell BK282.out 4).trans rfl
                have hfs24 := blk_frozen BK282.out 4
                have hns24_0 := NB281_282.out
                have hms24_0 := NB282_281.out
                have hs25 : w18.cell? ⟨gb282, 5, none⟩ = some (.int .u64 0) := (blk_cell BK282.out 5).trans rfl
                have hfs25 := blk_frozen BK282.out 5
                have hns25_0 := NB281_282.out
                have hms25_0 := NB282_281.out
                have hs26 : w18.cell? ⟨gb282, 6, none⟩ = some (.int .u64 0) := (blk_cell BK282.out 6).trans rfl
                have hfs26 := blk_frozen BK282.out 6
                have hns26_0 := NB281_282.out
                have hms26_0 := NB282_281.out
                refine skip_ (w1 := ?_) (by rfl) rfl ?_ ?_
                rotate_left
                · go_simp
                  rfl
                refine hK.out _ _ ⟨((cell_far (p := ⟨gb282, _, none⟩) (by first | exact Kd.own_blk (Kd.N_away HO285.out (fun _ hk => hk.1.2)) | (rw [add_block]; exact Kd.own_blk (Kd.N_away HO285.out (fun _ hk => hk.1.2))) | (show (Addr.add _ _).block ≠ _; rw [add_block]; exact Kd.own_blk (Kd.N_away HO285.out (fun _ hk => hk.1.2))) | (dsimp only; exact Kd.own_blk (Kd.N_away HO285.out (fun _ hk => hk.1.2)))) _).trans (((cell_far (p := ⟨gb282, _, none⟩) (by first | exact Kd.own_blk (Kd.N_away HO285.out (fun _ hk => hk.1.2)) | (rw [add_block]; exact Kd.own_blk (Kd.N_away HO285.out (fun _ hk => hk.1.2))) | (show (Addr.add _ _).block ≠ _; rw [add_block]; exact Kd.own_blk (Kd.N_away HO285.out (fun _ hk => hk.1.2))) | (dsimp only; exact Kd.own_blk (Kd.N_away HO285.out (fun _ hk => hk.1.2)))) _).trans (((cell_far (p := ⟨gb282, _, none⟩) (by first | exact Kd.own_blk (Kd.N_away HO285.out (fun _ hk => hk.1.2)) | (rw [add_block]; exact Kd.own_blk (Kd.N_away HO285.out (fun _ hk => hk.1.2))) | (show (Addr.add _ _).block ≠ _; rw [add_block]; exact Kd.own_blk (Kd.N_away HO285.out (fun _ hk => hk.1.2))) | (dsimp only; exact Kd.own_blk (Kd.N_away HO285.out (fun _ hk => hk.1.2)))) _).trans (((cell_far (p := ⟨gb282, _, none⟩) (by first | exact Kd.own_blk (Kd.N_away HO285.out (fun _ hk => hk.1.2)) | (rw [add_block]; exact Kd.own_blk (Kd.N_away HO285.out (fun _ hk => hk.1.2))) | (show (Addr.add _ _).block ≠ _; rw [add_block]; exact Kd.own_blk (Kd.N_away HO285.out (fun _ hk => hk.1.2))) | (dsimp only; exact Kd.own_blk (Kd.N_away HO285.out (fun _ hk => hk.1.2)))) _).trans (((cell_far (p := ⟨gb282, _, none⟩) (by first | exact Kd.own_blk (Kd.N_away HO285.out (fun _ hk => hk.1.2)) | (rw [add_block]; exact Kd.own_blk (Kd.N_away HO285.out (fun _ hk => hk.1.2))) | (show (Addr.add _ _).block ≠ _; rw [add_block]; exact Kd.own_blk (Kd.N_away HO285.out (fun _ hk => hk.1.2))) | (dsimp only; exact Kd.own_blk (Kd.N_away HO285.out (fun _ hk => hk.1.2)))) _).trans (((cell_far (p := ⟨gb282, _, none⟩) (by first | exact Kd.own_blk (Kd.N_away HO285.out (fun _ hk => hk.1.2)) | (rw [add_block]; exact Kd.own_blk (Kd.N_away HO285.out (fun _ hk => hk.1.2))) | (show (Addr.add _ _).block ≠ _; rw [add_block]; exact Kd.own_blk (Kd.N_away HO285.out (fun _ hk => hk.1.2))) | (dsimp only; exact Kd.own_blk (Kd.N_away HO285.out (fun _ hk => hk.1.2)))) _).trans (((cell_far (p := ⟨gb282, _, none⟩) (by first | exact Kd.own_blk (Kd.N_away HO285.out (fun _ hk => hk.1.2)) | (rw [add_block]; exact Kd.own_blk (Kd.N_away HO285.out (fun _ hk => hk.1.2))) | (show (Addr.add _ _).block ≠ _; rw [add_block]; exact Kd.own_blk (Kd.N_away HO285.out (fun _ hk => hk.1.2))) | (dsimp only; exact Kd.own_blk (Kd.N_away HO285.out (fun _ hk => hk.1.2)))) _).trans (hHeld.1)))))))))))))), ((cell_far (p := ⟨gb282, _, none⟩) (by first | exact Kd.own_blk (Kd.N_away HO285.out (fun _ hk => hk.1.2)) | (rw [add_block]; exact Kd.own_blk (Kd.N_away HO285.out (fun _ hk => hk.1.2))) | (show (Addr.add _ _).block ≠ _; rw [add_block]; exact Kd.own_blk (Kd.N_away HO285.out (fun _ hk => hk.1.2))) | (dsimp only; exact Kd.own_blk (Kd.N_away HO285.out (fun _ hk => hk.1.2)))) _).trans (((cell_far (p := ⟨gb282, _, none⟩) (by first | exact Kd.own_blk (Kd.N_away HO285.out (fun _ hk => hk.1.2)) | (rw [add_block]; exact Kd.own_blk (Kd.N_away HO285.out (fun _ hk => hk.1.2))) | (show (Addr.add _ _).block ≠ _; rw [add_block]; exact Kd.own_blk (Kd.N_away HO285.out (fun _ hk => hk.1.2))) | (dsimp only; exact Kd.own_blk (Kd.N_away HO285.out (fun _ hk => hk.1.2)))) _).trans (((cell_far (p := ⟨gb282, _, none⟩) (by first | exact Kd.own_blk (Kd.N_away HO285.out (fun _ hk => hk.1.2)) | (rw [add_block]; exact Kd.own_blk (Kd.N_away HO285.out (fun _ hk => hk.1.2))) | (show (Addr.add _ _).block ≠ _; rw [add_block]; exact Kd.own_blk (Kd.N_away HO285.out (fun _ hk => hk.1.2))) | (dsimp only; exact Kd.own_blk (Kd.N_away HO285.out (fun _ hk => hk.1.2)))) _).trans (((cell_far (p := ⟨gb282, _, none⟩) (by first | exact Kd.own_blk (Kd.N_away HO285.out (fun _ hk => hk.1.2)) | (rw [add_block]; exact Kd.own_blk (Kd.N_away HO285.out (fun _ hk => hk.1.2))) | (show (Addr.add _ _).block ≠ _; rw [add_block]; exact Kd.own_blk (Kd.N_away HO285.out (fun _ hk => hk.1.2))) | (dsimp only; exact Kd.own_blk (Kd.N_away HO285.out (fun _ hk => hk.1.2)))) _).trans (((cell_far (p := ⟨gb282, _, none⟩) (by first | exact Kd.own_blk (Kd.N_away HO285.out (fun _ hk => hk.1.2)) | (rw [add_block]; exact Kd.own_blk (Kd.N_away HO285.out (fun _ hk => hk.1.2))) | (show (Addr.add _ _).block ≠ _; rw [add_block]; exact Kd.own_blk (Kd.N_away HO285.out (fun _ hk => hk.1.2))) | (dsimp only; exact Kd.own_blk (Kd.N_away HO285.out (fun _ hk => hk.1.2)))) _).trans (((cell_far (p := ⟨gb282, _, none⟩) (by first | exact Kd.own_blk (Kd.N_away HO285.out (fun _ hk => hk.1.2)) | (rw [add_block]; exact Kd.own_blk (Kd.N_away HO285.out (fun _ hk => hk.1.2))) | (show (Addr.add _ _).block ≠ _; rw [add_block]; exact Kd.own_blk (Kd.N_away HO285.out (fun _ hk => hk.1.2))) | (dsimp only; exact Kd.own_blk (Kd.N_away HO285.out (fun _ hk => hk.1.2)))) _).trans (((cell_far (p := ⟨gb282, _, none⟩) (by first | exact Kd.own_blk (Kd.N_away HO285.out (fun _ hk => hk.1.2)) | (rw [add_block]; exact Kd.own_blk (Kd.N_away HO285.out (fun _ hk => hk.1.2))) | (show (Addr.add _ _).block ≠ _; rw [add_block]; exact Kd.own_blk (Kd.N_away HO285.out (fun _ hk => hk.1.2))) | (dsimp only; exact Kd.own_blk (Kd.N_away HO285.out (fun _ hk => hk.1.2)))) _).trans (hHeld.2.1)))))))))))))), ((cell_far (p := ⟨gb282, _, none⟩) (by first | exact Kd.own_blk (Kd.N_away HO285.out (fun _ hk => hk.1.2)) | (rw [add_block]; exact Kd.own_blk (Kd.N_away HO285.out (fun _ hk => hk.1.2))) | (show (Addr.add _ _).block ≠ _; rw [add_block]; exact Kd.own_blk (Kd.N_away HO285.out (fun _ hk => hk.1.2))) | (dsimp only; exact Kd.own_blk (Kd.N_away HO285.out (fun _ hk => hk.1.2)))) _).trans (((cell_far (p := ⟨gb282, _, none⟩) (by first | exact Kd.own_blk (Kd.N_away HO285.out (fun _ hk => hk.1.2)) | (rw [add_block]; exact Kd.own_blk (Kd.N_away HO285.out (fun _ hk => hk.1.2))) | (show (Addr.add _ _).block ≠ _; rw [add_block]; exact Kd.own_blk (Kd.N_away HO285.out (fun _ hk => hk.1.2))) | (dsimp only; exact Kd.own_blk (Kd.N_away HO285.out (fun _ hk => hk.1.2)))) _).trans (((cell_far (p := ⟨gb282, _, none⟩) (by first | exact Kd.own_blk (Kd.N_away HO285.out (fun _ hk => hk.1.2)) | (rw [add_block]; exact Kd.own_blk (Kd.N_away HO285.out (fun _ hk => hk.1.2))) | (show (Addr.add _ _).block ≠ _; rw [add_block]; exact Kd.own_blk (Kd.N_away HO285.out (fun _ hk => hk.1.2))) | (dsimp only; exact Kd.own_blk (Kd.N_away HO285.out (fun _ hk => hk.1.2)))) _).trans (((cell_far (p := ⟨gb282, _, none⟩) (by first | exact Kd.own_blk (Kd.N_away HO285.out (fun _ hk => hk.1.2)) | (rw [add_block]; exact Kd.own_blk (Kd.N_away HO285.out (fun _ hk => hk.1.2))) | (show (Addr.add _ _).block ≠ _; rw [add_block]; exact Kd.own_blk (Kd.N_away HO285.out (fun _ hk => hk.1.2))) | (dsimp only; exact Kd.own_blk (Kd.N_away HO285.out (fun _ hk => hk.1.2)))) _).trans (((cell_far (p := ⟨gb282, _, none⟩) (by first | exact Kd.own_blk (Kd.N_away HO285.out (fun _ hk => hk.1.2)) | (rw [add_block]; exact Kd.own_blk (Kd.N_away HO285.out (fun _ hk => hk.1.2))) | (show (Addr.add _ _).block ≠ _; rw [add_block]; exact Kd.own_blk (Kd.N_away HO285.out (fun _ hk => hk.1.2))) | (dsimp only; exact Kd.own_blk (Kd.N_away HO285.out (fun _ hk => hk.1.2)))) _).trans (((cell_far (p := ⟨gb282, _, none⟩) (by first | exact Kd.own_blk (Kd.N_away HO285.out (fun _ hk => hk.1.2)) | (rw [add_block]; exact Kd.own_blk (Kd.N_away HO285.out (fun _ hk => hk.1.2))) | (show (Addr.add _ _).block ≠ _; rw [add_block]; exact Kd.own_blk (Kd.N_away HO285.out (fun _ hk => hk.1.2))) | (dsimp only; exact Kd.own_blk (Kd.N_away HO285.out (fun _ hk => hk.1.2)))) _).trans (((cell_far (p := ⟨gb282, _, none⟩) (by first | exact Kd.own_blk (Kd.N_away HO285.out (fun _ hk => hk.1.2)) | (rw [add_block]; exact Kd.own_blk (Kd.N_away HO285.out (fun _ hk => hk.1.2))) | (show (Addr.add _ _).block ≠ _; rw [add_block]; exact Kd.own_blk (Kd.N_away HO285.out (fun _ hk => hk.1.2))) | (dsimp only; exact Kd.own_blk (Kd.N_away HO285.out (fun _ hk => hk.1.2)))) _).trans (hHeld.2.2.1)))))))))))))), ((cell_far (p := ⟨gb282, _, none⟩) (by first | exact Kd.own_blk (Kd.N_away HO285.out (fun _ hk => hk.1.2)) | (rw [add_block]; exact Kd.own_blk (Kd.N_away HO285.out (fun _ hk => hk.1.2))) | (show (Addr.add _ _).block ≠ _; rw [add_block]; exact Kd.own_blk (Kd.N_away HO285.out (fun _ hk => hk.1.2))) | (dsimp only; exact Kd.own_blk (Kd.N_away HO285.out (fun _ hk => hk.1.2)))) _).trans (((cell_far (p := ⟨gb282, _, none⟩) (by first | exact Kd.own_blk (Kd.N_away HO285.out (fun _ hk => hk.1.2)) | (rw [add_block]; exact Kd.own_blk (Kd.N_away HO285.out (fun _ hk => hk.1.2))) | (show (Addr.add _ _).block ≠ _; rw [add_block]; exact Kd.own_blk (Kd.N_away HO285.out (fun _ hk => hk.1.2))) | (dsimp only; exact Kd.own_blk (Kd.N_away HO285.out (fun _ hk => hk.1.2)))) _).trans (((cell_far (p := ⟨gb282, _, none⟩) (by first | exact Kd.own_blk (Kd.N_away HO285.out (fun _ hk => hk.1.2)) | (rw [add_block]; exact Kd.own_blk (Kd.N_away HO285.out (fun _ hk => hk.1.2))) | (show (Addr.add _ _).block ≠ _; rw [add_block]; exact Kd.own_blk (Kd.N_away HO285.out (fun _ hk => hk.1.2))) | (dsimp only; exact Kd.own_blk (Kd.N_away HO285.out (fun _ hk => hk.1.2)))) _).trans (((cell_far (p := ⟨gb282, _, none⟩) (by first | exact Kd.own_blk (Kd.N_away HO285.out (fun _ hk => hk.1.2)) | (rw [add_block]; exact Kd.own_blk (Kd.N_away HO285.out (fun _ hk => hk.1.2))) | (show (Addr.add _ _).block ≠ _; rw [add_block]; exact Kd.own_blk (Kd.N_away HO285.out (fun _ hk => hk.1.2))) | (dsimp only; exact Kd.own_blk (Kd.N_away HO285.out (fun _ hk => hk.1.2)))) _).trans (((cell_far (p := ⟨gb282, _, none⟩) (by first | exact Kd.own_blk (Kd.N_away HO285.out (fun _ hk => hk.1.2)) | (rw [add_block]; exact Kd.own_blk (Kd.N_away HO285.out (fun _ hk => hk.1.2))) | (show (Addr.add _ _).block ≠ _; rw [add_block]; exact Kd.own_blk (Kd.N_away HO285.out (fun _ hk => hk.1.2))) | (dsimp only; exact Kd.own_blk (Kd.N_away HO285.out (fun _ hk => hk.1.2)))) _).trans (((cell_far (p := ⟨gb282, _, none⟩) (by first | exact Kd.own_blk (Kd.N_away HO285.out (fun _ hk => hk.1.2)) | (rw [add_block]; exact Kd.own_blk (Kd.N_away HO285.out (fun _ hk => hk.1.2))) | (show (Addr.add _ _).block ≠ _; rw [add_block]; exact Kd.own_blk (Kd.N_away HO285.out (fun _ hk => hk.1.2))) | (dsimp only; exact Kd.own_blk (Kd.N_away HO285.out (fun _ hk => hk.1.2)))) _).trans (((cell_far (p := ⟨gb282, _, none⟩) (by first | exact Kd.own_blk (Kd.N_away HO285.out (fun _ hk => hk.1.2)) | (rw [add_block]; exact Kd.own_blk (Kd.N_away HO285.out (fun _ hk => hk.1.2))) | (show (Addr.add _ _).block ≠ _; rw [add_block]; exact Kd.own_blk (Kd.N_away HO285.out (fun _ hk => hk.1.2))) | (dsimp only; exact Kd.own_blk (Kd.N_away HO285.out (fun _ hk => hk.1.2)))) _).trans (hHeld.2.2.2.1)))))))))))))), ((cell_far (p := ⟨gb282, _, none⟩) (by first | exact Kd.own_blk (Kd.N_away HO285.out (fun _ hk => hk.1.2)) | (rw [add_block]; exact Kd.own_blk (Kd.N_away HO285.out (fun _ hk => hk.1.2))) | (show (Addr.add _ _).block ≠ _; rw [add_block]; exact Kd.own_blk (Kd.N_away HO285.out (fun _ hk => hk.1.2))) | (dsimp only; exact Kd.own_blk (Kd.N_away HO285.out (fun _ hk => hk.1.2)))) _).trans (((cell_far (p := ⟨gb282, _, none⟩) (by first | exact Kd.own_blk (Kd.N_away HO285.out (fun _ hk => hk.1.2)) | (rw [add_block]; exact Kd.own_blk (Kd.N_away HO285.out (fun _ hk => hk.1.2))) | (show (Addr.add _ _).block ≠ _; rw [add_block]; exact Kd.own_blk (Kd.N_away HO285.out (fun _ hk => hk.1.2))) | (dsimp only; exact Kd.own_blk (Kd.N_away HO285.out (fun _ hk => hk.1.2)))) _).trans (((cell_far (p := ⟨gb282, _, none⟩) (by first | exact Kd.own_blk (Kd.N_away HO285.out (fun _ hk => hk.1.2)) | (rw [add_block]; exact Kd.own_blk (Kd.N_away HO285.out (fun _ hk => hk.1.2))) | (show (Addr.add _ _).block ≠ _; rw [add_block]; exact Kd.own_blk (Kd.N_away HO285.out (fun _ hk => hk.1.2))) | (dsimp only; exact Kd.own_blk (Kd.N_away HO285.out (fun _ hk => hk.1.2)))) _).trans (((cell_far (p := ⟨gb282, _, none⟩) (by first | exact Kd.own_blk (Kd.N_away HO285.out (fun _ hk => hk.1.2)) | (rw [add_block]; exact Kd.own_blk (Kd.N_away HO285.out (fun _ hk => hk.1.2))) | (show (Addr.add _ _).block ≠ _; rw [add_block]; exact Kd.own_blk (Kd.N_away HO285.out (fun _ hk => hk.1.2))) | (dsimp only; exact Kd.own_blk (Kd.N_away HO285.out (fun _ hk => hk.1.2)))) _).trans (((cell_far (p := ⟨gb282, _, none⟩) (by first | exact Kd.own_blk (Kd.N_away HO285.out (fun _ hk => hk.1.2)) | (rw [add_block]; exact Kd.own_blk (Kd.N_away HO285.out (fun _ hk => hk.1.2))) | (show (Addr.add _ _).block ≠ _; rw [add_block]; exact Kd.own_blk (Kd.N_away HO285.out (fun _ hk => hk.1.2))) | (dsimp only; exact Kd.own_blk (Kd.N_away HO285.out (fun _ hk => hk.1.2)))) _).trans (((cell_far (p := ⟨gb282, _, none⟩) (by first | exact Kd.own_blk (Kd.N_away HO285.out (fun _ hk => hk.1.2)) | (rw [add_block]; exact Kd.own_blk (Kd.N_away HO285.out (fun _ hk => hk.1.2))) | (show (Addr.add _ _).block ≠ _; rw [add_block]; exact Kd.own_blk (Kd.N_away HO285.out (fun _ hk => hk.1.2))) | (dsimp only; exact Kd.own_blk (Kd.N_away HO285.out (fun _ hk => hk.1.2)))) _).trans (((cell_far (p := ⟨gb282, _, none⟩) (by first | exact Kd.own_blk (Kd.N_away HO285.out (fun _ hk => hk.1.2)) | (rw [add_block]; exact Kd.own_blk (Kd.N_away HO285.out (fun _ hk => hk.1.2))) | (show (Addr.add _ _).block ≠ _; rw [add_block]; exact Kd.own_blk (Kd.N_away HO285.out (fun _ hk => hk.1.2))) | (dsimp only; exact Kd.own_blk (Kd.N_away HO285.out (fun _ hk => hk.1.2)))) _).trans (hHeld.2.2.2.2.1)))))))))))))), ((cell_far (p := ⟨gb282, _, none⟩) (by first | exact Kd.own_blk (Kd.N_away HO285.out (fun _ hk => hk.1.2)) | (rw [add_block]; exact Kd.own_blk (Kd.N_away HO285.out (fun _ hk => hk.1.2))) | (show (Addr.add _ _).block ≠ _; rw [add_block]; exact Kd.own_blk (Kd.N_away HO285.out (fun _ hk => hk.1.2))) | (dsimp only; exact Kd.own_blk (Kd.N_away HO285.out (fun _ hk => hk.1.2)))) _).trans (((cell_far (p := ⟨gb282, _, none⟩) (by first | exact Kd.own_blk (Kd.N_away HO285.out (fun _ hk => hk.1.2)) | (rw [add_block]; exact Kd.own_blk (Kd.N_away HO285.out (fun _ hk => hk.1.2))) | (show (Addr.add _ _).block ≠ _; rw [add_block]; exact Kd.own_blk (Kd.N_away HO285.out (fun _ hk => hk.1.2))) | (dsimp only; exact Kd.own_blk (Kd.N_away HO285.out (fun _ hk => hk.1.2)))) _).trans (((cell_far (p := ⟨gb282, _, none⟩) (by first | exact Kd.own_blk (Kd.N_away HO285.out (fun _ hk => hk.1.2)) | (rw [add_block]; exact Kd.own_blk (Kd.N_away HO285.out (fun _ hk => hk.1.2))) | (show (Addr.add _ _).block ≠ _; rw [add_block]; exact Kd.own_blk (Kd.N_away HO285.out (fun _ hk => hk.1.2))) | (dsimp only; exact Kd.own_blk (Kd.N_away HO285.out (fun _ hk => hk.1.2)))) _).trans (((cell_far (p := ⟨gb282, _, none⟩) (by first | exact Kd.own_blk (Kd.N_away HO285.out (fun _ hk => hk.1.2)) | (rw [add_block]; exact Kd.own_blk (Kd.N_away HO285.out (fun _ hk => hk.1.2))) | (show (Addr.add _ _).block ≠ _; rw [add_block]; exact Kd.own_blk (Kd.N_away HO285.out (fun _ hk => hk.1.2))) | (dsimp only; exact Kd.own_blk (Kd.N_away HO285.out (fun _ hk => hk.1.2)))) _).trans (((cell_far (p := ⟨gb282, _, none⟩) (by first | exact Kd.own_blk (Kd.N_away HO285.out (fun _ hk => hk.1.2)) | (rw [add_block]; exact Kd.own_blk (Kd.N_away HO285.out (fun _ hk => hk.1.2))) | (show (Addr.add _ _).block ≠ _; rw [add_block]; exact Kd.own_blk (Kd.N_away HO285.out (fun _ hk => hk.1.2))) | (dsimp only; exact Kd.own_blk (Kd.N_away HO285.out (fun _ hk => hk.1.2)))) _).trans (((cell_far (p := ⟨gb282, _, none⟩) (by first | exact Kd.own_blk (Kd.N_away HO285.out (fun _ hk => hk.1.2)) | (rw [add_block]; exact Kd.own_blk (Kd.N_away HO285.out (fun _ hk => hk.1.2))) | (show (Addr.add _ _).block ≠ _; rw [add_block]; exact Kd.own_blk (Kd.N_away HO285.out (fun _ hk => hk.1.2))) | (dsimp only; exact Kd.own_blk (Kd.N_away HO285.out (fun _ hk => hk.1.2)))) _).trans (((cell_far (p := ⟨gb282, _, none⟩) (by first | exact Kd.own_blk (Kd.N_away HO285.out (fun _ hk => hk.1.2)) | (rw [add_block]; exact Kd.own_blk (Kd.N_away HO285.out (fun _ hk => hk.1.2))) | (show (Addr.add _ _).block ≠ _; rw [add_block]; exact Kd.own_blk (Kd.N_away HO285.out (fun _ hk => hk.1.2))) | (dsimp only; exact Kd.own_blk (Kd.N_away HO285.out (fun _ hk => hk.1.2)))) _).trans (hHeld.2.2.2.2.2.1)))))))))))))), ((cell_far (p := ⟨gb282, _, none⟩) (by first | exact Kd.own_blk (Kd.N_away HO285.out (fun _ hk => hk.1.2)) | (rw [add_block]; exact Kd.own_blk (Kd.N_away HO285.out (fun _ hk => hk.1.2))) | (show (Addr.add _ _).block ≠ _; rw [add_block]; exact Kd.own_blk (Kd.N_away HO285.out (fun _ hk => hk.1.2))) | (dsimp only; exact Kd.own_blk (Kd.N_away HO285.out (fun _ hk => hk.1.2)))) _).trans (((cell_far (p := ⟨gb282, _, none⟩) (by first | exact Kd.own_blk (Kd.N_away HO285.out (fun _ hk => hk.1.2)) | (rw [add_block]; exact Kd.own_blk (Kd.N_away HO285.out (fun _ hk => hk.1.2))) | (show (Addr.add _ _).block ≠ _; rw [add_block]; exact Kd.own_blk (Kd.N_away HO285.out (fun _ hk => hk.1.2))) | (dsimp only; exact Kd.own_blk (Kd.N_away HO285.out (fun _ hk => hk.1.2)))) _).trans (((cell_far (p := ⟨gb282, _, none⟩) (by first | exact Kd.own_blk (Kd.N_away HO285.out (fun _ hk => hk.1.2)) | (rw [add_block]; exact Kd.own_blk (Kd.N_away HO285.out (fun _ hk => hk.1.2))) | (show (Addr.add _ _).block ≠ _; rw [add_block]; exact Kd.own_blk (Kd.N_away HO285.out (fun _ hk => hk.1.2))) | (dsimp only; exact Kd.own_blk (Kd.N_away HO285.out (fun _ hk => hk.1.2)))) _).trans (((cell_far (p := ⟨gb282, _, none⟩) (by first | exact Kd.own_blk (Kd.N_away HO285.out (fun _ hk => hk.1.2)) | (rw [add_block]; exact Kd.own_blk (Kd.N_away HO285.out (fun _ hk => hk.1.2))) | (show (Addr.add _ _).block ≠ _; rw [add_block]; exact Kd.own_blk (Kd.N_away HO285.out (fun _ hk => hk.1.2))) | (dsimp only; exact Kd.own_blk (Kd.N_away HO285.out (fun _ hk => hk.1.2)))) _).trans (((cell_far (p := ⟨gb282, _, none⟩) (by first | exact Kd.own_blk (Kd.N_away HO285.out (fun _ hk => hk.1.2)) | (rw [add_block]; exact Kd.own_blk (Kd.N_away HO285.out (fun _ hk => hk.1.2))) | (show (Addr.add _ _).block ≠ _; rw [add_block]; exact Kd.own_blk (Kd.N_away HO285.out (fun _ hk => hk.1.2))) | (dsimp only; exact Kd.own_blk (Kd.N_away HO285.out (fun _ hk => hk.1.2)))) _).trans (((cell_far (p := ⟨gb282, _, none⟩) (by first | exact Kd.own_blk (Kd.N_away HO285.out (fun _ hk => hk.1.2)) | (rw [add_block]; exact Kd.own_blk (Kd.N_away HO285.out (fun _ hk => hk.1.2))) | (show (Addr.add _ _).block ≠ _; rw [add_block]; exact Kd.own_blk (Kd.N_away HO285.out (fun _ hk => hk.1.2))) | (dsimp only; exact Kd.own_blk (Kd.N_away HO285.out (fun _ hk => hk.1.2)))) _).trans (((cell_far (p := ⟨gb282, _, none⟩) (by first | exact Kd.own_blk (Kd.N_away HO285.out (fun _ hk => hk.1.2)) | (rw [add_block]; exact Kd.own_blk (Kd.N_away HO285.out (fun _ hk => hk.1.2))) | (show (Addr.add _ _).block ≠ _; rw [add_block]; exact Kd.own_blk (Kd.N_away HO285.out (fun _ hk => hk.1.2))) | (dsimp only; exact Kd.own_blk (Kd.N_away HO285.out (fun _ hk => hk.1.2)))) _).trans (hHeld.2.2.2.2.2.2.1)))))))))))))), ((cell_far (p := ⟨gb282, _, none⟩) (by first | exact Kd.own_blk (Kd.N_away HO285.out (fun _ hk => hk.1.2)) | (rw [add_block]; exact Kd.own_blk (Kd.N_away HO285.out (fun _ hk => hk.1.2))) | (show (Addr.add _ _).block ≠ _; rw [add_block]; exact Kd.own_blk (Kd.N_away HO285.out (fun _ hk => hk.1.2))) | (dsimp only; exact Kd.own_blk (Kd.N_away HO285.out (fun _ hk => hk.1.2)))) _).trans (((cell_far (p := ⟨gb282, _, none⟩) (by first | exact Kd.own_blk (Kd.N_away HO285.out (fun _ hk => hk.1.2)) | (rw [add_block]; exact Kd.own_blk (Kd.N_away HO285.out (fun _ hk => hk.1.2))) | (show (Addr.add _ _).block ≠ _; rw [add_block]; exact Kd.own_blk (Kd.N_away HO285.out (fun _ hk => hk.1.2))) | (dsimp only; exact Kd.own_blk (Kd.N_away HO285.out (fun _ hk => hk.1.2)))) _).trans (((cell_far (p := ⟨gb282, _, none⟩) (by first | exact Kd.own_blk (Kd.N_away HO285.out (fun _ hk => hk.1.2)) | (rw [add_block]; exact Kd.own_blk (Kd.N_away HO285.out (fun _ hk => hk.1.2))) | (show (Addr.add _ _).block ≠ _; rw [add_block]; exact Kd.own_blk (Kd.N_away HO285.out (fun _ hk => hk.1.2))) | (dsimp only; exact Kd.own_blk (Kd.N_away HO285.out (fun _ hk => hk.1.2)))) _).trans (((cell_far (p := ⟨gb282, _, none⟩) (by first | exact Kd.own_blk (Kd.N_away HO285.out (fun _ hk => hk.1.2)) | (rw [add_block]; exact Kd.own_blk (Kd.N_away HO285.out (fun _ hk => hk.1.2))) | (show (Addr.add _ _).block ≠ _; rw [add_block]; exact Kd.own_blk (Kd.N_away HO285.out (fun _ hk => hk.1.2))) | (dsimp only; exact Kd.own_blk (Kd.N_away HO285.out (fun _ hk => hk.1.2)))) _).trans (((cell_far (p := ⟨gb282, _, none⟩) (by first | exact Kd.own_blk (Kd.N_away HO285.out (fun _ hk => hk.1.2)) | (rw [add_block]; exact Kd.own_blk (Kd.N_away HO285.out (fun _ hk => hk.1.2))) | (show (Addr.add _ _).block ≠ _; rw [add_block]; exact Kd.own_blk (Kd.N_away HO285.out (fun _ hk => hk.1.2))) | (dsimp only; exact Kd.own_blk (Kd.N_away HO285.out (fun _ hk => hk.1.2)))) _).trans (((cell_far (p := ⟨gb282, _, none⟩) (by first | exact Kd.own_blk (Kd.N_away HO285.out (fun _ hk => hk.1.2)) | (rw [add_block]; exact Kd.own_blk (Kd.N_away HO285.out (fun _ hk => hk.1.2))) | (show (Addr.add _ _).block ≠ _; rw [add_block]; exact Kd.own_blk (Kd.N_away HO285.out (fun _ hk => hk.1.2))) | (dsimp only; exact Kd.own_blk (Kd.N_away HO285.out (fun _ hk => hk.1.2)))) _).trans (((cell_far (p := ⟨gb282, _, none⟩) (by first | exact Kd.own_blk (Kd.N_away HO285.out (fun _ hk => hk.1.2)) | (rw [add_block]; exact Kd.own_blk (Kd.N_away HO285.out (fun _ hk => hk.1.2))) | (show (Addr.add _ _).block ≠ _; rw [add_block]; exact Kd.own_blk (Kd.N_away HO285.out (fun _ hk => hk.1.2))) | (dsimp only; exact Kd.own_blk (Kd.N_away HO285.out (fun _ hk => hk.1.2)))) _).trans (hHeld.2.2.2.2.2.2.2.1)))))))))))))), ((cell_far (p := ⟨gb282, _, none⟩) (by first | exact Kd.own_blk (Kd.N_away HO285.out (fun _ hk => hk.1.2)) | (rw [add_block]; exact Kd.own_blk (Kd.N_away HO285.out (fun _ hk => hk.1.2))) | (show (Addr.add _ _).block ≠ _; rw [add_block]; exact Kd.own_blk (Kd.N_away HO285.out (fun _ hk => hk.1.2))) | (dsimp only; exact Kd.own_blk (Kd.N_away HO285.out (fun _ hk => hk.1.2)))) _).trans (((cell_far (p := ⟨gb282, _, none⟩) (by first | exact Kd.own_blk (Kd.N_away HO285.out (fun _ hk => hk.1.2)) | (rw [add_block]; exact Kd.own_blk (Kd.N_away HO285.out (fun _ hk => hk.1.2))) | (show (Addr.add _ _).block ≠ _; rw [add_block]; exact Kd.own_blk (Kd.N_away HO285.out (fun _ hk => hk.1.2))) | (dsimp only; exact Kd.own_blk (Kd.N_away HO285.out (fun _ hk => hk.1.2)))) _).trans (((cell_far (p := ⟨gb282, _, none⟩) (by first | exact Kd.own_blk (Kd.N_away HO285.out (fun _ hk => hk.1.2)) | (rw [add_block]; exact Kd.own_blk (Kd.N_away HO285.out (fun _ hk => hk.1.2))) | (show (Addr.add _ _).block ≠ _; rw [add_block]; exact Kd.own_blk (Kd.N_away HO285.out (fun _ hk => hk.1.2))) | (dsimp only; exact Kd.own_blk (Kd.N_away HO285.out (fun _ hk => hk.1.2)))) _).trans (((cell_far (p := ⟨gb282, _, none⟩) (by first | exact Kd.own_blk (Kd.N_away HO285.out (fun _ hk => hk.1.2)) | (rw [add_block]; exact Kd.own_blk (Kd.N_away HO285.out (fun _ hk => hk.1.2))) | (show (Addr.add _ _).block ≠ _; rw [add_block]; exact Kd.own_blk (Kd.N_away HO285.out (fun _ hk => hk.1.2))) | (dsimp only; exact Kd.own_blk (Kd.N_away HO285.out (fun _ hk => hk.1.2)))) _).trans (((cell_far (p := ⟨gb282, _, none⟩) (by first | exact Kd.own_blk (Kd.N_away HO285.out (fun _ hk => hk.1.2)) | (rw [add_block]; exact Kd.own_blk (Kd.N_away HO285.out (fun _ hk => hk.1.2))) | (show (Addr.add _ _).block ≠ _; rw [add_block]; exact Kd.own_blk (Kd.N_away HO285.out (fun _ hk => hk.1.2))) | (dsimp only; exact Kd.own_blk (Kd.N_away HO285.out (fun _ hk => hk.1.2)))) _).trans (((cell_far (p := ⟨gb282, _, none⟩) (by first | exact Kd.own_blk (Kd.N_away HO285.out (fun _ hk => hk.1.2)) | (rw [add_block]; exact Kd.own_blk (Kd.N_away HO285.out (fun _ hk => hk.1.2))) | (show (Addr.add _ _).block ≠ _; rw [add_block]; exact Kd.own_blk (Kd.N_away HO285.out (fun _ hk => hk.1.2))) | (dsimp only; exact Kd.own_blk (Kd.N_away HO285.out (fun _ hk => hk.1.2)))) _).trans (((cell_far (p := ⟨gb282, _, none⟩) (by first | exact Kd.own_blk (Kd.N_away HO285.out (fun _ hk => hk.1.2)) | (rw [add_block]; exact Kd.own_blk (Kd.N_away HO285.out (fun _ hk => hk.1.2))) | (show (Addr.add _ _).block ≠ _; rw [add_block]; exact Kd.own_blk (Kd.N_away HO285.out (fun _ hk => hk.1.2))) | (dsimp only; exact Kd.own_blk (Kd.N_away HO285.out (fun _ hk => hk.1.2)))) _).trans (hHeld.2.2.2.2.2.2.2.2.1)))))))))))))), ((cell_far (p := ⟨gb282, _, none⟩) (by first | exact Kd.own_blk (Kd.N_away HO285.out (fun _ hk => hk.1.2)) | (rw [add_block]; exact Kd.own_blk (Kd.N_away HO285.out (fun _ hk => hk.1.2))) | (show (Addr.add _ _).block ≠ _; rw [add_block]; exact Kd.own_blk (Kd.N_away HO285.out (fun _ hk => hk.1.2))) | (dsimp only; exact Kd.own_blk (Kd.N_away HO285.out (fun _ hk => hk.1.2)))) _).trans (((cell_far (p := ⟨gb282, _, none⟩) (by first | exact Kd.own_blk (Kd.N_away HO285.out (fun _ hk => hk.1.2)) | (rw [add_block]; exact Kd.own_blk (Kd.N_away HO285.out (fun _ hk => hk.1.2))) | (show (Addr.add _ _).block ≠ _; rw [add_block]; exact Kd.own_blk (Kd.N_away HO285.out (fun _ hk => hk.1.2))) | (dsimp only; exact Kd.own_blk (Kd.N_away HO285.out (fun _ hk => hk.1.2)))) _).trans (((cell_far (p := ⟨gb282, _, none⟩) (by first | exact Kd.own_blk (Kd.N_away HO285.out (fun _ hk => hk.1.2)) | (rw [add_block]; exact Kd.own_blk (Kd.N_away HO285.out (fun _ hk => hk.1.2))) | (show (Addr.add _ _).block ≠ _; rw [add_block]; exact Kd.own_blk (Kd.N_away HO285.out (fun _ hk => hk.1.2))) | (dsimp only; exact Kd.own_blk (Kd.N_away HO285.out (fun _ hk => hk.1.2)))) _).trans (((cell_far (p := ⟨gb282, _, none⟩) (by first | exact Kd.own_blk (Kd.N_away HO285.out (fun _ hk => hk.1.2)) | (rw [add_block]; exact Kd.own_blk (Kd.N_away HO285.out (fun _ hk => hk.1.2))) | (show (Addr.add _ _).block ≠ _; rw [add_block]; exact Kd.own_blk (Kd.N_away HO285.out (fun _ hk => hk.1.2))) | (dsimp only; exact Kd.own_blk (Kd.N_away HO285.out (fun _ hk => hk.1.2)))) _).trans (((cell_far (p := ⟨gb282, _, none⟩) (by first | exact Kd.own_blk (Kd.N_away HO285.out (fun _ hk => hk.1.2)) | (rw [add_block]; exact Kd.own_blk (Kd.N_away HO285.out (fun _ hk => hk.1.2))) | (show (Addr.add _ _).block ≠ _; rw [add_block]; exact Kd.own_blk (Kd.N_away HO285.out (fun _ hk => hk.1.2))) | (dsimp only; exact Kd.own_blk (Kd.N_away HO285.out (fun _ hk => hk.1.2)))) _).trans (((cell_far (p := ⟨gb282, _, none⟩) (by first | exact Kd.own_blk (Kd.N_away HO285.out (fun _ hk => hk.1.2)) | (rw [add_block]; exact Kd.own_blk (Kd.N_away HO285.out (fun _ hk => hk.1.2))) | (show (Addr.add _ _).block ≠ _; rw [add_block]; exact Kd.own_blk (Kd.N_away HO285.out (fun _ hk => hk.1.2))) | (dsimp only; exact Kd.own_blk (Kd.N_away HO285.out (fun _ hk => hk.1.2)))) _).trans (((cell_far (p := ⟨gb282, _, none⟩) (by first | exact Kd.own_blk (Kd.N_away HO285.out (fun _ hk => hk.1.2)) | (rw [add_block]; exact Kd.own_blk (Kd.N_away HO285.out (fun _ hk => hk.1.2))) | (show (Addr.add _ _).block ≠ _; rw [add_block]; exact Kd.own_blk (Kd.N_away HO285.out (fun _ hk => hk.1.2))) | (dsimp only; exact Kd.own_blk (Kd.N_away HO285.out (fun _ hk => hk.1.2)))) _).trans (hHeld.2.2.2.2.2.2.2.2.2.1)))))))))))))), ((cell_far (p := ⟨gb282, _, none⟩) (by first | exact Kd.own_blk (Kd.N_away HO285.out (fun _ hk => hk.1.2)) | (rw [add_block]; exact Kd.own_blk (Kd.N_away HO285.out (fun _ hk => hk.1.2))) | (show (Addr.add _ _).block ≠ _; rw [add_block]; exact Kd.own_blk (Kd.N_away HO285.out (fun _ hk => hk.1.2))) | (dsimp only; exact Kd.own_blk (Kd.N_away HO285.out (fun _ hk => hk.1.2)))) _).trans (((cell_far (p := ⟨gb282, _, none⟩) (by first | exact Kd.own_blk (Kd.N_away HO285.out (fun _ hk => hk.1.2)) | (rw [add_block]; exact Kd.own_blk (Kd.N_away HO285.out (fun _ hk => hk.1.2))) | (show (Addr.add _ _).block ≠ _; rw [add_block]; exact Kd.own_blk (Kd.N_away HO285.out (fun _ hk => hk.1.2))) | (dsimp only; exact Kd.own_blk (Kd.N_away HO285.out (fun _ hk => hk.1.2)))) _).trans (((cell_far (p := ⟨gb282, _, none⟩) (by first | exact Kd.own_blk (Kd.N_away HO285.out (fun _ hk => hk.1.2)) | (rw [add_block]; exact Kd.own_blk (Kd.N_away HO285.out (fun _ hk => hk.1.2))) | (show (Addr.add _ _).block ≠ _; rw [add_block]; exact Kd.own_blk (Kd.N_away HO285.out (fun _ hk => hk.1.2))) | (dsimp only; exact Kd.own_blk (Kd.N_away HO285.out (fun _ hk => hk.1.2)))) _).trans (((cell_far (p := ⟨gb282, _, none⟩) (by first | exact Kd.own_blk (Kd.N_away HO285.out (fun _ hk => hk.1.2)) | (rw [add_block]; exact Kd.own_blk (Kd.N_away HO285.out (fun _ hk => hk.1.2))) | (show (Addr.add _ _).block ≠ _; rw [add_block]; exact Kd.own_blk (Kd.N_away HO285.out (fun _ hk => hk.1.2))) | (dsimp only; exact Kd.own_blk (Kd.N_away HO285.out (fun _ hk => hk.1.2)))) _).trans (((cell_far (p := ⟨gb282, _, none⟩) (by first | exact Kd.own_blk (Kd.N_away HO285.out (fun _ hk => hk.1.2)) | (rw [add_block]; exact Kd.own_blk (Kd.N_away HO285.out (fun _ hk => hk.1.2))) | (show (Addr.add _ _).block ≠ _; rw [add_block]; exact Kd.own_blk (Kd.N_away HO285.out (fun _ hk => hk.1.2))) | (dsimp only; exact Kd.own_blk (Kd.N_away HO285.out (fun _ hk => hk.1.2)))) _).trans (((cell_far (p := ⟨gb282, _, none⟩) (by first | exact Kd.own_blk (Kd.N_away HO285.out (fun _ hk => hk.1.2)) | (rw [add_block]; exact Kd.own_blk (Kd.N_away HO285.out (fun _ hk => hk.1.2))) | (show (Addr.add _ _).block ≠ _; rw [add_block]; exact Kd.own_blk (Kd.N_away HO285.out (fun _ hk => hk.1.2))) | (dsimp only; exact Kd.own_blk (Kd.N_away HO285.out (fun _ hk => hk.1.2)))) _).trans (((cell_far (p := ⟨gb282, _, none⟩) (by first | exact Kd.own_blk (Kd.N_away HO285.out (fun _ hk => hk.1.2)) | (rw [add_block]; exact Kd.own_blk (Kd.N_away HO285.out (fun _ hk => hk.1.2))) | (show (Addr.add _ _).block ≠ _; rw [add_block]; exact Kd.own_blk (Kd.N_away HO285.out (fun _ hk => hk.1.2))) | (dsimp only; exact Kd.own_blk (Kd.N_away HO285.out (fun _ hk => hk.1.2)))) _).trans (hHeld.2.2.2.2.2.2.2.2.2.2.1)))))))))))))), ((cell_far (p := ⟨gb282, _, none⟩) (by first | exact Kd.own_blk (Kd.N_away HO285.out (fun _ hk => hk.1.2)) | (rw [add_block]; exact Kd.own_blk (Kd.N_away HO285.out (fun _ hk => hk.1.2))) | (show (Addr.add _ _).block ≠ _; rw [add_block]; exact Kd.own_blk (Kd.N_away HO285.out (fun _ hk => hk.1.2))) | (dsimp only; exact Kd.own_blk (Kd.N_away HO285.out (fun _ hk => hk.1.2)))) _).trans (((cell_far (p := ⟨gb282, _, none⟩) (by first | exact Kd.own_blk (Kd.N_away HO285.out (fun _ hk => hk.1.2)) | (rw [add_block]; exact Kd.own_blk (Kd.N_away HO285.out (fun _ hk => hk.1.2))) | (show (Addr.add _ _).block ≠ _; rw [add_block]; exact Kd.own_blk (Kd.N_away HO285.out (fun _ hk => hk.1.2))) | (dsimp only; exact Kd.own_blk (Kd.N_away HO285.out (fun _ hk => hk.1.2)))) _).trans (((cell_far (p := ⟨gb282, _, none⟩) (by first | exact Kd.own_blk (Kd.N_away HO285.out (fun _ hk => hk.1.2)) | (rw [add_block]; exact Kd.own_blk (Kd.N_away HO285.out (fun _ hk => hk.1.2))) | (show (Addr.add _ _).block ≠ _; rw [add_block]; exact Kd.own_blk (Kd.N_away HO285.out (fun _ hk => hk.1.2))) | (dsimp only; exact Kd.own_blk (Kd.N_away HO285.out (fun _ hk => hk.1.2)))) _).trans (((cell_far (p := ⟨gb282, _, none⟩) (by first | exact Kd.own_blk (Kd.N_away HO285.out (fun _ hk => hk.1.2)) | (rw [add_block]; exact Kd.own_blk (Kd.N_away HO285.out (fun _ hk => hk.1.2))) | (show (Addr.add _ _).block ≠ _; rw [add_block]; exact Kd.own_blk (Kd.N_away HO285.out (fun _ hk => hk.1.2))) | (dsimp only; exact Kd.own_blk (Kd.N_away HO285.out (fun _ hk => hk.1.2)))) _).trans (((cell_far (p := ⟨gb282, _, none⟩) (by first | exact Kd.own_blk (Kd.N_away HO285.out (fun _ hk => hk.1.2)) | (rw [add_block]; exact Kd.own_blk (Kd.N_away HO285.out (fun _ hk => hk.1.2))) | (show (Addr.add _ _).block ≠ _; rw [add_block]; exact Kd.own_blk (Kd.N_away HO285.out (fun _ hk => hk.1.2))) | (dsimp only; exact Kd.own_blk (Kd.N_away HO285.out (fun _ hk => hk.1.2)))) _).trans (((cell_far (p := ⟨gb282, _, none⟩) (by first | exact Kd.own_blk (Kd.N_away HO285.out (fun _ hk => hk.1.2)) | (rw [add_block]; exact Kd.own_blk (Kd.N_away HO285.out (fun _ hk => hk.1.2))) | (show (Addr.add _ _).block ≠ _; rw [add_block]; exact Kd.own_blk (Kd.N_away HO285.out (fun _ hk => hk.1.2))) | (dsimp only; exact Kd.own_blk (Kd.N_away HO285.out (fun _ hk => hk.1.2)))) _).trans (((cell_far (p := ⟨gb282, _, none⟩) (by first | exact Kd.own_blk (Kd.N_away HO285.out (fun _ hk => hk.1.2)) | (rw [add_block]; exact Kd.own_blk (Kd.N_away HO285.out (fun _ hk => hk.1.2))) | (show (Addr.add _ _).block ≠ _; rw [add_block]; exact Kd.own_blk (Kd.N_away HO285.out (fun _ hk => hk.1.2))) | (dsimp only; exact Kd.own_blk (Kd.N_away HO285.out (fun _ hk => hk.1.2)))) _).trans (hHeld.2.2.2.2.2.2.2.2.2.2.2.1)))))))))))))), ((cell_far (p := ⟨gb282, _, none⟩) (by first | exact Kd.own_blk (Kd.N_away HO285.out (fun _ hk => hk.1.2)) | (rw [add_block]; exact Kd.own_blk (Kd.N_away HO285.out (fun _ hk => hk.1.2))) | (show (Addr.add _ _).block ≠ _; rw [add_block]; exact Kd.own_blk (Kd.N_away HO285.out (fun _ hk => hk.1.2))) | (dsimp only; exact Kd.own_blk (Kd.N_away HO285.out (fun _ hk => hk.1.2)))) _).trans (((cell_far (p := ⟨gb282, _, none⟩) (by first | exact Kd.own_blk (Kd.N_away HO285.out (fun _ hk => hk.1.2)) | (rw [add_block]; exact Kd.own_blk (Kd.N_away HO285.out (fun _ hk => hk.1.2))) | (show (Addr.add _ _).block ≠ _; rw [add_block]; exact Kd.own_blk (Kd.N_away HO285.out (fun _ hk => hk.1.2))) | (dsimp only; exact Kd.own_blk (Kd.N_away HO285.out (fun _ hk => hk.1.2)))) _).trans (((cell_far (p := ⟨gb282, _, none⟩) (by first | exact Kd.own_blk (Kd.N_away HO285.out (fun _ hk => hk.1.2)) | (rw [add_block]; exact Kd.own_blk (Kd.N_away HO285.out (fun _ hk => hk.1.2))) | (show (Addr.add _ _).block ≠ _; rw [add_block]; exact Kd.own_blk (Kd.N_away HO285.out (fun _ hk => hk.1.2))) | (dsimp only; exact Kd.own_blk (Kd.N_away HO285.out (fun _ hk => hk.1.2)))) _).trans (((cell_far (p := ⟨gb282, _, none⟩) (by first | exact Kd.own_blk (Kd.N_away HO285.out (fun _ hk => hk.1.2)) | (rw [add_block]; exact Kd.own_blk (Kd.N_away HO285.out (fun _ hk => hk.1.2))) | (show (Addr.add _ _).block ≠ _; rw [add_block]; exact Kd.own_blk (Kd.N_away HO285.out (fun _ hk => hk.1.2))) | (dsimp only; exact Kd.own_blk (Kd.N_away HO285.out (fun _ hk => hk.1.2)))) _).trans (((cell_far (p := ⟨gb282, _, none⟩) (by first | exact Kd.own_blk (Kd.N_away HO285.out (fun _ hk => hk.1.2)) | (rw [add_block]; exact Kd.own_blk (Kd.N_away HO285.out (fun _ hk => hk.1.2))) | (show (Addr.add _ _).block ≠ _; rw [add_block]; exact Kd.own_blk (Kd.N_away HO285.out (fun _ hk => hk.1.2))) | (dsimp only; exact Kd.own_blk (Kd.N_away HO285.out (fun _ hk => hk.1.2)))) _).trans (((cell_far (p := ⟨gb282, _, none⟩) (by first | exact Kd.own_blk (Kd.N_away HO285.out (fun _ hk => hk.1.2)) | (rw [add_block]; exact Kd.own_blk (Kd.N_away HO285.out (fun _ hk => hk.1.2))) | (show (Addr.add _ _).block ≠ _; rw [add_block]; exact Kd.own_blk (Kd.N_away HO285.out (fun _ hk => hk.1.2))) | (dsimp only; exact Kd.own_blk (Kd.N_away HO285.out (fun _ hk => hk.1.2)))) _).trans (((cell_far (p := ⟨gb282, _, none⟩) (by first | exact Kd.own_blk (Kd.N_away HO285.out (fun _ hk => hk.1.2)) | (rw [add_block]; exact Kd.own_blk (Kd.N_away HO285.out (fun _ hk => hk.1.2))) | (show (Addr.add _ _).block ≠ _; rw [add_block]; exact Kd.own_blk (Kd.N_away HO285.out (fun _ hk => hk.1.2))) | (dsimp only; exact Kd.own_blk (Kd.N_away HO285.out (fun _ hk => hk.1.2)))) _).trans (hHeld.2.2.2.2.2.2.2.2.2.2.2.2.1)))))))))))))), ((cell_far (p := ⟨gb282, _, none⟩) (by first | exact Kd.own_blk (Kd.N_away HO285.out (fun _ hk => hk.1.2)) | (rw [add_block]; exact Kd.own_blk (Kd.N_away HO285.out (fun _ hk => hk.1.2))) | (show (Addr.add _ _).block ≠ _; rw [add_block]; exact Kd.own_blk (Kd.N_away HO285.out (fun _ hk => hk.1.2))) | (dsimp only; exact Kd.own_blk (Kd.N_away HO285.out (fun _ hk => hk.1.2)))) _).trans (((cell_far (p := ⟨gb282, _, none⟩) (by first | exact Kd.own_blk (Kd.N_away HO285.out (fun _ hk => hk.1.2)) | (rw [add_block]; exact Kd.own_blk (Kd.N_away HO285.out (fun _ hk => hk.1.2))) | (show (Addr.add _ _).block ≠ _; rw [add_block]; exact Kd.own_blk (Kd.N_away HO285.out (fun _ hk => hk.1.2))) | (dsimp only; exact Kd.own_blk (Kd.N_away HO285.out (fun _ hk => hk.1.2)))) _).trans (((cell_far (p := ⟨gb282, _, none⟩) (by first | exact Kd.own_blk (Kd.N_away HO285.out (fun _ hk => hk.1.2)) | (rw [add_block]; exact Kd.own_blk (Kd.N_away HO285.out (fun _ hk => hk.1.2))) | (show (Addr.add _ _).block ≠ _; rw [add_block]; exact Kd.own_blk (Kd.N_away HO285.out (fun _ hk => hk.1.2))) | (dsimp only; exact Kd.own_blk (Kd.N_away HO285.out (fun _ hk => hk.1.2)))) _).trans (((cell_far (p := ⟨gb282, _, none⟩) (by first | exact Kd.own_blk (Kd.N_away HO285.out (fun _ hk => hk.1.2)) | (rw [add_block]; exact Kd.own_blk (Kd.N_away HO285.out (fun _ hk => hk.1.2))) | (show (Addr.add _ _).block ≠ _; rw [add_block]; exact Kd.own_blk (Kd.N_away HO285.out (fun _ hk => hk.1.2))) | (dsimp only; exact Kd.own_blk (Kd.N_away HO285.out (fun _ hk => hk.1.2)))) _).trans (((cell_far (p := ⟨gb282, _, none⟩) (by first | exact Kd.own_blk (Kd.N_away HO285.out (fun _ hk => hk.1.2)) | (rw [add_block]; exact Kd.own_blk (Kd.N_away HO285.out (fun _ hk => hk.1.2))) | (show (Addr.add _ _).block ≠ _; rw [add_block]; exact Kd.own_blk (Kd.N_away HO285.out (fun _ hk => hk.1.2))) | (dsimp only; exact Kd.own_blk (Kd.N_away HO285.out (fun _ hk => hk.1.2)))) _).trans (((cell_far (p := ⟨gb282, _, none⟩) (by first | exact Kd.own_blk (Kd.N_away HO285.out (fun _ hk => hk.1.2)) | (rw [add_block]; exact Kd.own_blk (Kd.N_away HO285.out (fun _ hk => hk.1.2))) | (show (Addr.add _ _).block ≠ _; rw [add_block]; exact Kd.own_blk (Kd.N_away HO285.out (fun _ hk => hk.1.2))) | (dsimp only; exact Kd.own_blk (Kd.N_away HO285.out (fun _ hk => hk.1.2)))) _).trans (((cell_far (p := ⟨gb282, _, none⟩) (by first | exact Kd.own_blk (Kd.N_away HO285.out (fun _ hk => hk.1.2)) | (rw [add_block]; exact Kd.own_blk (Kd.N_away HO285.out (fun _ hk => hk.1.2))) | (show (Addr.add _ _).block ≠ _; rw [add_block]; exact Kd.own_blk (Kd.N_away HO285.out (fun _ hk => hk.1.2))) | (dsimp only; exact Kd.own_blk (Kd.N_away HO285.out (fun _ hk => hk.1.2)))) _).trans (hHeld.2.2.2.2.2.2.2.2.2.2.2.2.2.1)))))))))))))), ((cell_far (p := ⟨gb282, _, none⟩) (by first | exact Kd.own_blk (Kd.N_away HO285.out (fun _ hk => hk.1.2)) | (rw [add_block]; exact Kd.own_blk (Kd.N_away HO285.out (fun _ hk => hk.1.2))) | (show (Addr.add _ _).block ≠ _; rw [add_block]; exact Kd.own_blk (Kd.N_away HO285.out (fun _ hk => hk.1.2))) | (dsimp only; exact Kd.own_blk (Kd.N_away HO285.out (fun _ hk => hk.1.2)))) _).trans (((cell_far (p := ⟨gb282, _, none⟩) (by first | exact Kd.own_blk (Kd.N_away HO285.out (fun _ hk => hk.1.2)) | (rw [add_block]; exact Kd.own_blk (Kd.N_away HO285.out (fun _ hk => hk.1.2))) | (show (Addr.add _ _).block ≠ _; rw [add_block]; exact Kd.own_blk (Kd.N_away HO285.out (fun _ hk => hk.1.2))) | (dsimp only; exact Kd.own_blk (Kd.N_away HO285.out (fun _ hk => hk.1.2)))) _).trans (((cell_far (p := ⟨gb282, _, none⟩) (by first | exact Kd.own_blk (Kd.N_away HO285.out (fun _ hk => hk.1.2)) | (rw [add_block]; exact Kd.own_blk (Kd.N_away HO285.out (fun _ hk => hk.1.2))) | (show (Addr.add _ _).block ≠ _; rw [add_block]; exact Kd.own_blk (Kd.N_away HO285.out (fun _ hk => hk.1.2))) | (dsimp only; exact Kd.own_blk (Kd.N_away HO285.out (fun _ hk => hk.1.2)))) _).trans (((cell_far (p := ⟨gb282, _, none⟩) (by first | exact Kd.own_blk (Kd.N_away HO285.out (fun _ hk => hk.1.2)) | (rw [add_block]; exact Kd.own_blk (Kd.N_away HO285.out (fun _ hk => hk.1.2))) | (show (Addr.add _ _).block ≠ _; rw [add_block]; exact Kd.own_blk (Kd.N_away HO285.out (fun _ hk => hk.1.2))) | (dsimp only; exact Kd.own_blk (Kd.N_away HO285.out (fun _ hk => hk.1.2)))) _).trans (((cell_far (p := ⟨gb282, _, none⟩) (by first | exact Kd.own_blk (Kd.N_away HO285.out (fun _ hk => hk.1.2)) | (rw [add_block]; exact Kd.own_blk (Kd.N_away HO285.out (fun _ hk => hk.1.2))) | (show (Addr.add _ _).block ≠ _; rw [add_block]; exact Kd.own_blk (Kd.N_away HO285.out (fun _ hk => hk.1.2))) | (dsimp only; exact Kd.own_blk (Kd.N_away HO285.out (fun _ hk => hk.1.2)))) _).trans (((cell_far (p := ⟨gb282, _, none⟩) (by first | exact Kd.own_blk (Kd.N_away HO285.out (fun _ hk => hk.1.2)) | (rw [add_block]; exact Kd.own_blk (Kd.N_away HO285.out (fun _ hk => hk.1.2))) | (show (Addr.add _ _).block ≠ _; rw [add_block]; exact Kd.own_blk (Kd.N_away HO285.out (fun _ hk => hk.1.2))) | (dsimp only; exact Kd.own_blk (Kd.N_away HO285.out (fun _ hk => hk.1.2)))) _).trans (((cell_far (p := ⟨gb282, _, none⟩) (by first | exact Kd.own_blk (Kd.N_away HO285.out (fun _ hk => hk.1.2)) | (rw [add_block]; exact Kd.own_blk (Kd.N_away HO285.out (fun _ hk => hk.1.2))) | (show (Addr.add _ _).block ≠ _; rw [add_block]; exact Kd.own_blk (Kd.N_away HO285.out (fun _ hk => hk.1.2))) | (dsimp only; exact Kd.own_blk (Kd.N_away HO285.out (fun _ hk => hk.1.2)))) _).trans (hHeld.2.2.2.2.2.2.2.2.2.2.2.2.2.2.1)))))))))))))), ((cell_far (p := ⟨gb282, _, none⟩) (by first | exact Kd.own_blk (Kd.N_away HO285.out (fun _ hk => hk.1.2)) | (rw [add_block]; exact Kd.own_blk (Kd.N_away HO285.out (fun _ hk => hk.1.2))) | (show (Addr.add _ _).block ≠ _; rw [add_block]; exact Kd.own_blk (Kd.N_away HO285.out (fun _ hk => hk.1.2))) | (dsimp only; exact Kd.own_blk (Kd.N_away HO285.out (fun _ hk => hk.1.2)))) _).trans (((cell_far (p := ⟨gb282, _, none⟩) (by first | exact Kd.own_blk (Kd.N_away HO285.out (fun _ hk => hk.1.2)) | (rw [add_block]; exact Kd.own_blk (Kd.N_away HO285.out (fun _ hk => hk.1.2))) | (show (Addr.add _ _).block ≠ _; rw [add_block]; exact Kd.own_blk (Kd.N_away HO285.out (fun _ hk => hk.1.2))) | (dsimp only; exact Kd.own_blk (Kd.N_away HO285.out (fun _ hk => hk.1.2)))) _).trans (((cell_far (p := ⟨gb282, _, none⟩) (by first | exact Kd.own_blk (Kd.N_away HO285.out (fun _ hk => hk.1.2)) | (rw [add_block]; exact Kd.own_blk (Kd.N_away HO285.out (fun _ hk => hk.1.2))) | (show (Addr.add _ _).block ≠ _; rw [add_block]; exact Kd.own_blk (Kd.N_away HO285.out (fun _ hk => hk.1.2))) | (dsimp only; exact Kd.own_blk (Kd.N_away HO285.out (fun _ hk => hk.1.2)))) _).trans (((cell_far (p := ⟨gb282, _, none⟩) (by first | exact Kd.own_blk (Kd.N_away HO285.out (fun _ hk => hk.1.2)) | (rw [add_block]; exact Kd.own_blk (Kd.N_away HO285.out (fun _ hk => hk.1.2))) | (show (Addr.add _ _).block ≠ _; rw [add_block]; exact Kd.own_blk (Kd.N_away HO285.out (fun _ hk => hk.1.2))) | (dsimp only; exact Kd.own_blk (Kd.N_away HO285.out (fun _ hk => hk.1.2)))) _).trans (((cell_far (p := ⟨gb282, _, none⟩) (by first | exact Kd.own_blk (Kd.N_away HO285.out (fun _ hk => hk.1.2)) | (rw [add_block]; exact Kd.own_blk (Kd.N_away HO285.out (fun _ hk => hk.1.2))) | (show (Addr.add _ _).block ≠ _; rw [add_block]; exact Kd.own_blk (Kd.N_away HO285.out (fun _ hk => hk.1.2))) | (dsimp only; exact Kd.own_blk (Kd.N_away HO285.out (fun _ hk => hk.1.2)))) _).trans (((cell_far (p := ⟨gb282, _, none⟩) (by first | exact Kd.own_blk (Kd.N_away HO285.out (fun _ hk => hk.1.2)) | (rw [add_block]; exact Kd.own_blk (Kd.N_away HO285.out (fun _ hk => hk.1.2))) | (show (Addr.add _ _).block ≠ _; rw [add_block]; exact Kd.own_blk (Kd.N_away HO285.out (fun _ hk => hk.1.2))) | (dsimp only; exact Kd.own_blk (Kd.N_away HO285.out (fun _ hk => hk.1.2)))) _).trans (((cell_far (p := ⟨gb282, _, none⟩) (by first | exact Kd.own_blk (Kd.N_away HO285.out (fun _ hk => hk.1.2)) | (rw [add_block]; exact Kd.own_blk (Kd.N_away HO285.out (fun _ hk => hk.1.2))) | (show (Addr.add _ _).block ≠ _; rw [add_block]; exact Kd.own_blk (Kd.N_away HO285.out (fun _ hk => hk.1.2))) | (dsimp only; exact Kd.own_blk (Kd.N_away HO285.out (fun _ hk => hk.1.2)))) _).trans (hHeld.2.2.2.2.2.2.2.2.2.2.2.2.2.2.2.1)))))))))))))), ((cell_far (p := ⟨gb282, _, none⟩) (by first | exact Kd.own_blk (Kd.N_away HO285.out (fun _ hk => hk.1.2)) | (rw [add_block]; exact Kd.own_blk (Kd.N_away HO285.out (fun _ hk => hk.1.2))) | (show (Addr.add _ _).block ≠ _; rw [add_block]; exact Kd.own_blk (Kd.N_away HO285.out (fun _ hk => hk.1.2))) | (dsimp only; exact Kd.own_blk (Kd.N_away HO285.out (fun _ hk => hk.1.2)))) _).trans (((cell_far (p := ⟨gb282, _, none⟩) (by first | exact Kd.own_blk (Kd.N_away HO285.out (fun _ hk => hk.1.2)) | (rw [add_block]; exact Kd.own_blk (Kd.N_away HO285.out (fun _ hk => hk.1.2))) | (show (Addr.add _ _).block ≠ _; rw [add_block]; exact Kd.own_blk (Kd.N_away HO285.out (fun _ hk => hk.1.2))) | (dsimp only; exact Kd.own_blk (Kd.N_away HO285.out (fun _ hk => hk.1.2)))) _).trans (((cell_far (p := ⟨gb282, _, none⟩) (by first | exact Kd.own_blk (Kd.N_away HO285.out (fun _ hk => hk.1.2)) | (rw [add_block]; exact Kd.own_blk (Kd.N_away HO285.out (fun _ hk => hk.1.2))) | (show (Addr.add _ _).block ≠ _; rw [add_block]; exact Kd.own_blk (Kd.N_away HO285.out (fun _ hk => hk.1.2))) | (dsimp only; exact Kd.own_blk (Kd.N_away HO285.out (fun _ hk => hk.1.2)))) _).trans (((cell_far (p := ⟨gb282, _, none⟩) (by first | exact Kd.own_blk (Kd.N_away HO285.out (fun _ hk => hk.1.2)) | (rw [add_block]; exact Kd.own_blk (Kd.N_away HO285.out (fun _ hk => hk.1.2))) | (show (Addr.add _ _).block ≠ _; rw [add_block]; exact Kd.own_blk (Kd.N_away HO285.out (fun _ hk => hk.1.2))) | (dsimp only; exact Kd.own_blk (Kd.N_away HO285.out (fun _ hk => hk.1.2)))) _).trans (((cell_far (p := ⟨gb282, _, none⟩) (by first | exact Kd.own_blk (Kd.N_away HO285.out (fun _ hk => hk.1.2)) | (rw [add_block]; exact Kd.own_blk (Kd.N_away HO285.out (fun _ hk => hk.1.2))) | (show (Addr.add _ _).block ≠ _; rw [add_block]; exact Kd.own_blk (Kd.N_away HO285.out (fun _ hk => hk.1.2))) | (dsimp only; exact Kd.own_blk (Kd.N_away HO285.out (fun _ hk => hk.1.2)))) _).trans (((cell_far (p := ⟨gb282, _, none⟩) (by first | exact Kd.own_blk (Kd.N_away HO285.out (fun _ hk => hk.1.2)) | (rw [add_block]; exact Kd.own_blk (Kd.N_away HO285.out (fun _ hk => hk.1.2))) | (show (Addr.add _ _).block ≠ _; rw [add_block]; exact Kd.own_blk (Kd.N_away HO285.out (fun _ hk => hk.1.2))) | (dsimp only; exact Kd.own_blk (Kd.N_away HO285.out (fun _ hk => hk.1.2)))) _).trans (((cell_far (p := ⟨gb282, _, none⟩) (by first | exact Kd.own_blk (Kd.N_away HO285.out (fun _ hk => hk.1.2)) | (rw [add_block]; exact Kd.own_blk (Kd.N_away HO285.out (fun _ hk => hk.1.2))) | (show (Addr.add _ _).block ≠ _; rw [add_block]; exact Kd.own_blk (Kd.N_away HO285.out (fun _ hk => hk.1.2))) | (dsimp only; exact Kd.own_blk (Kd.N_away HO285.out (fun _ hk => hk.1.2)))) _).trans (hHeld.2.2.2.2.2.2.2.2.2.2.2.2.2.2.2.2.1)))))))))))))), ((cell_far (p := ⟨gb282, _, none⟩) (by first | exact Kd.own_blk (Kd.N_away HO285.out (fun _ hk => hk.1.2)) | (rw [add_block]; exact Kd.own_blk (Kd.N_away HO285.out (fun _ hk => hk.1.2))) | (show (Addr.add _ _).block ≠ _; rw [add_block]; exact Kd.own_blk (Kd.N_away HO285.out (fun _ hk => hk.1.2))) | (dsimp only; exact Kd.own_blk (Kd.N_away HO285.out (fun _ hk => hk.1.2)))) _).trans (((cell_far (p := ⟨gb282, _, none⟩) (by first | exact Kd.own_blk (Kd.N_away HO285.out (fun _ hk => hk.1.2)) | (rw [add_block]; exact Kd.own_blk (Kd.N_away HO285.out (fun _ hk => hk.1.2))) | (show (Addr.add _ _).block ≠ _; rw [add_block]; exact Kd.own_blk (Kd.N_away HO285.out (fun _ hk => hk.1.2))) | (dsimp only; exact Kd.own_blk (Kd.N_away HO285.out (fun _ hk => hk.1.2)))) _).trans (((cell_far (p := ⟨gb282, _, none⟩) (by first | exact Kd.own_blk (Kd.N_away HO285.out (fun _ hk => hk.1.2)) | (rw [add_block]; exact Kd.own_blk (Kd.N_away HO285.out (fun _ hk => hk.1.2))) | (show (Addr.add _ _).block ≠ _; rw [add_block]; exact Kd.own_blk (Kd.N_away HO285.out (fun _ hk => hk.1.2))) | (dsimp only; exact Kd.own_blk (Kd.N_away HO285.out (fun _ hk => hk.1.2)))) _).trans (((cell_far (p := ⟨gb282, _, none⟩) (by first | exact Kd.own_blk (Kd.N_away HO285.out (fun _ hk => hk.1.2)) | (rw [add_block]; exact Kd.own_blk (Kd.N_away HO285.out (fun _ hk => hk.1.2))) | (show (Addr.add _ _).block ≠ _; rw [add_block]; exact Kd.own_blk (Kd.N_away HO285.out (fun _ hk => hk.1.2))) | (dsimp only; exact Kd.own_blk (Kd.N_away HO285.out (fun _ hk => hk.1.2)))) _).trans (((cell_far (p := ⟨gb282, _, none⟩) (by first | exact Kd.own_blk (Kd.N_away HO285.out (fun _ hk => hk.1.2)) | (rw [add_block]; exact Kd.own_blk (Kd.N_away HO285.out (fun _ hk => hk.1.2))) | (show (Addr.add _ _).block ≠ _; rw [add_block]; exact Kd.own_blk (Kd.N_away HO285.out (fun _ hk => hk.1.2))) | (dsimp only; exact Kd.own_blk (Kd.N_away HO285.out (fun _ hk => hk.1.2)))) _).trans (((cell_far (p := ⟨gb282, _, none⟩) (by first | exact Kd.own_blk (Kd.N_away HO285.out (fun _ hk => hk.1.2)) | (rw [add_block]; exact Kd.own_blk (Kd.N_away HO285.out (fun _ hk => hk.1.2))) | (show (Addr.add _ _).block ≠ _; rw [add_block]; exact Kd.own_blk (Kd.N_away HO285.out (fun _ hk => hk.1.2))) | (dsimp only; exact Kd.own_blk (Kd.N_away HO285.out (fun _ hk => hk.1.2)))) _).trans (((cell_far (p := ⟨gb282, _, none⟩) (by first | exact Kd.own_blk (Kd.N_away HO285.out (fun _ hk => hk.1.2)) | (rw [add_block]; exact Kd.own_blk (Kd.N_away HO285.out (fun _ hk => hk.1.2))) | (show (Addr.add _ _).block ≠ _; rw [add_block]; exact Kd.own_blk (Kd.N_away HO285.out (fun _ hk => hk.1.2))) | (dsimp only; exact Kd.own_blk (Kd.N_away HO285.out (fun _ hk => hk.1.2)))) _).trans (hHeld.2.2.2.2.2.2.2.2.2.2.2.2.2.2.2.2.2.1)))))))))))))), ((cell_far (p := ⟨gb282, _, none⟩) (by first | exact Kd.own_blk (Kd.N_away HO285.out (fun _ hk => hk.1.2)) | (rw [add_block]; exact Kd.own_blk (Kd.N_away HO285.out (fun _ hk => hk.1.2))) | (show (Addr.add _ _).block ≠ _; rw [add_block]; exact Kd.own_blk (Kd.N_away HO285.out (fun _ hk => hk.1.2))) | (dsimp only; exact Kd.own_blk (Kd.N_away HO285.out (fun _ hk => hk.1.2)))) _).trans (((cell_far (p := ⟨gb282, _, none⟩) (by first | exact Kd.own_blk (Kd.N_away HO285.out (fun _ hk => hk.1.2)) | (rw [add_block]; exact Kd.own_blk (Kd.N_away HO285.out (fun _ hk => hk.1.2))) | (show (Addr.add _ _).block ≠ _; rw [add_block]; exact Kd.own_blk (Kd.N_away HO285.out (fun _ hk => hk.1.2))) | (dsimp only; exact Kd.own_blk (Kd.N_away HO285.out (fun _ hk => hk.1.2)))) _).trans (((cell_far (p := ⟨gb282, _, none⟩) (by first | exact Kd.own_blk (Kd.N_away HO285.out (fun _ hk => hk.1.2)) | (rw [add_block]; exact Kd.own_blk (Kd.N_away HO285.out (fun _ hk => hk.1.2))) | (show (Addr.add _ _).block ≠ _; rw [add_block]; exact Kd.own_blk (Kd.N_away HO285.out (fun _ hk => hk.1.2))) | (dsimp only; exact Kd.own_blk (Kd.N_away HO285.out (fun _ hk => hk.1.2)))) _).trans (((cell_far (p := ⟨gb282, _, none⟩) (by first | exact Kd.own_blk (Kd.N_away HO285.out (fun _ hk => hk.1.2)) | (rw [add_block]; exact Kd.own_blk (Kd.N_away HO285.out (fun _ hk => hk.1.2))) | (show (Addr.add _ _).block ≠ _; rw [add_block]; exact Kd.own_blk (Kd.N_away HO285.out (fun _ hk => hk.1.2))) | (dsimp only; exact Kd.own_blk (Kd.N_away HO285.out (fun _ hk => hk.1.2)))) _).trans (((cell_far (p := ⟨gb282, _, none⟩) (by first | exact Kd.own_blk (Kd.N_away HO285.out (fun _ hk => hk.1.2)) | (rw [add_block]; exact Kd.own_blk (Kd.N_away HO285.out (fun _ hk => hk.1.2))) | (show (Addr.add _ _).block ≠ _; rw [add_block]; exact Kd.own_blk (Kd.N_away HO285.out (fun _ hk => hk.1.2))) | (dsimp only; exact Kd.own_blk (Kd.N_away HO285.out (fun _ hk => hk.1.2)))) _).trans (((cell_far (p := ⟨gb282, _, none⟩) (by first | exact Kd.own_blk (Kd.N_away HO285.out (fun _ hk => hk.1.2)) | (rw [add_block]; exact Kd.own_blk (Kd.N_away HO285.out (fun _ hk => hk.1.2))) | (show (Addr.add _ _).block ≠ _; rw [add_block]; exact Kd.own_blk (Kd.N_away HO285.out (fun _ hk => hk.1.2))) | (dsimp only; exact Kd.own_blk (Kd.N_away HO285.out (fun _ hk => hk.1.2)))) _).trans (((cell_far (p := ⟨gb282, _, none⟩) (by first | exact Kd.own_blk (Kd.N_away HO285.out (fun _ hk => hk.1.2)) | (rw [add_block]; exact Kd.own_blk (Kd.N_away HO285.out (fun _ hk => hk.1.2))) | (show (Addr.add _ _).block ≠ _; rw [add_block]; exact Kd.own_blk (Kd.N_away HO285.out (fun _ hk => hk.1.2))) | (dsimp only; exact Kd.own_blk (Kd.N_away HO285.out (fun _ hk => hk.1.2)))) _).trans (hHeld.2.2.2.2.2.2.2.2.2.2.2.2.2.2.2.2.2.2.1)))))))))))))), ((cell_far (p := ⟨gb282, _, none⟩) (by first | exact Kd.own_blk (Kd.N_away HO285.out (fun _ hk => hk.1.2)) | (rw [add_block]; exact Kd.own_blk (Kd.N_away HO285.out (fun _ hk => hk.1.2))) | (show (Addr.add _ _).block ≠ _; rw [add_block]; exact Kd.own_blk (Kd.N_away HO285.out (fun _ hk => hk.1.2))) | (dsimp only; exact Kd.own_blk (Kd.N_away HO285.out (fun _ hk => hk.1.2)))) _).trans (((cell_far (p := ⟨gb282, _, none⟩) (by first | exact Kd.own_blk (Kd.N_away HO285.out (fun _ hk => hk.1.2)) | (rw [add_block]; exact Kd.own_blk (Kd.N_away HO285.out (fun _ hk => hk.1.2))) | (show (Addr.add _ _).block ≠ _; rw [add_block]; exact Kd.own_blk (Kd.N_away HO285.out (fun _ hk => hk.1.2))) | (dsimp only; exact Kd.own_blk (Kd.N_away HO285.out (fun _ hk => hk.1.2)))) _).trans (((cell_far (p := ⟨gb282, _, none⟩) (by first | exact Kd.own_blk (Kd.N_away HO285.out (fun _ hk => hk.1.2)) | (rw [add_block]; exact Kd.own_blk (Kd.N_away HO285.out (fun _ hk => hk.1.2))) | (show (Addr.add _ _).block ≠ _; rw [add_block]; exact Kd.own_blk (Kd.N_away HO285.out (fun _ hk => hk.1.2))) | (dsimp only; exact Kd.own_blk (Kd.N_away HO285.out (fun _ hk => hk.1.2)))) _).trans (((cell_far (p := ⟨gb282, _, none⟩) (by first | exact Kd.own_blk (Kd.N_away HO285.out (fun _ hk => hk.1.2)) | (rw [add_block]; exact Kd.own_blk (Kd.N_away HO285.out (fun _ hk => hk.1.2))) | (show (Addr.add _ _).block ≠ _; rw [add_block]; exact Kd.own_blk (Kd.N_away HO285.out (fun _ hk => hk.1.2))) | (dsimp only; exact Kd.own_blk (Kd.N_away HO285.out (fun _ hk => hk.1.2)))) _).trans (((cell_far (p := ⟨gb282, _, none⟩) (by first | exact Kd.own_blk (Kd.N_away HO285.out (fun _ hk => hk.1.2)) | (rw [add_block]; exact Kd.own_blk (Kd.N_away HO285.out (fun _ hk => hk.1.2))) | (show (Addr.add _ _).block ≠ _; rw [add_block]; exact Kd.own_blk (Kd.N_away HO285.out (fun _ hk => hk.1.2))) | (dsimp only; exact Kd.own_blk (Kd.N_away HO285.out (fun _ hk => hk.1.2)))) _).trans (((cell_far (p := ⟨gb282, _, none⟩) (by first | exact Kd.own_blk (Kd.N_away HO285.out (fun _ hk => hk.1.2)) | (rw [add_block]; exact Kd.own_blk (Kd.N_away HO285.out (fun _ hk => hk.1.2))) | (show (Addr.add _ _).block ≠ _; rw [add_block]; exact Kd.own_blk (Kd.N_away HO285.out (fun _ hk => hk.1.2))) | (dsimp only; exact Kd.own_blk (Kd.N_away HO285.out (fun _ hk => hk.1.2)))) _).trans (((cell_far (p := ⟨gb282, _, none⟩) (by first | exact Kd.own_blk (Kd.N_away HO285.out (fun _ hk => hk.1.2)) | (rw [add_block]; exact Kd.own_blk (Kd.N_away HO285.out (fun _ hk => hk.1.2))) | (show (Addr.add _ _).block ≠ _; rw [add_block]; exact Kd.own_blk (Kd.N_away HO285.out (fun _ hk => hk.1.2))) | (dsimp only; exact Kd.own_blk (Kd.N_away HO285.out (fun _ hk => hk.1.2)))) _).trans (hHeld.2.2.2.2.2.2.2.2.2.2.2.2.2.2.2.2.2.2.2.1)))))))))))))), ((cell_far (p := ⟨gb282, _, none⟩) (by first | exact Kd.own_blk (Kd.N_away HO285.out (fun _ hk => hk.1.2)) | (rw [add_block]; exact Kd.own_blk (Kd.N_away HO285.out (fun _ hk => hk.1.2))) | (show (Addr.add _ _).block ≠ _; rw [add_block]; exact Kd.own_blk (Kd.N_away HO285.out (fun _ hk => hk.1.2))) | (dsimp only; exact Kd.own_blk (Kd.N_away HO285.out (fun _ hk => hk.1.2)))) _).trans (((cell_far (p := ⟨gb282, _, none⟩) (by first | exact Kd.own_blk (Kd.N_away HO285.out (fun _ hk => hk.1.2)) | (rw [add_block]; exact Kd.own_blk (Kd.N_away HO285.out (fun _ hk => hk.1.2))) | (show (Addr.add _ _).block ≠ _; rw [add_block]; exact Kd.own_blk (Kd.N_away HO285.out (fun _ hk => hk.1.2))) | (dsimp only; exact Kd.own_blk (Kd.N_away HO285.out (fun _ hk => hk.1.2)))) _).trans (((cell_far (p := ⟨gb282, _, none⟩) (by first | exact Kd.own_blk (Kd.N_away HO285.out (fun _ hk => hk.1.2)) | (rw [add_block]; exact Kd.own_blk (Kd.N_away HO285.out (fun _ hk => hk.1.2))) | (show (Addr.add _ _).block ≠ _; rw [add_block]; exact Kd.own_blk (Kd.N_away HO285.out (fun _ hk => hk.1.2))) | (dsimp only; exact Kd.own_blk (Kd.N_away HO285.out (fun _ hk => hk.1.2)))) _).trans (((cell_far (p := ⟨gb282, _, none⟩) (by first | exact Kd.own_blk (Kd.N_away HO285.out (fun _ hk => hk.1.2)) | (rw [add_block]; exact Kd.own_blk (Kd.N_away HO285.out (fun _ hk => hk.1.2))) | (show (Addr.add _ _).block ≠ _; rw [add_block]; exact Kd.own_blk (Kd.N_away HO285.out (fun _ hk => hk.1.2))) | (dsimp only; exact Kd.own_blk (Kd.N_away HO285.out (fun _ hk => hk.1.2)))) _).trans (((cell_far (p := ⟨gb282, _, none⟩) (by first | exact Kd.own_blk (Kd.N_away HO285.out (fun _ hk => hk.1.2)) | (rw [add_block]; exact Kd.own_blk (Kd.N_away HO285.out (fun _ hk => hk.1.2))) | (show (Addr.add _ _).block ≠ _; rw [add_block]; exact Kd.own_blk (Kd.N_away HO285.out (fun _ hk => hk.1.2))) | (dsimp only; exact Kd.own_blk (Kd.N_away HO285.out (fun _ hk => hk.1.2)))) _).trans (((cell_far (p := ⟨gb282, _, none⟩) (by first | exact Kd.own_blk (Kd.N_away HO285.out (fun _ hk => hk.1.2)) | (rw [add_block]; exact Kd.own_blk (Kd.N_away HO285.out (fun _ hk => hk.1.2))) | (show (Addr.add _ _).block ≠ _; rw [add_block]; exact Kd.own_blk (Kd.N_away HO285.out (fun _ hk => hk.1.2))) | (dsimp only; exact Kd.own_blk (Kd.N_away HO285.out (fun _ hk => hk.1.2)))) _).trans (((cell_far (p := ⟨gb282, _, none⟩) (by first | exact Kd.own_blk (Kd.N_away HO285.out (fun _ hk => hk.1.2)) | (rw [add_block]; exact Kd.own_blk (Kd.N_away HO285.out (fun _ hk => hk.1.2))) | (show (Addr.add _ _).block ≠ _; rw [add_block]; exact Kd.own_blk (Kd.N_away HO285.out (fun _ hk => hk.1.2))) | (dsimp only; exact Kd.own_blk (Kd.N_away HO285.out (fun _ hk => hk.1.2)))) _).trans (hHeld.2.2.2.2.2.2.2.2.2.2.2.2.2.2.2.2.2.2.2.2))))))))))))))⟩ (fun hHeld => ?_)
                clear hK K
                refine done_ (done_of HT_.out (by kernel_rfl)) ?_
                try go_wp2
                refine bodyPost_ret (results_cell_row rfl _ _ gb282 27 #[.string ((rd_T39 t283 0).f0), .string ((rd_T39 t283 1).f0), .string ((rd_T39 t283 2).f0), .int .i64 (wrap64 ((rd_T39 t283 3).f1)), .slice Ao19 t291.length co19, .int .u64 ((rd_T39 t283 5).f1), .int .u64 ((rd_T39 t283 6).f1)] (0, 0) _ rfl (by (with_reducible repeat (first | refine blk_drewN ?_ _ | refine blk_drew ?_ | refine blk_alloc ?_ _)); refine blk_put (cs := #[.string ((rd_T39 t283 0).f0), .string ((rd_T39 t283 1).f0), .string ((rd_T39 t283 2).f0), .int .i64 (wrap64 ((rd_T39 t283 3).f1)), .slice Ao19 t291.length co19, .int .u64 ((rd_T39 t283 5).f1), .int .u64 0]) ?_ 6 _ rfl; (with_reducible repeat (first | refine blk_drewN ?_ _ | refine blk_drew ?_ | refine blk_alloc ?_ _)); refine blk_put (cs := #[.string ((rd_T39 t283 0).f0), .string ((rd_T39 t283 1).f0), .string ((rd_T39 t283 2).f0), .int .i64 (wrap64 ((rd_T39 t283 3).f1)), .slice Ao19 t291.length co19, .int .u64 0, .int .u64 0]) ?_ 5 _ rfl; (with_reducible repeat (first | refine blk_drewN ?_ _ | refine blk_drew ?_ | refine blk_alloc ?_ _)); refine blk_put (cs := #[.string ((rd_T39 t283 0).f0), .string ((rd_T39 t283 1).f0), .string ((rd_T39 t283 2).f0), .int .i64 (wrap64 ((rd_T39 t283 3).f1)), .slice none 0 0, .int .u64 0, .int .u64 0]) ?_ 4 _ rfl; (with_reducible repeat (first | refine blk_drewN ?_ _ | refine blk_drew ?_ | refine blk_alloc ?_ _)); refine blk_put (cs := #[.string ((rd_T39 t283 0).f0), .string ((rd_T39 t283 1).f0), .string ((rd_T39 t283 2).f0), .int .i64 0, .slice none 0 0, .int .u64 0, .int .u64 0]) ?_ 3 _ rfl; (with_reducible repeat (first | refine blk_drewN ?_ _ | refine blk_drew ?_ | refine blk_alloc ?_ _)); refine blk_put (cs := #[.string ((rd_T39 t283 0).f0), .string ((rd_T39 t283 1).f0), .string (⟨#[]⟩ : ByteArray), .int .i64 0, .slice none 0 0, .int .u64 0, .int .u64 0]) ?_ 2 _ rfl; (with_reducible repeat (first | refine blk_drewN ?_ _ | refine blk_drew ?_ | refine blk_alloc ?_ _)); refine blk_put (cs := #[.string ((rd_T39 t283 0).f0), .string (⟨#[]⟩ : ByteArray), .string (⟨#[]⟩ : ByteArray), .int .i64 0, .slice none 0 0, .int .u64 0, .int .u64 0]) ?_ 1 _ rfl; (with_reducible repeat (first | refine blk_drewN ?_ _ | refine blk_drew ?_ | refine blk_alloc ?_ _)); refine blk_put (cs := #[.string (⟨#[]⟩ : ByteArray), .string (⟨#[]⟩ : ByteArray), .string (⟨#[]⟩ : ByteArray), .int .i64 0, .slice none 0 0, .int .u64 0, .int .u64 0]) ?_ 0 _ rfl; (with_reducible repeat (first | refine blk_drewN ?_ _ | refine blk_drew ?_ | refine blk_alloc ?_ _)); exact BK282.out) Tryd.underlying27 rfl (by kernel_rfl)) rfl ?_
                exact ⟨_, by first | rfl | (simp [errW_none, errW_some] <;> rfl) | (simp [*, errW_none, errW_some] <;> rfl), by (with_reducible repeat (first | apply Kd.R_alloc | apply Kd.R_drewN | apply Kd.R_drew)); exact Kd.R_mono (Kd.R_far (p := ⟨gb282, 6, none⟩) (Kd.R_far (p := ⟨gb282, 5, none⟩) (Kd.R_far (p := ⟨gb282, 4, none⟩) (Kd.R_far (p := ⟨gb282, 3, none⟩) (Kd.R_far (p := ⟨gb282, 2, none⟩) (Kd.R_far (p := ⟨gb282, 1, none⟩) (Kd.R_far (p := ⟨gb282, 0, none⟩) (Kd.R_types HO293.out BK282.out (by decide)) (fun _ hk => hk.2) (.string ((rd_T39 t283 0).f0))) (fun _ hk => hk.2) (.string ((rd_T39 t283 1).f0))) (fun _ hk => hk.2) (.string ((rd_T39 t283 2).f0))) (fun _ hk => hk.2) (.int .i64 (wrap64 ((rd_T39 t283 3).f1)))) (fun _ hk => hk.2) (.slice Ao19 t291.length co19)) (fun _ hk => hk.2) (.int .u64 ((rd_T39 t283 5).f1))) (fun _ hk => hk.2) (.int .u64 ((rd_T39 t283 6).f1))) (fun _ hk => trivial), by repeat (first | (with_reducible first | exact HB.out | apply below_alloc | apply pw_below_drewN | apply below_drew1 | refine below_set ?_ GE281.out | refine below_set ?_ GE282.out) | exact HB.out)⟩
              · rw [if_neg c10] at H
                exact absurd H (by simp)
            · rw [if_neg c9] at H
              exact absurd H (by simp)
          · rw [if_neg c7] at H
            exact absurd H (by simp)
        · rw [if_neg c6] at H
          exact absurd H (by simp)
      · rw [if_neg c5] at H
        exact absurd H (by simp)
    · rw [if_neg c4] at H
      exact absurd H (by simp)
  · rw [if_neg c3] at H
    exact absurd H (by simp)

end Go.Proofs.YthalhlobmbedhaaDoor.P
