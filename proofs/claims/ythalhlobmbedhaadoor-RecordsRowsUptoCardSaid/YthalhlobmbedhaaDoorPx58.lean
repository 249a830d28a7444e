-- PRINTED by gprint.py (a program of this session over the kit's print) out of the translation. Not trusted: Lean checks it.
import Derived.Test.YthalhlobmbedhaaDoorPx0
import Derived.Test.YthalhlobmbedhaaDoorPx54
namespace Go.Proofs.YthalhlobmbedhaaDoor.P
open Go.RowKit Go.Proofs.YthalhlobmbedhaaDoorW.PrintWords Go.Proofs.YthalhlobmbedhaaDoorW.PrintLast Go.Proofs.YthalhlobmbedhaaDoorW.PrintMore
attribute [local go_sem] max2_int min2_int max_two min_two max_three min_three max_four min_four   -- for this text's walks alone
set_option linter.unusedVariables false
set_option linter.unusedSimpArgs false

/-! ### records_RowCheck: function 13 -/
def records_RowCheck.f (l0_0 : List (S39)) : Option (ByteArray × ByteArray × ByteArray × Int × ByteArray × Int × Int) := (records_cells.f l0_0 7).bind fun t298 => (if 0 < (t298.length : Int) then (if 1 < (t298.length : Int) then (if 2 < (t298.length : Int) then (if 3 < (t298.length : Int) then (if 4 < (t298.length : Int) then (if 5 < (t298.length : Int) then (if 6 < (t298.length : Int) then (some ((rd_T39 t298 0).f0, (rd_T39 t298 1).f0, (rd_T39 t298 2).f0, wrap64 ((rd_T39 t298 3).f1), (rd_T39 t298 4).f0, (rd_T39 t298 5).f1, (rd_T39 t298 6).f1)) else (none)) else (none)) else (none)) else (none)) else (none)) else (none)) else (none))
def records_RowCheck.T2 : Bool × List (List Nat × List Nat) := (true, [([], []), ([0], [0]), ([1], [1]), ([2], [2]), ([], []), ([4], [4]), ([5], [5]), ([6], [6]), ([], []), ([8], [8]), ([9], [9]), ([10], [10]), ([], []), ([12], [12]), ([13], [13]), ([14], [14]), ([15], [15]), ([], []), ([17], [17]), ([18], [18]), ([19], [19]), ([], []), ([21], [21]), ([22], [22]), ([23], [23]), ([], []), ([25], [25]), ([26], [26]), ([27], [27]), ([3, 7, 11, 16, 20, 24, 28], [3, 7, 11, 16, 20, 24, 28]), ([29, 0, 1, 2, 3, 4, 5, 6, 7, 8, 9, 10, 11, 12, 13, 14, 15, 16, 17, 18, 19, 20, 21, 22, 23, 24, 25, 26, 27, 28, 29], [29])])
def records_RowCheck.B2 : List Nat := [0, 1, 3, 7, 0, 16, 48, 112, 0, 256, 768, 1792, 0, 4096, 12288, 28672, 61440, 0, 131072, 393216, 917504, 0, 2097152, 6291456, 14680064, 0, 33554432, 100663296, 234881024, 536870911, 1073741823]
theorem records_RowCheck.tab2 : rtab .any (opsOf Tryd.f13 2) = records_RowCheck.T2 := by kernel_rfl
theorem records_RowCheck.bits2 : waitsOk records_RowCheck.T2.2 records_RowCheck.B2 = true := by kernel_rfl
set_option maxHeartbeats 8000000 in
set_option maxRecDepth 100000 in
theorem records_RowCheck.calls (A0_0 : Option Addr) (c0_0 : Nat) (l0_0 : List (S39)) (r1 : ByteArray) (r2 : ByteArray) (r3 : ByteArray) (r4 : Int) (r5 : ByteArray) (r6 : Int) (r7 : Int) (w : World) (hr0_0 : Kd.C k39 w A0_0 l0_0.length l0_0) (hc0_0 : l0_0.length ≤ c0_0) (h : records_RowCheck.f l0_0 = some (r1, r2, r3, r4, r5, r6, r7)) :
    Calls Tryd.prog 13 #[.agg #[.slice A0_0 l0_0.length c0_0]] w fun e w' => e = .returned (.agg #[.string r1, .string r2, .string r3, .int .i64 r4, .string r5, .int .u64 r6, .int .u64 r7]) ∧ Below w.heap.size w w' := by
  have hu33 := Tryd.underlying33
  have hu29 := Tryd.underlying29
  have HR0_0 := Aside0.mk hr0_0
  have HC0_0 := Aside0.mk hc0_0
  clear hr0_0 hc0_0
  have HB := Aside0.mk (Below.refl w.heap.size w)
  have H : ((records_cells.f l0_0 7).bind fun t298 => (if 0 < (t298.length : Int) then (if 1 < (t298.length : Int) then (if 2 < (t298.length : Int) then (if 3 < (t298.length : Int) then (if 4 < (t298.length : Int) then (if 5 < (t298.length : Int) then (if 6 < (t298.length : Int) then (some ((rd_T39 t298 0).f0, (rd_T39 t298 1).f0, (rd_T39 t298 2).f0, wrap64 ((rd_T39 t298 3).f1), (rd_T39 t298 4).f0, (rd_T39 t298 5).f1, (rd_T39 t298 6).f1)) else (none)) else (none)) else (none)) else (none)) else (none)) else (none)) else (none))) = some (r1, r2, r3, r4, r5, r6, r7) := h
  clear h
  replace H := Option.bind_eq_some_iff.mp H
  obtain ⟨t298, A20, H⟩ := H
  replace H : (if 0 < (t298.length : Int) then (if 1 < (t298.length : Int) then (if 2 < (t298.length : Int) then (if 3 < (t298.length : Int) then (if 4 < (t298.length : Int) then (if 5 < (t298.length : Int) then (if 6 < (t298.length : Int) then (some ((rd_T39 t298 0).f0, (rd_T39 t298 1).f0, (rd_T39 t298 2).f0, wrap64 ((rd_T39 t298 3).f1), (rd_T39 t298 4).f0, (rd_T39 t298 5).f1, (rd_T39 t298 6).f1)) else (none)) else (none)) else (none)) else (none)) else (none)) else (none)) else (none)) = some (r1, r2, r3, r4, r5, r6, r7) := H
  have A2 := Aside0.mk A20
  clear A20
  by_cases c3 : 0 < (t298.length : Int)
  · rw [if_pos c3] at H
    have c3b0 : decide (0 < (t298.length : Int)) = true := decide_eq_true c3
    have c3b1 : decide (0 < t298.length) = true := decide_eq_true (by omega)
    clear c3
    by_cases c4 : 1 < (t298.length : Int)
    · rw [if_pos c4] at H
      have c4b0 : decide (1 < (t298.length : Int)) = true := decide_eq_true c4
      have c4b1 : decide (1 < t298.length) = true := decide_eq_true (by omega)
      clear c4
      by_cases c5 : 2 < (t298.length : Int)
      · rw [if_pos c5] at H
        have c5b0 : decide (2 < (t298.length : Int)) = true := decide_eq_true c5
        have c5b1 : decide (2 < t298.length) = true := decide_eq_true (by omega)
        clear c5
        by_cases c6 : 3 < (t298.length : Int)
        · rw [if_pos c6] at H
          have c6b0 : decide (3 < (t298.length : Int)) = true := decide_eq_true c6
          have c6b1 : decide (3 < t298.length) = true := decide_eq_true (by omega)
          clear c6
          by_cases c7 : 4 < (t298.length : Int)
          · rw [if_pos c7] at H
            have c7b0 : decide (4 < (t298.length : Int)) = true := decide_eq_true c7
            have c7b1 : decide (4 < t298.length) = true := decide_eq_true (by omega)
            clear c7
            by_cases c8 : 5 < (t298.length : Int)
            · rw [if_pos c8] at H
              have c8b0 : decide (5 < (t298.length : Int)) = true := decide_eq_true c8
              have c8b1 : decide (5 < t298.length) = true := decide_eq_true (by omega)
              clear c8
              by_cases c9 : 6 < (t298.length : Int)
              · rw [if_pos c9] at H
                have c9b0 : decide (6 < (t298.length : Int)) = true := decide_eq_true c9
                have c9b1 : decide (6 < t298.length) = true := decide_eq_true (by omega)
                clear c9
                simp only [Option.some.injEq, Prod.mk.injEq] at H
                obtain ⟨rfl, rfl, rfl, rfl, rfl, rfl, rfl⟩ := H
                go_enter Tryd.func13, Tryd.ntmps13
                try go_wp2_with (first | ((with_reducible refine gate_dst (N := 1) rfl ?_); refine box_event ?hg (N := 1) ?hd (cs := #[.slice A0_0 l0_0.length c0_0]) (t := 33) ?hr ?_; (case hd => rfl); (case hg => rfl); (case hr => first | (go_simp; done) | (go_simp; rfl)); intro gb296 hg w10 hbox hb; have n0_ := Aside0.mk (below_step (by repeat (first | (with_reducible first | exact HB.out | apply below_alloc | apply pw_below_drewN | apply below_drew1) | exact HB.out)) hb); have n1_ := Aside0.mk (hbox); have n2_ := Aside0.mk ((by rw [hg]; exact (below_size (by repeat (first | (with_reducible first | exact HB.out | apply below_alloc | apply pw_below_drewN | apply below_drew1) | exact HB.out))) : w.heap.size ≤ gb296)); have n3_ := Aside0.mk ((by rw [hg]; exact (below_size (by repeat (first | (with_reducible first | exact HB.out | apply below_alloc | apply pw_below_drewN | apply below_drew1) | exact HB.out))) : w.heap.size ≤ gb296)); clear HB; have HB := n0_; have BK296 := n1_; have GW296 := n2_; have GE296 := n3_; clear n0_ n1_ n2_ n3_; clear hb hbox hg) | ((with_reducible refine gate_dst (N := 2) rfl ?_); refine box_event ?hg (N := 2) ?hd (cs := #[.string (⟨#[]⟩ : ByteArray), .string (⟨#[]⟩ : ByteArray), .string (⟨#[]⟩ : ByteArray), .int .i64 0, .string (⟨#[]⟩ : ByteArray), .int .u64 0, .int .u64 0]) (t := 29) ?hr ?_; (case hd => rfl); (case hg => rfl); (case hr => first | (go_simp; done) | (go_simp; rfl)); intro gb297 hg w11 hbox hb; have n0_ := Aside0.mk (blk_below (g := gb296) (o := .cells #[.slice A0_0 l0_0.length c0_0] 33 (0, 0)) (by (with_reducible repeat (first | refine blk_drewN ?_ _ | refine blk_drew ?_ | refine blk_alloc ?_ _)); exact BK296.out) hb); have n1_ := Aside0.mk (below_step (by repeat (first | (with_reducible first | exact HB.out | apply below_alloc | apply pw_below_drewN | apply below_drew1 | refine below_set ?_ GE296.out) | exact HB.out)) hb); have n2_ := Aside0.mk (hbox); have n3_ := Aside0.mk ((by rw [hg]; exact (below_size (by repeat (first | (with_reducible first | exact HB.out | apply below_alloc | apply pw_below_drewN | apply below_drew1 | refine below_set ?_ GE296.out) | exact HB.out))) : w.heap.size ≤ gb297)); have n4_ := Aside0.mk ((by rw [hg]; exact (below_size (by repeat (first | (with_reducible first | exact HB.out | apply below_alloc | apply pw_below_drewN | apply below_drew1 | refine below_set ?_ GE296.out) | exact HB.out))) : w.heap.size ≤ gb297)); have n5_ := Aside0.mk ((by rw [hg]; exact Nat.ne_of_lt (blk_lt (g := gb296) (o := .cells #[.slice A0_0 l0_0.length c0_0] 33 (0, 0)) (by (with_reducible repeat (first | refine blk_drewN ?_ _ | refine blk_drew ?_ | refine blk_alloc ?_ _)); exact BK296.out)) : gb296 ≠ gb297)); have n6_ := Aside0.mk ((by rw [hg]; exact Nat.ne_of_gt (blk_lt (g := gb296) (o := .cells #[.slice A0_0 l0_0.length c0_0] 33 (0, 0)) (by (with_reducible repeat (first | refine blk_drewN ?_ _ | refine blk_drew ?_ | refine blk_alloc ?_ _)); exact BK296.out)) : gb297 ≠ gb296)); clear BK296; clear HB; have BK296 := n0_; have HB := n1_; have BK297 := n2_; have GW297 := n3_; have GE297 := n4_; have NB296_297 := n5_; have NB297_296 := n6_; clear n0_ n1_ n2_ n3_ n4_ n5_ n6_; clear hb hbox hg; have hnb12 := NB296_297.out; have hnc12 := NB297_296.out; have hcz13_0 : w11.cell? ⟨gb296, 0, none⟩ = some (.slice A0_0 l0_0.length c0_0) := (blk_cell BK296.out 0).trans rfl; have hfz13_0 := blk_frozen BK296.out 0) | ((with_reducible refine gate_callee (f := 20) rfl ?_); refine goesL_ (some 5) rfl rfl Tryd.func20 (by kernel_rfl) rfl #[.agg #[.slice A0_0 l0_0.length c0_0], .int .i64 7] rfl (by (try simp only [List.map_toArray, List.map_cons, List.map_nil]); first | done | rfl | (simp only [List.length_drop, List.length_take]; rfl)) ?_; (with_reducible refine (records_cells.calls (fun k_ => k_ < w.heap.size) _ _ l0_0 7 t298 _ ?side1 A2.out).mono ?_); (case side1 => exact Kd.V_mk HC0_0.out (Kd.F_below (Kd.C_F k39_heap HR0_0.out) (by repeat (first | (with_reducible first | exact HB.out | apply below_alloc | apply pw_below_drewN | apply below_drew1 | refine below_set ?_ GE296.out | refine below_set ?_ GE297.out) | exact HB.out)))); rintro e w14 ⟨v299, rfl, ho0, hb⟩; refine ⟨_, rfl, ?_⟩; have n0_ := Aside0.mk (Kd.N_lower (Kd.N_mono (ok' := fun k_ => k_ ≠ gb296 ∧ k_ ≠ gb297) ho0 (fun k_ hk_ => ⟨Or.elim hk_ (fun hs_ => fun e_ => Nat.not_le.2 hs_ (by rw [e_]; exact GW296.out)) (fun hn_ => (Kd.freshB (g := gb296) (o := .cells #[.slice A0_0 l0_0.length c0_0] 33 (0, 0)) (by (with_reducible repeat (first | refine blk_drewN ?_ _ | refine blk_drew ?_ | refine blk_alloc ?_ _)); exact BK296.out) k_ hn_)), Or.elim hk_ (fun hs_ => fun e_ => Nat.not_le.2 hs_ (by rw [e_]; exact GW297.out)) (fun hn_ => (Kd.freshB (g := gb297) (o := .cells #[.string (⟨#[]⟩ : ByteArray), .string (⟨#[]⟩ : ByteArray), .string (⟨#[]⟩ : ByteArray), .int .i64 0, .string (⟨#[]⟩ : ByteArray), .int .u64 0, .int .u64 0] 29 (0, 0)) (by (with_reducible repeat (first | refine blk_drewN ?_ _ | refine blk_drew ?_ | refine blk_alloc ?_ _)); exact BK297.out) k_ hn_))⟩)) (below_size (by repeat (first | (with_reducible first | exact HB.out | apply below_alloc | apply pw_below_drewN | apply below_drew1 | refine below_set ?_ GE296.out | refine below_set ?_ GE297.out) | exact HB.out)))); have n1_ := Aside0.mk (blk_below (g := gb296) (o := .cells #[.slice A0_0 l0_0.length c0_0] 33 (0, 0)) (by (with_reducible repeat (first | refine blk_drewN ?_ _ | refine blk_drew ?_ | refine blk_alloc ?_ _)); exact BK296.out) hb); have n2_ := Aside0.mk (blk_below (g := gb297) (o := .cells #[.string (⟨#[]⟩ : ByteArray), .string (⟨#[]⟩ : ByteArray), .string (⟨#[]⟩ : ByteArray), .int .i64 0, .string (⟨#[]⟩ : ByteArray), .int .u64 0, .int .u64 0] 29 (0, 0)) (by (with_reducible repeat (first | refine blk_drewN ?_ _ | refine blk_drew ?_ | refine blk_alloc ?_ _)); exact BK297.out) hb); have n3_ := Aside0.mk (below_step (by repeat (first | (with_reducible first | exact HB.out | apply below_alloc | apply pw_below_drewN | apply below_drew1 | refine below_set ?_ GE296.out | refine below_set ?_ GE297.out) | exact HB.out)) hb); clear BK296; clear BK297; clear HB; have HO300 := n0_; have BK296 := n1_; have BK297 := n2_; have HB := n3_; clear n0_ n1_ n2_ n3_; (try clear hb); (try clear hb2); (try clear hk); (try clear hi); (try clear ho0)))
                have n0_ := Aside0.mk (Kd.N_drew HO300.out)
                have n1_ := Aside0.mk (blk_drew BK296.out)
                have n2_ := Aside0.mk (blk_drew BK297.out)
                have n3_ := Aside0.mk (below_drew1 HB.out)
                clear HO300
                clear BK296
                clear BK297
                clear HB
                have HO300 := n0_
                have BK296 := n1_
                have BK297 := n2_
                have HB := n3_
                clear n0_ n1_ n2_ n3_
                obtain ⟨Ao16, co16, eo16⟩ := Kd.N_slice HO300.out
                (first | subst eo16 | (injection eo16 with f1_ f2_ f3_; have f4_ := f1_.symm; have f5_ := f3_.symm; clear f1_ f2_ f3_; subst f4_; subst f5_))
                have p301 : 0 ≤ (0 : Int) := (by omega)
                have q301 : 0 < (t298.length : Int) := of_decide_eq_true (by first | (with_reducible assumption) | assumption)
                obtain ⟨ad301, A301_2, c301_2, e301, hx301_0, hx301_1, hx301_2, hl301_2, hi301_2⟩ := at_T39 (Kd.N_reads' HO300.out).2.2 0 p301 q301
                cases e301
                obtain ⟨ce301, hce301, hMe301, hcc301⟩ := Kd.N_get HO300.out z39 0 p301 (by first | exact q301 | exact of_decide_eq_true (by first | (with_reducible assumption) | assumption) | (have e_ := (Kd.N_reads' HO300.out).1; omega))
                obtain ⟨ua301_2, uc301_2, rfl, ul301_2, ge301_2⟩ := k39_openF hMe301
                have hv301_2 := hcc301 2 _ rfl
                rw [add_field _ _ 2 (by omega)] at hv301_2
                replace hv301_2 := Option.some.inj (hv301_2.symm.trans hx301_2)
                injection hv301_2 with hva_ hvn_ hvc_
                rw [hva_] at ge301_2
                rw [hvc_] at ul301_2
                have HL301_2 := Aside0.mk (show Kd.V Kd.string 9 _ w.heap.size _ _ ((rd_T39 t298 0).f2) from Kd.V_mk ul301_2 ge301_2)
                clear hva_ hvn_ hvc_ ge301_2 ul301_2
                clear hcc301 hce301
                have qi301 : (0 < t298.length) = True := eq_true (by omega)
                (try rw [show ((0 : Int)).toNat = 0 from rfl] at hx301_0)
                (try rw [show 0 * 3 = 0 from rfl] at hx301_0)
                (try rw [Addr.add_zero'] at hx301_0)
                (try rw [show ((0 : Int)).toNat = 0 from rfl] at hx301_1)
                (try rw [show 0 * 3 = 0 from rfl] at hx301_1)
                (try rw [Addr.add_zero'] at hx301_1)
                (try rw [show ((0 : Int)).toNat = 0 from rfl] at hx301_2)
                (try rw [show 0 * 3 = 0 from rfl] at hx301_2)
                (try rw [Addr.add_zero'] at hx301_2)
                have HR301_2 := Aside0.mk hi301_2
                have HC301_2 := Aside0.mk hl301_2
                clear hi301_2 hl301_2
                replace p301 := eq_true p301
                replace q301 := eq_true q301
                have p302 : 0 ≤ (1 : Int) := (by omega)
                have q302 : 1 < (t298.length : Int) := of_decide_eq_true (by first | (with_reducible assumption) | assumption)
                obtain ⟨ad302, A302_2, c302_2, e302, hx302_0, hx302_1, hx302_2, hl302_2, hi302_2⟩ := at_T39 (Kd.N_reads' HO300.out).2.2 1 p302 q302
                obtain rfl : ad301 = ad302 := (by injection e302)
                obtain ⟨ce302, hce302, hMe302, hcc302⟩ := Kd.N_get HO300.out z39 1 p302 (by first | exact q302 | exact of_decide_eq_true (by first | (with_reducible assumption) | assumption) | (have e_ := (Kd.N_reads' HO300.out).1; omega))
                obtain ⟨ua302_2, uc302_2, rfl, ul302_2, ge302_2⟩ := k39_openF hMe302
                have hv302_2 := hcc302 2 _ rfl
                rw [add_field _ _ 2 (by omega)] at hv302_2
                replace hv302_2 := Option.some.inj (hv302_2.symm.trans hx302_2)
                injection hv302_2 with hva_ hvn_ hvc_
                rw [hva_] at ge302_2
                rw [hvc_] at ul302_2
                have HL302_2 := Aside0.mk (show Kd.V Kd.string 9 _ w.heap.size _ _ ((rd_T39 t298 1).f2) from Kd.V_mk ul302_2 ge302_2)
                clear hva_ hvn_ hvc_ ge302_2 ul302_2
                clear hcc302 hce302
                (try simp only [show (1 : Int).toNat = 1 from rfl, Nat.reduceMul, Nat.reduceEqDiff, Go.Addr.add, ↓reduceIte] at hx302_0)
                (try simp only [show (1 : Int).toNat = 1 from rfl, Nat.reduceMul, Nat.reduceEqDiff, Go.Addr.add, ↓reduceIte] at hx302_1)
                (try simp only [show (1 : Int).toNat = 1 from rfl, Nat.reduceMul, Nat.reduceEqDiff, Go.Addr.add, ↓reduceIte] at hx302_2)
                have qi302 : (1 < t298.length) = True := eq_true (by omega)
                (try rw [show ((1 : Int)).toNat = 1 from rfl] at hx302_0)
                (try rw [show 1 * 3 = 3 from rfl] at hx302_0)
                (try rw [show ((1 : Int)).toNat = 1 from rfl] at hx302_1)
                (try rw [show 1 * 3 = 3 from rfl] at hx302_1)
                (try rw [show ((1 : Int)).toNat = 1 from rfl] at hx302_2)
                (try rw [show 1 * 3 = 3 from rfl] at hx302_2)
                have HR302_2 := Aside0.mk hi302_2
                have HC302_2 := Aside0.mk hl302_2
                clear hi302_2 hl302_2
                replace p302 := eq_true p302
                replace q302 := eq_true q302
                have p303 : 0 ≤ (2 : Int) := (by omega)
                have q303 : 2 < (t298.length : Int) := of_decide_eq_true (by first | (with_reducible assumption) | assumption)
                obtain ⟨ad303, A303_2, c303_2, e303, hx303_0, hx303_1, hx303_2, hl303_2, hi303_2⟩ := at_T39 (Kd.N_reads' HO300.out).2.2 2 p303 q303
                obtain rfl : ad301 = ad303 := (by injection e303)
                obtain ⟨ce303, hce303, hMe303, hcc303⟩ := Kd.N_get HO300.out z39 2 p303 (by first | exact q303 | exact of_decide_eq_true (by first | (with_reducible assumption) | assumption) | (have e_ := (Kd.N_reads' HO300.out).1; omega))
                obtain ⟨ua303_2, uc303_2, rfl, ul303_2, ge303_2⟩ := k39_openF hMe303
                have hv303_2 := hcc303 2 _ rfl
                rw [add_field _ _ 2 (by omega)] at hv303_2
                replace hv303_2 := Option.some.inj (hv303_2.symm.trans hx303_2)
                injection hv303_2 with hva_ hvn_ hvc_
                rw [hva_] at ge303_2
                rw [hvc_] at ul303_2
                have HL303_2 := Aside0.mk (show Kd.V Kd.string 9 _ w.heap.size _ _ ((rd_T39 t298 2).f2) from Kd.V_mk ul303_2 ge303_2)
                clear hva_ hvn_ hvc_ ge303_2 ul303_2
                clear hcc303 hce303
                (try simp only [show (2 : Int).toNat = 2 from rfl, Nat.reduceMul, Nat.reduceEqDiff, Go.Addr.add, ↓reduceIte] at hx303_0)
                (try simp only [show (2 : Int).toNat = 2 from rfl, Nat.reduceMul, Nat.reduceEqDiff, Go.Addr.add, ↓reduceIte] at hx303_1)
                (try simp only [show (2 : Int).toNat = 2 from rfl, Nat.reduceMul, Nat.reduceEqDiff, Go.Addr.add, ↓reduceIte] at hx303_2)
                have qi303 : (2 < t298.length) = True := eq_true (by omega)
                (try rw [show ((2 : Int)).toNat = 2 from rfl] at hx303_0)
                (try rw [show 2 * 3 = 6 from rfl] at hx303_0)
                (try rw [show ((2 : Int)).toNat = 2 from rfl] at hx303_1)
                (try rw [show 2 * 3 = 6 from rfl] at hx303_1)
                (try rw [show ((2 : Int)).toNat = 2 from rfl] at hx303_2)
                (try rw [show 2 * 3 = 6 from rfl] at hx303_2)
                have HR303_2 := Aside0.mk hi303_2
                have HC303_2 := Aside0.mk hl303_2
                clear hi303_2 hl303_2
                replace p303 := eq_true p303
                replace q303 := eq_true q303
                have p304 : 0 ≤ (3 : Int) := (by omega)
                have q304 : 3 < (t298.length : Int) := of_decide_eq_true (by first | (with_reducible assumption) | assumption)
                obtain ⟨ad304, A304_2, c304_2, e304, hx304_0, hx304_1, hx304_2, hl304_2, hi304_2⟩ := at_T39 (Kd.N_reads' HO300.out).2.2 3 p304 q304
                obtain rfl : ad301 = ad304 := (by injection e304)
                obtain ⟨ce304, hce304, hMe304, hcc304⟩ := Kd.N_get HO300.out z39 3 p304 (by first | exact q304 | exact of_decide_eq_true (by first | (with_reducible assumption) | assumption) | (have e_ := (Kd.N_reads' HO300.out).1; omega))
                obtain ⟨ua304_2, uc304_2, rfl, ul304_2, ge304_2⟩ := k39_openF hMe304
                have hv304_2 := hcc304 2 _ rfl
                rw [add_field _ _ 2 (by omega)] at hv304_2
                replace hv304_2 := Option.some.inj (hv304_2.symm.trans hx304_2)
                injection hv304_2 with hva_ hvn_ hvc_
                rw [hva_] at ge304_2
                rw [hvc_] at ul304_2
                have HL304_2 := Aside0.mk (show Kd.V Kd.string 9 _ w.heap.size _ _ ((rd_T39 t298 3).f2) from Kd.V_mk ul304_2 ge304_2)
                clear hva_ hvn_ hvc_ ge304_2 ul304_2
                clear hcc304 hce304
                (try simp only [show (3 : Int).toNat = 3 from rfl, Nat.reduceMul, Nat.reduceEqDiff, Go.Addr.add, ↓reduceIte] at hx304_0)
                (try simp only [show (3 : Int).toNat = 3 from rfl, Nat.reduceMul, Nat.reduceEqDiff, Go.Addr.add, ↓reduceIte] at hx304_1)
                (try simp only [show (3 : Int).toNat = 3 from rfl, Nat.reduceMul, Nat.reduceEqDiff, Go.Addr.add, ↓reduceIte] at hx304_2)
                have qi304 : (3 < t298.length) = True := eq_true (by omega)
                (try rw [show ((3 : Int)).toNat = 3 from rfl] at hx304_0)
                (try rw [show 3 * 3 = 9 from rfl] at hx304_0)
                (try rw [show ((3 : Int)).toNat = 3 from rfl] at hx304_1)
                (try rw [show 3 * 3 = 9 from rfl] at hx304_1)
                (try rw [show ((3 : Int)).toNat = 3 from rfl] at hx304_2)
                (try rw [show 3 * 3 = 9 from rfl] at hx304_2)
                have HR304_2 := Aside0.mk hi304_2
                have HC304_2 := Aside0.mk hl304_2
                clear hi304_2 hl304_2
                replace p304 := eq_true p304
                replace q304 := eq_true q304
                have p305 : 0 ≤ (4 : Int) := (by omega)
                have q305 : 4 < (t298.length : Int) := of_decide_eq_true (by first | (with_reducible assumption) | assumption)
                obtain ⟨ad305, A305_2, c305_2, e305, hx305_0, hx305_1, hx305_2, hl305_2, hi305_2⟩ := at_T39 (Kd.N_reads' HO300.out).2.2 4 p305 q305
                obtain rfl : ad301 = ad305 := (by injection e305)
                obtain ⟨ce305, hce305, hMe305, hcc305⟩ := Kd.N_get HO300.out z39 4 p305 (by first | exact q305 | exact of_decide_eq_true (by first | (with_reducible assumption) | assumption) | (have e_ := (Kd.N_reads' HO300.out).1; omega))
                obtain ⟨ua305_2, uc305_2, rfl, ul305_2, ge305_2⟩ := k39_openF hMe305
                have hv305_2 := hcc305 2 _ rfl
                rw [add_field _ _ 2 (by omega)] at hv305_2
                replace hv305_2 := Option.some.inj (hv305_2.symm.trans hx305_2)
                injection hv305_2 with hva_ hvn_ hvc_
                rw [hva_] at ge305_2
                rw [hvc_] at ul305_2
                have HL305_2 := Aside0.mk (show Kd.V Kd.string 9 _ w.heap.size _ _ ((rd_T39 t298 4).f2) from Kd.V_mk ul305_2 ge305_2)
                clear hva_ hvn_ hvc_ ge305_2 ul305_2
                clear hcc305 hce305
                (try simp only [show (4 : Int).toNat = 4 from rfl, Nat.reduceMul, Nat.reduceEqDiff, Go.Addr.add, ↓reduceIte] at hx305_0)
                (try simp only [show (4 : Int).toNat = 4 from rfl, Nat.reduceMul, Nat.reduceEqDiff, Go.Addr.add, ↓reduceIte] at hx305_1)
                (try simp only [show (4 : Int).toNat = 4 from rfl, Nat.reduceMul, Nat.reduceEqDiff, Go.Addr.add, ↓reduceIte] at hx305_2)
                have qi305 : (4 < t298.length) = True := eq_true (by omega)
                (try rw [show ((4 : Int)).toNat = 4 from rfl] at hx305_0)
                (try rw [show 4 * 3 = 12 from rfl] at hx305_0)
                (try rw [show ((4 : Int)).toNat = 4 from rfl] at hx305_1)
                (try rw [show 4 * 3 = 12 from rfl] at hx305_1)
                (try rw [show ((4 : Int)).toNat = 4 from rfl] at hx305_2)
                (try rw [show 4 * 3 = 12 from rfl] at hx305_2)
                have HR305_2 := Aside0.mk hi305_2
                have HC305_2 := Aside0.mk hl305_2
                clear hi305_2 hl305_2
                replace p305 := eq_true p305
                replace q305 := eq_true q305
                have p306 : 0 ≤ (5 : Int) := (by omega)
                have q306 : 5 < (t298.length : Int) := of_decide_eq_true (by first | (with_reducible assumption) | assumption)
                obtain ⟨ad306, A306_2, c306_2, e306, hx306_0, hx306_1, hx306_2, hl306_2, hi306_2⟩ := at_T39 (Kd.N_reads' HO300.out).2.2 5 p306 q306
                obtain rfl : ad301 = ad306 := (by injection e306)
                obtain ⟨ce306, hce306, hMe306, hcc306⟩ := Kd.N_get HO300.out z39 5 p306 (by first | exact q306 | exact of_decide_eq_true (by first | (with_reducible assumption) | assumption) | (have e_ := (Kd.N_reads' HO300.out).1; omega))
                obtain ⟨ua306_2, uc306_2, rfl, ul306_2, ge306_2⟩ := k39_openF hMe306
                have hv306_2 := hcc306 2 _ rfl
                rw [add_field _ _ 2 (by omega)] at hv306_2
                replace hv306_2 := Option.some.inj (hv306_2.symm.trans hx306_2)
                injection hv306_2 with hva_ hvn_ hvc_
                rw [hva_] at ge306_2
                rw [hvc_] at ul306_2
                have HL306_2 := Aside0.mk (show Kd.V Kd.string 9 _ w.heap.size _ _ ((rd_T39 t298 5).f2) from Kd.V_mk ul306_2 ge306_2)
                clear hva_ hvn_ hvc_ ge306_2 ul306_2
                clear hcc306 hce306
                (try simp only [show (5 : Int).toNat = 5 from rfl, Nat.reduceMul, Nat.reduceEqDiff, Go.Addr.add, ↓reduceIte] at hx306_0)
                (try simp only [show (5 : Int).toNat = 5 from rfl, Nat.reduceMul, Nat.reduceEqDiff, Go.Addr.add, ↓reduceIte] at hx306_1)
                (try simp only [show (5 : Int).toNat = 5 from rfl, Nat.reduceMul, Nat.reduceEqDiff, Go.Addr.add, ↓reduceIte] at hx306_2)
                have qi306 : (5 < t298.length) = True := eq_true (by omega)
                (try rw [show ((5 : Int)).toNat = 5 from rfl] at hx306_0)
                (try rw [show 5 * 3 = 15 from rfl] at hx306_0)
                (try rw [show ((5 : Int)).toNat = 5 from rfl] at hx306_1)
                (try rw [show 5 * 3 = 15 from rfl] at hx306_1)
                (try rw [show ((5 : Int)).toNat = 5 from rfl] at hx306_2)
                (try rw [show 5 * 3 = 15 from rfl] at hx306_2)
                have HR306_2 := Aside0.mk hi306_2
                have HC306_2 := Aside0.mk hl306_2
                clear hi306_2 hl306_2
                replace p306 := eq_true p306
                replace q306 := eq_true q306
                have p307 : 0 ≤ (6 : Int) := (by omega)
                have q307 : 6 < (t298.length : Int) := of_decide_eq_true (by first | (with_reducible assumption) | assumption)
                obtain ⟨ad307, A307_2, c307_2, e307, hx307_0, hx307_1, hx307_2, hl307_2, hi307_2⟩ := at_T39 (Kd.N_reads' HO300.out).2.2 6 p307 q307
                obtain rfl : ad301 = ad307 := (by injection e307)
                obtain ⟨ce307, hce307, hMe307, hcc307⟩ := Kd.N_get HO300.out z39 6 p307 (by first | exact q307 | exact of_decide_eq_true (by first | (with_reducible assumption) | assumption) | (have e_ := (Kd.N_reads' HO300.out).1; omega))
                obtain ⟨ua307_2, uc307_2, rfl, ul307_2, ge307_2⟩ := k39_openF hMe307
                have hv307_2 := hcc307 2 _ rfl
                rw [add_field _ _ 2 (by omega)] at hv307_2
                replace hv307_2 := Option.some.inj (hv307_2.symm.trans hx307_2)
                injection hv307_2 with hva_ hvn_ hvc_
                rw [hva_] at ge307_2
                rw [hvc_] at ul307_2
                have HL307_2 := Aside0.mk (show Kd.V Kd.string 9 _ w.heap.size _ _ ((rd_T39 t298 6).f2) from Kd.V_mk ul307_2 ge307_2)
                clear hva_ hvn_ hvc_ ge307_2 ul307_2
                clear hcc307 hce307
                (try simp only [show (6 : Int).toNat = 6 from rfl, Nat.reduceMul, Nat.reduceEqDiff, Go.Addr.add, ↓reduceIte] at hx307_0)
                (try simp only [show (6 : Int).toNat = 6 from rfl, Nat.reduceMul, Nat.reduceEqDiff, Go.Addr.add, ↓reduceIte] at hx307_1)
                (try simp only [show (6 : Int).toNat = 6 from rfl, Nat.reduceMul, Nat.reduceEqDiff, Go.Addr.add, ↓reduceIte] at hx307_2)
                have qi307 : (6 < t298.length) = True := eq_true (by omega)
                (try rw [show ((6 : Int)).toNat = 6 from rfl] at hx307_0)
                (try rw [show 6 * 3 = 18 from rfl] at hx307_0)
                (try rw [show ((6 : Int)).toNat = 6 from rfl] at hx307_1)
                (try rw [show 6 * 3 = 18 from rfl] at hx307_1)
                (try rw [show ((6 : Int)).toNat = 6 from rfl] at hx307_2)
                (try rw [show 6 * 3 = 18 from rfl] at hx307_2)
                have HR307_2 := Aside0.mk hi307_2
                have HC307_2 := Aside0.mk hl307_2
                clear hi307_2 hl307_2
                replace p307 := eq_true p307
                replace q307 := eq_true q307
                refine start_ (n := 31) (S := fun w' => w'.cell? ad301 = some (.string ((rd_T39 t298 0).f0)) ∧ w'.cell? ⟨ad301.block, ad301.off + 1, none⟩ = some (.int .u64 ((rd_T39 t298 0).f1)) ∧ w'.cell? ⟨ad301.block, ad301.off + 2, none⟩ = some (.slice A301_2 ((rd_T39 t298 0).f2).length c301_2) ∧ w'.cell? ⟨ad301.block, ad301.off + 3, none⟩ = some (.string ((rd_T39 t298 1).f0)) ∧ w'.cell? ⟨ad301.block, ad301.off + 3 + 1, none⟩ = some (.int .u64 ((rd_T39 t298 1).f1)) ∧ w'.cell? ⟨ad301.block, ad301.off + 3 + 2, none⟩ = some (.slice A302_2 ((rd_T39 t298 1).f2).length c302_2) ∧ w'.cell? ⟨ad301.block, ad301.off + 6, none⟩ = some (.string ((rd_T39 t298 2).f0)) ∧ w'.cell? ⟨ad301.block, ad301.off + 6 + 1, none⟩ = some (.int .u64 ((rd_T39 t298 2).f1)) ∧ w'.cell? ⟨ad301.block, ad301.off + 6 + 2, none⟩ = some (.slice A303_2 ((rd_T39 t298 2).f2).length c303_2) ∧ w'.cell? ⟨ad301.block, ad301.off + 9, none⟩ = some (.string ((rd_T39 t298 3).f0)) ∧ w'.cell? ⟨ad301.block, ad301.off + 9 + 1, none⟩ = some (.int .u64 ((rd_T39 t298 3).f1)) ∧ w'.cell? ⟨ad301.block, ad301.off + 9 + 2, none⟩ = some (.slice A304_2 ((rd_T39 t298 3).f2).length c304_2) ∧ w'.cell? ⟨ad301.block, ad301.off + 12, none⟩ = some (.string ((rd_T39 t298 4).f0)) ∧ w'.cell? ⟨ad301.block, ad301.off + 12 + 1, none⟩ = some (.int .u64 ((rd_T39 t298 4).f1)) ∧ w'.cell? ⟨ad301.block, ad301.off + 12 + 2, none⟩ = some (.slice A305_2 ((rd_T39 t298 4).f2).length c305_2) ∧ w'.cell? ⟨ad301.block, ad301.off + 15, none⟩ = some (.string ((rd_T39 t298 5).f0)) ∧ w'.cell? ⟨ad301.block, ad301.off + 15 + 1, none⟩ = some (.int .u64 ((rd_T39 t298 5).f1)) ∧ w'.cell? ⟨ad301.block, ad301.off + 15 + 2, none⟩ = some (.slice A306_2 ((rd_T39 t298 5).f2).length c306_2) ∧ w'.cell? ⟨ad301.block, ad301.off + 18, none⟩ = some (.string ((rd_T39 t298 6).f0)) ∧ w'.cell? ⟨ad301.block, ad301.off + 18 + 1, none⟩ = some (.int .u64 ((rd_T39 t298 6).f1)) ∧ w'.cell? ⟨ad301.block, ad301.off + 18 + 2, none⟩ = some (.slice A307_2 ((rd_T39 t298 6).f2).length c307_2)) (ds := []) #[false, false, false, false, false, false, false, false, false, false, false, false, false, false, false, false, false, false, false, false, false, false, false, false, false, false, false, false, false, false, false] (by kernel_rfl) rfl rfl ⟨hx301_0, hx301_1, hx301_2, hx302_0, hx302_1, hx302_2, hx303_0, hx303_1, hx303_2, hx304_0, hx304_1, hx304_2, hx305_0, hx305_1, hx305_2, hx306_0, hx306_1, hx306_2, hx307_0, hx307_1, hx307_2⟩ (fun hHeld => ?_); refine with_tabW records_RowCheck.tab2 records_RowCheck.bits2 (fun HT_ HW_ => ?_)
                generalize w14.drew = w15 at HO300 BK296 BK297 HB HL301_2 HL302_2 HL303_2 HL304_2 HL305_2 HL306_2 HL307_2 HR301_2 HR302_2 HR303_2 HR304_2 HR305_2 HR306_2 HR307_2 hx301_0 hx301_1 hx301_2 hx302_0 hx302_1 hx302_2 hx303_0 hx303_1 hx303_2 hx304_0 hx304_1 hx304_2 hx305_0 hx305_1 hx305_2 hx306_0 hx306_1 hx306_2 hx307_0 hx307_1 hx307_2 hHeld ⊢
                refine pure_ (i := 0) (N := some 6) (v := ?_) (a' := ?_) #[true, false, false, false, false, false, false, false, false, false, false, false, false, false, false, false, false, false, false, false, false, false, false, false, false, false, false, false, false, false, false] rfl rfl (any_of HT_.out (by kernel_rfl)) (fun _ _ _ h => h) (Or.inl ⟨by rfl, ?_⟩) ?_ ?_
                rotate_left
                · intro w'
                  go_simp
                  with_reducible rfl
                rotate_left
                · simp only [Act.put, List.setIfInBounds_toArray, List.set_cons_zero, List.set_cons_succ, i64_w, i32_w]
                  rfl
                refine pure_ (i := 1) (N := some 7) (v := ?_) (a' := ?_) #[true, true, false, false, false, false, false, false, false, false, false, false, false, false, false, false, false, false, false, false, false, false, false, false, false, false, false, false, false, false, false] rfl rfl (any_of HT_.out (by kernel_rfl)) (fun _ _ _ h => h) (Or.inl ⟨by rfl, ?_⟩) ?_ ?_
                rotate_left
                · intro w'
                  go_simp
                  with_reducible rfl
                rotate_left
                · simp only [Act.put, List.setIfInBounds_toArray, List.set_cons_zero, List.set_cons_succ, i64_w, i32_w]
                  rfl
                refine pure_ (i := 2) (N := some 8) (v := ?_) (a' := ?_) #[true, true, true, false, false, false, false, false, false, false, false, false, false, false, false, false, false, false, false, false, false, false, false, false, false, false, false, false, false, false, false] rfl rfl (any_of HT_.out (by kernel_rfl)) (fun _ _ _ h => h) (Or.inl ⟨by rfl, ?_⟩) ?_ ?_
                rotate_left
                · intro w'
                  go_simp
                  with_reducible rfl
                rotate_left
                · simp only [Act.put, List.setIfInBounds_toArray, List.set_cons_zero, List.set_cons_succ, i64_w, i32_w]
                  rfl
                refine pure_ (i := 4) (N := some 10) (v := ?_) (a' := ?_) #[true, true, true, false, true, false, false, false, false, false, false, false, false, false, false, false, false, false, false, false, false, false, false, false, false, false, false, false, false, false, false] rfl rfl (any_of HT_.out (by kernel_rfl)) (fun _ _ _ h => h) (Or.inl ⟨by rfl, ?_⟩) ?_ ?_
                rotate_left
                · intro w'
                  go_simp
                  with_reducible rfl
                rotate_left
                · simp only [Act.put, List.setIfInBounds_toArray, List.set_cons_zero, List.set_cons_succ, i64_w, i32_w]
                  rfl
                refine pure_ (i := 5) (N := some 11) (v := ?_) (a' := ?_) #[true, true, true, false, true, true, false, false, false, false, false, false, false, false, false, false, false, false, false, false, false, false, false, false, false, false, false, false, false, false, false] rfl rfl (any_of HT_.out (by kernel_rfl)) (fun _ _ _ h => h) (Or.inl ⟨by rfl, ?_⟩) ?_ ?_
                rotate_left
                · intro w'
                  go_simp
                  with_reducible rfl
                rotate_left
                · simp only [Act.put, List.setIfInBounds_toArray, List.set_cons_zero, List.set_cons_succ, i64_w, i32_w]
                  rfl
                refine pure_ (i := 6) (N := some 12) (v := ?_) (a' := ?_) #[true, true, true, false, true, true, true, false, false, false, false, false, false, false, false, false, false, false, false, false, false, false, false, false, false, false, false, false, false, false, false] rfl rfl (any_of HT_.out (by kernel_rfl)) (fun _ _ _ h => h) (Or.inl ⟨by rfl, ?_⟩) ?_ ?_
                rotate_left
                · intro w'
                  go_simp
                  with_reducible rfl
                rotate_left
                · simp only [Act.put, List.setIfInBounds_toArray, List.set_cons_zero, List.set_cons_succ, i64_w, i32_w]
                  rfl
                refine pure_ (i := 8) (N := some 14) (v := ?_) (a' := ?_) #[true, true, true, false, true, true, true, false, true, false, false, false, false, false, false, false, false, false, false, false, false, false, false, false, false, false, false, false, false, false, false] rfl rfl (any_of HT_.out (by kernel_rfl)) (fun _ _ _ h => h) (Or.inl ⟨by rfl, ?_⟩) ?_ ?_
                rotate_left
                · intro w'
                  go_simp
                  with_reducible rfl
                rotate_left
                · simp only [Act.put, List.setIfInBounds_toArray, List.set_cons_zero, List.set_cons_succ, i64_w, i32_w]
                  rfl
                refine pure_ (i := 9) (N := some 15) (v := ?_) (a' := ?_) #[true, true, true, false, true, true, true, false, true, true, false, false, false, false, false, false, false, false, false, false, false, false, false, false, false, false, false, false, false, false, false] rfl rfl (any_of HT_.out (by kernel_rfl)) (fun _ _ _ h => h) (Or.inl ⟨by rfl, ?_⟩) ?_ ?_
                rotate_left
                · intro w'
                  go_simp
                  with_reducible rfl
                rotate_left
                · simp only [Act.put, List.setIfInBounds_toArray, List.set_cons_zero, List.set_cons_succ, i64_w, i32_w]
                  rfl
                refine pure_ (i := 10) (N := some 16) (v := ?_) (a' := ?_) #[true, true, true, false, true, true, true, false, true, true, true, false, false, false, false, false, false, false, false, false, false, false, false, false, false, false, false, false, false, false, false] rfl rfl (any_of HT_.out (by kernel_rfl)) (fun _ _ _ h => h) (Or.inl ⟨by rfl, ?_⟩) ?_ ?_
                rotate_left
                · intro w'
                  go_simp
                  with_reducible rfl
                rotate_left
                · simp only [Act.put, List.setIfInBounds_toArray, List.set_cons_zero, List.set_cons_succ, i64_w, i32_w]
                  rfl
                refine pure_ (i := 12) (N := some 18) (v := ?_) (a' := ?_) #[true, true, true, false, true, true, true, false, true, true, true, false, true, false, false, false, false, false, false, false, false, false, false, false, false, false, false, false, false, false, false] rfl rfl (any_of HT_.out (by kernel_rfl)) (fun _ _ _ h => h) (Or.inl ⟨by rfl, ?_⟩) ?_ ?_
                rotate_left
                · intro w'
                  go_simp
                  with_reducible rfl
                rotate_left
                · simp only [Act.put, List.setIfInBounds_toArray, List.set_cons_zero, List.set_cons_succ, i64_w, i32_w]
                  rfl
                refine pure_ (i := 13) (N := some 19) (v := ?_) (a' := ?_) #[true, true, true, false, true, true, true, false, true, true, true, false, true, true, false, false, false, false, false, false, false, false, false, false, false, false, false, false, false, false, false] rfl rfl (any_of HT_.out (by kernel_rfl)) (fun _ _ _ h => h) (Or.inl ⟨by rfl, ?_⟩) ?_ ?_
                rotate_left
                · intro w'
                  go_simp
                  with_reducible rfl
                rotate_left
                · simp only [Act.put, List.setIfInBounds_toArray, List.set_cons_zero, List.set_cons_succ, i64_w, i32_w]
                  rfl
                refine pure_ (i := 14) (N := some 20) (v := ?_) (a' := ?_) #[true, true, true, false, true, true, true, false, true, true, true, false, true, true, true, false, false, false, false, false, false, false, false, false, false, false, false, false, false, false, false] rfl rfl (any_of HT_.out (by kernel_rfl)) (fun _ _ _ h => h) (Or.inl ⟨by rfl, ?_⟩) ?_ ?_
                rotate_left
                · intro w'
                  go_simp
                  with_reducible rfl
                rotate_left
                · simp only [Act.put, List.setIfInBounds_toArray, List.set_cons_zero, List.set_cons_succ, i64_w, i32_w]
                  rfl
                refine pure_ (i := 17) (N := some 23) (v := ?_) (a' := ?_) #[true, true, true, false, true, true, true, false, true, true, true, false, true, true, true, false, false, true, false, false, false, false, false, false, false, false, false, false, false, false, false] rfl rfl (any_of HT_.out (by kernel_rfl)) (fun _ _ _ h => h) (Or.inl ⟨by rfl, ?_⟩) ?_ ?_
                rotate_left
                · intro w'
                  go_simp
                  with_reducible rfl
                rotate_left
                · simp only [Act.put, List.setIfInBounds_toArray, List.set_cons_zero, List.set_cons_succ, i64_w, i32_w]
                  rfl
                refine pure_ (i := 18) (N := some 24) (v := ?_) (a' := ?_) #[true, true, true, false, true, true, true, false, true, true, true, false, true, true, true, false, false, true, true, false, false, false, false, false, false, false, false, false, false, false, false] rfl rfl (any_of HT_.out (by kernel_rfl)) (fun _ _ _ h => h) (Or.inl ⟨by rfl, ?_⟩) ?_ ?_
                rotate_left
                · intro w'
                  go_simp
                  with_reducible rfl
                rotate_left
                · simp only [Act.put, List.setIfInBounds_toArray, List.set_cons_zero, List.set_cons_succ, i64_w, i32_w]
                  rfl
                refine pure_ (i := 19) (N := some 25) (v := ?_) (a' := ?_) #[true, true, true, false, true, true, true, false, true, true, true, false, true, true, true, false, false, true, true, true, false, false, false, false, false, false, false, false, false, false, false] rfl rfl (any_of HT_.out (by kernel_rfl)) (fun _ _ _ h => h) (Or.inl ⟨by rfl, ?_⟩) ?_ ?_
                rotate_left
                · intro w'
                  go_simp
                  with_reducible rfl
                rotate_left
                · simp only [Act.put, List.setIfInBounds_toArray, List.set_cons_zero, List.set_cons_succ, i64_w, i32_w]
                  rfl
                refine pure_ (i := 21) (N := some 27) (v := ?_) (a' := ?_) #[true, true, true, false, true, true, true, false, true, true, true, false, true, true, true, false, false, true, true, true, false, true, false, false, false, false, false, false, false, false, false] rfl rfl (any_of HT_.out (by kernel_rfl)) (fun _ _ _ h => h) (Or.inl ⟨by rfl, ?_⟩) ?_ ?_
                rotate_left
                · intro w'
                  go_simp
                  with_reducible rfl
                rotate_left
                · simp only [Act.put, List.setIfInBounds_toArray, List.set_cons_zero, List.set_cons_succ, i64_w, i32_w]
                  rfl
                refine pure_ (i := 22) (N := some 28) (v := ?_) (a' := ?_) #[true, true, true, false, true, true, true, false, true, true, true, false, true, true, true, false, false, true, true, true, false, true, true, false, false, false, false, false, false, false, false] rfl rfl (any_of HT_.out (by kernel_rfl)) (fun _ _ _ h => h) (Or.inl ⟨by rfl, ?_⟩) ?_ ?_
                rotate_left
                · intro w'
                  go_simp
                  with_reducible rfl
                rotate_left
                · simp only [Act.put, List.setIfInBounds_toArray, List.set_cons_zero, List.set_cons_succ, i64_w, i32_w]
                  rfl
                refine pure_ (i := 23) (N := some 29) (v := ?_) (a' := ?_) #[true, true, true, false, true, true, true, false, true, true, true, false, true, true, true, false, false, true, true, true, false, true, true, true, false, false, false, false, false, false, false] rfl rfl (any_of HT_.out (by kernel_rfl)) (fun _ _ _ h => h) (Or.inl ⟨by rfl, ?_⟩) ?_ ?_
                rotate_left
                · intro w'
                  go_simp
                  with_reducible rfl
                rotate_left
                · simp only [Act.put, List.setIfInBounds_toArray, List.set_cons_zero, List.set_cons_succ, i64_w, i32_w]
                  rfl
                refine pure_ (i := 25) (N := some 31) (v := ?_) (a' := ?_) #[true, true, true, false, true, true, true, false, true, true, true, false, true, true, true, false, false, true, true, true, false, true, true, true, false, true, false, false, false, false, false] rfl rfl (any_of HT_.out (by kernel_rfl)) (fun _ _ _ h => h) (Or.inl ⟨by rfl, ?_⟩) ?_ ?_
                rotate_left
                · intro w'
                  go_simp
                  with_reducible rfl
                rotate_left
                · simp only [Act.put, List.setIfInBounds_toArray, List.set_cons_zero, List.set_cons_succ, i64_w, i32_w]
                  rfl
                refine pure_ (i := 26) (N := some 32) (v := ?_) (a' := ?_) #[true, true, true, false, true, true, true, false, true, true, true, false, true, true, true, false, false, true, true, true, false, true, true, true, false, true, true, false, false, false, false] rfl rfl (any_of HT_.out (by kernel_rfl)) (fun _ _ _ h => h) (Or.inl ⟨by rfl, ?_⟩) ?_ ?_
                rotate_left
                · intro w'
                  go_simp
                  with_reducible rfl
                rotate_left
                · simp only [Act.put, List.setIfInBounds_toArray, List.set_cons_zero, List.set_cons_succ, i64_w, i32_w]
                  rfl
                refine pure_ (i := 27) (N := some 33) (v := ?_) (a' := ?_) #[true, true, true, false, true, true, true, false, true, true, true, false, true, true, true, false, false, true, true, true, false, true, true, true, false, true, true, true, false, false, false] rfl rfl (any_of HT_.out (by kernel_rfl)) (fun _ _ _ h => h) (Or.inl ⟨by rfl, ?_⟩) ?_ ?_
                rotate_left
                · intro w'
                  go_simp
                  with_reducible rfl
                rotate_left
                · simp only [Act.put, List.setIfInBounds_toArray, List.set_cons_zero, List.set_cons_succ, i64_w, i32_w]
                  rfl
                refine take_ (i := 3) (N := some 9) (v := ?_) (a' := ?_) #[true, true, true, true, true, true, true, false, true, true, true, false, true, true, true, false, false, true, true, true, false, true, true, true, false, true, true, true, false, false, false] rfl rfl (take_ofW HT_.out HW_.out (by kernel_rfl)) (fun _ _ _ h => h) (Or.inl ⟨by rfl, ?_⟩) hHeld ?_ ?_
                rotate_left
                · rintro w' ⟨s0, s1, s2, s3, s4, s5, s6, s7, s8, s9, s10, s11, s12, s13, s14, s15, s16, s17, s18, s19, s20⟩
                  go_simp
                  with_reducible rfl
                rotate_left
                · simp only [Act.put, List.setIfInBounds_toArray, List.set_cons_zero, List.set_cons_succ, i64_w, i32_w]
                  rfl
                refine take_ (i := 7) (N := some 13) (v := ?_) (a' := ?_) #[true, true, true, true, true, true, true, true, true, true, true, false, true, true, true, false, false, true, true, true, false, true, true, true, false, true, true, true, false, false, false] rfl rfl (take_ofW HT_.out HW_.out (by kernel_rfl)) (fun _ _ _ h => h) (Or.inl ⟨by rfl, ?_⟩) hHeld ?_ ?_
                rotate_left
                · rintro w' ⟨s0, s1, s2, s3, s4, s5, s6, s7, s8, s9, s10, s11, s12, s13, s14, s15, s16, s17, s18, s19, s20⟩
                  go_simp
                  with_reducible rfl
                rotate_left
                · simp only [Act.put, List.setIfInBounds_toArray, List.set_cons_zero, List.set_cons_succ, i64_w, i32_w]
                  rfl
                refine take_ (i := 11) (N := some 17) (v := ?_) (a' := ?_) #[true, true, true, true, true, true, true, true, true, true, true, true, true, true, true, false, false, true, true, true, false, true, true, true, false, true, true, true, false, false, false] rfl rfl (take_ofW HT_.out HW_.out (by kernel_rfl)) (fun _ _ _ h => h) (Or.inl ⟨by rfl, ?_⟩) hHeld ?_ ?_
                rotate_left
                · rintro w' ⟨s0, s1, s2, s3, s4, s5, s6, s7, s8, s9, s10, s11, s12, s13, s14, s15, s16, s17, s18, s19, s20⟩
                  go_simp
                  with_reducible rfl
                rotate_left
                · simp only [Act.put, List.setIfInBounds_toArray, List.set_cons_zero, List.set_cons_succ, i64_w, i32_w]
                  rfl
                refine take_ (i := 15) (N := some 21) (v := ?_) (a' := ?_) #[true, true, true, true, true, true, true, true, true, true, true, true, true, true, true, true, false, true, true, true, false, true, true, true, false, true, true, true, false, false, false] rfl rfl (take_ofW HT_.out HW_.out (by kernel_rfl)) (fun _ _ _ h => h) (Or.inl ⟨by rfl, ?_⟩) hHeld ?_ ?_
                rotate_left
                · rintro w' ⟨s0, s1, s2, s3, s4, s5, s6, s7, s8, s9, s10, s11, s12, s13, s14, s15, s16, s17, s18, s19, s20⟩
                  go_simp
                  with_reducible rfl
                rotate_left
                · simp only [Act.put, List.setIfInBounds_toArray, List.set_cons_zero, List.set_cons_succ, i64_w, i32_w]
                  rfl
                refine pure_ (i := 16) (N := some 22) (v := ?_) (a' := ?_) #[true, true, true, true, true, true, true, true, true, true, true, true, true, true, true, true, true, true, true, true, false, true, true, true, false, true, true, true, false, false, false] rfl rfl (any_of HT_.out (by kernel_rfl)) (fun _ _ _ h => h) (Or.inl ⟨by rfl, ?_⟩) ?_ ?_
                rotate_left
                · intro w'
                  go_simp
                  with_reducible rfl
                rotate_left
                · simp only [Act.put, List.setIfInBounds_toArray, List.set_cons_zero, List.set_cons_succ, i64_w, i32_w]
                  rfl
                refine take_ (i := 20) (N := some 26) (v := ?_) (a' := ?_) #[true, true, true, true, true, true, true, true, true, true, true, true, true, true, true, true, true, true, true, true, true, true, true, true, false, true, true, true, false, false, false] rfl rfl (take_ofW HT_.out HW_.out (by kernel_rfl)) (fun _ _ _ h => h) (Or.inl ⟨by rfl, ?_⟩) hHeld ?_ ?_
                rotate_left
                · rintro w' ⟨s0, s1, s2, s3, s4, s5, s6, s7, s8, s9, s10, s11, s12, s13, s14, s15, s16, s17, s18, s19, s20⟩
                  go_simp
                  with_reducible rfl
                rotate_left
                · simp only [Act.put, List.setIfInBounds_toArray, List.set_cons_zero, List.set_cons_succ, i64_w, i32_w]
                  rfl
                refine take_ (i := 24) (N := some 30) (v := ?_) (a' := ?_) #[true, true, true, true, true, true, true, true, true, true, true, true, true, true, true, true, true, true, true, true, true, true, true, true, true, true, true, true, false, false, false] rfl rfl (take_ofW HT_.out HW_.out (by kernel_rfl)) (fun _ _ _ h => h) (Or.inl ⟨by rfl, ?_⟩) hHeld ?_ ?_
                rotate_left
                · rintro w' ⟨s0, s1, s2, s3, s4, s5, s6, s7, s8, s9, s10, s11, s12, s13, s14, s15, s16, s17, s18, s19, s20⟩
                  go_simp
                  with_reducible rfl
                rotate_left
                · simp only [Act.put, List.setIfInBounds_toArray, List.set_cons_zero, List.set_cons_succ, i64_w, i32_w]
                  rfl
                refine take_ (i := 28) (N := some 34) (v := ?_) (a' := ?_) #[true, true, true, true, true, true, true, true, true, true, true, true, true, true, true, true, true, true, true, true, true, true, true, true, true, true, true, true, true, false, false] rfl rfl (take_ofW HT_.out HW_.out (by kernel_rfl)) (fun _ _ _ h => h) (Or.inl ⟨by rfl, ?_⟩) hHeld ?_ ?_
                rotate_left
                · rintro w' ⟨s0, s1, s2, s3, s4, s5, s6, s7, s8, s9, s10, s11, s12, s13, s14, s15, s16, s17, s18, s19, s20⟩
                  go_simp
                  with_reducible rfl
                rotate_left
                · simp only [Act.put, List.setIfInBounds_toArray, List.set_cons_zero, List.set_cons_succ, i64_w, i32_w]
                  rfl
                refine pure_ (i := 29) (N := some 35) (v := ?_) (a' := ?_) #[true, true, true, true, true, true, true, true, true, true, true, true, true, true, true, true, true, true, true, true, true, true, true, true, true, true, true, true, true, true, false] rfl rfl (any_of HT_.out (by kernel_rfl)) (fun _ _ _ h => h) (Or.inl ⟨by rfl, ?_⟩) ?_ ?_
                rotate_left
                · intro w'
                  go_simp
                  with_reducible rfl
                rotate_left
                · simp only [Act.put, List.setIfInBounds_toArray, List.set_cons_zero, List.set_cons_succ, i64_w, i32_w]
                  rfl
                refine one_ (i := 30) (N := none) #[true, true, true, true, true, true, true, true, true, true, true, true, true, true, true, true, true, true, true, true, true, true, true, true, true, true, true, true, true, true, true] rfl rfl (one_of HT_.out (by kernel_rfl)) (by decide) (fun K hK => ?_)
                have hs17 : w15.cell? ⟨gb297, 0, none⟩ = some (.string (⟨#[]⟩ : ByteArray)) := (blk_cell BK297.out 0).trans rfl
                have hfs17 := blk_frozen BK297.out 0
                have hns17_0 := NB296_297.out
                have hms17_0 := NB297_296.out
                have hs18 : w15.cell? ⟨gb297, 1, none⟩ = some (.string (⟨#[]⟩ : ByteArray)) := (blk_cell BK297.out 1).trans rfl
                have hfs18 := blk_frozen BK297.out 1
                have hns18_0 := NB296_297.out
                have hms18_0 := NB297_296.out
                have hs19 : w15.cell? ⟨gb297, 2, none⟩ = some (.string (⟨#[]⟩ : ByteArray)) := (blk_cell BK297.out 2).trans rfl
                have hfs19 := blk_frozen BK297.out 2
                have hns19_0 := NB296_297.out
                have hms19_0 := NB297_296.out
                have hs20 : w15.cell? ⟨gb297, 3, none⟩ = some (.int .i64 0) := (blk_cell BK297.out 3).trans rfl
                have hfs20 := blk_frozen BK297.out 3
                have hns20_0 := NB296_297.out
                have hms20_0 := NB297_296.out
                have hs21 : w15.cell? ⟨gb297, 4, none⟩ = some (.string (⟨#[]⟩ : ByteArray)) := (blk_cell BK297.out 4).trans rfl
                have hfs21 := blk_frozen BK297.out 4
                have hns21_0 := NB296_297.out
                have hms21_0 := NB297_296.out
                have hs22 : w15.cell? ⟨gb297, 5, none⟩ = some (.int .u64 0) := (blk_cell BK297.out 5).trans rfl
                have hfs22 := blk_frozen BK297.out 5
                have hns22_0 := NB296_297.out
                have hms22_0 := NB297_296.out
                have hs23 : w15.cell? ⟨gb297, 6, none⟩ = some (.int .u64 0) := (blk_cell BK297.out 6).trans rfl
                have hfs23 := blk_frozen BK297.out 6
                have hns23_0 := NB296_297.out
                have hms23_0 := NB297_296.out
                refine skip_ (w1 := ?_) (by rfl) rfl ?_ ?_
                rotate_left
                · go_simp
                  rfl
                refine hK.out _ _ ⟨((cell_far (p := ⟨gb297, _, none⟩) (by first | exact Kd.own_blk (Kd.N_away HO300.out (fun _ hk => hk.2)) | (rw [add_block]; exact Kd.own_blk (Kd.N_away HO300.out (fun _ hk => hk.2))) | (show (Addr.add _ _).block ≠ _; rw [add_block]; exact Kd.own_blk (Kd.N_away HO300.out (fun _ hk => hk.2))) | (dsimp only; exact Kd.own_blk (Kd.N_away HO300.out (fun _ hk => hk.2)))) _).trans (((cell_far (p := ⟨gb297, _, none⟩) (by first | exact Kd.own_blk (Kd.N_away HO300.out (fun _ hk => hk.2)) | (rw [add_block]; exact Kd.own_blk (Kd.N_away HO300.out (fun _ hk => hk.2))) | (show (Addr.add _ _).block ≠ _; rw [add_block]; exact Kd.own_blk (Kd.N_away HO300.out (fun _ hk => hk.2))) | (dsimp only; exact Kd.own_blk (Kd.N_away HO300.out (fun _ hk => hk.2)))) _).trans (((cell_far (p := ⟨gb297, _, none⟩) (by first | exact Kd.own_blk (Kd.N_away HO300.out (fun _ hk => hk.2)) | (rw [add_block]; exact Kd.own_blk (Kd.N_away HO300.out (fun _ hk => hk.2))) | (show (Addr.add _ _).block ≠ _; rw [add_block]; exact Kd.own_blk (Kd.N_away HO300.out (fun _ hk => hk.2))) | (dsimp only; exact Kd.own_blk (Kd.N_away HO300.out (fun _ hk => hk.2)))) _).trans (((cell_far (p := ⟨gb297, _, none⟩) (by first | exact Kd.own_blk (Kd.N_away HO300.out (fun _ hk => hk.2)) | (rw [add_block]; exact Kd.own_blk (Kd.N_away HO300.out (fun _ hk => hk.2))) | (show (Addr.add _ _).block ≠ _; rw [add_block]; exact Kd.own_blk (Kd.N_away HO300.out (fun _ hk => hk.2))) | (dsimp only; exact Kd.own_blk (Kd.N_away HO300.out (fun _ hk => hk.2)))) _).trans (((cell_far (p := ⟨gb297, _, none⟩) (by first | exact Kd.own_blk (Kd.N_away HO300.out (fun _ hk => hk.2)) | (rw [add_block]; exact Kd.own_blk (Kd.N_away HO300.out (fun _ hk => hk.2))) | (show (Addr.add _ _).block ≠ _; rw [add_block]; exact Kd.own_blk (Kd.N_away HO300.out (fun _ hk => hk.2))) | (dsimp only; exact Kd.own_blk (Kd.N_away HO300.out (fun _ hk => hk.2)))) _).trans (((cell_far (p := ⟨gb297, _, none⟩) (by first | exact Kd.own_blk (Kd.N_away HO300.out (fun _ hk => hk.2)) | (rw [add_block]; exact Kd.own_blk (Kd.N_away HO300.out (fun _ hk => hk.2))) | (show (Addr.add _ _).block ≠ _; rw [add_block]; exact Kd.own_blk (Kd.N_away HO300.out (fun _ hk => hk.2))) | (dsimp only; exact Kd.own_blk (Kd.N_away HO300.out (fun _ hk => hk.2)))) _).trans (((cell_far (p := ⟨gb297, _, none⟩) (by first | exact Kd.own_blk (Kd.N_away HO300.out (fun _ hk => hk.2)) | (rw [add_block]; exact Kd.own_blk (Kd.N_away HO300.out (fun _ hk => hk.2))) | (show (Addr.add _ _).block ≠ _; rw [add_block]; exact Kd.own_blk (Kd.N_away HO300.out (fun _ hk => hk.2))) | (dsimp only; exact Kd.own_blk (Kd.N_away HO300.out (fun _ hk => hk.2)))) _).trans (hHeld.1)))))))))))))), ((cell_far (p := ⟨gb297, _, none⟩) (by first | exact Kd.own_blk (Kd.N_away HO300.out (fun _ hk => hk.2)) | (rw [add_block]; exact Kd.own_blk (Kd.N_away HO300.out (fun _ hk => hk.2))) | (show (Addr.add _ _).block ≠ _; rw [add_block]; exact Kd.own_blk (Kd.N_away HO300.out (fun _ hk => hk.2))) | (dsimp only; exact Kd.own_blk (Kd.N_away HO300.out (fun _ hk => hk.2)))) _).trans (((cell_far (p := ⟨gb297, _, none⟩) (by first | exact Kd.own_blk (Kd.N_away HO300.out (fun _ hk => hk.2)) | (rw [add_block]; exact Kd.own_blk (Kd.N_away HO300.out (fun _ hk => hk.2))) | (show (Addr.add _ _).block ≠ _; rw [add_block]; exact Kd.own_blk (Kd.N_away HO300.out (fun _ hk => hk.2))) | (dsimp only; exact Kd.own_blk (Kd.N_away HO300.out (fun _ hk => hk.2)))) _).trans (((cell_far (p := ⟨gb297, _, none⟩) (by first | exact Kd.own_blk (Kd.N_away HO300.out (fun _ hk => hk.2)) | (rw [add_block]; exact Kd.own_blk (Kd.N_away HO300.out (fun _ hk => hk.2))) | (show (Addr.add _ _).block ≠ _; rw [add_block]; exact Kd.own_blk (Kd.N_away HO300.out (fun _ hk => hk.2))) | (dsimp only; exact Kd.own_blk (Kd.N_away HO300.out (fun _ hk => hk.2)))) _).trans (((cell_far (p := ⟨gb297, _, none⟩) (by first | exact Kd.own_blk (Kd.N_away HO300.out (fun _ hk => hk.2)) | (rw [add_block]; exact Kd.own_blk (Kd.N_away HO300.out (fun _ hk => hk.2))) | (show (Addr.add _ _).block ≠ _; rw [add_block]; exact Kd.own_blk (Kd.N_away HO300.out (fun _ hk => hk.2))) | (dsimp only; exact Kd.own_blk (Kd.N_away HO300.out (fun _ hk => hk.2)))) _).trans (((cell_far (p := ⟨gb297, _, none⟩) (by first | exact Kd.own_blk (Kd.N_away HO300.out (fun _ hk => hk.2)) | (rw [add_block]; exact Kd.own_blk (Kd.N_away HO300.out (fun _ hk => hk.2))) | (show (Addr.add _ _).block ≠ _; rw [add_block]; exact Kd.own_blk (Kd.N_away HO300.out (fun _ hk => hk.2))) | (dsimp only; exact Kd.own_blk (Kd.N_away HO300.out (fun _ hk => hk.2)))) _).trans (((cell_far (p := ⟨gb297, _, none⟩) (by first | exact Kd.own_blk (Kd.N_away HO300.out (fun _ hk => hk.2)) | (rw [add_block]; exact Kd.own_blk (Kd.N_away HO300.out (fun _ hk => hk.2))) | (show (Addr.add _ _).block ≠ _; rw [add_block]; exact Kd.own_blk (Kd.N_away HO300.out (fun _ hk => hk.2))) | (dsimp only; exact Kd.own_blk (Kd.N_away HO300.out (fun _ hk => hk.2)))) _).trans (((cell_far (p := ⟨gb297, _, none⟩) (by first | exact Kd.own_blk (Kd.N_away HO300.out (fun _ hk => hk.2)) | (rw [add_block]; exact Kd.own_blk (Kd.N_away HO300.out (fun _ hk => hk.2))) | (show (Addr.add _ _).block ≠ _; rw [add_block]; exact Kd.own_blk (Kd.N_away HO300.out (fun _ hk => hk.2))) | (dsimp only; exact Kd.own_blk (Kd.N_away HO300.out (fun _ hk => hk.2)))) _).trans (hHeld.2.1)))))))))))))), ((cell_far (p := ⟨gb297, _, none⟩) (by first | exact Kd.own_blk (Kd.N_away HO300.out (fun _ hk => hk.2)) | (rw [add_block]; exact Kd.own_blk (Kd.N_away HO300.out (fun _ hk => hk.2))) | (show (Addr.add _ _).block ≠ _; rw [add_block]; exact Kd.own_blk (Kd.N_away HO300.out (fun _ hk => hk.2))) | (dsimp only; exact Kd.own_blk (Kd.N_away HO300.out (fun _ hk => hk.2)))) _).trans (((cell_far (p := ⟨gb297, _, none⟩) (by first | exact Kd.own_blk (Kd.N_away HO300.out (fun _ hk => hk.2)) | (rw [add_block]; exact Kd.own_blk (Kd.N_away HO300.out (fun _ hk => hk.2))) | (show (Addr.add _ _).block ≠ _; rw [add_block]; exact Kd.own_blk (Kd.N_away HO300.out (fun _ hk => hk.2))) | (dsimp only; exact Kd.own_blk (Kd.N_away HO300.out (fun _ hk => hk.2)))) _).trans (((cell_far (p := ⟨gb297, _, none⟩) (by first | exact Kd.own_blk (Kd.N_away HO300.out (fun _ hk => hk.2)) | (rw [add_block]; exact Kd.own_blk (Kd.N_away HO300.out (fun _ hk => hk.2))) | (show (Addr.add _ _).block ≠ _; rw [add_block]; exact Kd.own_blk (Kd.N_away HO300.out (fun _ hk => hk.2))) | (dsimp only; exact Kd.own_blk (Kd.N_away HO300.out (fun _ hk => hk.2)))) _).trans (((cell_far (p := ⟨gb297, _, none⟩) (by first | exact Kd.own_blk (Kd.N_away HO300.out (fun _ hk => hk.2)) | (rw [add_block]; exact Kd.own_blk (Kd.N_away HO300.out (fun _ hk => hk.2))) | (show (Addr.add _ _).block ≠ _; rw [add_block]; exact Kd.own_blk (Kd.N_away HO300.out (fun _ hk => hk.2))) | (dsimp only; exact Kd.own_blk (Kd.N_away HO300.out (fun _ hk => hk.2)))) _).trans (((cell_far (p := ⟨gb297, _, none⟩) (by first | exact Kd.own_blk (Kd.N_away HO300.out (fun _ hk => hk.2)) | (rw [add_block]; exact Kd.own_blk (Kd.N_away HO300.out (fun _ hk => hk.2))) | (show (Addr.add _ _).block ≠ _; rw [add_block]; exact Kd.own_blk (Kd.N_away HO300.out (fun _ hk => hk.2))) | (dsimp only; exact Kd.own_blk (Kd.N_away HO300.out (fun _ hk => hk.2)))) _).trans (((cell_far (p := ⟨gb297, _, none⟩) (by first | exact Kd.own_blk (Kd.N_away HO300.out (fun _ hk => hk.2)) | (rw [add_block]; exact Kd.own_blk (Kd.N_away HO300.out (fun _ hk => hk.2))) | (show (Addr.add _ _).block ≠ _; rw [add_block]; exact Kd.own_blk (Kd.N_away HO300.out (fun _ hk => hk.2))) | (dsimp only; exact Kd.own_blk (Kd.N_away HO300.out (fun _ hk => hk.2)))) _).trans (((cell_far (p := ⟨gb297, _, none⟩) (by first | exact Kd.own_blk (Kd.N_away HO300.out (fun _ hk => hk.2)) | (rw [add_block]; exact Kd.own_blk (Kd.N_away HO300.out (fun _ hk => hk.2))) | (show (Addr.add _ _).block ≠ _; rw [add_block]; exact Kd.own_blk (Kd.N_away HO300.out (fun _ hk => hk.2))) | (dsimp only; exact Kd.own_blk (Kd.N_away HO300.out (fun _ hk => hk.2)))) _).trans (hHeld.2.2.1)))))))))))))), ((cell_far (p := ⟨gb297, _, none⟩) (by first | exact Kd.own_blk (Kd.N_away HO300.out (fun _ hk => hk.2)) | (rw [add_block]; exact Kd.own_blk (Kd.N_away HO300.out (fun _ hk => hk.2))) | (show (Addr.add _ _).block ≠ _; rw [add_block]; exact Kd.own_blk (Kd.N_away HO300.out (fun _ hk => hk.2))) | (dsimp only; exact Kd.own_blk (Kd.N_away HO300.out (fun _ hk => hk.2)))) _).trans (((cell_far (p := ⟨gb297, _, none⟩) (by first | exact Kd.own_blk (Kd.N_away HO300.out (fun _ hk => hk.2)) | (rw [add_block]; exact Kd.own_blk (Kd.N_away HO300.out (fun _ hk => hk.2))) | (show (Addr.add _ _).block ≠ _; rw [add_block]; exact Kd.own_blk (Kd.N_away HO300.out (fun _ hk => hk.2))) | (dsimp only; exact Kd.own_blk (Kd.N_away HO300.out (fun _ hk => hk.2)))) _).trans (((cell_far (p := ⟨gb297, _, none⟩) (by first | exact Kd.own_blk (Kd.N_away HO300.out (fun _ hk => hk.2)) | (rw [add_block]; exact Kd.own_blk (Kd.N_away HO300.out (fun _ hk => hk.2))) | (show (Addr.add _ _).block ≠ _; rw [add_block]; exact Kd.own_blk (Kd.N_away HO300.out (fun _ hk => hk.2))) | (dsimp only; exact Kd.own_blk (Kd.N_away HO300.out (fun _ hk => hk.2)))) _).trans (((cell_far (p := ⟨gb297, _, none⟩) (by first | exact Kd.own_blk (Kd.N_away HO300.out (fun _ hk => hk.2)) | (rw [add_block]; exact Kd.own_blk (Kd.N_away HO300.out (fun _ hk => hk.2))) | (show (Addr.add _ _).block ≠ _; rw [add_block]; exact Kd.own_blk (Kd.N_away HO300.out (fun _ hk => hk.2))) | (dsimp only; exact Kd.own_blk (Kd.N_away HO300.out (fun _ hk => hk.2)))) _).trans (((cell_far (p := ⟨gb297, _, none⟩) (by first | exact Kd.own_blk (Kd.N_away HO300.out (fun _ hk => hk.2)) | (rw [add_block]; exact Kd.own_blk (Kd.N_away HO300.out (fun _ hk => hk.2))) | (show (Addr.add _ _).block ≠ _; rw [add_block]; exact Kd.own_blk (Kd.N_away HO300.out (fun _ hk => hk.2))) | (dsimp only; exact Kd.own_blk (Kd.N_away HO300.out (fun _ hk => hk.2)))) _).trans (((cell_far (p := ⟨gb297, _, none⟩) (by first | exact Kd.own_blk (Kd.N_away HO300.out (fun _ hk => hk.2)) | (rw [add_block]; exact Kd.own_blk (Kd.N_away HO300.out (fun _ hk => hk.2))) | (show (Addr.add _ _).block ≠ _; rw [add_block]; exact Kd.own_blk (Kd.N_away HO300.out (fun _ hk => hk.2))) | (dsimp only; exact Kd.own_blk (Kd.N_away HO300.out (fun _ hk => hk.2)))) _).trans (((cell_far (p := ⟨gb297, _, none⟩) (by first | exact Kd.own_blk (Kd.N_away HO300.out (fun _ hk => hk.2)) | (rw [add_block]; exact Kd.own_blk (Kd.N_away HO300.out (fun _ hk => hk.2))) | (show (Addr.add _ _).block ≠ _; rw [add_block]; exact Kd.own_blk (Kd.N_away HO300.out (fun _ hk => hk.2))) | (dsimp only; exact Kd.own_blk (Kd.N_away HO300.out (fun _ hk => hk.2)))) _).trans (hHeld.2.2.2.1)))))))))))))), ((cell_far (p := ⟨gb297, _, none⟩) (by first | exact Kd.own_blk (Kd.N_away HO300.out (fun _ hk => hk.2)) | (rw [add_block]; exact Kd.own_blk (Kd.N_away HO300.out (fun _ hk => hk.2))) | (show (Addr.add _ _).block ≠ _; rw [add_block]; exact Kd.own_blk (Kd.N_away HO300.out (fun _ hk => hk.2))) | (dsimp only; exact Kd.own_blk (Kd.N_away HO300.out (fun _ hk => hk.2)))) _).trans (((cell_far (p := ⟨gb297, _, none⟩) (by first | exact Kd.own_blk (Kd.N_away HO300.out (fun _ hk => hk.2)) | (rw [add_block]; exact Kd.own_blk (Kd.N_away HO300.out (fun _ hk => hk.2))) | (show (Addr.add _ _).block ≠ _; rw [add_block]; exact Kd.own_blk (Kd.N_away HO300.out (fun _ hk => hk.2))) | (dsimp only; exact Kd.own_blk (Kd.N_away HO300.out (fun _ hk => hk.2)))) _).trans (((cell_far (p := ⟨gb297, _, none⟩) (by first | exact Kd.own_blk (Kd.N_away HO300.out (fun _ hk => hk.2)) | (rw [add_block]; exact Kd.own_blk (Kd.N_away HO300.out (fun _ hk => hk.2))) | (show (Addr.add _ _).block ≠ _; rw [add_block]; exact Kd.own_blk (Kd.N_away HO300.out (fun _ hk => hk.2))) | (dsimp only; exact Kd.own_blk (Kd.N_away HO300.out (fun _ hk => hk.2)))) _).trans (((cell_far (p := ⟨gb297, _, none⟩) (by first | exact Kd.own_blk (Kd.N_away HO300.out (fun _ hk => hk.2)) | (rw [add_block]; exact Kd.own_blk (Kd.N_away HO300.out (fun _ hk => hk.2))) | (show (Addr.add _ _).block ≠ _; rw [add_block]; exact Kd.own_blk (Kd.N_away HO300.out (fun _ hk => hk.2))) | (dsimp only; exact Kd.own_blk (Kd.N_away HO300.out (fun _ hk => hk.2)))) _).trans (((cell_far (p := ⟨gb297, _, none⟩) (by first | exact Kd.own_blk (Kd.N_away HO300.out (fun _ hk => hk.2)) | (rw [add_block]; exact Kd.own_blk (Kd.N_away HO300.out (fun _ hk => hk.2))) | (show (Addr.add _ _).block ≠ _; rw [add_block]; exact Kd.own_blk (Kd.N_away HO300.out (fun _ hk => hk.2))) | (dsimp only; exact Kd.own_blk (Kd.N_away HO300.out (fun _ hk => hk.2)))) _).trans (((cell_far (p := ⟨gb297, _, none⟩) (by first | exact Kd.own_blk (Kd.N_away HO300.out (fun _ hk => hk.2)) | (rw [add_block]; exact Kd.own_blk (Kd.N_away HO300.out (fun _ hk => hk.2))) | (show (Addr.add _ _).block ≠ _; rw [add_block]; exact Kd.own_blk (Kd.N_away HO300.out (fun _ hk => hk.2))) | (dsimp only; exact Kd.own_blk (Kd.N_away HO300.out (fun _ hk => hk.2)))) _).trans (((cell_far (p := ⟨gb297, _, none⟩) (by first | exact Kd.own_blk (Kd.N_away HO300.out (fun _ hk => hk.2)) | (rw [add_block]; exact Kd.own_blk (Kd.N_away HO300.out (fun _ hk => hk.2))) | (show (Addr.add _ _).block ≠ _; rw [add_block]; exact Kd.own_blk (Kd.N_away HO300.out (fun _ hk => hk.2))) | (dsimp only; exact Kd.own_blk (Kd.N_away HO300.out (fun _ hk => hk.2)))) _).trans (hHeld.2.2.2.2.1)))))))))))))), ((cell_far (p := ⟨gb297, _, none⟩) (by first | exact Kd.own_blk (Kd.N_away HO300.out (fun _ hk => hk.2)) | (rw [add_block]; exact Kd.own_blk (Kd.N_away HO300.out (fun _ hk => hk.2))) | (show (Addr.add _ _).block ≠ _; rw [add_block]; exact Kd.own_blk (Kd.N_away HO300.out (fun _ hk => hk.2))) | (dsimp only; exact Kd.own_blk (Kd.N_away HO300.out (fun _ hk => hk.2)))) _).trans (((cell_far (p := ⟨gb297, _, none⟩) (by first | exact Kd.own_blk (Kd.N_away HO300.out (fun _ hk => hk.2)) | (rw [add_block]; exact Kd.own_blk (Kd.N_away HO300.out (fun _ hk => hk.2))) | (show (Addr.add _ _).block ≠ _; rw [add_block]; exact Kd.own_blk (Kd.N_away HO300.out (fun _ hk => hk.2))) | (dsimp only; exact Kd.own_blk (Kd.N_away HO300.out (fun _ hk => hk.2)))) _).trans (((cell_far (p := ⟨gb297, _, none⟩) (by first | exact Kd.own_blk (Kd.N_away HO300.out (fun _ hk => hk.2)) | (rw [add_block]; exact Kd.own_blk (Kd.N_away HO300.out (fun _ hk => hk.2))) | (show (Addr.add _ _).block ≠ _; rw [add_block]; exact Kd.own_blk (Kd.N_away HO300.out (fun _ hk => hk.2))) | (dsimp only; exact Kd.own_blk (Kd.N_away HO300.out (fun _ hk => hk.2)))) _).trans (((cell_far (p := ⟨gb297, _, none⟩) (by first | exact Kd.own_blk (Kd.N_away HO300.out (fun _ hk => hk.2)) | (rw [add_block]; exact Kd.own_blk (Kd.N_away HO300.out (fun _ hk => hk.2))) | (show (Addr.add _ _).block ≠ _; rw [add_block]; exact Kd.own_blk (Kd.N_away HO300.out (fun _ hk => hk.2))) | (dsimp only; exact Kd.own_blk (Kd.N_away HO300.out (fun _ hk => hk.2)))) _).trans (((cell_far (p := ⟨gb297, _, none⟩) (by first | exact Kd.own_blk (Kd.N_away HO300.out (fun _ hk => hk.2)) | (rw [add_block]; exact Kd.own_blk (Kd.N_away HO300.out (fun _ hk => hk.2))) | (show (Addr.add _ _).block ≠ _; rw [add_block]; exact Kd.own_blk (Kd.N_away HO300.out (fun _ hk => hk.2))) | (dsimp only; exact Kd.own_blk (Kd.N_away HO300.out (fun _ hk => hk.2)))) _).trans (((cell_far (p := ⟨gb297, _, none⟩) (by first | exact Kd.own_blk (Kd.N_away HO300.out (fun _ hk => hk.2)) | (rw [add_block]; exact Kd.own_blk (Kd.N_away HO300.out (fun _ hk => hk.2))) | (show (Addr.add _ _).block ≠ _; rw [add_block]; exact Kd.own_blk (Kd.N_away HO300.out (fun _ hk => hk.2))) | (dsimp only; exact Kd.own_blk (Kd.N_away HO300.out (fun _ hk => hk.2)))) _).trans (((cell_far (p := ⟨gb297, _, none⟩) (by first | exact Kd.own_blk (Kd.N_away HO300.out (fun _ hk => hk.2)) | (rw [add_block]; exact Kd.own_blk (Kd.N_away HO300.out (fun _ hk => hk.2))) | (show (Addr.add _ _).block ≠ _; rw [add_block]; exact Kd.own_blk (Kd.N_away HO300.out (fun _ hk => hk.2))) | (dsimp only; exact Kd.own_blk (Kd.N_away HO300.out (fun _ hk => hk.2)))) _).trans (hHeld.2.2.2.2.2.1)))))))))))))), ((cell_far (p := ⟨gb297, _, none⟩) (by first | exact Kd.own_blk (Kd.N_away HO300.out (fun _ hk => hk.2)) | (rw [add_block]; exact Kd.own_blk (Kd.N_away HO300.out (fun _ hk => hk.2))) | (show (Addr.add _ _).block ≠ _; rw [add_block]; exact Kd.own_blk (Kd.N_away HO300.out (fun _ hk => hk.2))) | (dsimp only; exact Kd.own_blk (Kd.N_away HO300.out (fun _ hk => hk.2)))) _).trans (((cell_far (p := ⟨gb297, _, none⟩) (by first | exact Kd.own_blk (Kd.N_away HO300.out (fun _ hk => hk.2)) | (rw [add_block]; exact Kd.own_blk (Kd.N_away HO300.out (fun _ hk => hk.2))) | (show (Addr.add _ _).block ≠ _; rw [add_block]; exact Kd.own_blk (Kd.N_away HO300.out (fun _ hk => hk.2))) | (dsimp only; exact Kd.own_blk (Kd.N_away HO300.out (fun _ hk => hk.2)))) _).trans (((cell_far (p := ⟨gb297, _, none⟩) (by first | exact Kd.own_blk (Kd.N_away HO300.out (fun _ hk => hk.2)) | (rw [add_block]; exact Kd.own_blk (Kd.N_away HO300.out (fun _ hk => hk.2))) | (show (Addr.add _ _).block ≠ _; rw [add_block]; exact Kd.own_blk (Kd.N_away HO300.out (fun _ hk => hk.2))) | (dsimp only; exact Kd.own_blk (Kd.N_away HO300.out (fun _ hk => hk.2)))) _).trans (((cell_far (p := ⟨gb297, _, none⟩) (by first | exact Kd.own_blk (Kd.N_away HO300.out (fun _ hk => hk.2)) | (rw [add_block]; exact Kd.own_blk (Kd.N_away HO300.out (fun _ hk => hk.2))) | (show (Addr.add _ _).block ≠ _; rw [add_block]; exact Kd.own_blk (Kd.N_away HO300.out (fun _ hk => hk.2))) | (dsimp only; exact Kd.own_blk (Kd.N_away HO300.out (fun _ hk => hk.2)))) _).trans (((cell_far (p := ⟨gb297, _, none⟩) (by first | exact Kd.own_blk (Kd.N_away HO300.out (fun _ hk => hk.2)) | (rw [add_block]; exact Kd.own_blk (Kd.N_away HO300.out (fun _ hk => hk.2))) | (show (Addr.add _ _).block ≠ _; rw [add_block]; exact Kd.own_blk (Kd.N_away HO300.out (fun _ hk => hk.2))) | (dsimp only; exact Kd.own_blk (Kd.N_away HO300.out (fun _ hk => hk.2)))) _).trans (((cell_far (p := ⟨gb297, _, none⟩) (by first | exact Kd.own_blk (Kd.N_away HO300.out (fun _ hk => hk.2)) | (rw [add_block]; exact Kd.own_blk (Kd.N_away HO300.out (fun _ hk => hk.2))) | (show (Addr.add _ _).block ≠ _; rw [add_block]; exact Kd.own_blk (Kd.N_away HO300.out (fun _ hk => hk.2))) | (dsimp only; exact Kd.own_blk (Kd.N_away HO300.out (fun _ hk => hk.2)))) _).trans (((cell_far (p := ⟨gb297, _, none⟩) (by first | exact Kd.own_blk (Kd.N_away HO300.out (fun _ hk => hk.2)) | (rw [add_block]; exact Kd.own_blk (Kd.N_away HO300.out (fun _ hk => hk.2))) | (show (Addr.add _ _).block ≠ _; rw [add_block]; exact Kd.own_blk (Kd.N_away HO300.out (fun _ hk => hk.2))) | (dsimp only; exact Kd.own_blk (Kd.N_away HO300.out (fun _ hk => hk.2)))) _).trans (hHeld.2.2.2.2.2.2.1)))))))))))))), ((cell_far (p := ⟨gb297, _, none⟩) (by first | exact Kd.own_blk (Kd.N_away HO300.out (fun _ hk => hk.2)) | (rw [add_block]; exact Kd.own_blk (Kd.N_away HO300.out (fun _ hk => hk.2))) | (show (Addr.add _ _).block ≠ _; rw [add_block]; exact Kd.own_blk (Kd.N_away HO300.out (fun _ hk => hk.2))) | (dsimp only; exact Kd.own_blk (Kd.N_away HO300.out (fun _ hk => hk.2)))) _).trans (((cell_far (p := ⟨gb297, _, none⟩) (by first | exact Kd.own_blk (Kd.N_away HO300.out (fun _ hk => hk.2)) | (rw [add_block]; exact Kd.own_blk (Kd.N_away HO300.out (fun _ hk => hk.2))) | (show (Addr.add _ _).block ≠ _; rw [add_block]; exact Kd.own_blk (Kd.N_away HO300.out (fun _ hk => hk.2))) | (dsimp only; exact Kd.own_blk (Kd.N_away HO300.out (fun _ hk => hk.2)))) _).trans (((cell_far (p := ⟨gb297, _, none⟩) (by first | exact Kd.own_blk (Kd.N_away HO300.out (fun _ hk => hk.2)) | (rw [add_block]; exact Kd.own_blk (Kd.N_away HO300.out (fun _ hk => hk.2))) | (show (Addr.add _ _).block ≠ _; rw [add_block]; exact Kd.own_blk (Kd.N_away HO300.out (fun _ hk => hk.2))) | (dsimp only; exact Kd.own_blk (Kd.N_away HO300.out (fun _ hk => hk.2)))) _).trans (((cell_far (p := ⟨gb297, _, none⟩) (by first | exact Kd.own_blk (Kd.N_away HO300.out (fun _ hk => hk.2)) | (rw [add_block]; exact Kd.own_blk (Kd.N_away HO300.out (fun _ hk => hk.2))) | (show (Addr.add _ _).block ≠ _; rw [add_block]; exact Kd.own_blk (Kd.N_away HO300.out (fun _ hk => hk.2))) | (dsimp only; exact Kd.own_blk (Kd.N_away HO300.out (fun _ hk => hk.2)))) _).trans (((cell_far (p := ⟨gb297, _, none⟩) (by first | exact Kd.own_blk (Kd.N_away HO300.out (fun _ hk => hk.2)) | (rw [add_block]; exact Kd.own_blk (Kd.N_away HO300.out (fun _ hk => hk.2))) | (show (Addr.add _ _).block ≠ _; rw [add_block]; exact Kd.own_blk (Kd.N_away HO300.out (fun _ hk => hk.2))) | (dsimp only; exact Kd.own_blk (Kd.N_away HO300.out (fun _ hk => hk.2)))) _).trans (((cell_far (p := ⟨gb297, _, none⟩) (by first | exact Kd.own_blk (Kd.N_away HO300.out (fun _ hk => hk.2)) | (rw [add_block]; exact Kd.own_blk (Kd.N_away HO300.out (fun _ hk => hk.2))) | (show (Addr.add _ _).block ≠ _; rw [add_block]; exact Kd.own_blk (Kd.N_away HO300.out (fun _ hk => hk.2))) | (dsimp only; exact Kd.own_blk (Kd.N_away HO300.out (fun _ hk => hk.2)))) _).trans (((cell_far (p := ⟨gb297, _, none⟩) (by first | exact Kd.own_blk (Kd.N_away HO300.out (fun _ hk => hk.2)) | (rw [add_block]; exact Kd.own_blk (Kd.N_away HO300.out (fun _ hk => hk.2))) | (show (Addr.add _ _).block ≠ _; rw [add_block]; exact Kd.own_blk (Kd.N_away HO300.out (fun _ hk => hk.2))) | (dsimp only; exact Kd.own_blk (Kd.N_away HO300.out (fun _ hk => hk.2)))) _).trans (hHeld.2.2.2.2.2.2.2.1)))))))))))))), ((cell_far (p := ⟨gb297, _, none⟩) (by first | exact Kd.own_blk (Kd.N_away HO300.out (fun _ hk => hk.2)) | (rw [add_block]; exact Kd.own_blk (Kd.N_away HO300.out (fun _ hk => hk.2))) | (show (Addr.add _ _).block ≠ _; rw [add_block]; exact Kd.own_blk (Kd.N_away HO300.out (fun _ hk => hk.2))) | (dsimp only; exact Kd.own_blk (Kd.N_away HO300.out (fun _ hk => hk.2)))) _).trans (((cell_far (p := ⟨gb297, _, none⟩) (by first | exact Kd.own_blk (Kd.N_away HO300.out (fun _ hk => hk.2)) | (rw [add_block]; exact Kd.own_blk (Kd.N_away HO300.out (fun _ hk => hk.2))) | (show (Addr.add _ _).block ≠ _; rw [add_block]; exact Kd.own_blk (Kd.N_away HO300.out (fun _ hk => hk.2))) | (dsimp only; exact Kd.own_blk (Kd.N_away HO300.out (fun _ hk => hk.2)))) _).trans (((cell_far (p := ⟨gb297, _, none⟩) (by first | exact Kd.own_blk (Kd.N_away HO300.out (fun _ hk => hk.2)) | (rw [add_block]; exact Kd.own_blk (Kd.N_away HO300.out (fun _ hk => hk.2))) | (show (Addr.add _ _).block ≠ _; rw [add_block]; exact Kd.own_blk (Kd.N_away HO300.out (fun _ hk => hk.2))) | (dsimp only; exact Kd.own_blk (Kd.N_away HO300.out (fun _ hk => hk.2)))) _).trans (((cell_far (p := ⟨gb297, _, none⟩) (by first | exact Kd.own_blk (Kd.N_away HO300.out (fun _ hk => hk.2)) | (rw [add_block]; exact Kd.own_blk (Kd.N_away HO300.out (fun _ hk => hk.2))) | (show (Addr.add _ _).block ≠ _; rw [add_block]; exact Kd.own_blk (Kd.N_away HO300.out (fun _ hk => hk.2))) | (dsimp only; exact Kd.own_blk (Kd.N_away HO300.out (fun _ hk => hk.2)))) _).trans (((cell_far (p := ⟨gb297, _, none⟩) (by first | exact Kd.own_blk (Kd.N_away HO300.out (fun _ hk => hk.2)) | (rw [add_block]; exact Kd.own_blk (Kd.N_away HO300.out (fun _ hk => hk.2))) | (show (Addr.add _ _).block ≠ _; rw [add_block]; exact Kd.own_blk (Kd.N_away HO300.out (fun _ hk => hk.2))) | (dsimp only; exact Kd.own_blk (Kd.N_away HO300.out (fun _ hk => hk.2)))) _).trans (((cell_far (p := ⟨gb297, _, none⟩) (by first | exact Kd.own_blk (Kd.N_away HO300.out (fun _ hk => hk.2)) | (rw [add_block]; exact Kd.own_blk (Kd.N_away HO300.out (fun _ hk => hk.2))) | (show (Addr.add _ _).block ≠ _; rw [add_block]; exact Kd.own_blk (Kd.N_away HO300.out (fun _ hk => hk.2))) | (dsimp only; exact Kd.own_blk (Kd.N_away HO300.out (fun _ hk => hk.2)))) _).trans (((cell_far (p := ⟨gb297, _, none⟩) (by first | exact Kd.own_blk (Kd.N_away HO300.out (fun _ hk => hk.2)) | (rw [add_block]; exact Kd.own_blk (Kd.N_away HO300.out (fun _ hk => hk.2))) | (show (Addr.add _ _).block ≠ _; rw [add_block]; exact Kd.own_blk (Kd.N_away HO300.out (fun _ hk => hk.2))) | (dsimp only; exact Kd.own_blk (Kd.N_away HO300.out (fun _ hk => hk.2)))) _).trans (hHeld.2.2.2.2.2.2.2.2.1)))))))))))))), ((cell_far (p := ⟨gb297, _, none⟩) (by first | exact Kd.own_blk (Kd.N_away HO300.out (fun _ hk => hk.2)) | (rw [add_block]; exact Kd.own_blk (Kd.N_away HO300.out (fun _ hk => hk.2))) | (show (Addr.add _ _).block ≠ _; rw [add_block]; exact Kd.own_blk (Kd.N_away HO300.out (fun _ hk => hk.2))) | (dsimp only; exact Kd.own_blk (Kd.N_away HO300.out (fun _ hk => hk.2)))) _).trans (((cell_far (p := ⟨gb297, _, none⟩) (by first | exact Kd.own_blk (Kd.N_away HO300.out (fun _ hk => hk.2)) | (rw [add_block]; exact Kd.own_blk (Kd.N_away HO300.out (fun _ hk => hk.2))) | (show (Addr.add _ _).block ≠ _; rw [add_block]; exact Kd.own_blk (Kd.N_away HO300.out (fun _ hk => hk.2))) | (dsimp only; exact Kd.own_blk (Kd.N_away HO300.out (fun _ hk => hk.2)))) _).trans (((cell_far (p := ⟨gb297, _, none⟩) (by first | exact Kd.own_blk (Kd.N_away HO300.out (fun _ hk => hk.2)) | (rw [add_block]; exact Kd.own_blk (Kd.N_away HO300.out (fun _ hk => hk.2))) | (show (Addr.add _ _).block ≠ _; rw [add_block]; exact Kd.own_blk (Kd.N_away HO300.out (fun _ hk => hk.2))) | (dsimp only; exact Kd.own_blk (Kd.N_away HO300.out (fun _ hk => hk.2)))) _).trans (((cell_far (p := ⟨gb297, _, none⟩) (by first | exact Kd.own_blk (Kd.N_away HO300.out (fun _ hk => hk.2)) | (rw [add_block]; exact Kd.own_blk (Kd.N_away HO300.out (fun _ hk => hk.2))) | (show (Addr.add _ _).block ≠ _; rw [add_block]; exact Kd.own_blk (Kd.N_away HO300.out (fun _ hk => hk.2))) | (dsimp only; exact Kd.own_blk (Kd.N_away HO300.out (fun _ hk => hk.2)))) _).trans (((cell_far (p := ⟨gb297, _, none⟩) (by first | exact Kd.own_blk (Kd.N_away HO300.out (fun _ hk => hk.2)) | (rw [add_block]; exact Kd.own_blk (Kd.N_away HO300.out (fun _ hk => hk.2))) | (show (Addr.add _ _).block ≠ _; rw [add_block]; exact Kd.own_blk (Kd.N_away HO300.out (fun _ hk => hk.2))) | (dsimp only; exact Kd.own_blk (Kd.N_away HO300.out (fun _ hk => hk.2)))) _).trans (((cell_far (p := ⟨gb297, _, none⟩) (by first | exact Kd.own_blk (Kd.N_away HO300.out (fun _ hk => hk.2)) | (rw [add_block]; exact Kd.own_blk (Kd.N_away HO300.out (fun _ hk => hk.2))) | (show (Addr.add _ _).block ≠ _; rw [add_block]; exact Kd.own_blk (Kd.N_away HO300.out (fun _ hk => hk.2))) | (dsimp only; exact Kd.own_blk (Kd.N_away HO300.out (fun _ hk => hk.2)))) _).trans (((cell_far (p := ⟨gb297, _, none⟩) (by first | exact Kd.own_blk (Kd.N_away HO300.out (fun _ hk => hk.2)) | (rw [add_block]; exact Kd.own_blk (Kd.N_away HO300.out (fun _ hk => hk.2))) | (show (Addr.add _ _).block ≠ _; rw [add_block]; exact Kd.own_blk (Kd.N_away HO300.out (fun _ hk => hk.2))) | (dsimp only; exact Kd.own_blk (Kd.N_away HO300.out (fun _ hk => hk.2)))) _).trans (hHeld.2.2.2.2.2.2.2.2.2.1)))))))))))))), ((cell_far (p := ⟨gb297, _, none⟩) (by first | exact Kd.own_blk (Kd.N_away HO300.out (fun _ hk => hk.2)) | (rw [add_block]; exact Kd.own_blk (Kd.N_away HO300.out (fun _ hk => hk.2))) | (show (Addr.add _ _).block ≠ _; rw [add_block]; exact Kd.own_blk (Kd.N_away HO300.out (fun _ hk => hk.2))) | (dsimp only; exact Kd.own_blk (Kd.N_away HO300.out (fun _ hk => hk.2)))) _).trans (((cell_far (p := ⟨gb297, _, none⟩) (by first | exact Kd.own_blk (Kd.N_away HO300.out (fun _ hk => hk.2)) | (rw [add_block]; exact Kd.own_blk (Kd.N_away HO300.out (fun _ hk => hk.2))) | (show (Addr.add _ _).block ≠ _; rw [add_block]; exact Kd.own_blk (Kd.N_away HO300.out (fun _ hk => hk.2))) | (dsimp only; exact Kd.own_blk (Kd.N_away HO300.out (fun _ hk => hk.2)))) _).trans (((cell_far (p := ⟨gb297, _, none⟩) (by first | exact Kd.own_blk (Kd.N_away HO300.out (fun _ hk => hk.2)) | (rw [add_block]; exact Kd.own_blk (Kd.N_away HO300.out (fun _ hk => hk.2))) | (show (Addr.add _ _).block ≠ _; rw [add_block]; exact Kd.own_blk (Kd.N_away HO300.out (fun _ hk => hk.2))) | (dsimp only; exact Kd.own_blk (Kd.N_away HO300.out (fun _ hk => hk.2)))) _).trans (((cell_far (p := ⟨gb297, _, none⟩) (by first | exact Kd.own_blk (Kd.N_away HO300.out (fun _ hk => hk.2)) | (rw [add_block]; exact Kd.own_blk (Kd.N_away HO300.out (fun _ hk => hk.2))) | (show (Addr.add _ _).block ≠ _; rw [add_block]; exact Kd.own_blk (Kd.N_away HO300.out (fun _ hk => hk.2))) | (dsimp only; exact Kd.own_blk (Kd.N_away HO300.out (fun _ hk => hk.2)))) _).trans (((cell_far (p := ⟨gb297, _, none⟩) (by first | exact Kd.own_blk (Kd.N_away HO300.out (fun _ hk => hk.2)) | (rw [add_block]; exact Kd.own_blk (Kd.N_away HO300.out (fun _ hk => hk.2))) | (show (Addr.add _ _).block ≠ _; rw [add_block]; exact Kd.own_blk (Kd.N_away HO300.out (fun _ hk => hk.2))) | (dsimp only; exact Kd.own_blk (Kd.N_away HO300.out (fun _ hk => hk.2)))) _).trans (((cell_far (p := ⟨gb297, _, none⟩) (by first | exact Kd.own_blk (Kd.N_away HO300.out (fun _ hk => hk.2)) | (rw [add_block]; exact Kd.own_blk (Kd.N_away HO300.out (fun _ hk => hk.2))) | (show (Addr.add _ _).block ≠ _; rw [add_block]; exact Kd.own_blk (Kd.N_away HO300.out (fun _ hk => hk.2))) | (dsimp only; exact Kd.own_blk (Kd.N_away HO300.out (fun _ hk => hk.2)))) _).trans (((cell_far (p := ⟨gb297, _, none⟩) (by first | exact Kd.own_blk (Kd.N_away HO300.out (fun _ hk => hk.2)) | (rw [add_block]; exact Kd.own_blk (Kd.N_away HO300.out (fun _ hk => hk.2))) | (show (Addr.add _ _).block ≠ _; rw [add_block]; exact Kd.own_blk (Kd.N_away HO300.out (fun _ hk => hk.2))) | (dsimp only; exact Kd.own_blk (Kd.N_away HO300.out (fun _ hk => hk.2)))) _).trans (hHeld.2.2.2.2.2.2.2.2.2.2.1)))))))))))))), ((cell_far (p := ⟨gb297, _, none⟩) (by first | exact Kd.own_blk (Kd.N_away HO300.out (fun _ hk => hk.2)) | (rw [add_block]; exact Kd.own_blk (Kd.N_away HO300.out (fun _ hk => hk.2))) | (show (Addr.add _ _).block ≠ _; rw [add_block]; exact Kd.own_blk (Kd.N_away HO300.out (fun _ hk => hk.2))) | (dsimp only; exact Kd.own_blk (Kd.N_away HO300.out (fun _ hk => hk.2)))) _).trans (((cell_far (p := ⟨gb297, _, none⟩) (by first | exact Kd.own_blk (Kd.N_away HO300.out (fun _ hk => hk.2)) | (rw [add_block]; exact Kd.own_blk (Kd.N_away HO300.out (fun _ hk => hk.2))) | (show (Addr.add _ _).block ≠ _; rw [add_block]; exact Kd.own_blk (Kd.N_away HO300.out (fun _ hk => hk.2))) | (dsimp only; exact Kd.own_blk (Kd.N_away HO300.out (fun _ hk => hk.2)))) _).trans (((cell_far (p := ⟨gb297, _, none⟩) (by first | exact Kd.own_blk (Kd.N_away HO300.out (fun _ hk => hk.2)) | (rw [add_block]; exact Kd.own_blk (Kd.N_away HO300.out (fun _ hk => hk.2))) | (show (Addr.add _ _).block ≠ _; rw [add_block]; exact Kd.own_blk (Kd.N_away HO300.out (fun _ hk => hk.2))) | (dsimp only; exact Kd.own_blk (Kd.N_away HO300.out (fun _ hk => hk.2)))) _).trans (((cell_far (p := ⟨gb297, _, none⟩) (by first | exact Kd.own_blk (Kd.N_away HO300.out (fun _ hk => hk.2)) | (rw [add_block]; exact Kd.own_blk (Kd.N_away HO300.out (fun _ hk => hk.2))) | (show (Addr.add _ _).block ≠ _; rw [add_block]; exact Kd.own_blk (Kd.N_away HO300.out (fun _ hk => hk.2))) | (dsimp only; exact Kd.own_blk (Kd.N_away HO300.out (fun _ hk => hk.2)))) _).trans (((cell_far (p := ⟨gb297, _, none⟩) (by first | exact Kd.own_blk (Kd.N_away HO300.out (fun _ hk => hk.2)) | (rw [add_block]; exact Kd.own_blk (Kd.N_away HO300.out (fun _ hk => hk.2))) | (show (Addr.add _ _).block ≠ _; rw [add_block]; exact Kd.own_blk (Kd.N_away HO300.out (fun _ hk => hk.2))) | (dsimp only; exact Kd.own_blk (Kd.N_away HO300.out (fun _ hk => hk.2)))) _).trans (((cell_far (p := ⟨gb297, _, none⟩) (by first | exact Kd.own_blk (Kd.N_away HO300.out (fun _ hk => hk.2)) | (rw [add_block]; exact Kd.own_blk (Kd.N_away HO300.out (fun _ hk => hk.2))) | (show (Addr.add _ _).block ≠ _; rw [add_block]; exact Kd.own_blk (Kd.N_away HO300.out (fun _ hk => hk.2))) | (dsimp only; exact Kd.own_blk (Kd.N_away HO300.out (fun _ hk => hk.2)))) _).trans (((cell_far (p := ⟨gb297, _, none⟩) (by first | exact Kd.own_blk (Kd.N_away HO300.out (fun _ hk => hk.2)) | (rw [add_block]; exact Kd.own_blk (Kd.N_away HO300.out (fun _ hk => hk.2))) | (show (Addr.add _ _).block ≠ _; rw [add_block]; exact Kd.own_blk (Kd.N_away HO300.out (fun _ hk => hk.2))) | (dsimp only; exact Kd.own_blk (Kd.N_away HO300.out (fun _ hk => hk.2)))) _).trans (hHeld.2.2.2.2.2.2.2.2.2.2.2.1)))))))))))))), ((cell_far (p := ⟨gb297, _, none⟩) (by first | exact Kd.own_blk (Kd.N_away HO300.out (fun _ hk => hk.2)) | (rw [add_block]; exact Kd.own_blk (Kd.N_away HO300.out (fun _ hk => hk.2))) | (show (Addr.add _ _).block ≠ _; rw [add_block]; exact Kd.own_blk (Kd.N_away HO300.out (fun _ hk => hk.2))) | (dsimp only; exact Kd.own_blk (Kd.N_away HO300.out (fun _ hk => hk.2)))) _).trans (((cell_far (p := ⟨gb297, _, none⟩) (by first | exact Kd.own_blk (Kd.N_away HO300.out (fun _ hk => hk.2)) | (rw [add_block]; exact Kd.own_blk (Kd.N_away HO300.out (fun _ hk => hk.2))) | (show (Addr.add _ _).block ≠ _; rw [add_block]; exact Kd.own_blk (Kd.N_away HO300.out (fun _ hk => hk.2))) | (dsimp only; exact Kd.own_blk (Kd.N_away HO300.out (fun _ hk => hk.2)))) _).trans (((cell_far (p := ⟨gb297, _, none⟩) (by first | exact Kd.own_blk (Kd.N_away HO300.out (fun _ hk => hk.2)) | (rw [add_block]; exact Kd.own_blk (Kd.N_away HO300.out (fun _ hk => hk.2))) | (show (Addr.add _ _).block ≠ _; rw [add_block]; exact Kd.own_blk (Kd.N_away HO300.out (fun _ hk => hk.2))) | (dsimp only; exact Kd.own_blk (Kd.N_away HO300.out (fun _ hk => hk.2)))) _).trans (((cell_far (p := ⟨gb297, _, none⟩) (by first | exact Kd.own_blk (Kd.N_away HO300.out (fun _ hk => hk.2)) | (rw [add_block]; exact Kd.own_blk (Kd.N_away HO300.out (fun _ hk => hk.2))) | (show (Addr.add _ _).block ≠ _; rw [add_block]; exact Kd.own_blk (Kd.N_away HO300.out (fun _ hk => hk.2))) | (dsimp only; exact Kd.own_blk (Kd.N_away HO300.out (fun _ hk => hk.2)))) _).trans (((cell_far (p := ⟨gb297, _, none⟩) (by first | exact Kd.own_blk (Kd.N_away HO300.out (fun _ hk => hk.2)) | (rw [add_block]; exact Kd.own_blk (Kd.N_away HO300.out (fun _ hk => hk.2))) | (show (Addr.add _ _).block ≠ _; rw [add_block]; exact Kd.own_blk (Kd.N_away HO300.out (fun _ hk => hk.2))) | (dsimp only; exact Kd.own_blk (Kd.N_away HO300.out (fun _ hk => hk.2)))) _).trans (((cell_far (p := ⟨gb297, _, none⟩) (by first | exact Kd.own_blk (Kd.N_away HO300.out (fun _ hk => hk.2)) | (rw [add_block]; exact Kd.own_blk (Kd.N_away HO300.out (fun _ hk => hk.2))) | (show (Addr.add _ _).block ≠ _; rw [add_block]; exact Kd.own_blk (Kd.N_away HO300.out (fun _ hk => hk.2))) | (dsimp only; exact Kd.own_blk (Kd.N_away HO300.out (fun _ hk => hk.2)))) _).trans (((cell_far (p := ⟨gb297, _, none⟩) (by first | exact Kd.own_blk (Kd.N_away HO300.out (fun _ hk => hk.2)) | (rw [add_block]; exact Kd.own_blk (Kd.N_away HO300.out (fun _ hk => hk.2))) | (show (Addr.add _ _).block ≠ _; rw [add_block]; exact Kd.own_blk (Kd.N_away HO300.out (fun _ hk => hk.2))) | (dsimp only; exact Kd.own_blk (Kd.N_away HO300.out (fun _ hk => hk.2)))) _).trans (hHeld.2.2.2.2.2.2.2.2.2.2.2.2.1)))))))))))))), ((cell_far (p := ⟨gb297, _, none⟩) (by first | exact Kd.own_blk (Kd.N_away HO300.out (fun _ hk => hk.2)) | (rw [add_block]; exact Kd.own_blk (Kd.N_away HO300.out (fun _ hk => hk.2))) | (show (Addr.add _ _).block ≠ _; rw [add_block]; exact Kd.own_blk (Kd.N_away HO300.out (fun _ hk => hk.2))) | (dsimp only; exact Kd.own_blk (Kd.N_away HO300.out (fun _ hk => hk.2)))) _).trans (((cell_far (p := ⟨gb297, _, none⟩) (by first | exact Kd.own_blk (Kd.N_away HO300.out (fun _ hk => hk.2)) | (rw [add_block]; exact Kd.own_blk (Kd.N_away HO300.out (fun _ hk => hk.2))) | (show (Addr.add _ _).block ≠ _; rw [add_block]; exact Kd.own_blk (Kd.N_away HO300.out (fun _ hk => hk.2))) | (dsimp only; exact Kd.own_blk (Kd.N_away HO300.out (fun _ hk => hk.2)))) _).trans (((cell_far (p := ⟨gb297, _, none⟩) (by first | exact Kd.own_blk (Kd.N_away HO300.out (fun _ hk => hk.2)) | (rw [add_block]; exact Kd.own_blk (Kd.N_away HO300.out (fun _ hk => hk.2))) | (show (Addr.add _ _).block ≠ _; rw [add_block]; exact Kd.own_blk (Kd.N_away HO300.out (fun _ hk => hk.2))) | (dsimp only; exact Kd.own_blk (Kd.N_away HO300.out (fun _ hk => hk.2)))) _).trans (((cell_far (p := ⟨gb297, _, none⟩) (by first | exact Kd.own_blk (Kd.N_away HO300.out (fun _ hk => hk.2)) | (rw [add_block]; exact Kd.own_blk (Kd.N_away HO300.out (fun _ hk => hk.2))) | (show (Addr.add _ _).block ≠ _; rw [add_block]; exact Kd.own_blk (Kd.N_away HO300.out (fun _ hk => hk.2))) | (dsimp only; exact Kd.own_blk (Kd.N_away HO300.out (fun _ hk => hk.2)))) _).trans (((cell_far (p := ⟨gb297, _, none⟩) (by first | exact Kd.own_blk (Kd.N_away HO300.out (fun _ hk => hk.2)) | (rw [add_block]; exact Kd.own_blk (Kd.N_away HO300.out (fun _ hk => hk.2))) | (show (Addr.add _ _).block ≠ _; rw [add_block]; exact Kd.own_blk (Kd.N_away HO300.out (fun _ hk => hk.2))) | (dsimp only; exact Kd.own_blk (Kd.N_away HO300.out (fun _ hk => hk.2)))) _).trans (((cell_far (p := ⟨gb297, _, none⟩) (by first | exact Kd.own_blk (Kd.N_away HO300.out (fun _ hk => hk.2)) | (rw [add_block]; exact Kd.own_blk (Kd.N_away HO300.out (fun _ hk => hk.2))) | (show (Addr.add _ _).block ≠ _; rw [add_block]; exact Kd.own_blk (Kd.N_away HO300.out (fun _ hk => hk.2))) | (dsimp only; exact Kd.own_blk (Kd.N_away HO300.out (fun _ hk => hk.2)))) _).trans (((cell_far (p := ⟨gb297, _, none⟩) (by first | exact Kd.own_blk (Kd.N_away HO300.out (fun _ hk => hk.2)) | (rw [add_block]; exact Kd.own_blk (Kd.N_away HO300.out (fun _ hk => hk.2))) | (show (Addr.add _ _).block ≠ _; rw [add_block]; exact Kd.own_blk (Kd.N_away HO300.out (fun _ hk => hk.2))) | (dsimp only; exact Kd.own_blk (Kd.N_away HO300.out (fun _ hk => hk.2)))) _).trans (hHeld.2.2.2.2.2.2.2.2.2.2.2.2.2.1)))))))))))))), ((cell_far (p := ⟨gb297, _, none⟩) (by first | exact Kd.own_blk (Kd.N_away HO300.out (fun _ hk => hk.2)) | (rw [add_block]; exact Kd.own_blk (Kd.N_away HO300.out (fun _ hk => hk.2))) | (show (Addr.add _ _).block ≠ _; rw [add_block]; exact Kd.own_blk (Kd.N_away HO300.out (fun _ hk => hk.2))) | (dsimp only; exact Kd.own_blk (Kd.N_away HO300.out (fun _ hk => hk.2)))) _).trans (((cell_far (p := ⟨gb297, _, none⟩) (by first | exact Kd.own_blk (Kd.N_away HO300.out (fun _ hk => hk.2)) | (rw [add_block]; exact Kd.own_blk (Kd.N_away HO300.out (fun _ hk => hk.2))) | (show (Addr.add _ _).block ≠ _; rw [add_block]; exact Kd.own_blk (Kd.N_away HO300.out (fun _ hk => hk.2))) | (dsimp only; exact Kd.own_blk (Kd.N_away HO300.out (fun _ hk => hk.2)))) _).trans (((cell_far (p := ⟨gb297, _, none⟩) (by first | exact Kd.own_blk (Kd.N_away HO300.out (fun _ hk => hk.2)) | (rw [add_block]; exact Kd.own_blk (Kd.N_away HO300.out (fun _ hk => hk.2))) | (show (Addr.add _ _).block ≠ _; rw [add_block]; exact Kd.own_blk (Kd.N_away HO300.out (fun _ hk => hk.2))) | (dsimp only; exact Kd.own_blk (Kd.N_away HO300.out (fun _ hk => hk.2)))) _).trans (((cell_far (p := ⟨gb297, _, none⟩) (by first | exact Kd.own_blk (Kd.N_away HO300.out (fun _ hk => hk.2)) | (rw [add_block]; exact Kd.own_blk (Kd.N_away HO300.out (fun _ hk => hk.2))) | (show (Addr.add _ _).block ≠ _; rw [add_block]; exact Kd.own_blk (Kd.N_away HO300.out (fun _ hk => hk.2))) | (dsimp only; exact Kd.own_blk (Kd.N_away HO300.out (fun _ hk => hk.2)))) _).trans (((cell_far (p := ⟨gb297, _, none⟩) (by first | exact Kd.own_blk (Kd.N_away HO300.out (fun _ hk => hk.2)) | (rw [add_block]; exact Kd.own_blk (Kd.N_away HO300.out (fun _ hk => hk.2))) | (show (Addr.add _ _).block ≠ _; rw [add_block]; exact Kd.own_blk (Kd.N_away HO300.out (fun _ hk => hk.2))) | (dsimp only; exact Kd.own_blk (Kd.N_away HO300.out (fun _ hk => hk.2)))) _).trans (((cell_far (p := ⟨gb297, _, none⟩) (by first | exact Kd.own_blk (Kd.N_away HO300.out (fun _ hk => hk.2)) | (rw [add_block]; exact Kd.own_blk (Kd.N_away HO300.out (fun _ hk => hk.2))) | (show (Addr.add _ _).block ≠ _; rw [add_block]; exact Kd.own_blk (Kd.N_away HO300.out (fun _ hk => hk.2))) | (dsimp only; exact Kd.own_blk (Kd.N_away HO300.out (fun _ hk => hk.2)))) _).trans (((cell_far (p := ⟨gb297, _, none⟩) (by first | exact Kd.own_blk (Kd.N_away HO300.out (fun _ hk => hk.2)) | (rw [add_block]; exact Kd.own_blk (Kd.N_away HO300.out (fun _ hk => hk.2))) | (show (Addr.add _ _).block ≠ _; rw [add_block]; exact Kd.own_blk (Kd.N_away HO300.out (fun _ hk => hk.2))) | (dsimp only; exact Kd.own_blk (Kd.N_away HO300.out (fun _ hk => hk.2)))) _).trans (hHeld.2.2.2.2.2.2.2.2.2.2.2.2.2.2.1)))))))))))))), ((cell_far (p := ⟨gb297, _, none⟩) (by first | exact Kd.own_blk (Kd.N_away HO300.out (fun _ hk => hk.2)) | (rw [add_block]; exact Kd.own_blk (Kd.N_away HO300.out (fun _ hk => hk.2))) | (show (Addr.add _ _).block ≠ _; rw [add_block]; exact Kd.own_blk (Kd.N_away HO300.out (fun _ hk => hk.2))) | (dsimp only; exact Kd.own_blk (Kd.N_away HO300.out (fun _ hk => hk.2)))) _).trans (((cell_far (p := ⟨gb297, _, none⟩) (by first | exact Kd.own_blk (Kd.N_away HO300.out (fun _ hk => hk.2)) | (rw [add_block]; exact Kd.own_blk (Kd.N_away HO300.out (fun _ hk => hk.2))) | (show (Addr.add _ _).block ≠ _; rw [add_block]; exact Kd.own_blk (Kd.N_away HO300.out (fun _ hk => hk.2))) | (dsimp only; exact Kd.own_blk (Kd.N_away HO300.out (fun _ hk => hk.2)))) _).trans (((cell_far (p := ⟨gb297, _, none⟩) (by first | exact Kd.own_blk (Kd.N_away HO300.out (fun _ hk => hk.2)) | (rw [add_block]; exact Kd.own_blk (Kd.N_away HO300.out (fun _ hk => hk.2))) | (show (Addr.add _ _).block ≠ _; rw [add_block]; exact Kd.own_blk (Kd.N_away HO300.out (fun _ hk => hk.2))) | (dsimp only; exact Kd.own_blk (Kd.N_away HO300.out (fun _ hk => hk.2)))) _).trans (((cell_far (p := ⟨gb297, _, none⟩) (by first | exact Kd.own_blk (Kd.N_away HO300.out (fun _ hk => hk.2)) | (rw [add_block]; exact Kd.own_blk (Kd.N_away HO300.out (fun _ hk => hk.2))) | (show (Addr.add _ _).block ≠ _; rw [add_block]; exact Kd.own_blk (Kd.N_away HO300.out (fun _ hk => hk.2))) | (dsimp only; exact Kd.own_blk (Kd.N_away HO300.out (fun _ hk => hk.2)))) _).trans (((cell_far (p := ⟨gb297, _, none⟩) (by first | exact Kd.own_blk (Kd.N_away HO300.out (fun _ hk => hk.2)) | (rw [add_block]; exact Kd.own_blk (Kd.N_away HO300.out (fun _ hk => hk.2))) | (show (Addr.add _ _).block ≠ _; rw [add_block]; exact Kd.own_blk (Kd.N_away HO300.out (fun _ hk => hk.2))) | (dsimp only; exact Kd.own_blk (Kd.N_away HO300.out (fun _ hk => hk.2)))) _).trans (((cell_far (p := ⟨gb297, _, none⟩) (by first | exact Kd.own_blk (Kd.N_away HO300.out (fun _ hk => hk.2)) | (rw [add_block]; exact Kd.own_blk (Kd.N_away HO300.out (fun _ hk => hk.2))) | (show (Addr.add _ _).block ≠ _; rw [add_block]; exact Kd.own_blk (Kd.N_away HO300.out (fun _ hk => hk.2))) | (dsimp only; exact Kd.own_blk (Kd.N_away HO300.out (fun _ hk => hk.2)))) _).trans (((cell_far (p := ⟨gb297, _, none⟩) (by first | exact Kd.own_blk (Kd.N_away HO300.out (fun _ hk => hk.2)) | (rw [add_block]; exact Kd.own_blk (Kd.N_away HO300.out (fun _ hk => hk.2))) | (show (Addr.add _ _).block ≠ _; rw [add_block]; exact Kd.own_blk (Kd.N_away HO300.out (fun _ hk => hk.2))) | (dsimp only; exact Kd.own_blk (Kd.N_away HO300.out (fun _ hk => hk.2)))) _).trans (hHeld.2.2.2.2.2.2.2.2.2.2.2.2.2.2.2.1)))))))))))))), ((cell_far (p := ⟨gb297, _, none⟩) (by first | exact Kd.own_blk (Kd.N_away HO300.out (fun _ hk => hk.2)) | (rw [add_block]; exact Kd.own_blk (Kd.N_away HO300.out (fun _ hk => hk.2))) | (show (Addr.add _ _).block ≠ _; rw [add_block]; exact Kd.own_blk (Kd.N_away HO300.out (fun _ hk => hk.2))) | (dsimp only; exact Kd.own_blk (Kd.N_away HO300.out (fun _ hk => hk.2)))) _).trans (((cell_far (p := ⟨gb297, _, none⟩) (by first | exact Kd.own_blk (Kd.N_away HO300.out (fun _ hk => hk.2)) | (rw [add_block]; exact Kd.own_blk (Kd.N_away HO300.out (fun _ hk => hk.2))) | (show (Addr.add _ _).block ≠ _; rw [add_block]; exact Kd.own_blk (Kd.N_away HO300.out (fun _ hk => hk.2))) | (dsimp only; exact Kd.own_blk (Kd.N_away HO300.out (fun _ hk => hk.2)))) _).trans (((cell_far (p := ⟨gb297, _, none⟩) (by first | exact Kd.own_blk (Kd.N_away HO300.out (fun _ hk => hk.2)) | (rw [add_block]; exact Kd.own_blk (Kd.N_away HO300.out (fun _ hk => hk.2))) | (show (Addr.add _ _).block ≠ _; rw [add_block]; exact Kd.own_blk (Kd.N_away HO300.out (fun _ hk => hk.2))) | (dsimp only; exact Kd.own_blk (Kd.N_away HO300.out (fun _ hk => hk.2)))) _).trans (((cell_far (p := ⟨gb297, _, none⟩) (by first | exact Kd.own_blk (Kd.N_away HO300.out (fun _ hk => hk.2)) | (rw [add_block]; exact Kd.own_blk (Kd.N_away HO300.out (fun _ hk => hk.2))) | (show (Addr.add _ _).block ≠ _; rw [add_block]; exact Kd.own_blk (Kd.N_away HO300.out (fun _ hk => hk.2))) | (dsimp only; exact Kd.own_blk (Kd.N_away HO300.out (fun _ hk => hk.2)))) _).trans (((cell_far (p := ⟨gb297, _, none⟩) (by first | exact Kd.own_blk (Kd.N_away HO300.out (fun _ hk => hk.2)) | (rw [add_block]; exact Kd.own_blk (Kd.N_away HO300.out (fun _ hk => hk.2))) | (show (Addr.add _ _).block ≠ _; rw [add_block]; exact Kd.own_blk (Kd.N_away HO300.out (fun _ hk => hk.2))) | (dsimp only; exact Kd.own_blk (Kd.N_away HO300.out (fun _ hk => hk.2)))) _).trans (((cell_far (p := ⟨gb297, _, none⟩) (by first | exact Kd.own_blk (Kd.N_away HO300.out (fun _ hk => hk.2)) | (rw [add_block]; exact Kd.own_blk (Kd.N_away HO300.out (fun _ hk => hk.2))) | (show (Addr.add _ _).block ≠ _; rw [add_block]; exact Kd.own_blk (Kd.N_away HO300.out (fun _ hk => hk.2))) | (dsimp only; exact Kd.own_blk (Kd.N_away HO300.out (fun _ hk => hk.2)))) _).trans (((cell_far (p := ⟨gb297, _, none⟩) (by first | exact Kd.own_blk (Kd.N_away HO300.out (fun _ hk => hk.2)) | (rw [add_block]; exact Kd.own_blk (Kd.N_away HO300.out (fun _ hk => hk.2))) | (show (Addr.add _ _).block ≠ _; rw [add_block]; exact Kd.own_blk (Kd.N_away HO300.out (fun _ hk => hk.2))) | (dsimp only; exact Kd.own_blk (Kd.N_away HO300.out (fun _ hk => hk.2)))) _).trans (hHeld.2.2.2.2.2.2.2.2.2.2.2.2.2.2.2.2.1)))))))))))))), ((cell_far (p := ⟨gb297, _, none⟩) (by first | exact Kd.own_blk (Kd.N_away HO300.out (fun _ hk => hk.2)) | (rw [add_block]; exact Kd.own_blk (Kd.N_away HO300.out (fun _ hk => hk.2))) | (show (Addr.add _ _).block ≠ _; rw [add_block]; exact Kd.own_blk (Kd.N_away HO300.out (fun _ hk => hk.2))) | (dsimp only; exact Kd.own_blk (Kd.N_away HO300.out (fun _ hk => hk.2)))) _).trans (((cell_far (p := ⟨gb297, _, none⟩) (by first | exact Kd.own_blk (Kd.N_away HO300.out (fun _ hk => hk.2)) | (rw [add_block]; exact Kd.own_blk (Kd.N_away HO300.out (fun _ hk => hk.2))) | (show (Addr.add _ _).block ≠ _; rw [add_block]; exact Kd.own_blk (Kd.N_away HO300.out (fun _ hk => hk.2))) | (dsimp only; exact Kd.own_blk (Kd.N_away HO300.out (fun _ hk => hk.2)))) _).trans (((cell_far (p := ⟨gb297, _, none⟩) (by first | exact Kd.own_blk (Kd.N_away HO300.out (fun _ hk => hk.2)) | (rw [add_block]; exact Kd.own_blk (Kd.N_away HO300.out (fun _ hk => hk.2))) | (show (Addr.add _ _).block ≠ _; rw [add_block]; exact Kd.own_blk (Kd.N_away HO300.out (fun _ hk => hk.2))) | (dsimp only; exact Kd.own_blk (Kd.N_away HO300.out (fun _ hk => hk.2)))) _).trans (((cell_far (p := ⟨gb297, _, none⟩) (by first | exact Kd.own_blk (Kd.N_away HO300.out (fun _ hk => hk.2)) | (rw [add_block]; exact Kd.own_blk (Kd.N_away HO300.out (fun _ hk => hk.2))) | (show (Addr.add _ _).block ≠ _; rw [add_block]; exact Kd.own_blk (Kd.N_away HO300.out (fun _ hk => hk.2))) | (dsimp only; exact Kd.own_blk (Kd.N_away HO300.out (fun _ hk => hk.2)))) _).trans (((cell_far (p := ⟨gb297, _, none⟩) (by first | exact Kd.own_blk (Kd.N_away HO300.out (fun _ hk => hk.2)) | (rw [add_block]; exact Kd.own_blk (Kd.N_away HO300.out (fun _ hk => hk.2))) | (show (Addr.add _ _).block ≠ _; rw [add_block]; exact Kd.own_blk (Kd.N_away HO300.out (fun _ hk => hk.2))) | (dsimp only; exact Kd.own_blk (Kd.N_away HO300.out (fun _ hk => hk.2)))) _).trans (((cell_far (p := ⟨gb297, _, none⟩) (by first | exact Kd.own_blk (Kd.N_away HO300.out (fun _ hk => hk.2)) | (rw [add_block]; exact Kd.own_blk (Kd.N_away HO300.out (fun _ hk => hk.2))) | (show (Addr.add _ _).block ≠ _; rw [add_block]; exact Kd.own_blk (Kd.N_away HO300.out (fun _ hk => hk.2))) | (dsimp only; exact Kd.own_blk (Kd.N_away HO300.out (fun _ hk => hk.2)))) _).trans (((cell_far (p := ⟨gb297, _, none⟩) (by first | exact Kd.own_blk (Kd.N_away HO300.out (fun _ hk => hk.2)) | (rw [add_block]; exact Kd.own_blk (Kd.N_away HO300.out (fun _ hk => hk.2))) | (show (Addr.add _ _).block ≠ _; rw [add_block]; exact Kd.own_blk (Kd.N_away HO300.out (fun _ hk => hk.2))) | (dsimp only; exact Kd.own_blk (Kd.N_away HO300.out (fun _ hk => hk.2)))) _).trans (hHeld.2.2.2.2.2.2.2.2.2.2.2.2.2.2.2.2.2.1)))))))))))))), ((cell_far (p := ⟨gb297, _, none⟩) (by first | exact Kd.own_blk (Kd.N_away HO300.out (fun _ hk => hk.2)) | (rw [add_block]; exact Kd.own_blk (Kd.N_away HO300.out (fun _ hk => hk.2))) | (show (Addr.add _ _).block ≠ _; rw [add_block]; exact Kd.own_blk (Kd.N_away HO300.out (fun _ hk => hk.2))) | (dsimp only; exact Kd.own_blk (Kd.N_away HO300.out (fun _ hk => hk.2)))) _).trans (((cell_far (p := ⟨gb297, _, none⟩) (by first | exact Kd.own_blk (Kd.N_away HO300.out (fun _ hk => hk.2)) | (rw [add_block]; exact Kd.own_blk (Kd.N_away HO300.out (fun _ hk => hk.2))) | (show (Addr.add _ _).block ≠ _; rw [add_block]; exact Kd.own_blk (Kd.N_away HO300.out (fun _ hk => hk.2))) | (dsimp only; exact Kd.own_blk (Kd.N_away HO300.out (fun _ hk => hk.2)))) _).trans (((cell_far (p := ⟨gb297, _, none⟩) (by first | exact Kd.own_blk (Kd.N_away HO300.out (fun _ hk => hk.2)) | (rw [add_block]; exact Kd.own_blk (Kd.N_away HO300.out (fun _ hk => hk.2))) | (show (Addr.add _ _).block ≠ _; rw [add_block]; exact Kd.own_blk (Kd.N_away HO300.out (fun _ hk => hk.2))) | (dsimp only; exact Kd.own_blk (Kd.N_away HO300.out (fun _ hk => hk.2)))) _).trans (((cell_far (p := ⟨gb297, _, none⟩) (by first | exact Kd.own_blk (Kd.N_away HO300.out (fun _ hk => hk.2)) | (rw [add_block]; exact Kd.own_blk (Kd.N_away HO300.out (fun _ hk => hk.2))) | (show (Addr.add _ _).block ≠ _; rw [add_block]; exact Kd.own_blk (Kd.N_away HO300.out (fun _ hk => hk.2))) | (dsimp only; exact Kd.own_blk (Kd.N_away HO300.out (fun _ hk => hk.2)))) _).trans (((cell_far (p := ⟨gb297, _, none⟩) (by first | exact Kd.own_blk (Kd.N_away HO300.out (fun _ hk => hk.2)) | (rw [add_block]; exact Kd.own_blk (Kd.N_away HO300.out (fun _ hk => hk.2))) | (show (Addr.add _ _).block ≠ _; rw [add_block]; exact Kd.own_blk (Kd.N_away HO300.out (fun _ hk => hk.2))) | (dsimp only; exact Kd.own_blk (Kd.N_away HO300.out (fun _ hk => hk.2)))) _).trans (((cell_far (p := ⟨gb297, _, none⟩) (by first | exact Kd.own_blk (Kd.N_away HO300.out (fun _ hk => hk.2)) | (rw [add_block]; exact Kd.own_blk (Kd.N_away HO300.out (fun _ hk => hk.2))) | (show (Addr.add _ _).block ≠ _; rw [add_block]; exact Kd.own_blk (Kd.N_away HO300.out (fun _ hk => hk.2))) | (dsimp only; exact Kd.own_blk (Kd.N_away HO300.out (fun _ hk => hk.2)))) _).trans (((cell_far (p := ⟨gb297, _, none⟩) (by first | exact Kd.own_blk (Kd.N_away HO300.out (fun _ hk => hk.2)) | (rw [add_block]; exact Kd.own_blk (Kd.N_away HO300.out (fun _ hk => hk.2))) | (show (Addr.add _ _).block ≠ _; rw [add_block]; exact Kd.own_blk (Kd.N_away HO300.out (fun _ hk => hk.2))) | (dsimp only; exact Kd.own_blk (Kd.N_away HO300.out (fun _ hk => hk.2)))) _).trans (hHeld.2.2.2.2.2.2.2.2.2.2.2.2.2.2.2.2.2.2.1)))))))))))))), ((cell_far (p := ⟨gb297, _, none⟩) (by first | exact Kd.own_blk (Kd.N_away HO300.out (fun _ hk => hk.2)) | (rw [add_block]; exact Kd.own_blk (Kd.N_away HO300.out (fun _ hk => hk.2))) | (show (Addr.add _ _).block ≠ _; rw [add_block]; exact Kd.own_blk (Kd.N_away HO300.out (fun _ hk => hk.2))) | (dsimp only; exact Kd.own_blk (Kd.N_away HO300.out (fun _ hk => hk.2)))) _).trans (((cell_far (p := ⟨gb297, _, none⟩) (by first | exact Kd.own_blk (Kd.N_away HO300.out (fun _ hk => hk.2)) | (rw [add_block]; exact Kd.own_blk (Kd.N_away HO300.out (fun _ hk => hk.2))) | (show (Addr.add _ _).block ≠ _; rw [add_block]; exact Kd.own_blk (Kd.N_away HO300.out (fun _ hk => hk.2))) | (dsimp only; exact Kd.own_blk (Kd.N_away HO300.out (fun _ hk => hk.2)))) _).trans (((cell_far (p := ⟨gb297, _, none⟩) (by first | exact Kd.own_blk (Kd.N_away HO300.out (fun _ hk => hk.2)) | (rw [add_block]; exact Kd.own_blk (Kd.N_away HO300.out (fun _ hk => hk.2))) | (show (Addr.add _ _).block ≠ _; rw [add_block]; exact Kd.own_blk (Kd.N_away HO300.out (fun _ hk => hk.2))) | (dsimp only; exact Kd.own_blk (Kd.N_away HO300.out (fun _ hk => hk.2)))) _).trans (((cell_far (p := ⟨gb297, _, none⟩) (by first | exact Kd.own_blk (Kd.N_away HO300.out (fun _ hk => hk.2)) | (rw [add_block]; exact Kd.own_blk (Kd.N_away HO300.out (fun _ hk => hk.2))) | (show (Addr.add _ _).block ≠ _; rw [add_block]; exact Kd.own_blk (Kd.N_away HO300.out (fun _ hk => hk.2))) | (dsimp only; exact Kd.own_blk (Kd.N_away HO300.out (fun _ hk => hk.2)))) _).trans (((cell_far (p := ⟨gb297, _, none⟩) (by first | exact Kd.own_blk (Kd.N_away HO300.out (fun _ hk => hk.2)) | (rw [add_block]; exact Kd.own_blk (Kd.N_away HO300.out (fun _ hk => hk.2))) | (show (Addr.add _ _).block ≠ _; rw [add_block]; exact Kd.own_blk (Kd.N_away HO300.out (fun _ hk => hk.2))) | (dsimp only; exact Kd.own_blk (Kd.N_away HO300.out (fun _ hk => hk.2)))) _).trans (((cell_far (p := ⟨gb297, _, none⟩) (by first | exact Kd.own_blk (Kd.N_away HO300.out (fun _ hk => hk.2)) | (rw [add_block]; exact Kd.own_blk (Kd.N_away HO300.out (fun _ hk => hk.2))) | (show (Addr.add _ _).block ≠ _; rw [add_block]; exact Kd.own_blk (Kd.N_away HO300.out (fun _ hk => hk.2))) | (dsimp only; exact Kd.own_blk (Kd.N_away HO300.out (fun _ hk => hk.2)))) _).trans (((cell_far (p := ⟨gb297, _, none⟩) (by first | exact Kd.own_blk (Kd.N_away HO300.out (fun _ hk => hk.2)) | (rw [add_block]; exact Kd.own_blk (Kd.N_away HO300.out (fun _ hk => hk.2))) | (show (Addr.add _ _).block ≠ _; rw [add_block]; exact Kd.own_blk (Kd.N_away HO300.out (fun _ hk => hk.2))) | (dsimp only; exact Kd.own_blk (Kd.N_away HO300.out (fun _ hk => hk.2)))) _).trans (hHeld.2.2.2.2.2.2.2.2.2.2.2.2.2.2.2.2.2.2.2.1)))))))))))))), ((cell_far (p := ⟨gb297, _, none⟩) (by first | exact Kd.own_blk (Kd.N_away HO300.out (fun _ hk => hk.2)) | (rw [add_block]; exact Kd.own_blk (Kd.N_away HO300.out (fun _ hk => hk.2))) | (show (Addr.add _ _).block ≠ _; rw [add_block]; exact Kd.own_blk (Kd.N_away HO300.out (fun _ hk => hk.2))) | (dsimp only; exact Kd.own_blk (Kd.N_away HO300.out (fun _ hk => hk.2)))) _).trans (((cell_far (p := ⟨gb297, _, none⟩) (by first | exact Kd.own_blk (Kd.N_away HO300.out (fun _ hk => hk.2)) | (rw [add_block]; exact Kd.own_blk (Kd.N_away HO300.out (fun _ hk => hk.2))) | (show (Addr.add _ _).block ≠ _; rw [add_block]; exact Kd.own_blk (Kd.N_away HO300.out (fun _ hk => hk.2))) | (dsimp only; exact Kd.own_blk (Kd.N_away HO300.out (fun _ hk => hk.2)))) _).trans (((cell_far (p := ⟨gb297, _, none⟩) (by first | exact Kd.own_blk (Kd.N_away HO300.out (fun _ hk => hk.2)) | (rw [add_block]; exact Kd.own_blk (Kd.N_away HO300.out (fun _ hk => hk.2))) | (show (Addr.add _ _).block ≠ _; rw [add_block]; exact Kd.own_blk (Kd.N_away HO300.out (fun _ hk => hk.2))) | (dsimp only; exact Kd.own_blk (Kd.N_away HO300.out (fun _ hk => hk.2)))) _).trans (((cell_far (p := ⟨gb297, _, none⟩) (by first | exact Kd.own_blk (Kd.N_away HO300.out (fun _ hk => hk.2)) | (rw [add_block]; exact Kd.own_blk (Kd.N_away HO300.out (fun _ hk => hk.2))) | (show (Addr.add _ _).block ≠ _; rw [add_block]; exact Kd.own_blk (Kd.N_away HO300.out (fun _ hk => hk.2))) | (dsimp only; exact Kd.own_blk (Kd.N_away HO300.out (fun _ hk => hk.2)))) _).trans (((cell_far (p := ⟨gb297, _, none⟩) (by first | exact Kd.own_blk (Kd.N_away HO300.out (fun _ hk => hk.2)) | (rw [add_block]; exact Kd.own_blk (Kd.N_away HO300.out (fun _ hk => hk.2))) | (show (Addr.add _ _).block ≠ _; rw [add_block]; exact Kd.own_blk (Kd.N_away HO300.out (fun _ hk => hk.2))) | (dsimp only; exact Kd.own_blk (Kd.N_away HO300.out (fun _ hk => hk.2)))) _).trans (((cell_far (p := ⟨gb297, _, none⟩) (by first | exact Kd.own_blk (Kd.N_away HO300.out (fun _ hk => hk.2)) | (rw [add_block]; exact Kd.own_blk (Kd.N_away HO300.out (fun _ hk => hk.2))) | (show (Addr.add _ _).block ≠ _; rw [add_block]; exact Kd.own_blk (Kd.N_away HO300.out (fun _ hk => hk.2))) | (dsimp only; exact Kd.own_blk (Kd.N_away HO300.out (fun _ hk => hk.2)))) _).trans (((cell_far (p := ⟨gb297, _, none⟩) (by first | exact Kd.own_blk (Kd.N_away HO300.out (fun _ hk => hk.2)) | (rw [add_block]; exact Kd.own_blk (Kd.N_away HO300.out (fun _ hk => hk.2))) | (show (Addr.add _ _).block ≠ _; rw [add_block]; exact Kd.own_blk (Kd.N_away HO300.out (fun _ hk => hk.2))) | (dsimp only; exact Kd.own_blk (Kd.N_away HO300.out (fun _ hk => hk.2)))) _).trans (hHeld.2.2.2.2.2.2.2.2.2.2.2.2.2.2.2.2.2.2.2.2))))))))))))))⟩ (fun hHeld => ?_)
                clear hK K
                refine done_ (done_of HT_.out (by kernel_rfl)) ?_
                try go_wp2
                refine bodyPost_ret (results_cell_row rfl _ _ gb297 29 #[.string ((rd_T39 t298 0).f0), .string ((rd_T39 t298 1).f0), .string ((rd_T39 t298 2).f0), .int .i64 (wrap64 ((rd_T39 t298 3).f1)), .string ((rd_T39 t298 4).f0), .int .u64 ((rd_T39 t298 5).f1), .int .u64 ((rd_T39 t298 6).f1)] (0, 0) _ rfl (by (with_reducible repeat (first | refine blk_drewN ?_ _ | refine blk_drew ?_ | refine blk_alloc ?_ _)); refine blk_put (cs := #[.string ((rd_T39 t298 0).f0), .string ((rd_T39 t298 1).f0), .string ((rd_T39 t298 2).f0), .int .i64 (wrap64 ((rd_T39 t298 3).f1)), .string ((rd_T39 t298 4).f0), .int .u64 ((rd_T39 t298 5).f1), .int .u64 0]) ?_ 6 _ rfl; (with_reducible repeat (first | refine blk_drewN ?_ _ | refine blk_drew ?_ | refine blk_alloc ?_ _)); refine blk_put (cs := #[.string ((rd_T39 t298 0).f0), .string ((rd_T39 t298 1).f0), .string ((rd_T39 t298 2).f0), .int .i64 (wrap64 ((rd_T39 t298 3).f1)), .string ((rd_T39 t298 4).f0), .int .u64 0, .int .u64 0]) ?_ 5 _ rfl; (with_reducible repeat (first | refine blk_drewN ?_ _ | refine blk_drew ?_ | refine blk_alloc ?_ _)); refine blk_put (cs := #[.string ((rd_T39 t298 0).f0), .string ((rd_T39 t298 1).f0), .string ((rd_T39 t298 2).f0), .int .i64 (wrap64 ((rd_T39 t298 3).f1)), .string (⟨#[]⟩ : ByteArray), .int .u64 0, .int .u64 0]) ?_ 4 _ rfl; (with_reducible repeat (first | refine blk_drewN ?_ _ | refine blk_drew ?_ | refine blk_alloc ?_ _)); refine blk_put (cs := #[.string ((rd_T39 t298 0).f0), .string ((rd_T39 t298 1).f0), .string ((rd_T39 t298 2).f0), .int .i64 0, .string (⟨#[]⟩ : ByteArray), .int .u64 0, .int .u64 0]) ?_ 3 _ rfl; (with_reducible repeat (first | refine blk_drewN ?_ _ | refine blk_drew ?_ | refine blk_alloc ?_ _)); refine blk_put (cs := #[.string ((rd_T39 t298 0).f0), .string ((rd_T39 t298 1).f0), .string (⟨#[]⟩ : ByteArray), .int .i64 0, .string (⟨#[]⟩ : ByteArray), .int .u64 0, .int .u64 0]) ?_ 2 _ rfl; (with_reducible repeat (first | refine blk_drewN ?_ _ | refine blk_drew ?_ | refine blk_alloc ?_ _)); refine blk_put (cs := #[.string ((rd_T39 t298 0).f0), .string (⟨#[]⟩ : ByteArray), .string (⟨#[]⟩ : ByteArray), .int .i64 0, .string (⟨#[]⟩ : ByteArray), .int .u64 0, .int .u64 0]) ?_ 1 _ rfl; (with_reducible repeat (first | refine blk_drewN ?_ _ | refine blk_drew ?_ | refine blk_alloc ?_ _)); refine blk_put (cs := #[.string (⟨#[]⟩ : ByteArray), .string (⟨#[]⟩ : ByteArray), .string (⟨#[]⟩ : ByteArray), .int .i64 0, .string (⟨#[]⟩ : ByteArray), .int .u64 0, .int .u64 0]) ?_ 0 _ rfl; (with_reducible repeat (first | refine blk_drewN ?_ _ | refine blk_drew ?_ | refine blk_alloc ?_ _)); exact BK297.out) Tryd.underlying29 rfl (by kernel_rfl)) rfl ?_
                exact ⟨by first | rfl | (simp [errW_none, errW_some] <;> rfl) | (simp [*, errW_none, errW_some] <;> rfl), by repeat (first | (with_reducible first | exact HB.out | apply below_alloc | apply pw_below_drewN | apply below_drew1 | refine below_set ?_ GE296.out | refine below_set ?_ GE297.out) | exact HB.out)⟩
              · rw [if_neg c9] at H
                exact absurd H (by simp)
            · rw [if_neg c8] at H
              exact absurd H (by simp)
          · rw [if_neg c7] at H
            exact absurd H (by simp)
        · rw [if_neg c6] at H
          exact absurd H (by simp)
      · rw [if_neg c5] at H
        exact absurd H (by simp)
    · rw [if_neg c4] at H
      exact absurd H (by simp)
  · rw [if_neg c3] at H
    exact absurd H (by simp)

end Go.Proofs.YthalhlobmbedhaaDoor.P
