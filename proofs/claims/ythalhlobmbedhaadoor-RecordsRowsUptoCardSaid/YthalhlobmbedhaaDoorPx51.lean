-- PRINTED by gprint.py (a program of this session over the kit's print) out of the translation. Not trusted: Lean checks it.
import Derived.Test.YthalhlobmbedhaaDoorPx0
import Derived.Test.YthalhlobmbedhaaDoorPx46
import Derived.Test.YthalhlobmbedhaaDoorPx47
namespace Go.Proofs.YthalhlobmbedhaaDoor.P
open Go.RowKit Go.Proofs.YthalhlobmbedhaaDoorW.PrintWords Go.Proofs.YthalhlobmbedhaaDoorW.PrintLast Go.Proofs.YthalhlobmbedhaaDoorW.PrintMore
attribute [local go_sem] max2_int min2_int max_two min_two max_three min_three max_four min_four   -- for this text's walks alone
set_option linter.unusedVariables false
set_option linter.unusedSimpArgs false

/-! ### records_CheckRow: function 8 -/
def records_CheckRow.f (a0_0 : ByteArray) (a0_1 : ByteArray) (a0_2 : ByteArray) (a0_3 : Int) (a0_4 : ByteArray) (a0_5 : Int) (a0_6 : Int) : Option ((List (S39))) := (records_text.f a0_0).bind fun bt213 => ((records_text.f a0_1).bind fun bt218 => ((records_text.f a0_2).bind fun bt223 => ((records_num.f (IntKind.u64.wrap (a0_3))).bind fun bt228 => ((records_text.f a0_4).bind fun bt233 => ((records_num.f a0_5).bind fun bt238 => ((records_num.f a0_6).bind fun bt243 => (some (([(⟨bt213.1, bt213.2.1, bt213.2.2⟩ : S39), (⟨bt218.1, bt218.2.1, bt218.2.2⟩ : S39), (⟨bt223.1, bt223.2.1, bt223.2.2⟩ : S39), (⟨bt228.1, bt228.2.1, bt228.2.2⟩ : S39), (⟨bt233.1, bt233.2.1, bt233.2.2⟩ : S39), (⟨bt238.1, bt238.2.1, bt238.2.2⟩ : S39), (⟨bt243.1, bt243.2.1, bt243.2.2⟩ : S39)] : List (S39))))))))))
def records_CheckRow.T1 : Bool × List (List Nat × List Nat) := (true, [([], []), ([0], [0]), ([1], [1]), ([], []), ([3], [3]), ([4, 2], [4]), ([], []), ([6], [6]), ([7, 5], [7]), ([], []), ([9], [9]), ([10], [10]), ([11, 8], [11]), ([], []), ([13], [13]), ([14, 12], [14]), ([], []), ([16], [16]), ([17, 15], [17]), ([], []), ([19], [19]), ([20, 18], [20]), ([2, 5, 8, 12, 15, 18, 21], [2, 5, 8, 12, 15, 18, 21]), ([22], [22]), ([23, 21, 0, 1, 2, 3, 4, 5, 6, 7, 8, 9, 10, 11, 12, 13, 14, 15, 16, 17, 18, 19, 20, 21, 22, 23], [23])])
def records_CheckRow.B1 : List Nat := [0, 1, 3, 0, 8, 31, 0, 64, 255, 0, 512, 1536, 4095, 0, 8192, 32767, 0, 65536, 262143, 0, 524288, 2097151, 4194303, 8388607, 16777215]
theorem records_CheckRow.tab1 : rtab .any (opsOf Tryd.f8 1) = records_CheckRow.T1 := by kernel_rfl
theorem records_CheckRow.bits1 : waitsOk records_CheckRow.T1.2 records_CheckRow.B1 = true := by kernel_rfl
set_option maxHeartbeats 8000000 in
set_option maxRecDepth 100000 in
theorem records_CheckRow.calls (a0_0 : ByteArray) (a0_1 : ByteArray) (a0_2 : ByteArray) (a0_3 : Int) (a0_4 : ByteArray) (a0_5 : Int) (a0_6 : Int) (r : List (S39)) (w : World) (h : records_CheckRow.f a0_0 a0_1 a0_2 a0_3 a0_4 a0_5 a0_6 = some r) :
    Calls Tryd.prog 8 #[.agg #[.string a0_0, .string a0_1, .string a0_2, .int .i64 a0_3, .string a0_4, .int .u64 a0_5, .int .u64 a0_6]] w fun e w' => ∃ v0_ : Value, e = .returned (.agg #[v0_]) ∧ Kd.N k39 39 w' w.heap.size (fun k_ => (w.heap.size ≤ k_)) v0_ r ∧ Below w.heap.size w w' := by
  have hu29 := Tryd.underlying29
  have hu33 := Tryd.underlying33
  have HB := Aside0.mk (Below.refl w.heap.size w)
  have H : ((records_text.f a0_0).bind fun bt213 => ((records_text.f a0_1).bind fun bt218 => ((records_text.f a0_2).bind fun bt223 => ((records_num.f (IntKind.u64.wrap (a0_3))).bind fun bt228 => ((records_text.f a0_4).bind fun bt233 => ((records_num.f a0_5).bind fun bt238 => ((records_num.f a0_6).bind fun bt243 => (some (([(⟨bt213.1, bt213.2.1, bt213.2.2⟩ : S39), (⟨bt218.1, bt218.2.1, bt218.2.2⟩ : S39), (⟨bt223.1, bt223.2.1, bt223.2.2⟩ : S39), (⟨bt228.1, bt228.2.1, bt228.2.2⟩ : S39), (⟨bt233.1, bt233.2.1, bt233.2.2⟩ : S39), (⟨bt238.1, bt238.2.1, bt238.2.2⟩ : S39), (⟨bt243.1, bt243.2.1, bt243.2.2⟩ : S39)] : List (S39))))))))))) = some r := h
  clear h
  replace H := Option.bind_eq_some_iff.mp H
  obtain ⟨⟨t213, t214, t215⟩, A20, H⟩ := H
  replace H : ((records_text.f a0_1).bind fun bt218 => ((records_text.f a0_2).bind fun bt223 => ((records_num.f (IntKind.u64.wrap (a0_3))).bind fun bt228 => ((records_text.f a0_4).bind fun bt233 => ((records_num.f a0_5).bind fun bt238 => ((records_num.f a0_6).bind fun bt243 => (some (([(⟨t213, t214, t215⟩ : S39), (⟨bt218.1, bt218.2.1, bt218.2.2⟩ : S39), (⟨bt223.1, bt223.2.1, bt223.2.2⟩ : S39), (⟨bt228.1, bt228.2.1, bt228.2.2⟩ : S39), (⟨bt233.1, bt233.2.1, bt233.2.2⟩ : S39), (⟨bt238.1, bt238.2.1, bt238.2.2⟩ : S39), (⟨bt243.1, bt243.2.1, bt243.2.2⟩ : S39)] : List (S39)))))))))) = some r := H
  have A2 := Aside0.mk A20
  clear A20
  replace H := Option.bind_eq_some_iff.mp H
  obtain ⟨⟨t218, t219, t220⟩, A30, H⟩ := H
  replace H : ((records_text.f a0_2).bind fun bt223 => ((records_num.f (IntKind.u64.wrap (a0_3))).bind fun bt228 => ((records_text.f a0_4).bind fun bt233 => ((records_num.f a0_5).bind fun bt238 => ((records_num.f a0_6).bind fun bt243 => (some (([(⟨t213, t214, t215⟩ : S39), (⟨t218, t219, t220⟩ : S39), (⟨bt223.1, bt223.2.1, bt223.2.2⟩ : S39), (⟨bt228.1, bt228.2.1, bt228.2.2⟩ : S39), (⟨bt233.1, bt233.2.1, bt233.2.2⟩ : S39), (⟨bt238.1, bt238.2.1, bt238.2.2⟩ : S39), (⟨bt243.1, bt243.2.1, bt243.2.2⟩ : S39)] : List (S39))))))))) = some r := H
  have A3 := Aside0.mk A30
  clear A30
  replace H := Option.bind_eq_some_iff.mp H
  obtain ⟨⟨t223, t224, t225⟩, A40, H⟩ := H
  replace H : ((records_num.f (IntKind.u64.wrap (a0_3))).bind fun bt228 => ((records_text.f a0_4).bind fun bt233 => ((records_num.f a0_5).bind fun bt238 => ((records_num.f a0_6).bind fun bt243 => (some (([(⟨t213, t214, t215⟩ : S39), (⟨t218, t219, t220⟩ : S39), (⟨t223, t224, t225⟩ : S39), (⟨bt228.1, bt228.2.1, bt228.2.2⟩ : S39), (⟨bt233.1, bt233.2.1, bt233.2.2⟩ : S39), (⟨bt238.1, bt238.2.1, bt238.2.2⟩ : S39), (⟨bt243.1, bt243.2.1, bt243.2.2⟩ : S39)] : List (S39)))))))) = some r := H
  have A4 := Aside0.mk A40
  clear A40
  replace H := Option.bind_eq_some_iff.mp H
  obtain ⟨⟨t228, t229, t230⟩, A50, H⟩ := H
  replace H : ((records_text.f a0_4).bind fun bt233 => ((records_num.f a0_5).bind fun bt238 => ((records_num.f a0_6).bind fun bt243 => (some (([(⟨t213, t214, t215⟩ : S39), (⟨t218, t219, t220⟩ : S39), (⟨t223, t224, t225⟩ : S39), (⟨t228, t229, t230⟩ : S39), (⟨bt233.1, bt233.2.1, bt233.2.2⟩ : S39), (⟨bt238.1, bt238.2.1, bt238.2.2⟩ : S39), (⟨bt243.1, bt243.2.1, bt243.2.2⟩ : S39)] : List (S39))))))) = some r := H
  have A5 := Aside0.mk A50
  clear A50
  replace H := Option.bind_eq_some_iff.mp H
  obtain ⟨⟨t233, t234, t235⟩, A60, H⟩ := H
  replace H : ((records_num.f a0_5).bind fun bt238 => ((records_num.f a0_6).bind fun bt243 => (some (([(⟨t213, t214, t215⟩ : S39), (⟨t218, t219, t220⟩ : S39), (⟨t223, t224, t225⟩ : S39), (⟨t228, t229, t230⟩ : S39), (⟨t233, t234, t235⟩ : S39), (⟨bt238.1, bt238.2.1, bt238.2.2⟩ : S39), (⟨bt243.1, bt243.2.1, bt243.2.2⟩ : S39)] : List (S39)))))) = some r := H
  have A6 := Aside0.mk A60
  clear A60
  replace H := Option.bind_eq_some_iff.mp H
  obtain ⟨⟨t238, t239, t240⟩, A70, H⟩ := H
  replace H : ((records_num.f a0_6).bind fun bt243 => (some (([(⟨t213, t214, t215⟩ : S39), (⟨t218, t219, t220⟩ : S39), (⟨t223, t224, t225⟩ : S39), (⟨t228, t229, t230⟩ : S39), (⟨t233, t234, t235⟩ : S39), (⟨t238, t239, t240⟩ : S39), (⟨bt243.1, bt243.2.1, bt243.2.2⟩ : S39)] : List (S39))))) = some r := H
  have A7 := Aside0.mk A70
  clear A70
  replace H := Option.bind_eq_some_iff.mp H
  obtain ⟨⟨t243, t244, t245⟩, A80, H⟩ := H
  replace H : (some (([(⟨t213, t214, t215⟩ : S39), (⟨t218, t219, t220⟩ : S39), (⟨t223, t224, t225⟩ : S39), (⟨t228, t229, t230⟩ : S39), (⟨t233, t234, t235⟩ : S39), (⟨t238, t239, t240⟩ : S39), (⟨t243, t244, t245⟩ : S39)] : List (S39)))) = some r := H
  have A8 := Aside0.mk A80
  clear A80
  obtain ⟨y248, hy248⟩ : ∃ y_ : List (S39), y_ = (([(⟨t213, t214, t215⟩ : S39), (⟨t218, t219, t220⟩ : S39), (⟨t223, t224, t225⟩ : S39), (⟨t228, t229, t230⟩ : S39), (⟨t233, t234, t235⟩ : S39), (⟨t238, t239, t240⟩ : S39), (⟨t243, t244, t245⟩ : S39)] : List (S39))) := ⟨_, rfl⟩
  replace H : (some y248) = some r := by first | (rw [hy248]; with_reducible exact H) | (have H2_ := (Option.bind_some _ _).symm.trans H; rw [hy248]; with_reducible exact H2_) | (have H2_ := (Option.bind_some _ _).symm.trans H; with_reducible exact H2_) | with_reducible exact H | (rw [hy248]; exact H) | exact H
  have Ny248 := Aside0.mk hy248
  clear hy248
  obtain rfl := Option.some.inj H
  go_enter Tryd.func8, Tryd.ntmps8
  try go_wp2_with (first | ((with_reducible refine gate_dst (N := 1) rfl ?_); refine box_event ?hg (N := 1) ?hd (cs := #[.string a0_0, .string a0_1, .string a0_2, .int .i64 a0_3, .string a0_4, .int .u64 a0_5, .int .u64 a0_6]) (t := 29) ?hr ?_; (case hd => rfl); (case hg => rfl); (case hr => first | (go_simp; done) | (go_simp; rfl)); intro gb211 hg w9 hbox hb; have n0_ := Aside0.mk (below_step (by repeat (first | (with_reducible first | exact HB.out | apply below_alloc | apply pw_below_drewN | apply below_drew1) | exact HB.out)) hb); have n1_ := Aside0.mk (hbox); have n2_ := Aside0.mk ((by rw [hg]; exact (below_size (by repeat (first | (with_reducible first | exact HB.out | apply below_alloc | apply pw_below_drewN | apply below_drew1) | exact HB.out))) : w.heap.size ≤ gb211)); have n3_ := Aside0.mk ((by rw [hg]; exact (below_size (by repeat (first | (with_reducible first | exact HB.out | apply below_alloc | apply pw_below_drewN | apply below_drew1) | exact HB.out))) : w.heap.size ≤ gb211)); clear HB; have HB := n0_; have BK211 := n1_; have GW211 := n2_; have GE211 := n3_; clear n0_ n1_ n2_ n3_; clear hb hbox hg) | ((with_reducible refine gate_dst (N := 2) rfl ?_); refine box_event ?hg (N := 2) ?hd (cs := #[.slice none 0 0]) (t := 33) ?hr ?_; (case hd => rfl); (case hg => rfl); (case hr => first | (go_simp; done) | (go_simp; rfl)); intro gb212 hg w10 hbox hb; have n0_ := Aside0.mk (blk_below (g := gb211) (o := .cells #[.string a0_0, .string a0_1, .string a0_2, .int .i64 a0_3, .string a0_4, .int .u64 a0_5, .int .u64 a0_6] 29 (0, 0)) (by (with_reducible repeat (first | refine blk_drewN ?_ _ | refine blk_drew ?_ | refine blk_alloc ?_ _)); exact BK211.out) hb); have n1_ := Aside0.mk (below_step (by repeat (first | (with_reducible first | exact HB.out | apply below_alloc | apply pw_below_drewN | apply below_drew1 | refine below_set ?_ GE211.out) | exact HB.out)) hb); have n2_ := Aside0.mk (hbox); have n3_ := Aside0.mk ((by rw [hg]; exact (below_size (by repeat (first | (with_reducible first | exact HB.out | apply below_alloc | apply pw_below_drewN | apply below_drew1 | refine below_set ?_ GE211.out) | exact HB.out))) : w.heap.size ≤ gb212)); have n4_ := Aside0.mk ((by rw [hg]; exact (below_size (by repeat (first | (with_reducible first | exact HB.out | apply below_alloc | apply pw_below_drewN | apply below_drew1 | refine below_set ?_ GE211.out) | exact HB.out))) : w.heap.size ≤ gb212)); have n5_ := Aside0.mk ((by rw [hg]; exact Nat.ne_of_lt (blk_lt (g := gb211) (o := .cells #[.string a0_0, .string a0_1, .string a0_2, .int .i64 a0_3, .string a0_4, .int .u64 a0_5, .int .u64 a0_6] 29 (0, 0)) (by (with_reducible repeat (first | refine blk_drewN ?_ _ | refine blk_drew ?_ | refine blk_alloc ?_ _)); exact BK211.out)) : gb211 ≠ gb212)); have n6_ := Aside0.mk ((by rw [hg]; exact Nat.ne_of_gt (blk_lt (g := gb211) (o := .cells #[.string a0_0, .string a0_1, .string a0_2, .int .i64 a0_3, .string a0_4, .int .u64 a0_5, .int .u64 a0_6] 29 (0, 0)) (by (with_reducible repeat (first | refine blk_drewN ?_ _ | refine blk_drew ?_ | refine blk_alloc ?_ _)); exact BK211.out)) : gb212 ≠ gb211)); clear BK211; clear HB; have BK211 := n0_; have HB := n1_; have BK212 := n2_; have GW212 := n3_; have GE212 := n4_; have NB211_212 := n5_; have NB212_211 := n6_; clear n0_ n1_ n2_ n3_ n4_ n5_ n6_; clear hb hbox hg))
  have n0_ := Aside0.mk (blk_drew BK211.out)
  have n1_ := Aside0.mk (blk_drew BK212.out)
  have n2_ := Aside0.mk (below_drew1 HB.out)
  clear BK211
  clear BK212
  clear HB
  have BK211 := n0_
  have BK212 := n1_
  have HB := n2_
  clear n0_ n1_ n2_
  refine start_ (n := 25) (S := fun w' => w'.cell? ⟨gb211, 0, none⟩ = some (.string a0_0) ∧ w'.cell? ⟨gb211, 1, none⟩ = some (.string a0_1) ∧ w'.cell? ⟨gb211, 2, none⟩ = some (.string a0_2) ∧ w'.cell? ⟨gb211, 3, none⟩ = some (.int .i64 a0_3) ∧ w'.cell? ⟨gb211, 4, none⟩ = some (.string a0_4) ∧ w'.cell? ⟨gb211, 5, none⟩ = some (.int .u64 a0_5) ∧ w'.cell? ⟨gb211, 6, none⟩ = some (.int .u64 a0_6)) (ds := []) #[false, false, false, false, false, false, false, false, false, false, false, false, false, false, false, false, false, false, false, false, false, false, false, false, false] (by kernel_rfl) rfl rfl ⟨(blk_cell BK211.out 0).trans rfl, (blk_cell BK211.out 1).trans rfl, (blk_cell BK211.out 2).trans rfl, (blk_cell BK211.out 3).trans rfl, (blk_cell BK211.out 4).trans rfl, (blk_cell BK211.out 5).trans rfl, (blk_cell BK211.out 6).trans rfl⟩ (fun hHeld => ?_); refine with_tabW records_CheckRow.tab1 records_CheckRow.bits1 (fun HT_ HW_ => ?_)
  generalize w10.drew = w11 at BK211 BK212 HB hHeld ⊢
  refine pure_ (i := 0) (N := some 3) (v := ?_) (a' := ?_) #[true, false, false, false, false, false, false, false, false, false, false, false, false, false, false, false, false, false, false, false, false, false, false, false, false] rfl rfl (any_of HT_.out (by kernel_rfl)) (fun _ _ _ h => h) (Or.inl ⟨by rfl, ?_⟩) ?_ ?_
  rotate_left
  · intro w'
    go_simp
    with_reducible rfl
  rotate_left
  · simp only [Act.put, List.setIfInBounds_toArray, List.set_cons_zero, List.set_cons_succ, i64_w, i32_w]
    rfl
  refine pure_ (i := 3) (N := some 6) (v := ?_) (a' := ?_) #[true, false, false, true, false, false, false, false, false, false, false, false, false, false, false, false, false, false, false, false, false, false, false, false, false] rfl rfl (any_of HT_.out (by kernel_rfl)) (fun _ _ _ h => h) (Or.inl ⟨by rfl, ?_⟩) ?_ ?_
  rotate_left
  · intro w'
    go_simp
    with_reducible rfl
  rotate_left
  · simp only [Act.put, List.setIfInBounds_toArray, List.set_cons_zero, List.set_cons_succ, i64_w, i32_w]
    rfl
  refine pure_ (i := 6) (N := some 9) (v := ?_) (a' := ?_) #[true, false, false, true, false, false, true, false, false, false, false, false, false, false, false, false, false, false, false, false, false, false, false, false, false] rfl rfl (any_of HT_.out (by kernel_rfl)) (fun _ _ _ h => h) (Or.inl ⟨by rfl, ?_⟩) ?_ ?_
  rotate_left
  · intro w'
    go_simp
    with_reducible rfl
  rotate_left
  · simp only [Act.put, List.setIfInBounds_toArray, List.set_cons_zero, List.set_cons_succ, i64_w, i32_w]
    rfl
  refine pure_ (i := 9) (N := some 12) (v := ?_) (a' := ?_) #[true, false, false, true, false, false, true, false, false, true, false, false, false, false, false, false, false, false, false, false, false, false, false, false, false] rfl rfl (any_of HT_.out (by kernel_rfl)) (fun _ _ _ h => h) (Or.inl ⟨by rfl, ?_⟩) ?_ ?_
  rotate_left
  · intro w'
    go_simp
    with_reducible rfl
  rotate_left
  · simp only [Act.put, List.setIfInBounds_toArray, List.set_cons_zero, List.set_cons_succ, i64_w, i32_w]
    rfl
  refine pure_ (i := 13) (N := some 16) (v := ?_) (a' := ?_) #[true, false, false, true, false, false, true, false, false, true, false, false, false, true, false, false, false, false, false, false, false, false, false, false, false] rfl rfl (any_of HT_.out (by kernel_rfl)) (fun _ _ _ h => h) (Or.inl ⟨by rfl, ?_⟩) ?_ ?_
  rotate_left
  · intro w'
    go_simp
    with_reducible rfl
  rotate_left
  · simp only [Act.put, List.setIfInBounds_toArray, List.set_cons_zero, List.set_cons_succ, i64_w, i32_w]
    rfl
  refine pure_ (i := 16) (N := some 19) (v := ?_) (a' := ?_) #[true, false, false, true, false, false, true, false, false, true, false, false, false, true, false, false, true, false, false, false, false, false, false, false, false] rfl rfl (any_of HT_.out (by kernel_rfl)) (fun _ _ _ h => h) (Or.inl ⟨by rfl, ?_⟩) ?_ ?_
  rotate_left
  · intro w'
    go_simp
    with_reducible rfl
  rotate_left
  · simp only [Act.put, List.setIfInBounds_toArray, List.set_cons_zero, List.set_cons_succ, i64_w, i32_w]
    rfl
  refine pure_ (i := 19) (N := some 22) (v := ?_) (a' := ?_) #[true, false, false, true, false, false, true, false, false, true, false, false, false, true, false, false, true, false, false, true, false, false, false, false, false] rfl rfl (any_of HT_.out (by kernel_rfl)) (fun _ _ _ h => h) (Or.inl ⟨by rfl, ?_⟩) ?_ ?_
  rotate_left
  · intro w'
    go_simp
    with_reducible rfl
  rotate_left
  · simp only [Act.put, List.setIfInBounds_toArray, List.set_cons_zero, List.set_cons_succ, i64_w, i32_w]
    rfl
  refine take_ (i := 1) (N := some 4) (v := ?_) (a' := ?_) #[true, true, false, true, false, false, true, false, false, true, false, false, false, true, false, false, true, false, false, true, false, false, false, false, false] rfl rfl (take_ofW HT_.out HW_.out (by kernel_rfl)) (fun _ _ _ h => h) (Or.inl ⟨by rfl, ?_⟩) hHeld ?_ ?_
  rotate_left
  · rintro w' ⟨s0, s1, s2, s3, s4, s5, s6⟩
    go_simp
    with_reducible rfl
  rotate_left
  · simp only [Act.put, List.setIfInBounds_toArray, List.set_cons_zero, List.set_cons_succ, i64_w, i32_w]
    rfl
  refine take_ (i := 4) (N := some 7) (v := ?_) (a' := ?_) #[true, true, false, true, true, false, true, false, false, true, false, false, false, true, false, false, true, false, false, true, false, false, false, false, false] rfl rfl (take_ofW HT_.out HW_.out (by kernel_rfl)) (fun _ _ _ h => h) (Or.inl ⟨by rfl, ?_⟩) hHeld ?_ ?_
  rotate_left
  · rintro w' ⟨s0, s1, s2, s3, s4, s5, s6⟩
    go_simp
    with_reducible rfl
  rotate_left
  · simp only [Act.put, List.setIfInBounds_toArray, List.set_cons_zero, List.set_cons_succ, i64_w, i32_w]
    rfl
  refine take_ (i := 7) (N := some 10) (v := ?_) (a' := ?_) #[true, true, false, true, true, false, true, true, false, true, false, false, false, true, false, false, true, false, false, true, false, false, false, false, false] rfl rfl (take_ofW HT_.out HW_.out (by kernel_rfl)) (fun _ _ _ h => h) (Or.inl ⟨by rfl, ?_⟩) hHeld ?_ ?_
  rotate_left
  · rintro w' ⟨s0, s1, s2, s3, s4, s5, s6⟩
    go_simp
    with_reducible rfl
  rotate_left
  · simp only [Act.put, List.setIfInBounds_toArray, List.set_cons_zero, List.set_cons_succ, i64_w, i32_w]
    rfl
  refine take_ (i := 10) (N := some 13) (v := ?_) (a' := ?_) #[true, true, false, true, true, false, true, true, false, true, true, false, false, true, false, false, true, false, false, true, false, false, false, false, false] rfl rfl (take_ofW HT_.out HW_.out (by kernel_rfl)) (fun _ _ _ h => h) (Or.inl ⟨by rfl, ?_⟩) hHeld ?_ ?_
  rotate_left
  · rintro w' ⟨s0, s1, s2, s3, s4, s5, s6⟩
    go_simp
    with_reducible rfl
  rotate_left
  · simp only [Act.put, List.setIfInBounds_toArray, List.set_cons_zero, List.set_cons_succ, i64_w, i32_w]
    rfl
  refine pure_ (i := 11) (N := some 14) (v := ?_) (a' := ?_) #[true, true, false, true, true, false, true, true, false, true, true, true, false, true, false, false, true, false, false, true, false, false, false, false, false] rfl rfl (any_of HT_.out (by kernel_rfl)) (fun _ _ _ h => h) (Or.inl ⟨by rfl, ?_⟩) ?_ ?_
  rotate_left
  · intro w'
    go_simp
    with_reducible rfl
  rotate_left
  · simp only [Act.put, List.setIfInBounds_toArray, List.set_cons_zero, List.set_cons_succ, i64_w, i32_w]
    rfl
  refine take_ (i := 14) (N := some 17) (v := ?_) (a' := ?_) #[true, true, false, true, true, false, true, true, false, true, true, true, false, true, true, false, true, false, false, true, false, false, false, false, false] rfl rfl (take_ofW HT_.out HW_.out (by kernel_rfl)) (fun _ _ _ h => h) (Or.inl ⟨by rfl, ?_⟩) hHeld ?_ ?_
  rotate_left
  · rintro w' ⟨s0, s1, s2, s3, s4, s5, s6⟩
    go_simp
    with_reducible rfl
  rotate_left
  · simp only [Act.put, List.setIfInBounds_toArray, List.set_cons_zero, List.set_cons_succ, i64_w, i32_w]
    rfl
  refine take_ (i := 17) (N := some 20) (v := ?_) (a' := ?_) #[true, true, false, true, true, false, true, true, false, true, true, true, false, true, true, false, true, true, false, true, false, false, false, false, false] rfl rfl (take_ofW HT_.out HW_.out (by kernel_rfl)) (fun _ _ _ h => h) (Or.inl ⟨by rfl, ?_⟩) hHeld ?_ ?_
  rotate_left
  · rintro w' ⟨s0, s1, s2, s3, s4, s5, s6⟩
    go_simp
    with_reducible rfl
  rotate_left
  · simp only [Act.put, List.setIfInBounds_toArray, List.set_cons_zero, List.set_cons_succ, i64_w, i32_w]
    rfl
  refine take_ (i := 20) (N := some 23) (v := ?_) (a' := ?_) #[true, true, false, true, true, false, true, true, false, true, true, true, false, true, true, false, true, true, false, true, true, false, false, false, false] rfl rfl (take_ofW HT_.out HW_.out (by kernel_rfl)) (fun _ _ _ h => h) (Or.inl ⟨by rfl, ?_⟩) hHeld ?_ ?_
  rotate_left
  · rintro w' ⟨s0, s1, s2, s3, s4, s5, s6⟩
    go_simp
    with_reducible rfl
  rotate_left
  · simp only [Act.put, List.setIfInBounds_toArray, List.set_cons_zero, List.set_cons_succ, i64_w, i32_w]
    rfl
  refine one_ (i := 2) (N := some 5) #[true, true, true, true, true, false, true, true, false, true, true, true, false, true, true, false, true, true, false, true, true, false, false, false, false] rfl rfl (one_of HT_.out (by kernel_rfl)) (by decide) (fun K hK => ?_)
  refine goes_ Tryd.func16 (by kernel_rfl) rfl #[.string a0_0] (by rfl) rfl rfl (by (try simp only [List.map_toArray, List.map_cons, List.map_nil]); first | done | rfl | (simp only [List.length_drop, List.length_take]; rfl)) ?_
  with_reducible refine (records_text.calls a0_0 t213 t214 t215 _ A2.out).mono ?_
  rintro e w12 ⟨v216, rfl, ho0, hb⟩
  refine ⟨_, rfl, ?_⟩
  have n0_ := Aside0.mk (Kd.R_lower (Kd.R_newM (M := fun k_ => (w.heap.size ≤ k_)) ho0 (below_size (by repeat (first | (with_reducible first | exact HB.out | apply below_alloc | apply pw_below_drewN | apply below_drew1 | refine below_set ?_ GE211.out | refine below_set ?_ GE212.out) | exact HB.out))) (fun k_ h_ => h_)) (below_size (by repeat (first | (with_reducible first | exact HB.out | apply below_alloc | apply pw_below_drewN | apply below_drew1 | refine below_set ?_ GE211.out | refine below_set ?_ GE212.out) | exact HB.out))))
  have n1_ := Aside0.mk (blk_below (g := gb211) (o := .cells #[.string a0_0, .string a0_1, .string a0_2, .int .i64 a0_3, .string a0_4, .int .u64 a0_5, .int .u64 a0_6] 29 (0, 0)) (by (with_reducible repeat (first | refine blk_drewN ?_ _ | refine blk_drew ?_ | refine blk_alloc ?_ _)); exact BK211.out) hb)
  have n2_ := Aside0.mk (blk_below (g := gb212) (o := .cells #[.slice none 0 0] 33 (0, 0)) (by (with_reducible repeat (first | refine blk_drewN ?_ _ | refine blk_drew ?_ | refine blk_alloc ?_ _)); exact BK212.out) hb)
  have n3_ := Aside0.mk (below_step (by repeat (first | (with_reducible first | exact HB.out | apply below_alloc | apply pw_below_drewN | apply below_drew1 | refine below_set ?_ GE211.out | refine below_set ?_ GE212.out) | exact HB.out)) hb)
  clear BK211
  clear BK212
  clear HB
  have HO217 := n0_
  have BK211 := n1_
  have BK212 := n2_
  have HB := n3_
  clear n0_ n1_ n2_ n3_
  (try clear hb)
  (try clear hb2)
  (try clear hk)
  (try clear hi)
  (try clear ho0)
  refine hK.out _ _ ⟨(blk_cell BK211.out 0).trans rfl, (blk_cell BK211.out 1).trans rfl, (blk_cell BK211.out 2).trans rfl, (blk_cell BK211.out 3).trans rfl, (blk_cell BK211.out 4).trans rfl, (blk_cell BK211.out 5).trans rfl, (blk_cell BK211.out 6).trans rfl⟩ (fun hHeld => ?_)
  clear hK K
  refine norm_ (a' := ?_) ?_ ?_
  rotate_left
  · show Act.put _ (some 5) _ = _
    simp only [Act.put, List.setIfInBounds_toArray, List.set_cons_zero, List.set_cons_succ, i64_w, i32_w]
    rfl
  refine one_ (i := 5) (N := some 8) #[true, true, true, true, true, true, true, true, false, true, true, true, false, true, true, false, true, true, false, true, true, false, false, false, false] rfl rfl (one_of HT_.out (by kernel_rfl)) (by decide) (fun K hK => ?_)
  refine goes_ Tryd.func16 (by kernel_rfl) rfl #[.string a0_1] (by rfl) rfl rfl (by (try simp only [List.map_toArray, List.map_cons, List.map_nil]); first | done | rfl | (simp only [List.length_drop, List.length_take]; rfl)) ?_
  with_reducible refine (records_text.calls a0_1 t218 t219 t220 _ A3.out).mono ?_
  rintro e w13 ⟨v221, rfl, ho0, hb⟩
  refine ⟨_, rfl, ?_⟩
  have n0_ := Aside0.mk (Kd.R_elder' (by (with_reducible repeat (first | apply Kd.R_alloc | apply Kd.R_drewN | apply Kd.R_drew)); exact HO217.out) (Kd.R_base ho0) hb)
  have n1_ := Aside0.mk (Kd.R_lower (Kd.R_new' (Kd.R_newM (M := fun k_ => (w.heap.size ≤ k_)) ho0 (below_size (by repeat (first | (with_reducible first | exact HB.out | apply below_alloc | apply pw_below_drewN | apply below_drew1 | refine below_set ?_ GE211.out | refine below_set ?_ GE212.out) | exact HB.out))) (fun k_ h_ => h_)) (Kd.R_lt (by (with_reducible repeat (first | apply Kd.R_alloc | apply Kd.R_drewN | apply Kd.R_drew)); exact HO217.out))) (below_size (by repeat (first | (with_reducible first | exact HB.out | apply below_alloc | apply pw_below_drewN | apply below_drew1 | refine below_set ?_ GE211.out | refine below_set ?_ GE212.out) | exact HB.out))))
  have n2_ := Aside0.mk (blk_below (g := gb211) (o := .cells #[.string a0_0, .string a0_1, .string a0_2, .int .i64 a0_3, .string a0_4, .int .u64 a0_5, .int .u64 a0_6] 29 (0, 0)) (by (with_reducible repeat (first | refine blk_drewN ?_ _ | refine blk_drew ?_ | refine blk_alloc ?_ _)); exact BK211.out) hb)
  have n3_ := Aside0.mk (blk_below (g := gb212) (o := .cells #[.slice none 0 0] 33 (0, 0)) (by (with_reducible repeat (first | refine blk_drewN ?_ _ | refine blk_drew ?_ | refine blk_alloc ?_ _)); exact BK212.out) hb)
  have n4_ := Aside0.mk (below_step (by repeat (first | (with_reducible first | exact HB.out | apply below_alloc | apply pw_below_drewN | apply below_drew1 | refine below_set ?_ GE211.out | refine below_set ?_ GE212.out) | exact HB.out)) hb)
  clear HO217
  clear BK211
  clear BK212
  clear HB
  have HO217 := n0_
  have HO222 := n1_
  have BK211 := n2_
  have BK212 := n3_
  have HB := n4_
  clear n0_ n1_ n2_ n3_ n4_
  (try clear hb)
  (try clear hb2)
  (try clear hk)
  (try clear hi)
  (try clear ho0)
  refine hK.out _ _ ⟨(blk_cell BK211.out 0).trans rfl, (blk_cell BK211.out 1).trans rfl, (blk_cell BK211.out 2).trans rfl, (blk_cell BK211.out 3).trans rfl, (blk_cell BK211.out 4).trans rfl, (blk_cell BK211.out 5).trans rfl, (blk_cell BK211.out 6).trans rfl⟩ (fun hHeld => ?_)
  clear hK K
  refine norm_ (a' := ?_) ?_ ?_
  rotate_left
  · show Act.put _ (some 8) _ = _
    simp only [Act.put, List.setIfInBounds_toArray, List.set_cons_zero, List.set_cons_succ, i64_w, i32_w]
    rfl
  refine one_ (i := 8) (N := some 11) #[true, true, true, true, true, true, true, true, true, true, true, true, false, true, true, false, true, true, false, true, true, false, false, false, false] rfl rfl (one_of HT_.out (by kernel_rfl)) (by decide) (fun K hK => ?_)
  refine goes_ Tryd.func16 (by kernel_rfl) rfl #[.string a0_2] (by rfl) rfl rfl (by (try simp only [List.map_toArray, List.map_cons, List.map_nil]); first | done | rfl | (simp only [List.length_drop, List.length_take]; rfl)) ?_
  with_reducible refine (records_text.calls a0_2 t223 t224 t225 _ A4.out).mono ?_
  rintro e w14 ⟨v226, rfl, ho0, hb⟩
  refine ⟨_, rfl, ?_⟩
  have n0_ := Aside0.mk (Kd.R_elder' (by (with_reducible repeat (first | apply Kd.R_alloc | apply Kd.R_drewN | apply Kd.R_drew)); exact HO217.out) (Kd.R_base ho0) hb)
  have n1_ := Aside0.mk (Kd.R_elder' (by (with_reducible repeat (first | apply Kd.R_alloc | apply Kd.R_drewN | apply Kd.R_drew)); exact HO222.out) (Kd.R_base ho0) hb)
  have n2_ := Aside0.mk (Kd.R_lower (Kd.R_new' (Kd.R_new' (Kd.R_newM (M := fun k_ => (w.heap.size ≤ k_)) ho0 (below_size (by repeat (first | (with_reducible first | exact HB.out | apply below_alloc | apply pw_below_drewN | apply below_drew1 | refine below_set ?_ GE211.out | refine below_set ?_ GE212.out) | exact HB.out))) (fun k_ h_ => h_)) (Kd.R_lt (by (with_reducible repeat (first | apply Kd.R_alloc | apply Kd.R_drewN | apply Kd.R_drew)); exact HO217.out))) (Kd.R_lt (by (with_reducible repeat (first | apply Kd.R_alloc | apply Kd.R_drewN | apply Kd.R_drew)); exact HO222.out))) (below_size (by repeat (first | (with_reducible first | exact HB.out | apply below_alloc | apply pw_below_drewN | apply below_drew1 | refine below_set ?_ GE211.out | refine below_set ?_ GE212.out) | exact HB.out))))
  have n3_ := Aside0.mk (blk_below (g := gb211) (o := .cells #[.string a0_0, .string a0_1, .string a0_2, .int .i64 a0_3, .string a0_4, .int .u64 a0_5, .int .u64 a0_6] 29 (0, 0)) (by (with_reducible repeat (first | refine blk_drewN ?_ _ | refine blk_drew ?_ | refine blk_alloc ?_ _)); exact BK211.out) hb)
  have n4_ := Aside0.mk (blk_below (g := gb212) (o := .cells #[.slice none 0 0] 33 (0, 0)) (by (with_reducible repeat (first | refine blk_drewN ?_ _ | refine blk_drew ?_ | refine blk_alloc ?_ _)); exact BK212.out) hb)
  have n5_ := Aside0.mk (below_step (by repeat (first | (with_reducible first | exact HB.out | apply below_alloc | apply pw_below_drewN | apply below_drew1 | refine below_set ?_ GE211.out | refine below_set ?_ GE212.out) | exact HB.out)) hb)
  clear HO217
  clear HO222
  clear BK211
  clear BK212
  clear HB
  have HO217 := n0_
  have HO222 := n1_
  have HO227 := n2_
  have BK211 := n3_
  have BK212 := n4_
  have HB := n5_
  clear n0_ n1_ n2_ n3_ n4_ n5_
  (try clear hb)
  (try clear hb2)
  (try clear hk)
  (try clear hi)
  (try clear ho0)
  refine hK.out _ _ ⟨(blk_cell BK211.out 0).trans rfl, (blk_cell BK211.out 1).trans rfl, (blk_cell BK211.out 2).trans rfl, (blk_cell BK211.out 3).trans rfl, (blk_cell BK211.out 4).trans rfl, (blk_cell BK211.out 5).trans rfl, (blk_cell BK211.out 6).trans rfl⟩ (fun hHeld => ?_)
  clear hK K
  refine norm_ (a' := ?_) ?_ ?_
  rotate_left
  · show Act.put _ (some 11) _ = _
    simp only [Act.put, List.setIfInBounds_toArray, List.set_cons_zero, List.set_cons_succ, i64_w, i32_w]
    rfl
  refine one_ (i := 12) (N := some 15) #[true, true, true, true, true, true, true, true, true, true, true, true, true, true, true, false, true, true, false, true, true, false, false, false, false] rfl rfl (one_of HT_.out (by kernel_rfl)) (by decide) (fun K hK => ?_)
  refine goes_ Tryd.func17 (by kernel_rfl) rfl #[.int .u64 (IntKind.u64.wrap (a0_3))] (by rfl) rfl rfl (by (try simp only [List.map_toArray, List.map_cons, List.map_nil]); first | done | rfl | (simp only [List.length_drop, List.length_take]; rfl)) ?_
  with_reducible refine (records_num.calls (IntKind.u64.wrap (a0_3)) t228 t229 t230 _ A5.out).mono ?_
  rintro e w15 ⟨v231, rfl, ho0, hb⟩
  refine ⟨_, rfl, ?_⟩
  have n0_ := Aside0.mk (Kd.R_elder' (by (with_reducible repeat (first | apply Kd.R_alloc | apply Kd.R_drewN | apply Kd.R_drew)); exact HO217.out) (Kd.R_base ho0) hb)
  have n1_ := Aside0.mk (Kd.R_elder' (by (with_reducible repeat (first | apply Kd.R_alloc | apply Kd.R_drewN | apply Kd.R_drew)); exact HO222.out) (Kd.R_base ho0) hb)
  have n2_ := Aside0.mk (Kd.R_elder' (by (with_reducible repeat (first | apply Kd.R_alloc | apply Kd.R_drewN | apply Kd.R_drew)); exact HO227.out) (Kd.R_base ho0) hb)
  have n3_ := Aside0.mk (Kd.R_lower (Kd.R_new' (Kd.R_new' (Kd.R_new' (Kd.R_newM (M := fun k_ => (w.heap.size ≤ k_)) ho0 (below_size (by repeat (first | (with_reducible first | exact HB.out | apply below_alloc | apply pw_below_drewN | apply below_drew1 | refine below_set ?_ GE211.out | refine below_set ?_ GE212.out) | exact HB.out))) (fun k_ h_ => h_)) (Kd.R_lt (by (with_reducible repeat (first | apply Kd.R_alloc | apply Kd.R_drewN | apply Kd.R_drew)); exact HO217.out))) (Kd.R_lt (by (with_reducible repeat (first | apply Kd.R_alloc | apply Kd.R_drewN | apply Kd.R_drew)); exact HO222.out))) (Kd.R_lt (by (with_reducible repeat (first | apply Kd.R_alloc | apply Kd.R_drewN | apply Kd.R_drew)); exact HO227.out))) (below_size (by repeat (first | (with_reducible first | exact HB.out | apply below_alloc | apply pw_below_drewN | apply below_drew1 | refine below_set ?_ GE211.out | refine below_set ?_ GE212.out) | exact HB.out))))
  have n4_ := Aside0.mk (blk_below (g := gb211) (o := .cells #[.string a0_0, .string a0_1, .string a0_2, .int .i64 a0_3, .string a0_4, .int .u64 a0_5, .int .u64 a0_6] 29 (0, 0)) (by (with_reducible repeat (first | refine blk_drewN ?_ _ | refine blk_drew ?_ | refine blk_alloc ?_ _)); exact BK211.out) hb)
  have n5_ := Aside0.mk (blk_below (g := gb212) (o := .cells #[.slice none 0 0] 33 (0, 0)) (by (with_reducible repeat (first | refine blk_drewN ?_ _ | refine blk_drew ?_ | refine blk_alloc ?_ _)); exact BK212.out) hb)
  have n6_ := Aside0.mk (below_step (by repeat (first | (with_reducible first | exact HB.out | apply below_alloc | apply pw_below_drewN | apply below_drew1 | refine below_set ?_ GE211.out | refine below_set ?_ GE212.out) | exact HB.out)) hb)
  clear HO217
  clear HO222
  clear HO227
  clear BK211
  clear BK212
  clear HB
  have HO217 := n0_
  have HO222 := n1_
  have HO227 := n2_
  have HO232 := n3_
  have BK211 := n4_
  have BK212 := n5_
  have HB := n6_
  clear n0_ n1_ n2_ n3_ n4_ n5_ n6_
  (try clear hb)
  (try clear hb2)
  (try clear hk)
  (try clear hi)
  (try clear ho0)
  refine hK.out _ _ ⟨(blk_cell BK211.out 0).trans rfl, (blk_cell BK211.out 1).trans rfl, (blk_cell BK211.out 2).trans rfl, (blk_cell BK211.out 3).trans rfl, (blk_cell BK211.out 4).trans rfl, (blk_cell BK211.out 5).trans rfl, (blk_cell BK211.out 6).trans rfl⟩ (fun hHeld => ?_)
  clear hK K
  refine norm_ (a' := ?_) ?_ ?_
  rotate_left
  · show Act.put _ (some 15) _ = _
    simp only [Act.put, List.setIfInBounds_toArray, List.set_cons_zero, List.set_cons_succ, i64_w, i32_w]
    rfl
  refine one_ (i := 15) (N := some 18) #[true, true, true, true, true, true, true, true, true, true, true, true, true, true, true, true, true, true, false, true, true, false, false, false, false] rfl rfl (one_of HT_.out (by kernel_rfl)) (by decide) (fun K hK => ?_)
  refine goes_ Tryd.func16 (by kernel_rfl) rfl #[.string a0_4] (by rfl) rfl rfl (by (try simp only [List.map_toArray, List.map_cons, List.map_nil]); first | done | rfl | (simp only [List.length_drop, List.length_take]; rfl)) ?_
  with_reducible refine (records_text.calls a0_4 t233 t234 t235 _ A6.out).mono ?_
  rintro e w16 ⟨v236, rfl, ho0, hb⟩
  refine ⟨_, rfl, ?_⟩
  have n0_ := Aside0.mk (Kd.R_elder' (by (with_reducible repeat (first | apply Kd.R_alloc | apply Kd.R_drewN | apply Kd.R_drew)); exact HO217.out) (Kd.R_base ho0) hb)
  have n1_ := Aside0.mk (Kd.R_elder' (by (with_reducible repeat (first | apply Kd.R_alloc | apply Kd.R_drewN | apply Kd.R_drew)); exact HO222.out) (Kd.R_base ho0) hb)
  have n2_ := Aside0.mk (Kd.R_elder' (by (with_reducible repeat (first | apply Kd.R_alloc | apply Kd.R_drewN | apply Kd.R_drew)); exact HO227.out) (Kd.R_base ho0) hb)
  have n3_ := Aside0.mk (Kd.R_elder' (by (with_reducible repeat (first | apply Kd.R_alloc | apply Kd.R_drewN | apply Kd.R_drew)); exact HO232.out) (Kd.R_base ho0) hb)
  have n4_ := Aside0.mk (Kd.R_lower (Kd.R_new' (Kd.R_new' (Kd.R_new' (Kd.R_new' (Kd.R_newM (M := fun k_ => (w.heap.size ≤ k_)) ho0 (below_size (by repeat (first | (with_reducible first | exact HB.out | apply below_alloc | apply pw_below_drewN | apply below_drew1 | refine below_set ?_ GE211.out | refine below_set ?_ GE212.out) | exact HB.out))) (fun k_ h_ => h_)) (Kd.R_lt (by (with_reducible repeat (first | apply Kd.R_alloc | apply Kd.R_drewN | apply Kd.R_drew)); exact HO217.out))) (Kd.R_lt (by (with_reducible repeat (first | apply Kd.R_alloc | apply Kd.R_drewN | apply Kd.R_drew)); exact HO222.out))) (Kd.R_lt (by (with_reducible repeat (first | apply Kd.R_alloc | apply Kd.R_drewN | apply Kd.R_drew)); exact HO227.out))) (Kd.R_lt (by (with_reducible repeat (first | apply Kd.R_alloc | apply Kd.R_drewN | apply Kd.R_drew)); exact HO232.out))) (below_size (by repeat (first | (with_reducible first | exact HB.out | apply below_alloc | apply pw_below_drewN | apply below_drew1 | refine below_set ?_ GE211.out | refine below_set ?_ GE212.out) | exact HB.out))))
  have n5_ := Aside0.mk (blk_below (g := gb211) (o := .cells #[.string a0_0, .string a0_1, .string a0_2, .int .i64 a0_3, .string a0_4, .int .u64 a0_5, .int .u64 a0_6] 29 (0, 0)) (by (with_reducible repeat (first | refine blk_drewN ?_ _ | refine blk_drew ?_ | refine blk_alloc ?_ _)); exact BK211.out) hb)
  have n6_ := Aside0.mk (blk_below (g := gb212) (o := .cells #[.slice none 0 0] 33 (0, 0)) (by (with_reducible repeat (first | refine blk_drewN ?_ _ | refine blk_drew ?_ | refine blk_alloc ?_ _)); exact BK212.out) hb)
  have n7_ := Aside0.mk (below_step (by repeat (first | (with_reducible first | exact HB.out | apply below_alloc | apply pw_below_drewN | apply below_drew1 | refine below_set ?_ GE211.out | refine below_set ?_ GE212.out) | exact HB.out)) hb)
  clear HO217
  clear HO222
  clear HO227
  clear HO232
  clear BK211
  clear BK212
  clear HB
  have HO217 := n0_
  have HO222 := n1_
  have HO227 := n2_
  have HO232 := n3_
  have HO237 := n4_
  have BK211 := n5_
  have BK212 := n6_
  have HB := n7_
  clear n0_ n1_ n2_ n3_ n4_ n5_ n6_ n7_
  (try clear hb)
  (try clear hb2)
  (try clear hk)
  (try clear hi)
  (try clear ho0)
  refine hK.out _ _ ⟨(blk_cell BK211.out 0).trans rfl, (blk_cell BK211.out 1).trans rfl, (blk_cell BK211.out 2).trans rfl, (blk_cell BK211.out 3).trans rfl, (blk_cell BK211.out 4).trans rfl, (blk_cell BK211.out 5).trans rfl, (blk_cell BK211.out 6).trans rfl⟩ (fun hHeld => ?_)
  clear hK K
  refine norm_ (a' := ?_) ?_ ?_
  rotate_left
  · show Act.put _ (some 18) _ = _
    simp only [Act.put, List.setIfInBounds_toArray, List.set_cons_zero, List.set_cons_succ, i64_w, i32_w]
    rfl
  refine one_ (i := 18) (N := some 21) #[true, true, true, true, true, true, true, true, true, true, true, true, true, true, true, true, true, true, true, true, true, false, false, false, false] rfl rfl (one_of HT_.out (by kernel_rfl)) (by decide) (fun K hK => ?_)
  refine goes_ Tryd.func17 (by kernel_rfl) rfl #[.int .u64 a0_5] (by rfl) rfl rfl (by (try simp only [List.map_toArray, List.map_cons, List.map_nil]); first | done | rfl | (simp only [List.length_drop, List.length_take]; rfl)) ?_
  with_reducible refine (records_num.calls a0_5 t238 t239 t240 _ A7.out).mono ?_
  rintro e w17 ⟨v241, rfl, ho0, hb⟩
  refine ⟨_, rfl, ?_⟩
  have n0_ := Aside0.mk (Kd.R_elder' (by (with_reducible repeat (first | apply Kd.R_alloc | apply Kd.R_drewN | apply Kd.R_drew)); exact HO217.out) (Kd.R_base ho0) hb)
  have n1_ := Aside0.mk (Kd.R_elder' (by (with_reducible repeat (first | apply Kd.R_alloc | apply Kd.R_drewN | apply Kd.R_drew)); exact HO222.out) (Kd.R_base ho0) hb)
  have n2_ := Aside0.mk (Kd.R_elder' (by (with_reducible repeat (first | apply Kd.R_alloc | apply Kd.R_drewN | apply Kd.R_drew)); exact HO227.out) (Kd.R_base ho0) hb)
  have n3_ := Aside0.mk (Kd.R_elder' (by (with_reducible repeat (first | apply Kd.R_alloc | apply Kd.R_drewN | apply Kd.R_drew)); exact HO232.out) (Kd.R_base ho0) hb)
  have n4_ := Aside0.mk (Kd.R_elder' (by (with_reducible repeat (first | apply Kd.R_alloc | apply Kd.R_drewN | apply Kd.R_drew)); exact HO237.out) (Kd.R_base ho0) hb)
  have n5_ := Aside0.mk (Kd.R_lower (Kd.R_new' (Kd.R_new' (Kd.R_new' (Kd.R_new' (Kd.R_new' (Kd.R_newM (M := fun k_ => (w.heap.size ≤ k_)) ho0 (below_size (by repeat (first | (with_reducible first | exact HB.out | apply below_alloc | apply pw_below_drewN | apply below_drew1 | refine below_set ?_ GE211.out | refine below_set ?_ GE212.out) | exact HB.out))) (fun k_ h_ => h_)) (Kd.R_lt (by (with_reducible repeat (first | apply Kd.R_alloc | apply Kd.R_drewN | apply Kd.R_drew)); exact HO217.out))) (Kd.R_lt (by (with_reducible repeat (first | apply Kd.R_alloc | apply Kd.R_drewN | apply Kd.R_drew)); exact HO222.out))) (Kd.R_lt (by (with_reducible repeat (first | apply Kd.R_alloc | apply Kd.R_drewN | apply Kd.R_drew)); exact HO227.out))) (Kd.R_lt (by (with_reducible repeat (first | apply Kd.R_alloc | apply Kd.R_drewN | apply Kd.R_drew)); exact HO232.out))) (Kd.R_lt (by (with_reducible repeat (first | apply Kd.R_alloc | apply Kd.R_drewN | apply Kd.R_drew)); exact HO237.out))) (below_size (by repeat (first | (with_reducible first | exact HB.out | apply below_alloc | apply pw_below_drewN | apply below_drew1 | refine below_set ?_ GE211.out | refine below_set ?_ GE212.out) | exact HB.out))))
  have n6_ := Aside0.mk (blk_below (g := gb211) (o := .cells #[.string a0_0, .string a0_1, .string a0_2, .int .i64 a0_3, .string a0_4, .int .u64 a0_5, .int .u64 a0_6] 29 (0, 0)) (by (with_reducible repeat (first | refine blk_drewN ?_ _ | refine blk_drew ?_ | refine blk_alloc ?_ _)); exact BK211.out) hb)
  have n7_ := Aside0.mk (blk_below (g := gb212) (o := .cells #[.slice none 0 0] 33 (0, 0)) (by (with_reducible repeat (first | refine blk_drewN ?_ _ | refine blk_drew ?_ | refine blk_alloc ?_ _)); exact BK212.out) hb)
  have n8_ := Aside0.mk (below_step (by repeat (first | (with_reducible first | exact HB.out | apply below_alloc | apply pw_below_drewN | apply below_drew1 | refine below_set ?_ GE211.out | refine below_set ?_ GE212.out) | exact HB.out)) hb)
  clear HO217
  clear HO222
  clear HO227
  clear HO232
  clear HO237
  clear BK211
  clear BK212
  clear HB
  have HO217 := n0_
  have HO222 := n1_
  have HO227 := n2_
  have HO232 := n3_
  have HO237 := n4_
  have HO242 := n5_
  have BK211 := n6_
  have BK212 := n7_
  have HB := n8_
  clear n0_ n1_ n2_ n3_ n4_ n5_ n6_ n7_ n8_
  (try clear hb)
  (try clear hb2)
  (try clear hk)
  (try clear hi)
  (try clear ho0)
  refine hK.out _ _ ⟨(blk_cell BK211.out 0).trans rfl, (blk_cell BK211.out 1).trans rfl, (blk_cell BK211.out 2).trans rfl, (blk_cell BK211.out 3).trans rfl, (blk_cell BK211.out 4).trans rfl, (blk_cell BK211.out 5).trans rfl, (blk_cell BK211.out 6).trans rfl⟩ (fun hHeld => ?_)
  clear hK K
  refine norm_ (a' := ?_) ?_ ?_
  rotate_left
  · show Act.put _ (some 21) _ = _
    simp only [Act.put, List.setIfInBounds_toArray, List.set_cons_zero, List.set_cons_succ, i64_w, i32_w]
    rfl
  refine one_ (i := 21) (N := some 24) #[true, true, true, true, true, true, true, true, true, true, true, true, true, true, true, true, true, true, true, true, true, true, false, false, false] rfl rfl (one_of HT_.out (by kernel_rfl)) (by decide) (fun K hK => ?_)
  refine goes_ Tryd.func17 (by kernel_rfl) rfl #[.int .u64 a0_6] (by rfl) rfl rfl (by (try simp only [List.map_toArray, List.map_cons, List.map_nil]); first | done | rfl | (simp only [List.length_drop, List.length_take]; rfl)) ?_
  with_reducible refine (records_num.calls a0_6 t243 t244 t245 _ A8.out).mono ?_
  rintro e w18 ⟨v246, rfl, ho0, hb⟩
  refine ⟨_, rfl, ?_⟩
  have n0_ := Aside0.mk (Kd.R_elder' (by (with_reducible repeat (first | apply Kd.R_alloc | apply Kd.R_drewN | apply Kd.R_drew)); exact HO217.out) (Kd.R_base ho0) hb)
  have n1_ := Aside0.mk (Kd.R_elder' (by (with_reducible repeat (first | apply Kd.R_alloc | apply Kd.R_drewN | apply Kd.R_drew)); exact HO222.out) (Kd.R_base ho0) hb)
  have n2_ := Aside0.mk (Kd.R_elder' (by (with_reducible repeat (first | apply Kd.R_alloc | apply Kd.R_drewN | apply Kd.R_drew)); exact HO227.out) (Kd.R_base ho0) hb)
  have n3_ := Aside0.mk (Kd.R_elder' (by (with_reducible repeat (first | apply Kd.R_alloc | apply Kd.R_drewN | apply Kd.R_drew)); exact HO232.out) (Kd.R_base ho0) hb)
  have n4_ := Aside0.mk (Kd.R_elder' (by (with_reducible repeat (first | apply Kd.R_alloc | apply Kd.R_drewN | apply Kd.R_drew)); exact HO237.out) (Kd.R_base ho0) hb)
  have n5_ := Aside0.mk (Kd.R_elder' (by (with_reducible repeat (first | apply Kd.R_alloc | apply Kd.R_drewN | apply Kd.R_drew)); exact HO242.out) (Kd.R_base ho0) hb)
  have n6_ := Aside0.mk (Kd.R_lower (Kd.R_new' (Kd.R_new' (Kd.R_new' (Kd.R_new' (Kd.R_new' (Kd.R_new' (Kd.R_newM (M := fun k_ => (w.heap.size ≤ k_)) ho0 (below_size (by repeat (first | (with_reducible first | exact HB.out | apply below_alloc | apply pw_below_drewN | apply below_drew1 | refine below_set ?_ GE211.out | refine below_set ?_ GE212.out) | exact HB.out))) (fun k_ h_ => h_)) (Kd.R_lt (by (with_reducible repeat (first | apply Kd.R_alloc | apply Kd.R_drewN | apply Kd.R_drew)); exact HO217.out))) (Kd.R_lt (by (with_reducible repeat (first | apply Kd.R_alloc | apply Kd.R_drewN | apply Kd.R_drew)); exact HO222.out))) (Kd.R_lt (by (with_reducible repeat (first | apply Kd.R_alloc | apply Kd.R_drewN | apply Kd.R_drew)); exact HO227.out))) (Kd.R_lt (by (with_reducible repeat (first | apply Kd.R_alloc | apply Kd.R_drewN | apply Kd.R_drew)); exact HO232.out))) (Kd.R_lt (by (with_reducible repeat (first | apply Kd.R_alloc | apply Kd.R_drewN | apply Kd.R_drew)); exact HO237.out))) (Kd.R_lt (by (with_reducible repeat (first | apply Kd.R_alloc | apply Kd.R_drewN | apply Kd.R_drew)); exact HO242.out))) (below_size (by repeat (first | (with_reducible first | exact HB.out | apply below_alloc | apply pw_below_drewN | apply below_drew1 | refine below_set ?_ GE211.out | refine below_set ?_ GE212.out) | exact HB.out))))
  have n7_ := Aside0.mk (blk_below (g := gb211) (o := .cells #[.string a0_0, .string a0_1, .string a0_2, .int .i64 a0_3, .string a0_4, .int .u64 a0_5, .int .u64 a0_6] 29 (0, 0)) (by (with_reducible repeat (first | refine blk_drewN ?_ _ | refine blk_drew ?_ | refine blk_alloc ?_ _)); exact BK211.out) hb)
  have n8_ := Aside0.mk (blk_below (g := gb212) (o := .cells #[.slice none 0 0] 33 (0, 0)) (by (with_reducible repeat (first | refine blk_drewN ?_ _ | refine blk_drew ?_ | refine blk_alloc ?_ _)); exact BK212.out) hb)
  have n9_ := Aside0.mk (below_step (by repeat (first | (with_reducible first | exact HB.out | apply below_alloc | apply pw_below_drewN | apply below_drew1 | refine below_set ?_ GE211.out | refine below_set ?_ GE212.out) | exact HB.out)) hb)
  clear HO217
  clear HO222
  clear HO227
  clear HO232
  clear HO237
  clear HO242
  clear BK211
  clear BK212
  clear HB
  have HO217 := n0_
  have HO222 := n1_
  have HO227 := n2_
  have HO232 := n3_
  have HO237 := n4_
  have HO242 := n5_
  have HO247 := n6_
  have BK211 := n7_
  have BK212 := n8_
  have HB := n9_
  clear n0_ n1_ n2_ n3_ n4_ n5_ n6_ n7_ n8_ n9_
  (try clear hb)
  (try clear hb2)
  (try clear hk)
  (try clear hi)
  (try clear ho0)
  obtain ⟨Ao19, co19, eo19⟩ := Kd.R_slice HO217.out
  (first | subst eo19 | (injection eo19 with f1_ f2_ f3_; have f4_ := f1_.symm; have f5_ := f3_.symm; clear f1_ f2_ f3_; subst f4_; subst f5_))
  obtain ⟨Ao20, co20, eo20⟩ := Kd.R_slice HO222.out
  (first | subst eo20 | (injection eo20 with f1_ f2_ f3_; have f4_ := f1_.symm; have f5_ := f3_.symm; clear f1_ f2_ f3_; subst f4_; subst f5_))
  obtain ⟨Ao21, co21, eo21⟩ := Kd.R_slice HO227.out
  (first | subst eo21 | (injection eo21 with f1_ f2_ f3_; have f4_ := f1_.symm; have f5_ := f3_.symm; clear f1_ f2_ f3_; subst f4_; subst f5_))
  obtain ⟨Ao22, co22, eo22⟩ := Kd.R_slice HO232.out
  (first | subst eo22 | (injection eo22 with f1_ f2_ f3_; have f4_ := f1_.symm; have f5_ := f3_.symm; clear f1_ f2_ f3_; subst f4_; subst f5_))
  obtain ⟨Ao23, co23, eo23⟩ := Kd.R_slice HO237.out
  (first | subst eo23 | (injection eo23 with f1_ f2_ f3_; have f4_ := f1_.symm; have f5_ := f3_.symm; clear f1_ f2_ f3_; subst f4_; subst f5_))
  obtain ⟨Ao24, co24, eo24⟩ := Kd.R_slice HO242.out
  (first | subst eo24 | (injection eo24 with f1_ f2_ f3_; have f4_ := f1_.symm; have f5_ := f3_.symm; clear f1_ f2_ f3_; subst f4_; subst f5_))
  obtain ⟨Ao25, co25, eo25⟩ := Kd.R_slice HO247.out
  (first | subst eo25 | (injection eo25 with f1_ f2_ f3_; have f4_ := f1_.symm; have f5_ := f3_.symm; clear f1_ f2_ f3_; subst f4_; subst f5_))
  refine hK.out _ _ ⟨(blk_cell BK211.out 0).trans rfl, (blk_cell BK211.out 1).trans rfl, (blk_cell BK211.out 2).trans rfl, (blk_cell BK211.out 3).trans rfl, (blk_cell BK211.out 4).trans rfl, (blk_cell BK211.out 5).trans rfl, (blk_cell BK211.out 6).trans rfl⟩ (fun hHeld => ?_)
  clear hK K
  refine norm_ (a' := ?_) ?_ ?_
  rotate_left
  · show Act.put _ (some 24) _ = _
    simp only [Act.put, List.setIfInBounds_toArray, List.set_cons_zero, List.set_cons_succ, i64_w, i32_w]
    rfl
  refine one_ (i := 22) (N := some 25) #[true, true, true, true, true, true, true, true, true, true, true, true, true, true, true, true, true, true, true, true, true, true, true, false, false] rfl rfl (one_of HT_.out (by kernel_rfl)) (by decide) (fun K hK => ?_)
  refine Kd.N_lit_step k39 _ 39 ?hg (N' := 25) ?hd (xs := ([(⟨t213, t214, t215⟩ : S39), (⟨t218, t219, t220⟩ : S39), (⟨t223, t224, t225⟩ : S39), (⟨t228, t229, t230⟩ : S39), (⟨t233, t234, t235⟩ : S39), (⟨t238, t239, t240⟩ : S39), (⟨t243, t244, t245⟩ : S39)] : List (S39))) (inner := [.string t213, .int .u64 t214, .slice Ao19 t215.length co19, .string t218, .int .u64 t219, .slice Ao20 t220.length co20, .string t223, .int .u64 t224, .slice Ao21 t225.length co21, .string t228, .int .u64 t229, .slice Ao22 t230.length co22, .string t233, .int .u64 t234, .slice Ao23 t235.length co23, .string t238, .int .u64 t239, .slice Ao24 t240.length co24, .string t243, .int .u64 t244, .slice Ao25 t245.length co25]) (ok := (fun k_ => (w.heap.size ≤ k_) ∧ k_ ≠ gb211 ∧ k_ ≠ gb212)) (okp := (fun k_ => (w.heap.size ≤ k_) ∧ k_ ≠ gb211 ∧ k_ ≠ gb212)) ?hr ?hp (fun _ hk => hk) ((show ∀ k_, w18.heap.size ≤ k_ → (fun k_ => (w.heap.size ≤ k_) ∧ k_ ≠ gb211 ∧ k_ ≠ gb212) k_ from fun k_ hk => ⟨(Nat.le_trans (below_size (by repeat (first | (with_reducible first | exact HB.out | apply below_alloc | apply pw_below_drewN | apply below_drew1 | refine below_set ?_ GE211.out | refine below_set ?_ GE212.out) | exact HB.out))) hk), Kd.freshB (g := gb211) (o := .cells #[.string a0_0, .string a0_1, .string a0_2, .int .i64 a0_3, .string a0_4, .int .u64 a0_5, .int .u64 a0_6] 29 (0, 0)) (by (with_reducible repeat (first | refine blk_drewN ?_ _ | refine blk_drew ?_ | refine blk_alloc ?_ _)); exact BK211.out) k_ hk, Kd.freshB (g := gb212) (o := .cells #[.slice none 0 0] 33 (0, 0)) (by (with_reducible repeat (first | refine blk_drewN ?_ _ | refine blk_drew ?_ | refine blk_alloc ?_ _)); exact BK212.out) k_ hk⟩) _ (Nat.le_refl _)) (Below.refl _ _) (Nat.le_refl _) (by simp) ?_; (case hd => rfl); (case hg => rfl); (case hr => first | (go_simp; done) | (go_simp; rfl)); (case hp => exact (Reps.c3 (show Kd.FK k39 _ _ (⟨t213, t214, t215⟩ : S39) [.string t213, .int .u64 t214, .slice Ao19 t215.length co19] from (k39_mkF _ _ (⟨t213, t214, t215⟩ : S39) (Kd.R_reads' (Kd.R_mono (ok' := (fun k_ => (w.heap.size ≤ k_) ∧ k_ ≠ gb211 ∧ k_ ≠ gb212)) (Kd.R_types (Kd.R_types (HO217.out) BK211.out (by decide)) BK212.out (by decide)) (fun k_ hk => ⟨hk.1.1.1.1.1.1.1.1.1, ⟨hk.1.2, hk.2⟩⟩))).2.1 (Kd.R_F (Kd.R_mono (ok' := (fun k_ => (w.heap.size ≤ k_) ∧ k_ ≠ gb211 ∧ k_ ≠ gb212)) (Kd.R_types (Kd.R_types (HO217.out) BK211.out (by decide)) BK212.out (by decide)) (fun k_ hk => ⟨hk.1.1.1.1.1.1.1.1.1, ⟨hk.1.2, hk.2⟩⟩))))) (Reps.c3 (show Kd.FK k39 _ _ (⟨t218, t219, t220⟩ : S39) [.string t218, .int .u64 t219, .slice Ao20 t220.length co20] from (k39_mkF _ _ (⟨t218, t219, t220⟩ : S39) (Kd.R_reads' (Kd.R_mono (ok' := (fun k_ => (w.heap.size ≤ k_) ∧ k_ ≠ gb211 ∧ k_ ≠ gb212)) (Kd.R_types (Kd.R_types (HO222.out) BK211.out (by decide)) BK212.out (by decide)) (fun k_ hk => ⟨hk.1.1.1.1.1.1.1.1.1, ⟨hk.1.2, hk.2⟩⟩))).2.1 (Kd.R_F (Kd.R_mono (ok' := (fun k_ => (w.heap.size ≤ k_) ∧ k_ ≠ gb211 ∧ k_ ≠ gb212)) (Kd.R_types (Kd.R_types (HO222.out) BK211.out (by decide)) BK212.out (by decide)) (fun k_ hk => ⟨hk.1.1.1.1.1.1.1.1.1, ⟨hk.1.2, hk.2⟩⟩))))) (Reps.c3 (show Kd.FK k39 _ _ (⟨t223, t224, t225⟩ : S39) [.string t223, .int .u64 t224, .slice Ao21 t225.length co21] from (k39_mkF _ _ (⟨t223, t224, t225⟩ : S39) (Kd.R_reads' (Kd.R_mono (ok' := (fun k_ => (w.heap.size ≤ k_) ∧ k_ ≠ gb211 ∧ k_ ≠ gb212)) (Kd.R_types (Kd.R_types (HO227.out) BK211.out (by decide)) BK212.out (by decide)) (fun k_ hk => ⟨hk.1.1.1.1.1.1.1.1.1, ⟨hk.1.2, hk.2⟩⟩))).2.1 (Kd.R_F (Kd.R_mono (ok' := (fun k_ => (w.heap.size ≤ k_) ∧ k_ ≠ gb211 ∧ k_ ≠ gb212)) (Kd.R_types (Kd.R_types (HO227.out) BK211.out (by decide)) BK212.out (by decide)) (fun k_ hk => ⟨hk.1.1.1.1.1.1.1.1.1, ⟨hk.1.2, hk.2⟩⟩))))) (Reps.c3 (show Kd.FK k39 _ _ (⟨t228, t229, t230⟩ : S39) [.string t228, .int .u64 t229, .slice Ao22 t230.length co22] from (k39_mkF _ _ (⟨t228, t229, t230⟩ : S39) (Kd.R_reads' (Kd.R_mono (ok' := (fun k_ => (w.heap.size ≤ k_) ∧ k_ ≠ gb211 ∧ k_ ≠ gb212)) (Kd.R_types (Kd.R_types (HO232.out) BK211.out (by decide)) BK212.out (by decide)) (fun k_ hk => ⟨hk.1.1.1.1.1.1.1.1.1, ⟨hk.1.2, hk.2⟩⟩))).2.1 (Kd.R_F (Kd.R_mono (ok' := (fun k_ => (w.heap.size ≤ k_) ∧ k_ ≠ gb211 ∧ k_ ≠ gb212)) (Kd.R_types (Kd.R_types (HO232.out) BK211.out (by decide)) BK212.out (by decide)) (fun k_ hk => ⟨hk.1.1.1.1.1.1.1.1.1, ⟨hk.1.2, hk.2⟩⟩))))) (Reps.c3 (show Kd.FK k39 _ _ (⟨t233, t234, t235⟩ : S39) [.string t233, .int .u64 t234, .slice Ao23 t235.length co23] from (k39_mkF _ _ (⟨t233, t234, t235⟩ : S39) (Kd.R_reads' (Kd.R_mono (ok' := (fun k_ => (w.heap.size ≤ k_) ∧ k_ ≠ gb211 ∧ k_ ≠ gb212)) (Kd.R_types (Kd.R_types (HO237.out) BK211.out (by decide)) BK212.out (by decide)) (fun k_ hk => ⟨hk.1.1.1.1.1.1.1.1.1, ⟨hk.1.2, hk.2⟩⟩))).2.1 (Kd.R_F (Kd.R_mono (ok' := (fun k_ => (w.heap.size ≤ k_) ∧ k_ ≠ gb211 ∧ k_ ≠ gb212)) (Kd.R_types (Kd.R_types (HO237.out) BK211.out (by decide)) BK212.out (by decide)) (fun k_ hk => ⟨hk.1.1.1.1.1.1.1.1.1, ⟨hk.1.2, hk.2⟩⟩))))) (Reps.c3 (show Kd.FK k39 _ _ (⟨t238, t239, t240⟩ : S39) [.string t238, .int .u64 t239, .slice Ao24 t240.length co24] from (k39_mkF _ _ (⟨t238, t239, t240⟩ : S39) (Kd.R_reads' (Kd.R_mono (ok' := (fun k_ => (w.heap.size ≤ k_) ∧ k_ ≠ gb211 ∧ k_ ≠ gb212)) (Kd.R_types (Kd.R_types (HO242.out) BK211.out (by decide)) BK212.out (by decide)) (fun k_ hk => ⟨hk.1.1.1.1.1.1.1.1.1, ⟨hk.1.2, hk.2⟩⟩))).2.1 (Kd.R_F (Kd.R_mono (ok' := (fun k_ => (w.heap.size ≤ k_) ∧ k_ ≠ gb211 ∧ k_ ≠ gb212)) (Kd.R_types (Kd.R_types (HO242.out) BK211.out (by decide)) BK212.out (by decide)) (fun k_ hk => ⟨hk.1.1.1.1.1.1.1.1.1, ⟨hk.1.2, hk.2⟩⟩))))) (Reps.c3 (show Kd.FK k39 _ _ (⟨t243, t244, t245⟩ : S39) [.string t243, .int .u64 t244, .slice Ao25 t245.length co25] from (k39_mkF _ _ (⟨t243, t244, t245⟩ : S39) (Kd.R_reads' (Kd.R_mono (ok' := (fun k_ => (w.heap.size ≤ k_) ∧ k_ ≠ gb211 ∧ k_ ≠ gb212)) (Kd.R_types (Kd.R_types (HO247.out) BK211.out (by decide)) BK212.out (by decide)) (fun k_ hk => ⟨hk.1.1.1.1.1.1.1.1.1, ⟨hk.1.2, hk.2⟩⟩))).2.1 (Kd.R_F (Kd.R_mono (ok' := (fun k_ => (w.heap.size ≤ k_) ∧ k_ ≠ gb211 ∧ k_ ≠ gb212)) (Kd.R_types (Kd.R_types (HO247.out) BK211.out (by decide)) BK212.out (by decide)) (fun k_ hk => ⟨hk.1.1.1.1.1.1.1.1.1, ⟨hk.1.2, hk.2⟩⟩))))) (Reps.none _ _)))))))))
  intro v249 w26 ho27 hb hg_ hnew_
  clear hg_ hnew_
  (first | rw [← Ny248.out] at ho27 | (simp only [Int.reduceToNat] at ho27; rw [← Ny248.out] at ho27))
  have n0_ := Aside0.mk (Kd.N_lower ho27 (below_size (by repeat (first | (with_reducible first | exact HB.out | apply below_alloc | apply pw_below_drewN | apply below_drew1 | refine below_set ?_ GE211.out | refine below_set ?_ GE212.out) | exact HB.out))))
  have n1_ := Aside0.mk (blk_below (g := gb211) (o := .cells #[.string a0_0, .string a0_1, .string a0_2, .int .i64 a0_3, .string a0_4, .int .u64 a0_5, .int .u64 a0_6] 29 (0, 0)) (by (with_reducible repeat (first | refine blk_drewN ?_ _ | refine blk_drew ?_ | refine blk_alloc ?_ _)); exact BK211.out) hb)
  have n2_ := Aside0.mk (blk_below (g := gb212) (o := .cells #[.slice none 0 0] 33 (0, 0)) (by (with_reducible repeat (first | refine blk_drewN ?_ _ | refine blk_drew ?_ | refine blk_alloc ?_ _)); exact BK212.out) hb)
  have n3_ := Aside0.mk (below_step (by repeat (first | (with_reducible first | exact HB.out | apply below_alloc | apply pw_below_drewN | apply below_drew1 | refine below_set ?_ GE211.out | refine below_set ?_ GE212.out) | exact HB.out)) hb)
  clear BK211
  clear BK212
  clear HB
  clear HO217
  clear HO222
  clear HO227
  clear HO232
  clear HO237
  clear HO242
  clear HO247
  have HO250 := n0_
  have BK211 := n1_
  have BK212 := n2_
  have HB := n3_
  clear n0_ n1_ n2_ n3_
  clear hb ho27
  obtain ⟨Ao28, co28, eo28⟩ := Kd.N_slice HO250.out
  (first | subst eo28 | (injection eo28 with f1_ f2_ f3_; have f4_ := f1_.symm; have f5_ := f3_.symm; clear f1_ f2_ f3_; subst f4_; subst f5_))
  refine hK.out _ _ ⟨(blk_cell BK211.out 0).trans rfl, (blk_cell BK211.out 1).trans rfl, (blk_cell BK211.out 2).trans rfl, (blk_cell BK211.out 3).trans rfl, (blk_cell BK211.out 4).trans rfl, (blk_cell BK211.out 5).trans rfl, (blk_cell BK211.out 6).trans rfl⟩ (fun hHeld => ?_)
  clear hK K
  refine norm_ (a' := ?_) ?_ ?_
  rotate_left
  · show Act.put _ (some 25) _ = _
    simp only [Act.put, List.setIfInBounds_toArray, List.set_cons_zero, List.set_cons_succ, i64_w, i32_w]
    rfl
  refine pure_ (i := 23) (N := some 26) (v := ?_) (a' := ?_) #[true, true, true, true, true, true, true, true, true, true, true, true, true, true, true, true, true, true, true, true, true, true, true, true, false] rfl rfl (any_of HT_.out (by kernel_rfl)) (fun _ _ _ h => h) (Or.inl ⟨by rfl, ?_⟩) ?_ ?_
  rotate_left
  · intro w'
    go_simp
    with_reducible rfl
  rotate_left
  · simp only [Act.put, List.setIfInBounds_toArray, List.set_cons_zero, List.set_cons_succ, i64_w, i32_w]
    rfl
  refine one_ (i := 24) (N := none) #[true, true, true, true, true, true, true, true, true, true, true, true, true, true, true, true, true, true, true, true, true, true, true, true, true] rfl rfl (one_of HT_.out (by kernel_rfl)) (by decide) (fun K hK => ?_)
  have hs29 : w26.cell? ⟨gb212, 0, none⟩ = some (.slice none 0 0) := (blk_cell BK212.out 0).trans rfl
  have hfs29 := blk_frozen BK212.out 0
  have hns29_0 := NB211_212.out
  have hms29_0 := NB212_211.out
  refine skip_ (w1 := ?_) (by rfl) rfl ?_ ?_
  rotate_left
  · go_simp
    rfl
  refine hK.out _ _ ⟨((cell_far (p := ⟨gb212, _, none⟩) NB211_212.out _).trans (hHeld.1)), ((cell_far (p := ⟨gb212, _, none⟩) NB211_212.out _).trans (hHeld.2.1)), ((cell_far (p := ⟨gb212, _, none⟩) NB211_212.out _).trans (hHeld.2.2.1)), ((cell_far (p := ⟨gb212, _, none⟩) NB211_212.out _).trans (hHeld.2.2.2.1)), ((cell_far (p := ⟨gb212, _, none⟩) NB211_212.out _).trans (hHeld.2.2.2.2.1)), ((cell_far (p := ⟨gb212, _, none⟩) NB211_212.out _).trans (hHeld.2.2.2.2.2.1)), ((cell_far (p := ⟨gb212, _, none⟩) NB211_212.out _).trans (hHeld.2.2.2.2.2.2))⟩ (fun hHeld => ?_)
  clear hK K
  refine done_ (done_of HT_.out (by kernel_rfl)) ?_
  try go_wp2
  refine bodyPost_ret (results_cell_row rfl _ _ gb212 33 #[.slice Ao28 y248.length co28] (0, 0) _ rfl (by (with_reducible repeat (first | refine blk_drewN ?_ _ | refine blk_drew ?_ | refine blk_alloc ?_ _)); refine blk_put (cs := #[.slice none 0 0]) ?_ 0 _ rfl; (with_reducible repeat (first | refine blk_drewN ?_ _ | refine blk_drew ?_ | refine blk_alloc ?_ _)); exact BK212.out) Tryd.underlying33 rfl (by kernel_rfl)) rfl ?_
  exact ⟨_, by first | rfl | (simp [errW_none, errW_some] <;> rfl) | (simp [*, errW_none, errW_some] <;> rfl), by (with_reducible repeat (first | apply Kd.N_alloc | apply Kd.N_drewN | apply Kd.N_drew)); exact Kd.N_mono (Kd.N_far (p := ⟨gb212, 0, none⟩) (Kd.N_mono HO250.out (fun k_ hk => (⟨hk, hk.2.2⟩ : _ ∧ k_ ≠ gb212))) (fun _ hk => hk.2) (.slice Ao28 y248.length co28)) (fun _ hk => hk.1.1), by repeat (first | (with_reducible first | exact HB.out | apply below_alloc | apply pw_below_drewN | apply below_drew1 | refine below_set ?_ GE211.out | refine below_set ?_ GE212.out) | exact HB.out)⟩

end Go.Proofs.YthalhlobmbedhaaDoor.P
