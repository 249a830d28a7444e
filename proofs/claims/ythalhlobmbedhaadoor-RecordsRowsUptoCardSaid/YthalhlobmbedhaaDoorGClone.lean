import Derived.Test.YthalhlobmbedhaaDoorPx0
import Derived.WalkSpells
namespace Go.Proofs.YthalhlobmbedhaaDoor.P
open Go.RowKit Go.Proofs.YthalhlobmbedhaaDoorW.PrintWords Go.Proofs.YthalhlobmbedhaaDoorW.PrintLast Go.Proofs.YthalhlobmbedhaaDoorW.PrintMore

def slices_Clone_string_string.f (l0 : List ByteArray) : Option (List ByteArray) := if l0.length < 8796093022208 then some l0 else none

set_option maxHeartbeats 400000 in
set_option maxRecDepth 100000 in
theorem slices_Clone_string_string.calls (A0 : Option Addr) (c0 : Nat) (l0 : List ByteArray) (r : List ByteArray) (w : World) (hr0 : Kd.C Kd.string w A0 l0.length l0) (hc0 : l0.length ≤ c0) (h : slices_Clone_string_string.f l0 = some r) :
    Calls Tryd.prog 18 #[.slice A0 l0.length c0] w fun e w' => ∃ v0_ : Value, e = .returned v0_ ∧ Kd.R Kd.string 9 w' w.heap.size (fun _ => True) v0_ r ∧ Below w.heap.size w w' := by
  have hl : l0.length < 8796093022208 := by unfold slices_Clone_string_string.f at h; split at h; assumption; cases h
  unfold slices_Clone_string_string.f at h
  rw [if_pos hl] at h
  injection h with h
  subst h
  have HR := Aside0.mk hr0
  have HC := Aside0.mk hc0
  have HL := Aside0.mk hl
  clear hr0 hc0 hl
  have hu25 := Tryd.underlying25
  have h1 := fun A n c n1 c1 (w : World) => Lib.run_eql_slice_nil (P := Tryd.prog) w 25 9 A n c n1 c1 Tryd.underlying25
  cases A0 with
  | none =>
    have e0 : l0 = [] := by
      rcases Nat.eq_zero_or_pos l0.length with e | e
      · exact List.eq_nil_of_length_eq_zero e
      · obtain ⟨ad, _, e1, _⟩ := Kd.C_get HR.out ByteArray.empty 0 (by omega) (by omega)
        cases e1
    subst e0
    go_enter Tryd.func18, Tryd.ntmps18
    go_wp2
    go_ret
    exact ⟨_, rfl, Kd.R_nil _ _ _ _ _, Below.refl _ _⟩
  | some a =>
    go_enter Tryd.func18, Tryd.ntmps18
    go_wp2_with (first | ((with_reducible refine gate_dst (N := 5) rfl ?_); refine Kd.R_lit Kd.string _ 9 ?hg (N := 5) ?hd (xs := ([] : List ByteArray)) (inner := []) (ok := fun _ => True) (okp := fun _ => True) ?hr ?hp (fun _ hk => hk) trivial (Below.refl _ _) (Nat.le_refl _) (by simp) ?_; (case hd => rfl); (case hg => rfl); (case hr => first | (go_simp; done) | (go_simp; rfl)); (case hp => exact (Reps.none _ _)); intro v1 w1 ho hb hg_ hnew_; clear hg_ hnew_; have HO := Aside0.mk ho; have HB := Aside0.mk hb; clear ho hb) | ((with_reducible refine gate_builtin (b := .append) (xs := #[.tmp 5, .tmp 6]) rfl ?_); at_builtin; refine Kd.R_append_rows Kd.string (w0 := w) w.heap.size rfl (.tmp 5) (.tmp 6) 25 9 (.string ⟨#[]⟩) 16 rfl Tryd.underlying25 info9 rfl (by decide) (by omega) v1 [] l0 _ _ _ (fun _ => True) (fun _ => False) rfl rfl HO.out (Kd.C_below HR.out HB.out) (fun _ _ h => h) (fun _ h => h.elim) (fun _ _ => trivial) HB.out HB.out.size ?aL ?_; (case aL => have := HL.out; simp only [List.length_nil]; omega); intro v2 w2 ho hb hg hat; have HO2 := Aside0.mk ho; have HB2 := Aside0.mk hb; clear ho hb hg hat; obtain ⟨Ao, co, eo⟩ := Kd.R_slice HO2.out; subst eo))
    go_ret
    exact ⟨_, rfl, HO2.out, HB2.out⟩
end Go.Proofs.YthalhlobmbedhaaDoor.P
