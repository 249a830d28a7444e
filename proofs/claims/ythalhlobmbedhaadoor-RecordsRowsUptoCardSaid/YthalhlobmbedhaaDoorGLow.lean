import Derived.Test.YthalhlobmbedhaaDoorPx0
import Derived.Lib.Hide
import Derived.WalkSpells
import Derived.Lib.Case
namespace Go.Proofs.YthalhlobmbedhaaDoor.P
open Go.RowKit Go.Proofs.YthalhlobmbedhaaDoorW.PrintWords Go.Proofs.YthalhlobmbedhaaDoorW.PrintLast Go.Proofs.YthalhlobmbedhaaDoorW.PrintMore

/-- 'A' to 'Z' as 'a' to 'z', byte by byte. -/
def lowS (s : ByteArray) : ByteArray := ⟨(s.data.toList.map Lib.lowerB).toArray⟩
def rows_Low.f (a0 : ByteArray) : Option ByteArray := if a0.size < 140737488355328 then some (lowS a0) else none
/-- The byte at place j behind k rounds. -/
def lowAt (s : ByteArray) (k j : Nat) : Int := if j < k then (Lib.lowerB (s.data.toList.getD j 0)).toNat else (s.data.toList.getD j 0).toNat
theorem lowAt_range (s : ByteArray) (k j : Nat) : 0 ≤ lowAt s k j ∧ lowAt s k j ≤ 255 := by
  unfold lowAt
  split
  · have := (Lib.lowerB (s.data.toList.getD j 0)).toNat_lt; omega
  · have := (s.data.toList.getD j 0).toNat_lt; omega
theorem lowAt_ne (s : ByteArray) (k j : Nat) (h : j ≠ k) : lowAt s (k + 1) j = lowAt s k j := by
  unfold lowAt
  by_cases h1 : j < k
  · rw [if_pos h1, if_pos (by omega)]
  · rw [if_neg h1, if_neg (by omega)]
theorem lowAt_self (s : ByteArray) (k : Nat) : lowAt s k k = (s.data.toList.getD k 0).toNat := by unfold lowAt; rw [if_neg (by omega)]
theorem lowAt_next (s : ByteArray) (k : Nat) : lowAt s (k + 1) k = (Lib.lowerB (s.data.toList.getD k 0)).toNat := by unfold lowAt; rw [if_pos (by omega)]
theorem lowAt_up (s : ByteArray) (k : Nat) (h1 : 65 ≤ lowAt s k k) (h2 : lowAt s k k ≤ 90) : lowAt s (k + 1) k = lowAt s k k + 32 := by
  rw [lowAt_self] at *
  rw [lowAt_next]
  exact Lib.lowerB_int _ (by rw [Lib.isUpperB_int]; simp only [Bool.and_eq_true, decide_eq_true_eq]; omega)
theorem lowAt_stay (s : ByteArray) (k : Nat) (h : ¬ (65 ≤ lowAt s k k ∧ lowAt s k k ≤ 90)) : lowAt s (k + 1) k = lowAt s k k := by
  rw [lowAt_self] at *
  rw [lowAt_next, Lib.lowerB_of_not _ (by rw [Lib.isUpperB_int]; simp only [Bool.and_eq_false_iff, decide_eq_false_iff_not]; omega)]

structure LowRel (s : ByteArray) (w : World) (k : Nat) (wr : World) : Prop where
  cell : ∀ j, j < s.size → wr.cell? ⟨w.heap.size, j, none⟩ = some (.int .u8 (lowAt s k j))
  froz : ∀ j, j < s.size → wr.frozen? ⟨w.heap.size, j, none⟩ = false
  below : Below w.heap.size w wr

theorem LowRel.start (s : ByteArray) (w : World) : LowRel s w 0 (Lib.bytesWorld w 5 s) := by
  refine ⟨fun j hj => ?_, fun j hj => ?_, ?_⟩
  · rw [Lib.bytesWorld_cell w 5 s j hj]; unfold lowAt; rw [if_neg (by omega)]
  · have hz : s.size ≤ (Lib.bytesCells w 5 s).size := by simp [Lib.bytesCells]
    simp only [World.frozen?, Lib.bytesWorld_at_new, Bool.and_eq_false_iff, decide_eq_false_iff_not]
    omega
  · exact ⟨rfl, rfl, rfl, by rw [Lib.bytesWorld_size]; omega, fun i hi => Lib.bytesWorld_at_old w 5 s i hi⟩
theorem LowRel.stay {s : ByteArray} {w wr : World} {k : Nat} (h : LowRel s w k wr) (hn : ¬ (65 ≤ lowAt s k k ∧ lowAt s k k ≤ 90)) : LowRel s w (k + 1) wr := by
  refine ⟨fun j hj => ?_, h.froz, h.below⟩
  rw [h.cell j hj]
  by_cases e : j = k
  · subst e; rw [lowAt_stay s j hn]
  · rw [lowAt_ne s k j e]
theorem LowRel.up {s : ByteArray} {w wr : World} {k : Nat} (h : LowRel s w k wr) (hk : k < s.size) (h1 : 65 ≤ lowAt s k k) (h2 : lowAt s k k ≤ 90) :
    LowRel s w (k + 1) (wr.setCell ⟨w.heap.size, k, none⟩ (.int .u8 (lowAt s k k + 97 - 65))) := by
  refine ⟨fun j hj => ?_, fun j hj => by rw [World.frozen?_setCell]; exact h.froz j hj, h.below.setCell (by simp) _⟩
  by_cases e : j = k
  · subst e
    rw [World.cell?_setCell_same _ _ _ (h.cell j hj), lowAt_up s j h1 h2, show lowAt s j j + 97 - 65 = lowAt s j j + 32 from by omega]
  · rw [World.cell?_setCell_other _ _ _ _ (by intro h_; injection h_ with _ h_; omega), h.cell j hj, lowAt_ne s k j e]
theorem lowS_size (s : ByteArray) : (lowS s).size = s.size := by
  show (lowS s).data.size = _
  simp [lowS]
theorem LowRel.done {s : ByteArray} {w wr : World} (h : LowRel s w s.size wr) (cap : Nat) :
    (convert 65 9 (.slice (some ⟨w.heap.size, 0, none⟩) s.size cap)).run Tryd.prog wr = .ok (.string (lowS s)) wr := by
  have hl : (s.data.toList.map Lib.lowerB).length = s.size := by simp
  have := run_convert_bytes_back (P := Tryd.prog) wr 65 9 5 ⟨w.heap.size, 0, none⟩ cap (s.data.toList.map Lib.lowerB) Tryd.underlying65 Tryd.underlying5 Tryd.underlying9 (fun j hj => by
    rw [hl] at hj
    rw [Addr.add_lit, Nat.zero_add, h.cell j hj]
    unfold lowAt
    rw [if_pos hj]
    have hj' : j < s.data.toList.length := by simpa using hj
    simp [List.getD, List.getElem?_eq_getElem hj'])
  rw [hl] at this
  exact this

set_option maxHeartbeats 400000 in
set_option maxRecDepth 100000 in
theorem rows_Low.calls (a0 : ByteArray) (r : ByteArray) (w : World) (h : rows_Low.f a0 = some r) :
    Calls Tryd.prog 21 #[.string a0] w fun e w' => e = .returned (.string r) ∧ Below w.heap.size w w' := by
  unfold rows_Low.f at h
  split at h
  case isFalse => cases h
  rename_i hs
  injection h with h
  subst h
  have hcv := Lib.run_convert_string_bytes (P := Tryd.prog) w 9 65 5 a0 Tryd.underlying9 Tryd.underlying65 Tryd.underlying5
  have hsm : a0.size ≤ 9223372036854775807 := by omega
  go_enter Tryd.func21, Tryd.ntmps21
  go_wp2
  go_loopw [10, 4, 5] (fun i _ _ wr => ∃ k : Nat, k ≤ a0.size ∧ i = .int .i64 k ∧ LowRel a0 w k wr) (fun i _ _ _ => a0.size - (intOf i).toNat)
  case atStart => exact ⟨0, Nat.zero_le _, rfl, LowRel.start a0 w⟩
  case round =>
    clear hcv
    obtain ⟨k, hk, rfl, hR⟩ := hrel
    by_cases hlt : k < a0.size
    · have hc := hR.cell k hlt
      have hf := hR.froz k hlt
      have hb := lowAt_range a0 k k
      have HR := Lib.hid hR
      clear hR
      go_wp2
      · exact ⟨⟨k + 1, by omega, by go_num, HR.out.up hlt (by assumption) (by assumption)⟩, by simp [intOf]; omega⟩
      · exact ⟨⟨k + 1, by omega, by go_num, HR.out.stay (by omega)⟩, by simp [intOf]; omega⟩
      · exact ⟨⟨k + 1, by omega, by go_num, HR.out.stay (by omega)⟩, by simp [intOf]; omega⟩
    · obtain rfl : a0.size = k := by omega
      have hd := hR.done (grownCap w a0.size 0 5)
      have HR := Lib.hid hR
      clear hR
      go_wp2
      go_ret
      exact ⟨rfl, HR.out.below⟩
end Go.Proofs.YthalhlobmbedhaaDoor.P
