import Derived.Test.YthalhlobmbedhaaDoorGLaw0
namespace Go.Proofs.YthalhlobmbedhaaDoor.P
open Go.Sort
open Go.RowKit Go.Proofs.YthalhlobmbedhaaDoorW.PrintWords Go.Proofs.YthalhlobmbedhaaDoorW.PrintLast Go.Proofs.YthalhlobmbedhaaDoorW.PrintMore

theorem sameTexts_l0 (l : List ByteArray) (hl : l.length < 2000000) : ∀ (n k : Nat) (i : Int), 0 ≤ i → i ≤ l.length → (l.length : Int) - i = n → n < k → musterref07_SameTexts.l0 k l l i = some true
  | n, 0, i, _, _, _, h => absurd h (by omega)
  | n, k + 1, i, h0, h1, h2, hk => by
    unfold musterref07_SameTexts.l0
    by_cases hi : i < (l.length : Int)
    · rw [if_pos hi, if_pos h0, if_pos hi, if_pos rfl]
      have hw : wrap64 (i + 1) = i + 1 := by unfold wrap64; omega
      rw [hw]
      exact sameTexts_l0 l hl (n - 1) k (i + 1) (by omega) (by omega) (by omega) (by omega)
    · rw [if_neg hi]
theorem sameTexts_self (l : List ByteArray) (hl : l.length < 2000000) (k : Nat) (hk : l.length < k) : musterref07_SameTexts.f k l l = some true := by
  unfold musterref07_SameTexts.f
  rw [if_pos rfl]
  exact sameTexts_l0 l hl l.length k 0 (by omega) (by omega) (by omega) hk
theorem sameRow_l0 (l : List S39) (hl : l.length < 2000000) (ht : ∀ x ∈ l, x.f2.length < 2000000) (M : Nat) (hM : ∀ x ∈ l, x.f2.length < M) : ∀ (n k : Nat) (i : Int), 0 ≤ i → i ≤ l.length → (l.length : Int) - i = n → n + M < k → musterref07_SameRow.l0 k i l l = some true
  | n, 0, i, _, _, _, h => absurd h (by omega)
  | n, k + 1, i, h0, h1, h2, hk => by
    unfold musterref07_SameRow.l0
    by_cases hi : i < (l.length : Int)
    · rw [if_pos hi, if_pos h0, if_pos hi, if_pos rfl, if_pos rfl]
      have hw : wrap64 (i + 1) = i + 1 := by unfold wrap64; omega
      have hm : rd_T39 l i ∈ l := by
        unfold rd_T39
        rw [List.getD_eq_getElem?_getD, List.getElem?_eq_getElem (h := by omega)]
        exact List.getElem_mem _
      rw [sameTexts_self _ (ht _ hm) k (by have := hM _ hm; omega)]
      simp only [Option.bind_some, if_true, hw]
      exact sameRow_l0 l hl ht M hM (n - 1) k (i + 1) (by omega) (by omega) (by omega) (by omega)
    · rw [if_neg hi]
theorem sameRow_self (l : List S39) (hl : l.length < 2000000) (ht : ∀ x ∈ l, x.f2.length < 2000000) : musterref07_SameRow.f 4000002 l l = some true := by
  unfold musterref07_SameRow.f
  rw [if_pos rfl]
  exact sameRow_l0 l hl ht 2000000 ht l.length _ 0 (by omega) (by omega) (by omega) (by omega)
theorem sameNRow (n0 n1 : ByteArray) (n2 n3 : Int) : musterref07_SameRow.f 4000002 (nRow n0 n1 n2 n3) (nRow n0 n1 n2 n3) = some true :=
  sameRow_self _ (by simp [nRow]) (by simp [nRow])
theorem sameSRow (s0 s1 s2 : ByteArray) (s3 : Int) (l4 : List ByteArray) (s5 s6 : Int) (hl : l4.length < 2000000) : musterref07_SameRow.f 4000002 (sRow s0 s1 s2 s3 l4 s5 s6) (sRow s0 s1 s2 s3 l4 s5 s6) = some true :=
  sameRow_self _ (by simp [sRow]) (by simp [sRow, hl])
theorem sameCRow (k0 k1 k2 : ByteArray) (k3 : Int) (k4 : ByteArray) (k5 k6 : Int) : musterref07_SameRow.f 4000002 (cRow k0 k1 k2 k3 k4 k5 k6) (cRow k0 k1 k2 k3 k4 k5 k6) = some true :=
  sameRow_self _ (by simp [cRow]) (by simp [cRow])
theorem sameService_self (s0 s1 s2 : ByteArray) (s3 : Int) (l4 : List ByteArray) (s5 s6 : Int) (hl : l4.length < 2000000) : musterref09_SameService.f 2000001 s0 s1 s2 s3 l4 s5 s6 s0 s1 s2 s3 l4 s5 s6 = some true := by
  unfold musterref09_SameService.f
  rw [if_pos rfl, if_pos rfl, if_pos rfl, if_pos rfl, sameTexts_self l4 hl _ (by omega)]
  simp
theorem cells_f (l : List S39) (n : Nat) (h : l.length + n < 2000000) : records_cells.f l (n : Int) = some (l ++ List.replicate n z39) := by
  unfold records_cells.f api_Cell.f
  simp only [Option.bind_some, List.length_nil, List.nil_append]
  rw [if_pos (by omega)]
  simp only [Option.bind_some]
  rw [if_pos (by omega), if_pos (by simp; omega)]
  simp
theorem rowNode_n (n0 n1 : ByteArray) (n2 n3 : Int) : records_RowNode.f (nRow n0 n1 n2 n3) = some (n0, n1, n2, n3) := by
  unfold records_RowNode.f
  rw [show (4 : Int) = ((4 : Nat) : Int) from rfl, cells_f _ 4 (by simp [nRow])]
  rfl
theorem rowNode_1 (n0 : ByteArray) : records_RowNode.f [⟨n0, 0, []⟩] = some (n0, ⟨#[]⟩, 0, 0) := by
  unfold records_RowNode.f
  rw [show (4 : Int) = ((4 : Nat) : Int) from rfl, cells_f _ 4 (by simp)]
  rfl
theorem wrap_back (x : Int) (h : -9223372036854775808 ≤ x ∧ x < 9223372036854775808) : wrap64 (IntKind.u64.wrap x) = x := by
  simp only [wrap64, IntKind.wrap, go_sem] <;> omega
theorem rowService_s (s0 s1 s2 : ByteArray) (s3 : Int) (l4 : List ByteArray) (s5 s6 : Int) (h3 : -9223372036854775808 ≤ s3 ∧ s3 < 9223372036854775808) (hl : l4.length < 2000000) :
    records_RowService.f (sRow s0 s1 s2 s3 l4 s5 s6) = some (s0, s1, s2, s3, l4, s5, s6) := by
  unfold records_RowService.f
  rw [show (7 : Int) = ((7 : Nat) : Int) from rfl, cells_f _ 7 (by simp [sRow])]
  have : slices_Clone_string_string.f l4 = some l4 := by unfold slices_Clone_string_string.f; rw [if_pos (by omega)]
  show (slices_Clone_string_string.f l4).bind (fun t => some (s0, s1, s2, wrap64 (IntKind.u64.wrap s3), t, s5, s6)) = _
  rw [this, wrap_back s3 h3]
  rfl
theorem rowService_0 : records_RowService.f [] = some (⟨#[]⟩, ⟨#[]⟩, ⟨#[]⟩, 0, [], 0, 0) := by
  unfold records_RowService.f
  rw [show (7 : Int) = ((7 : Nat) : Int) from rfl, cells_f _ 7 (by simp)]
  have : slices_Clone_string_string.f [] = some [] := by unfold slices_Clone_string_string.f; rw [if_pos (by decide)]
  show (slices_Clone_string_string.f []).bind (fun t => some ((⟨#[]⟩ : ByteArray), (⟨#[]⟩ : ByteArray), (⟨#[]⟩ : ByteArray), wrap64 0, t, (0 : Int), (0 : Int))) = _
  rw [this]
  simp [wrap64]
theorem rowCheck_c (k0 k1 k2 : ByteArray) (k3 : Int) (k4 : ByteArray) (k5 k6 : Int) (h3 : -9223372036854775808 ≤ k3 ∧ k3 < 9223372036854775808) :
    records_RowCheck.f (cRow k0 k1 k2 k3 k4 k5 k6) = some (k0, k1, k2, k3, k4, k5, k6) := by
  unfold records_RowCheck.f
  rw [show (7 : Int) = ((7 : Nat) : Int) from rfl, cells_f _ 7 (by simp [cRow])]
  show some (k0, k1, k2, wrap64 (IntKind.u64.wrap k3), k4, k5, k6) = _
  rw [wrap_back k3 h3]
theorem rowCheck_9 (k0 k1 k2 : ByteArray) (k3 : Int) (k4 : ByteArray) (k5 k6 : Int) (h3 : -9223372036854775808 ≤ k3 ∧ k3 < 9223372036854775808) (z : S39) :
    records_RowCheck.f (cRow k0 k1 k2 k3 k4 k5 k6 ++ [z]) = some (k0, k1, k2, k3, k4, k5, k6) := by
  unfold records_RowCheck.f
  rw [show (7 : Int) = ((7 : Nat) : Int) from rfl, cells_f _ 7 (by simp [cRow])]
  show some (k0, k1, k2, wrap64 (IntKind.u64.wrap k3), k4, k5, k6) = _
  rw [wrap_back k3 h3]
end Go.Proofs.YthalhlobmbedhaaDoor.P
