import Derived.Test.YthalhlobmbedhaaDoorPx1
import Derived.Test.YthalhlobmbedhaaDoorGAddr
namespace Go.Proofs.YthalhlobmbedhaaDoor.P
open Go.Sort
open Go.RowKit Go.Proofs.YthalhlobmbedhaaDoorW.PrintWords Go.Proofs.YthalhlobmbedhaaDoorW.PrintLast Go.Proofs.YthalhlobmbedhaaDoorW.PrintMore

theorem label_web : records_Label.f 7 ⟨#[87, 101, 98, 45, 49]⟩ = some (⟨#[119, 101, 98, 45, 49]⟩, 0) := by kernel_rfl
theorem octet0 : octet ⟨#[48]⟩ = some 0 := by decide +kernel
theorem octet10 : octet ⟨#[49, 48]⟩ = some 10 := by decide +kernel
theorem octet255 : octet ⟨#[50, 53, 53]⟩ = some 255 := by decide +kernel
theorem addr_ps : addrPs ⟨#[49, 48, 46, 48, 46, 48, 46, 50, 53, 53]⟩ = [⟨#[49, 48]⟩, ⟨#[48]⟩, ⟨#[48]⟩, ⟨#[50, 53, 53]⟩] := by decide +kernel
theorem addr_cnt : Lib.countB ⟨#[49, 48, 46, 48, 46, 48, 46, 50, 53, 53]⟩ ⟨#[46]⟩ = 3 := by decide +kernel
theorem addr_ok : addrOk ⟨#[49, 48, 46, 48, 46, 48, 46, 50, 53, 53]⟩ = true := by
  unfold addrOk
  rw [addr_ps, addr_cnt]
  simp [octet0, octet10, octet255]

set_option maxHeartbeats 1000000 in
set_option maxRecDepth 100000 in
theorem musterlaw09_recordsFixed.calls (w : World) (hG : Glob w) :
    Calls Tryd.prog 4 #[] w fun e w' => e = .returned (.bool true) ∧ Below w.heap.size w w' := by
  have h1 := records_Label.calls 7 _ _ _ w label_web
  have h2 := fun w hG => records_Addr.calls ⟨#[49, 48, 46, 48, 46, 48, 46, 50, 53, 53]⟩ w hG (by decide)
  simp only [addrN, addrE, addr_ok, addr_ps, if_true, List.getD_cons_zero, List.getD_cons_succ, octet0, octet10, octet255, Option.getD_some] at h2
  have heq : ∀ w, (Op.equalIn 10000 49 (.agg #[.int .u8 10, .int .u8 0, .int .u8 0, .int .u8 255]) (.agg #[.int .u8 10, .int .u8 0, .int .u8 0, .int .u8 255])).run Tryd.prog w = .ok true w := fun _ => by kernel_rfl
  go_enter Tryd.func4, Tryd.ntmps4
  go_wp2_with (first | (go_at_call 14; refine h1.mono ?_; rintro e w1 ⟨rfl, hb1⟩) | (go_at_call 15; refine (h2 _ (hG.below hb1)).mono ?_; rintro e w2 ⟨rfl, hb2⟩))
  go_ret
  exact ⟨rfl, below_alloc (below_then hb1 hb1.size hb2) _⟩
end Go.Proofs.YthalhlobmbedhaaDoor.P
