/- THE ADDRESSES: what records.Addr answers, and what it leans on. -/
import Derived.Test.YthalhlobmbedhaaDoorPx0
import Derived.Test.YthalhlobmbedhaaDoorShelf
import Derived.WalkSpells
namespace Go.Proofs.YthalhlobmbedhaaDoor.P
open Go.Sort
open Go.RowKit Go.Proofs.YthalhlobmbedhaaDoorW.PrintWords Go.Proofs.YthalhlobmbedhaaDoorW.PrintLast Go.Proofs.YthalhlobmbedhaaDoorW.PrintMore

/-- What the library's variables hold, as far as it is asked. -/
structure Glob (w : World) : Prop where
  tab : Lib.TabIs Tryd.prog w "internal/strconv.uint64pow10" .u64 Lib.pow10Tab
  ml : ∃ m, w.cell? ⟨2, 0, none⟩ = some (.int .i64 m)
  syn : ∃ t p, w.cell? ⟨0, 0, none⟩ = some (.iface t p)
  rng : ∃ t p, w.cell? ⟨1, 0, none⟩ = some (.iface t p)
theorem var?_below {P : Program} {w w' : World} {n : String} {cs : Array Value} (h : w.var? P n = some cs) (hb : Below w.heap.size w w') : w'.var? P n = some cs := by
  unfold World.var? at h ⊢
  cases hg : P.globalNamed n with
  | none => simp [hg] at h
  | some g =>
    simp only [hg, Option.bind_some] at h ⊢
    have hlt : g < w.heap.size := by
      rcases Nat.lt_or_ge g w.heap.size with h' | h'
      · exact h'
      · simp [Array.getElem?_eq_none h'] at h
    rw [hb.block g hlt]
    exact h
theorem Glob.below {w w' : World} (h : Glob w) (hb : Below w.heap.size w w') : Glob w' :=
  ⟨var?_below h.tab hb, h.ml.imp fun _ e => pw_cell_below hb e, h.syn.imp fun _ => Exists.imp fun _ e => pw_cell_below hb e, h.rng.imp fun _ => Exists.imp fun _ e => pw_cell_below hb e⟩

theorem bytesWorld_below (w : World) (e : TypeId) (t : ByteArray) : Below w.heap.size w (Lib.bytesWorld w e t) :=
  ⟨rfl, rfl, rfl, by rw [Lib.bytesWorld_size]; omega, fun i hi => Lib.bytesWorld_at_old w e t i hi⟩

/-- A part of an address: its number, if it is written as the numbers 0 to 255 are. -/
def octet (t : ByteArray) : Option Int :=
  match Lib.atoiAll t.data.toList with
  | .ok v => if 0 ≤ v ∧ v ≤ 255 ∧ (⟨(Lib.itoa v).toArray⟩ : ByteArray) = t then some v else none
  | _ => none

theorem atoi_ok (s : ByteArray) (hs : s.size ≤ 140737488355328) (v : Int) (h : Lib.atoiAll s.data.toList = .ok v) (w : World) :
    Calls Tryd.prog 23 #[.string s] w fun e w' => e = .returned (.tuple #[.int .i64 v, .nilIface]) ∧ Below w.heap.size w w' :=
  (Tryd.strconv_Atoi_ok s (by omega) v h w).mono fun _ _ ⟨h1, h2⟩ => ⟨h1, by
    rcases h2 with rfl | ⟨t, rfl⟩
    · exact Below.refl _ _
    · exact bytesWorld_below _ _ _⟩
theorem atoi_no (s : ByteArray) (hs : s.size ≤ 140737488355328) (h : ∀ v, Lib.atoiAll s.data.toList ≠ .ok v) (w : World) (hG : Glob w) :
    Calls Tryd.prog 23 #[.string s] w fun e w' => ∃ v N, e = .returned (.tuple #[.int .i64 v, .iface 73 (.pointer (some ⟨N, 0, none⟩))]) ∧ Below w.heap.size w w' := by
  cases h1 : Lib.atoiAll s.data.toList with
  | ok v => exact absurd h1 (h v)
  | range =>
    obtain ⟨t, p, hc⟩ := hG.rng
    exact (Tryd.strconv_Atoi_range s (by omega) h1 _ w hc (.inr ⟨t, p, rfl⟩)).mono fun _ _ ⟨N, h1, _, _, h2⟩ => ⟨_, N, h1, h2⟩
  | _ =>
    obtain ⟨t, p, hc⟩ := hG.syn
    exact (Tryd.strconv_Atoi_syntax s (by omega) h1 _ w hc (.inr ⟨t, p, rfl⟩)).mono fun _ _ ⟨N, h1, _, _, h2⟩ => ⟨_, N, h1, h2⟩
theorem below_grow_ (w : World) (k : Nat) (os : Array Obj) : Below w.heap.size w (grow (w.drewN k) os) := by
  refine ⟨rfl, rfl, rfl, ?_, fun i hi => ?_⟩
  · simp [grow, World.drewN]
  · show (w.heap ++ os)[i]? = _
    rw [Array.getElem?_append_left hi]
theorem itoa_any (n : Int) (h0 : -9223372036854775808 ≤ n) (h1 : n ≤ 9223372036854775807) (w : World) (hG : Glob w) :
    Calls Tryd.prog 24 #[.int .i64 n] w fun e w' => e = .returned (.string ⟨(Lib.itoa n).toArray⟩) ∧ Below w.heap.size w w' :=
  (Tryd.strconv_Itoa n h0 h1 w hG.tab).mono fun _ _ ⟨h1, k, os, h2⟩ => ⟨h1, by rw [h2]; exact below_grow_ w k os⟩
/-- The parts of an address. -/
def addrPs (s : ByteArray) : List ByteArray := Lib.splitB ⟨#[46]⟩ 0 (Lib.countB s ⟨#[46]⟩) s
def addrOk (s : ByteArray) : Bool := Lib.countB s ⟨#[46]⟩ + 1 == 4 && (addrPs s).all (fun p => (octet p).isSome)
def addrN (s : ByteArray) (j : Nat) : Int := if addrOk s = true then (octet ((addrPs s).getD j ⟨#[]⟩)).getD 0 else 0
def addrE (s : ByteArray) : Int := if addrOk s = true then 0 else 91
def outv (ps : List ByteArray) (k j : Nat) : Int := if j < k then (octet (ps.getD j ⟨#[]⟩)).getD 0 else 0

structure AddrRel (ps : List ByteArray) (w : World) (k : Nat) (wr : World) : Prop where
  zero : ∀ j, j < 4 → wr.cell? ⟨w.heap.size, j, none⟩ = some (.int .u8 0) ∧ wr.frozen? ⟨w.heap.size, j, none⟩ = false
  out : ∀ j, j < 4 → wr.cell? ⟨w.heap.size + 1, j, none⟩ = some (.int .u8 (outv ps k j)) ∧ wr.frozen? ⟨w.heap.size + 1, j, none⟩ = false
  row : ∀ j, j < 4 → wr.cell? ⟨w.heap.size + 2, j, none⟩ = some (.string (ps.getD j ⟨#[]⟩))
  size : w.heap.size + 3 ≤ wr.heap.size
  below : Below w.heap.size w wr
  base : Glob w
theorem AddrRel.glob {ps : List ByteArray} {w wr : World} {k : Nat} (h : AddrRel ps w k wr) : Glob wr := h.base.below h.below

theorem addrPs_len {a0 : ByteArray} (hn : Lib.countB a0 ⟨#[46]⟩ + 1 = 4) : (addrPs a0).length = 4 := by
  unfold addrPs
  rw [Lib.splitB_all ⟨#[46]⟩ (by decide) 0 _ a0 rfl, hn]
theorem splitB_small (sep : ByteArray) : ∀ (k : Nat) (s p : ByteArray), p ∈ Lib.splitB sep 0 k s → p.size ≤ s.size
  | 0, s, p, h => by
    rw [Lib.splitB_zero, List.mem_singleton] at h
    subst h; exact Nat.le_refl _
  | k + 1, s, p, h => by
    unfold Lib.splitB at h
    split at h
    · rw [List.mem_singleton] at h
      subst h; exact Nat.le_refl _
    · rw [List.mem_cons] at h
      rcases h with rfl | h
      · rw [ByteArray.size_extract]; omega
      · have := splitB_small sep k _ p h
        rw [ByteArray.size_extract] at this; omega
theorem addrPs_small {a0 : ByteArray} {k : Nat} (hk : k < (addrPs a0).length) : ((addrPs a0).getD k ⟨#[]⟩).size ≤ a0.size := by
  rw [List.getD_eq_getElem?_getD, List.getElem?_eq_getElem hk]
  exact splitB_small _ _ _ _ (List.getElem_mem hk)
theorem addrOk_of {a0 : ByteArray} (hn : Lib.countB a0 ⟨#[46]⟩ + 1 = 4) (h : ∀ j, j < 4 → (octet ((addrPs a0).getD j ⟨#[]⟩)).isSome = true) : addrOk a0 = true := by
  unfold addrOk
  rw [Bool.and_eq_true, List.all_eq_true]
  refine ⟨by rw [hn]; rfl, fun p hp => ?_⟩
  obtain ⟨j, hj, rfl⟩ := List.getElem_of_mem hp
  have := h j (by rw [addrPs_len hn] at hj; exact hj)
  rwa [List.getD_eq_getElem?_getD, List.getElem?_eq_getElem hj] at this
theorem AddrRel.start (a0 : ByteArray) (w : World) (hG : Glob w) (hn : Lib.countB a0 ⟨#[46]⟩ + 1 = 4) :
    AddrRel (addrPs a0) w 0 (((w.alloc (.cells #[.int .u8 0, .int .u8 0, .int .u8 0, .int .u8 0] 49)).alloc (.cells #[.int .u8 0, .int .u8 0, .int .u8 0, .int .u8 0] 49)).alloc (.cells ((addrPs a0).map Value.string).toArray 9)) := by
  have hb : Below w.heap.size w (((w.alloc (.cells #[.int .u8 0, .int .u8 0, .int .u8 0, .int .u8 0] 49)).alloc (.cells #[.int .u8 0, .int .u8 0, .int .u8 0, .int .u8 0] 49)).alloc (.cells ((addrPs a0).map Value.string).toArray 9)) := below_alloc (below_alloc (below_alloc (Below.refl _ _) _) _) _
  have hl := addrPs_len hn
  have four : ∀ j, j < 4 → j = 0 ∨ j = 1 ∨ j = 2 ∨ j = 3 := fun j hj => by omega
  refine ⟨fun j hj => ?_, fun j hj => ?_, fun j hj => ?_, by simp, hb, hG⟩
  · rcases four j hj with rfl | rfl | rfl | rfl <;> simp [go_sem]
  · unfold outv
    rw [if_neg (by omega)]
    rcases four j hj with rfl | rfl | rfl | rfl <;> simp [go_sem]
  · have : ((addrPs a0).map Value.string).toArray[j]? = some (.string ((addrPs a0).getD j ⟨#[]⟩)) := by
      simp [List.getD_eq_getElem?_getD, List.getElem?_eq_getElem (show j < (addrPs a0).length by omega)]
    rw [show w.heap.size + 2 = ((w.alloc (.cells #[.int .u8 0, .int .u8 0, .int .u8 0, .int .u8 0] 49)).alloc (.cells #[.int .u8 0, .int .u8 0, .int .u8 0, .int .u8 0] 49)).heap.size from by simp, World.cell?_alloc_new]
    exact this
theorem AddrRel.step {ps : List ByteArray} {w wr w1 : World} {k : Nat} (h : AddrRel ps w k wr) (hb : Below wr.heap.size wr w1) : AddrRel ps w k w1 := by
  have hz := h.size
  refine ⟨fun j hj => ?_, fun j hj => ?_, fun j hj => ?_, Nat.le_trans hz hb.size, below_then h.below (by omega) hb, h.base⟩
  · rw [hb.cell (p := ⟨w.heap.size, j, none⟩) (by simp; omega), hb.frozen (p := ⟨w.heap.size, j, none⟩) (by simp; omega)]
    exact h.zero j hj
  · rw [hb.cell (p := ⟨w.heap.size + 1, j, none⟩) (by simp; omega), hb.frozen (p := ⟨w.heap.size + 1, j, none⟩) (by simp; omega)]
    exact h.out j hj
  · rw [hb.cell (p := ⟨w.heap.size + 2, j, none⟩) (by simp; omega)]
    exact h.row j hj
theorem AddrRel.put {ps : List ByteArray} {w wr : World} {k : Nat} (h : AddrRel ps w k wr) (hk : k < 4) (v : Int) (hv : octet (ps.getD k ⟨#[]⟩) = some v) :
    AddrRel ps w (k + 1) (wr.setCell ⟨w.heap.size + 1, k, none⟩ (.int .u8 v)) := by
  have hz := h.size
  have hg : Below w.heap.size w (wr.setCell ⟨w.heap.size + 1, k, none⟩ (.int .u8 v)) := h.below.setCell (by simp) _
  refine ⟨fun j hj => ?_, fun j hj => ?_, fun j hj => ?_, by simpa using hz, hg, h.base⟩
  · rw [World.frozen?_setCell, World.cell?_setCell_other _ _ _ _ (by intro h_; injection h_ with h_ _; omega)]
    exact h.zero j hj
  · rw [World.frozen?_setCell]
    by_cases e : j = k
    · subst e
      rw [World.cell?_setCell_same _ _ _ (h.out j hj).1]
      unfold outv
      rw [if_pos (by omega), hv]
      exact ⟨rfl, (h.out j hj).2⟩
    · rw [World.cell?_setCell_other _ _ _ _ (by intro h_; injection h_ with _ h_; omega)]
      have := h.out j hj
      unfold outv at this ⊢
      by_cases e2 : j < k
      · rw [if_pos e2] at this; rw [if_pos (by omega)]; exact this
      · rw [if_neg e2] at this; rw [if_neg (by omega)]; exact this
  · rw [World.cell?_setCell_other _ _ _ _ (by intro h_; injection h_ with h_ _; omega)]
    exact h.row j hj
def AddrFacts (w : World) (k : Nat) (u : Int) (p : ByteArray) (wr : World) : Prop :=
  (wr.cell? ⟨w.heap.size, 0, none⟩ = some (.int .u8 0) ∧ wr.frozen? ⟨w.heap.size, 0, none⟩ = false) ∧ (wr.cell? ⟨w.heap.size, 1, none⟩ = some (.int .u8 0) ∧ wr.frozen? ⟨w.heap.size, 1, none⟩ = false) ∧
  (wr.cell? ⟨w.heap.size, 2, none⟩ = some (.int .u8 0) ∧ wr.frozen? ⟨w.heap.size, 2, none⟩ = false) ∧ (wr.cell? ⟨w.heap.size, 3, none⟩ = some (.int .u8 0) ∧ wr.frozen? ⟨w.heap.size, 3, none⟩ = false) ∧
  (wr.cell? ⟨w.heap.size + 1, k, none⟩ = some (.int .u8 u) ∧ wr.frozen? ⟨w.heap.size + 1, k, none⟩ = false) ∧ wr.cell? ⟨w.heap.size + 2, k, none⟩ = some (.string p)
theorem AddrRel.facts {ps : List ByteArray} {w wr : World} {k : Nat} {p : ByteArray} (h : AddrRel ps w k wr) (hk : k < 4) (hp : ps.getD k ⟨#[]⟩ = p) : AddrFacts w k (outv ps k k) p wr :=
  ⟨h.zero 0 (by omega), h.zero 1 (by omega), h.zero 2 (by omega), h.zero 3 (by omega), h.out k hk, by rw [← hp]; exact h.row k hk⟩
theorem octet_some {p : ByteArray} {v : Int} (h : octet p = some v) : Lib.atoiAll p.data.toList = .ok v ∧ 0 ≤ v ∧ v ≤ 255 ∧ (⟨(Lib.itoa v).toArray⟩ : ByteArray) = p := by
  unfold octet at h
  split at h
  · rename_i v' hv
    split at h
    · rename_i hc
      injection h with h
      subst h
      exact ⟨hv, hc⟩
    · cases h
  · cases h
theorem addr_bad {a0 : ByteArray} {k : Nat} {p : ByteArray} (hk : k < (addrPs a0).length) (hp : (addrPs a0).getD k ⟨#[]⟩ = p) (h : octet p = none) : addrOk a0 = false := by
  unfold addrOk
  rw [Bool.and_eq_false_iff]
  refine .inr ?_
  rw [List.all_eq_false]
  refine ⟨p, ?_, by rw [h]; simp⟩
  rw [← hp, List.getD_eq_getElem?_getD, List.getElem?_eq_getElem hk]
  exact List.getElem_mem hk

set_option maxHeartbeats 1000000 in
set_option maxRecDepth 100000 in
theorem addr_short (a0 : ByteArray) (w : World) (hG : Glob w) (hs : a0.size < 4294967281) (hn : Lib.countB a0 ⟨#[46]⟩ + 1 ≠ 4) :
    Calls Tryd.prog 15 #[.string a0] w fun e w' => e = .returned (.tuple #[.agg #[.int .u8 0, .int .u8 0, .int .u8 0, .int .u8 0], .int .i64 91]) ∧ Below w.heap.size w w' := by
  obtain ⟨m, hm⟩ := hG.ml
  have hb2 : Below w.heap.size w ((w.alloc (.cells #[.int .u8 0, .int .u8 0, .int .u8 0, .int .u8 0] 49)).alloc (.cells #[.int .u8 0, .int .u8 0, .int .u8 0, .int .u8 0] 49)) := below_alloc (below_alloc (Below.refl _ _) _) _
  have hm2 := pw_cell_below hb2 hm
  have HS := Tryd.strings_Split a0 ⟨#[46]⟩ m _ hs hm2 (by decide)
  have hne : ((Lib.countB a0 ⟨#[46]⟩ + 1 : Nat) : Int) ≠ 4 := by omega
  clear hm2 hb2 hm
  go_enter Tryd.func15, Tryd.ntmps15
  go_wp2_with (go_at_call 22; refine HS.mono ?_; rintro e w' ⟨rfl, rfl⟩)
  refine bodyPost_ret (v := .tuple #[.agg #[.int .u8 0, .int .u8 0, .int .u8 0, .int .u8 0], .int .i64 91]) (by simp [results, go_sem]) rfl ⟨rfl, ?_⟩
  exact below_alloc (below_alloc (below_alloc (Below.refl _ _) _) _) _

set_option maxHeartbeats 1000000 in
set_option maxRecDepth 100000 in
theorem addr_four (a0 : ByteArray) (w : World) (hG : Glob w) (hs : a0.size < 4294967281) (hn : Lib.countB a0 ⟨#[46]⟩ + 1 = 4) :
    Calls Tryd.prog 15 #[.string a0] w fun e w' => e = .returned (.tuple #[.agg #[.int .u8 (addrN a0 0), .int .u8 (addrN a0 1), .int .u8 (addrN a0 2), .int .u8 (addrN a0 3)], .int .i64 (addrE a0)]) ∧ Below w.heap.size w w' := by
  obtain ⟨m, hm⟩ := hG.ml
  have hb2 : Below w.heap.size w ((w.alloc (.cells #[.int .u8 0, .int .u8 0, .int .u8 0, .int .u8 0] 49)).alloc (.cells #[.int .u8 0, .int .u8 0, .int .u8 0, .int .u8 0] 49)) := below_alloc (below_alloc (Below.refl _ _) _) _
  have hm2 := pw_cell_below hb2 hm
  have HS := Tryd.strings_Split a0 ⟨#[46]⟩ m _ hs hm2 (by decide)
  rw [hn] at HS
  have Hn := Lib.hid hn
  have HG := Lib.hid hG
  clear hm2 hb2 hm hn hG
  go_enter Tryd.func15, Tryd.ntmps15
  go_wp2_with (go_at_call 22; refine HS.mono ?_; rintro e w' ⟨rfl, rfl⟩)
  go_loopw [18] (fun i wr => ∃ k : Nat, k ≤ 4 ∧ i = .int .i64 k ∧ (∀ j, j < k → (octet ((addrPs a0).getD j ⟨#[]⟩)).isSome = true) ∧ AddrRel (addrPs a0) w k wr) (fun i _ => 4 - (intOf i).toNat)
  case atStart => exact ⟨0, by omega, rfl, fun j hj => absurd hj (by omega), AddrRel.start a0 w HG.out Hn.out⟩
  case round =>
    obtain ⟨k, hk, rfl, hall, hR⟩ := hrel
    have hz4 := hR.zero
    have hsz := hR.size
    clear HS
    by_cases hlt : k < 4
    · have hrow := hR.row k hlt
      obtain ⟨hout, hfro⟩ := hR.out k hlt
      clear hrow hout hfro hz4
      have hps : ((addrPs a0).getD k ⟨#[]⟩).size ≤ 140737488355328 := by
        have := addrPs_small (a0 := a0) (k := k) (by rw [addrPs_len Hn.out]; exact hlt)
        omega
      have hkl : k < (addrPs a0).length := by rw [addrPs_len Hn.out]; exact hlt
      obtain ⟨p, hp⟩ : ∃ p, (addrPs a0).getD k ⟨#[]⟩ = p := ⟨_, rfl⟩
      rw [hp] at hps
      have hF := hR.facts hlt hp
      have HR := Lib.hid hR
      have HA := Lib.hid hall
      have Hp := Lib.hid hp
      have HK := Lib.hid hkl
      clear hR hall hp hkl
      obtain ⟨f0, f1, f2, f3, f4, f5⟩ := hF
      cases ho : octet p with
      | some v =>
        have Ho := Lib.hid ho
        clear ho
        obtain ⟨ha, hv0, hv1, hi⟩ := octet_some Ho.out
        have Ha := Lib.hid ha
        have hc1 := atoi_ok p hps v Ha.out
        have hc2 := itoa_any v (by omega) (by omega)
        rw [hi] at hc2
        clear ha hi
        go_wp2_with (first | (go_at_call 23; refine (hc1 _).mono ?_; rintro e w1 ⟨rfl, hb1⟩; have hR1 := Lib.hid (HR.out.step hb1); obtain ⟨f0, f1, f2, f3, f4, f5⟩ := hR1.out.facts hlt Hp.out) | (go_at_call 24; refine (hc2 _ hR1.out.glob).mono ?_; rintro e w2 ⟨rfl, hb2⟩; have hR2 := Lib.hid (hR1.out.step hb2); obtain ⟨f0, f1, f2, f3, f4, f5⟩ := hR2.out.facts hlt Hp.out))
        refine ⟨⟨k + 1, by omega, by go_num, fun j hj => ?_, hR2.out.put hlt v (by rw [Hp.out]; exact Ho.out)⟩, by simp [intOf]; omega⟩
        by_cases e : j = k
        · subst e; rw [Hp.out, Ho.out]; rfl
        · exact HA.out j (by omega)
      | none =>
        have hbad := addr_bad HK.out Hp.out ho
        have HX := Lib.hid hbad
        have Ho := Lib.hid ho
        clear hbad ho
        have fin : ∀ wz : World, Below w.heap.size w wz → (Ending.returned (.tuple #[.agg #[.int .u8 0, .int .u8 0, .int .u8 0, .int .u8 0], .int .i64 91]) = Ending.returned (.tuple #[.agg #[.int .u8 (addrN a0 0), .int .u8 (addrN a0 1), .int .u8 (addrN a0 2), .int .u8 (addrN a0 3)], .int .i64 (addrE a0)]) ∧ Below w.heap.size w ((((wz.setCell ⟨w.heap.size, 0, none⟩ (.int .u8 0)).setCell ⟨w.heap.size, 1, none⟩ (.int .u8 0)).setCell ⟨w.heap.size, 2, none⟩ (.int .u8 0)).setCell ⟨w.heap.size, 3, none⟩ (.int .u8 0))) := by
          intro wz hbz
          refine ⟨?_, (((hbz.setCell (by simp) _).setCell (by simp) _).setCell (by simp) _).setCell (by simp) _⟩
          simp only [addrN, addrE, HX.out, Bool.false_eq_true, if_false]
        have Fin := Lib.hid fin
        clear fin
        by_cases hok : ∃ v, Lib.atoiAll p.data.toList = .ok v
        · obtain ⟨v, ha⟩ := hok
          have Ha := Lib.hid ha
          have hc1 := atoi_ok p hps v Ha.out
          clear ha
          by_cases hr : 0 ≤ v ∧ v ≤ 255
          · obtain ⟨hv0, hv1⟩ := hr
            have hne : (⟨(Lib.itoa v).toArray⟩ : ByteArray) ≠ p := by
              intro e
              have := Ho.out
              unfold octet at this
              rw [Ha.out] at this
              simp only [hv0, hv1, e, and_self, if_true] at this
              cases this
            obtain ⟨q, hq⟩ : ∃ q, (⟨(Lib.itoa v).toArray⟩ : ByteArray) = q := ⟨_, rfl⟩
            have hc2 := itoa_any v (by omega) (by omega)
            rw [hq] at hc2 hne
            have hb : (q.toList == p.toList) = false := by
              rw [beq_eq_false_iff_ne]
              intro e
              exact hne (ByteArray.ext (Array.toList_inj.1 (by rw [← ByteArray.toList_eq, ← ByteArray.toList_eq]; exact e)))
            clear hq hne
            go_wp2_with (first | (go_at_call 23; refine (hc1 _).mono ?_; rintro e w1 ⟨rfl, hb1⟩; have hR1 := Lib.hid (HR.out.step hb1); obtain ⟨f0, f1, f2, f3, f4, f5⟩ := hR1.out.facts hlt Hp.out) | (go_at_call 24; refine (hc2 _ hR1.out.glob).mono ?_; rintro e w2 ⟨rfl, hb2⟩; have hR2 := Lib.hid (hR1.out.step hb2); obtain ⟨f0, f1, f2, f3, f4, f5⟩ := hR2.out.facts hlt Hp.out))
            refine bodyPost_ret (v := .tuple #[.agg #[.int .u8 0, .int .u8 0, .int .u8 0, .int .u8 0], .int .i64 91]) (by simp [results, go_sem, f0, f1, f2, f3]) rfl (Fin.out _ hR2.out.below)
          · by_cases hv0 : v < 0
            · clear hr
              go_wp2_with (first | (go_at_call 23; refine (hc1 _).mono ?_; rintro e w1 ⟨rfl, hb1⟩; have hR1 := Lib.hid (HR.out.step hb1); obtain ⟨f0, f1, f2, f3, f4, f5⟩ := hR1.out.facts hlt Hp.out))
              refine bodyPost_ret (v := .tuple #[.agg #[.int .u8 0, .int .u8 0, .int .u8 0, .int .u8 0], .int .i64 91]) (by simp [results, go_sem, f0, f1, f2, f3]) rfl (Fin.out _ hR1.out.below)
            · have hv1 : 255 < v := by omega
              have hv2 : 0 ≤ v := by omega
              clear hr
              go_wp2_with (first | (go_at_call 23; refine (hc1 _).mono ?_; rintro e w1 ⟨rfl, hb1⟩; have hR1 := Lib.hid (HR.out.step hb1); obtain ⟨f0, f1, f2, f3, f4, f5⟩ := hR1.out.facts hlt Hp.out))
              refine bodyPost_ret (v := .tuple #[.agg #[.int .u8 0, .int .u8 0, .int .u8 0, .int .u8 0], .int .i64 91]) (by simp [results, go_sem, f0, f1, f2, f3]) rfl (Fin.out _ hR1.out.below)
        · have hno : ∀ v, Lib.atoiAll p.data.toList ≠ .ok v := fun v e => hok ⟨v, e⟩
          have hc1 := fun w hG => atoi_no p hps hno w hG
          have HC := Lib.hid hc1
          clear hno hok hc1
          go_wp2_with (first | (go_at_call 23; refine (HC.out _ HR.out.glob).mono ?_; rintro e w1 ⟨v, N, rfl, hb1⟩; have hR1 := Lib.hid (HR.out.step hb1); obtain ⟨f0, f1, f2, f3, f4, f5⟩ := hR1.out.facts hlt Hp.out))
          refine bodyPost_ret (v := .tuple #[.agg #[.int .u8 0, .int .u8 0, .int .u8 0, .int .u8 0], .int .i64 91]) (by simp [results, go_sem, f0, f1, f2, f3]) rfl (Fin.out _ hR1.out.below)
    · obtain rfl : k = 4 := by omega
      have ho0 := hR.out 0 (by omega)
      have ho1 := hR.out 1 (by omega)
      have ho2 := hR.out 2 (by omega)
      have ho3 := hR.out 3 (by omega)
      have hz0 := hR.zero 0 (by omega)
      have hz1 := hR.zero 1 (by omega)
      have hz2 := hR.zero 2 (by omega)
      have hz3 := hR.zero 3 (by omega)
      have HR := Lib.hid hR
      have HA := Lib.hid hall
      clear hR hall hz4
      go_wp2
      have hok : addrOk a0 = true := addrOk_of Hn.out HA.out
      have hN : ∀ j, j < 4 → addrN a0 j = outv (addrPs a0) 4 j := fun j hj => by unfold addrN outv; rw [if_pos hok, if_pos hj]
      refine bodyPost_ret (v := .tuple #[.agg #[.int .u8 (addrN a0 0), .int .u8 (addrN a0 1), .int .u8 (addrN a0 2), .int .u8 (addrN a0 3)], .int .i64 0]) ?_ rfl ⟨by unfold addrE; rw [if_pos hok], ?_⟩
      · rw [hN 0 (by omega), hN 1 (by omega), hN 2 (by omega), hN 3 (by omega)]
        simp [results, go_sem, hz0, hz1, hz2, hz3]
      · exact (((HR.out.below.setCell (by simp) _).setCell (by simp) _).setCell (by simp) _).setCell (by simp) _
theorem records_Addr.calls (a0 : ByteArray) (w : World) (hG : Glob w) (hs : a0.size < 4294967281) :
    Calls Tryd.prog 15 #[.string a0] w fun e w' => e = .returned (.tuple #[.agg #[.int .u8 (addrN a0 0), .int .u8 (addrN a0 1), .int .u8 (addrN a0 2), .int .u8 (addrN a0 3)], .int .i64 (addrE a0)]) ∧ Below w.heap.size w w' := by
  by_cases hn : Lib.countB a0 ⟨#[46]⟩ + 1 = 4
  · exact addr_four a0 w hG hs hn
  · have hf : addrOk a0 = false := by
      unfold addrOk
      rw [Bool.and_eq_false_iff]
      exact .inl (by rw [beq_eq_false_iff_ne]; exact hn)
    refine (addr_short a0 w hG hs hn).mono fun e w' h => ?_
    simp only [addrN, addrE, hf, Bool.false_eq_true, if_false]
    exact h
end Go.Proofs.YthalhlobmbedhaaDoor.P
