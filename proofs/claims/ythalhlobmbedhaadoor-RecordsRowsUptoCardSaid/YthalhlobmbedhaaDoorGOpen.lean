/- A struct by value of one-cell fields, of seven fields, opened; a slice of strings opened as Kd.C. -/
import Derived.Lib.SmallJoins
import Derived.Deep.Fields
import Derived.SliceStrings
import Derived.Test.YthalhlobmbedhaaDoorPx0
namespace Go.Proofs.YthalhlobmbedhaaDoor.P
open Go.ChangeShapes Go.WideShapes Go.ChangeAt Go.RowKit Go.Lib Go.Deep
open Go.RowKit Go.Proofs.YthalhlobmbedhaaDoorW.PrintWords Go.Proofs.YthalhlobmbedhaaDoorW.PrintLast Go.Proofs.YthalhlobmbedhaaDoorW.PrintMore
section
variable {H : Type} {enc : TypeId × Value → H} {P : Program} {w : World} {base : Nat} {spare : Nat → Bool} {held : Bool}
theorem array7 {α : Type} {cs : Array α} (h : cs.size = 7) : ∃ c0 c1 c2 c3 c4 c5 c6, cs = #[c0, c1, c2, c3, c4, c5, c6] := by
  obtain ⟨l⟩ := cs
  match l, h with
  | [c0, c1, c2, c3, c4, c5, c6], _ => exact ⟨c0, c1, c2, c3, c4, c5, c6, rfl⟩
theorem open_agg7 {r : Reach} {b0 : Nat} {t : TypeId} {f0 f1 f2 f3 f4 f5 f6 : Field} {v : Value} {d : DataW H} {p : List MemPlace} (hs : P.underlying t = some (.struct #[f0, f1, f2, f3, f4, f5, f6])) (hone : oneCellFields P #[f0, f1, f2, f3, f4, f5, f6] = true) (hC : P.cellsOf t = 7)
    (hv : Value.okWide P w r b0 t v) (h : DataW.Trod enc P w base spare held t v d p) :
    ∃ (v0 v1 v2 v3 v4 v5 v6 : Value) (y0 y1 y2 y3 y4 y5 y6 : DataW H × List MemPlace) (n : Nat), v = .agg #[v0, v1, v2, v3, v4, v5, v6] ∧ d = .agg [y0.1, y1.1, y2.1, y3.1, y4.1, y5.1, y6.1] ∧
      DataW.trod enc P w base spare held n f0.type [v0] = some y0 ∧ DataW.trod enc P w base spare held n f1.type [v1] = some y1 ∧ DataW.trod enc P w base spare held n f2.type [v2] = some y2 ∧ DataW.trod enc P w base spare held n f3.type [v3] = some y3 ∧
      DataW.trod enc P w base spare held n f4.type [v4] = some y4 ∧ DataW.trod enc P w base spare held n f5.type [v5] = some y5 ∧ DataW.trod enc P w base spare held n f6.type [v6] = some y6 := by
  obtain ⟨cs, rfl, hsz⟩ := okWide_struct hs hv
  obtain ⟨c0, c1, c2, c3, c4, c5, c6, rfl⟩ := array7 (hsz.trans hC)
  obtain ⟨fuel, hf⟩ := h
  obtain ⟨xs, n, _, hx, hl, hlen, hf⟩ := DataW.trod_struct hs hf
  have get : ∀ (i : Nat) (f : Field) (c : Value), (#[f0, f1, f2, f3, f4, f5, f6] : Array Field)[i]? = some f → (#[c0, c1, c2, c3, c4, c5, c6] : Array Value)[i]? = some c → DataW.trod enc P w base spare held n f.type [c] = xs[i]? := by
    intro i f c hi hc
    obtain ⟨o, k⟩ := hone_of hone i f hi
    have h2 := hf i f hi
    rw [o, k] at h2
    rw [← h2]
    congr 1
    have hlt : i < 7 := (Array.getElem?_eq_some_iff.1 hc).1
    have : ∀ (l : List Value), l[i]? = some c → [c] = (l.drop i).take 1 := by
      intro l hl2
      obtain ⟨h1, h3⟩ := List.getElem?_eq_some_iff.1 hl2
      rw [List.drop_eq_getElem_cons h1, h3]
      rfl
    exact this _ (by simpa [Value.cells] using hc)
  match xs, hlen with
  | [y0, y1, y2, y3, y4, y5, y6], _ =>
    refine ⟨c0, c1, c2, c3, c4, c5, c6, y0, y1, y2, y3, y4, y5, y6, n, rfl, ?_, get 0 f0 c0 rfl rfl, get 1 f1 c1 rfl rfl, get 2 f2 c2 rfl rfl, get 3 f3 c3 rfl rfl, get 4 f4 c4 rfl rfl, get 5 f5 c5 rfl rfl, get 6 f6 c6 rfl rfl⟩
    simp only [Prod.mk.injEq] at hx
    exact hx.1
/-- A slice of strings that came in. -/
theorem C_of_strings {t e : TypeId} {fuel : Nat} {c : Value} {x : DataW H × List MemPlace} (ht : P.underlying t = some (.slice e)) (he : P.underlying e = some .string) (hc : P.cellsOf e = 1)
    (h : DataW.trod enc P w base spare held fuel t [c] = some x) :
    ∃ (A : Option Addr) (cap : Nat) (l : List ByteArray), c = .slice A l.length cap ∧ l.length ≤ cap ∧ Kd.C Kd.string w A l.length l ∧ (x = (.nil, []) ∧ l = [] ∨ ∃ a sp ps, A = some a ∧ x = (.slice (l.map fun s => .lit (.string s.data.toList)) sp, ps)) := by
  rcases open_strings ht he hc h with ⟨hcs, hx⟩ | ⟨a, len, cap, ss, hcs, _, hl, hm, hz, hx, hcell, hws⟩
  · obtain rfl : c = .slice none 0 0 := by simpa using hcs
    exact ⟨none, 0, [], rfl, Nat.le_refl _, Kd.C_nil _ _, .inl ⟨hx, rfl⟩⟩
  · obtain rfl : c = .slice (some a) len cap := by simpa using hcs
    have hss : len ≤ ss.length := by rw [hz]; split <;> omega
    have hlen : (ss.take len).length = len := by rw [List.length_take]; omega
    refine ⟨some a, cap, ss.take len, by rw [hlen], by rw [hlen]; exact hl, ?_, .inr ⟨a, strs (ss.drop len), MemPlace.row a ss.length, rfl, ?_⟩⟩
    · refine ⟨rfl, ?_, fun _ => ⟨a, rfl, fun j p hj => ⟨[.string p], rfl, rfl, fun i u hi => ?_⟩⟩⟩
      · rw [hlen]
        have : maxLen ≤ 9223372036854775807 := by decide
        omega
      · have hj' := List.getElem?_eq_some_iff.1 hj
        obtain ⟨hj1, hj2⟩ := hj'
        rw [List.getElem_take] at hj2
        cases i with
        | zero =>
          simp only [List.getElem?_cons_zero, Option.some.injEq] at hi
          subst hi
          have := hcell j (by rw [hlen] at hj1; omega)
          rw [show a.add (j * Kd.string.sz + 0) = a.add j by rw [Nat.add_zero]; exact congrArg a.add (Nat.mul_one j), this]
          rw [List.getD_eq_getElem?_getD, List.getElem?_eq_getElem (by rw [hlen] at hj1; omega), Option.getD_some, hj2]
        | succ i => simp at hi
    · rw [hx]
      rfl
end
end Go.Proofs.YthalhlobmbedhaaDoor.P
