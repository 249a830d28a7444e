/- A region that draws its order, by an invariant over what has come up: one step for each operation, whatever the order. -/
import Derived.RegionTactic
namespace Go.InvRegion
section
variable {P : Program} {ops : Array Oper} {Q : Exit → Act → World → Prop} {md : Region.Mode}

/-- How many have not come up yet. -/
def left (listed : Array Bool) : Nat → Nat
  | 0 => 0
  | n + 1 => left listed n + (if listed.getD n true then 0 else 1)
theorem left_set_ge (listed : Array Bool) (i : Nat) : ∀ n, n ≤ i → left (listed.setIfInBounds i true) n = left listed n
  | 0, _ => rfl
  | n + 1, h => by
    have e : (listed.setIfInBounds i true).getD n true = listed.getD n true := by
      simp only [Array.getD_eq_getD_getElem?]
      rw [Array.getElem?_setIfInBounds_ne (by omega)]
    simp only [left, left_set_ge listed i n (by omega), e]
theorem left_set (listed : Array Bool) (i : Nat) (h : listed.getD i true = false) : ∀ n, i < n → left (listed.setIfInBounds i true) n + 1 = left listed n
  | 0, hn => by omega
  | n + 1, hn => by
    by_cases e : i = n
    · subst e
      have e1 : (listed.setIfInBounds i true).getD i true = true := by
        simp only [Array.getD_eq_getD_getElem?]
        rcases Nat.lt_or_ge i listed.size with hl | hl
        · rw [Array.getElem?_setIfInBounds_self_of_lt hl]; rfl
        · rw [Array.getElem?_eq_none (by simpa using hl)]; rfl
      simp only [left, left_set_ge listed i i (Nat.le_refl _), e1, h, if_true, Bool.false_eq_true, if_false]
    · have e2 : (listed.setIfInBounds i true).getD n true = listed.getD n true := by
        simp only [Array.getD_eq_getD_getElem?]
        rw [Array.getElem?_setIfInBounds_ne e]
      have := left_set listed i h n (by omega)
      simp only [left, e2]
      omega

theorem mem_ready {listed : Array Bool} {i : Nat} (h : i ∈ Region.ready md ops listed) :
    i < ops.size ∧ listed.getD i true = false ∧ ∃ o, ops[i]? = some o ∧ ∀ e ∈ o.after, Region.binds md e = true → listed.getD e.on false = true := by
  simp only [Region.ready, List.mem_filter, List.mem_range, Bool.and_eq_true, Bool.not_eq_true'] at h
  obtain ⟨h1, h2, h3⟩ := h
  refine ⟨h1, h2, ?_⟩
  cases ho : ops[i]? with
  | none => simp [ho] at h3
  | some o =>
    refine ⟨o, rfl, fun e he hb => ?_⟩
    simp only [ho, Option.map_some, Option.getD_some, Array.all_eq_true'] at h3
    have := h3 e he
    simpa [hb] using this

/-- For what an operation waits. -/
def deps (md : Region.Mode) (ops : Array Oper) (i : Nat) : List Nat := ((ops[i]?).map fun o => (o.after.toList.filter (Region.binds md)).map (·.on)).getD []
theorem ready_deps {listed : Array Bool} {i : Nat} {l : List Nat} (h : i ∈ Region.ready md ops listed) (hd : deps md ops i = l) : ∀ j ∈ l, listed.getD j false = true := by
  obtain ⟨_, _, o, ho, hall⟩ := mem_ready h
  subst hd
  intro j hj
  simp only [deps, ho, Option.map_some, Option.getD_some, List.mem_map, List.mem_filter, Array.mem_toList_iff] at hj
  obtain ⟨e, ⟨he, hb⟩, rfl⟩ := hj
  exact hall e he hb
theorem ready_lt {listed : Array Bool} {i : Nat} (h : i ∈ Region.ready md ops listed) : i < ops.size := (mem_ready h).1
theorem ready_new {listed : Array Bool} {i : Nat} (h : i ∈ Region.ready md ops listed) : listed.getD i true = false := (mem_ready h).2.1

/-- Where nothing may come up, all that waits for nothing more has come up. -/
theorem not_ready {listed : Array Bool} {i : Nat} {l : List Nat} (h : Region.ready md ops listed = []) (hi : i < ops.size) (hd : deps md ops i = l) (hl : ∀ j ∈ l, listed.getD j false = true) : listed.getD i true = true := by
  cases hg : listed.getD i true with
  | true => rfl
  | false =>
    have : i ∈ Region.ready md ops listed := by
      simp only [Region.ready, List.mem_filter, List.mem_range, Bool.and_eq_true, Bool.not_eq_true', hg, true_and, hi]
      obtain ⟨o, ho⟩ : ∃ o, ops[i]? = some o := ⟨ops[i], Array.getElem?_eq_getElem hi⟩
      simp only [ho, Option.map_some, Option.getD_some, Array.all_eq_true']
      intro e he
      cases hb : Region.binds md e with
      | false => rfl
      | true =>
        have : e.on ∈ l := by
          rw [← hd]
          simp only [deps, ho, Option.map_some, Option.getD_some, List.mem_map, List.mem_filter, Array.mem_toList_iff]
          exact ⟨e, ⟨he, hb⟩, rfl⟩
        rw [hl _ this]; rfl
    rw [h] at this
    cases this

/-- The rule: 'Out' says where the walk by hand goes on. -/
theorem any_inv (Inv : Array Bool → Act → World → Prop) (Out : Array Bool → Prop)
    (hstep : ∀ listed a w i, Inv listed a w → ¬ Out listed → i ∈ Region.ready md ops listed → wpOp P ops Q i (fun a' w' => Inv (listed.setIfInBounds i true) a' w') a w)
    (hend : ∀ listed a w, Inv listed a w → ¬ Out listed → Region.ready md ops listed = [] → Q .normal a w)
    (hout : ∀ listed a w fuel, Inv listed a w → Out listed → left listed ops.size ≤ fuel → wpAny P md ops Q fuel listed a w) :
    ∀ (fuel : Nat) (listed : Array Bool) (a : Act) (w : World), Inv listed a w → left listed ops.size ≤ fuel → wpAny P md ops Q fuel listed a w := by
  intro fuel
  induction fuel with
  | zero =>
    intro listed a w hI hl
    by_cases ho : Out listed
    · exact hout listed a w 0 hI ho hl
    · have hr : Region.ready md ops listed = [] := by
        rw [List.eq_nil_iff_forall_not_mem]
        intro i hi
        obtain ⟨h1, h2, _⟩ := mem_ready hi
        have := left_set listed i h2 ops.size h1
        omega
      exact ⟨hr, hend listed a w hI ho hr⟩
  | succ fuel ih =>
    intro listed a w hI hl
    by_cases ho : Out listed
    · exact hout listed a w _ hI ho hl
    · refine ⟨fun hr => hend listed a w hI ho hr, fun i hi => ?_⟩
      obtain ⟨h1, h2, _⟩ := mem_ready hi
      have hc := left_set listed i h2 ops.size h1
      exact wpOp_mono (fun a' w' hI' => ih _ a' w' hI' (by omega)) (hstep listed a w i hI ho hi)

theorem region_inv {id : Nat} {a : Act} {w : World} (hm : P.follows .mixedOrders = true) (Inv : Array Bool → Act → World → Prop) (Out : Array Bool → Prop)
    (h0 : Inv (Array.replicate ops.size false) a w.drew)
    (hstep : ∀ listed a w i, Inv listed a w → ¬ Out listed → i ∈ Region.ready .any ops listed → wpOp P ops Q i (fun a' w' => Inv (listed.setIfInBounds i true) a' w') a w)
    (hend : ∀ listed a w, Inv listed a w → ¬ Out listed → Region.ready .any ops listed = [] → Q .normal a w)
    (hout : ∀ listed a w fuel, Inv listed a w → Out listed → left listed ops.size ≤ fuel → wpAny P .any ops Q fuel listed a w) : (Code.region id ops true).wp P Q a w := by
  refine wp_region_any hm (any_inv Inv Out hstep hend hout ops.size _ a _ h0 ?_)
  have : ∀ n, left (Array.replicate ops.size false) n ≤ n := fun n => by
    induction n with
    | zero => exact Nat.le_refl _
    | succ n ih => simp only [left]; split <;> omega
  exact this _
end
end Go.InvRegion
