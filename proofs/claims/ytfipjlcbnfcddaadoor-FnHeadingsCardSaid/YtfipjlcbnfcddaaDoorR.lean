/-
  A region that draws its order, by a weak relation: of each operation that has come up it is told what its slot holds, by a fact that no later operation can undo. Each operation is shown once, whatever the order.
-/
import Derived.Test.YtfipjlcbnfcddaaDoorWInv
import Derived.Test.YtfipjlcbnfcddaaDoorWInvWords
namespace Go.Proofs.YtfipjlcbnfcddaaDoor.R
open Go Go.Proofs.YtfipjlcbnfcddaaDoorW.PrintWords Go.Proofs.YtfipjlcbnfcddaaDoorW.PrintLast
set_option linter.unusedVariables false
set_option linter.unusedSimpArgs false
variable {P : Program} {ops : Array Oper} {Q : Exit → Act → World → Prop} {T : Bool × List (List Nat × List Nat)} {B : List Nat}
/-- Destinations are distinct, and lie within m slots. -/
def apartB (ops : Array Oper) (m : Nat) : Bool :=
  (List.range ops.size).all fun i => match ops[i]? with
    | none => true
    | some oi => match oi.dst with
      | none => true
      | some t => decide (t < m) && (List.range ops.size).all fun j => i == j || (match ops[j]? with | none => true | some oj => oj.dst != some t)
theorem apart_lt {m i : Nat} (h : apartB ops m = true) {oi : Oper} {t : Tmp} (hi : ops[i]? = some oi) (ht : oi.dst = some t) : t < m := by
  have h1 := List.all_eq_true.1 h i (List.mem_range.2 (Array.getElem?_eq_some_iff.1 hi).1)
  simp only [hi, ht, Bool.and_eq_true, decide_eq_true_eq] at h1
  exact h1.1
theorem apart_ne {m i j : Nat} (h : apartB ops m = true) {oi oj : Oper} {t u : Tmp} (hi : ops[i]? = some oi) (ht : oi.dst = some t) (hj : ops[j]? = some oj) (hu : oj.dst = some u) (hij : i ≠ j) : t ≠ u := by
  have h1 := List.all_eq_true.1 h i (List.mem_range.2 (Array.getElem?_eq_some_iff.1 hi).1)
  simp only [hi, ht, Bool.and_eq_true, decide_eq_true_eq] at h1
  have h2 := List.all_eq_true.1 h1.2 j (List.mem_range.2 (Array.getElem?_eq_some_iff.1 hj).1)
  rw [Bool.or_eq_true] at h2
  rcases h2 with h2 | h2
  · exact absurd (beq_iff_eq.1 h2) hij
  · rw [hj] at h2
    simp only [hu, bne_iff_ne, ne_eq, Option.some.injEq] at h2
    exact fun e => h2 e.symm
def Weak (ops : Array Oper) (V : Nat → Value → World → Prop) (R : (Nat → Bool) → Act → World → Prop) (a0 : Act) (b : Nat → Bool) (a : Act) (w : World) : Prop :=
  R b a w ∧ a.tmps.size = a0.tmps.size ∧ a.defers = a0.defers ∧ (∀ t : Tmp, (∀ (j : Nat) (oj : Oper), ops[j]? = some oj → oj.dst ≠ some t) → a.tmps[t]? = a0.tmps[t]?) ∧
  ∀ (j : Nat) (oj : Oper) (t : Tmp), ops[j]? = some oj → oj.dst = some t → b j = true → ∃ v, a.tmps[t]? = some v ∧ V j v w
theorem weak_step {V : Nat → Value → World → Prop} {R : (Nat → Bool) → Act → World → Prop} {le : World → World → Prop} {a0 : Act} {i : Nat} {oi : Oper} (hoi : ops[i]? = some oi) (hap : apartB ops a0.tmps.size = true)
    (hV : ∀ j v w w', le w w' → V j v w → V j v w')
    (h : ∀ (b : Nat → Bool) (a : Act) (w : World), R b a w → b i = false → (∀ j, (B.getD i 0).testBit j = true → (List.range ops.size).contains j = true → b j = true) → (∀ d, (B.getD d 0).testBit i = true → (List.range ops.size).contains d = true → b d = false) → a.tmps.size = a0.tmps.size → (∀ t : Tmp, (∀ (j : Nat) (oj : Oper), ops[j]? = some oj → oj.dst ≠ some t) → a.tmps[t]? = a0.tmps[t]?) →
      (∀ (j : Nat) (oj : Oper) (t : Tmp), ops[j]? = some oj → oj.dst = some t → (B.getD i 0).testBit j = true → ∃ v, a.tmps[t]? = some v ∧ V j v w) →
      ∀ K : Act → World → Prop, Shut (∀ v w', le w w' → R (up b i) (a.put oi.dst v) w' → (∀ t, oi.dst = some t → V i v w') → K (a.put oi.dst v) w') →
        if Region.wanted oi (yielded ops a.tmps) = true then Oper.wp P oi a w K Q else K (a.put oi.dst undef) w) :
    StepAt P ops Q B (List.range ops.size) (Weak ops V R a0) i := by
  intro b a w ⟨hR, hsz, hdf, hfr, hall⟩ hbi hon hoff
  refine ⟨oi, hoi, fun K hK => h b a w hR hbi (fun j h1 h2 => hon j (by rw [Bool.and_eq_true]; exact ⟨h2, h1⟩)) (fun d h1 h2 => hoff d (by rw [Bool.and_eq_true]; exact ⟨h2, h1⟩)) hsz hfr ?_ K (fun v w' hle hR' hv => hK.out _ _ ⟨hR', ?_, ?_, ?_, ?_⟩)⟩
  · intro j oj t hj ht hB
    refine hall j oj t hj ht (hon j ?_)
    rw [Bool.and_eq_true]
    exact ⟨List.contains_iff_mem.2 (List.mem_range.2 (Array.getElem?_eq_some_iff.1 hj).1), hB⟩
  · rw [← hsz]
    cases oi.dst <;> simp [Act.put]
  · rw [← hdf]
    cases oi.dst <;> rfl
  · intro t ht
    rw [← hfr t ht]
    cases hd : oi.dst with
    | none => rfl
    | some u =>
      have hne : u ≠ t := fun e => ht i oi hoi (by rw [hd, e])
      simp [Act.put, Array.getElem?_setIfInBounds_ne hne]
  · intro j oj t hj ht hb
    by_cases hji : j = i
    · subst hji
      obtain rfl : oj = oi := Option.some.inj (hj.symm.trans hoi)
      refine ⟨v, ?_, hv t ht⟩
      have hlt := apart_lt hap hoi ht
      rw [← hsz] at hlt
      simp [Act.put, ht, hlt]
    · rw [up_ne hji] at hb
      obtain ⟨v', hv', hV'⟩ := hall j oj t hj ht hb
      refine ⟨v', ?_, hV j v' w w' hle hV'⟩
      cases hd : oi.dst with
      | none => exact hv'
      | some u =>
        have hne := apart_ne hap hoi hd hj ht (fun e => hji e.symm)
        simp only [Act.put, Array.getElem?_setIfInBounds_ne hne]
        exact hv'
theorem no_dst {t : Tmp} (h : (ops.all fun o => o.dst != some t) = true) : ∀ (j : Nat) (oj : Oper), ops[j]? = some oj → oj.dst ≠ some t := by
  intro j oj hj
  obtain ⟨hlt, he⟩ := Array.getElem?_eq_some_iff.1 hj
  have := Array.all_eq_true.1 h j hlt
  rw [he] at this
  simpa using this
/-- An array of a known size, written out. -/
theorem lit_of_size {t : Array Value} {n : Nat} (h : t.size = n) : t = ((List.range n).map fun i => t.getD i undef).toArray := by
  apply Array.ext
  · simp [h]
  · intro i h1 h2
    simp [Array.getD, h1]
/-- THE REGION, by a weak relation. -/
theorem weak_region {id n : Nat} {a0 : Act} {w : World} (V : Nat → Value → World → Prop) (R : (Nat → Bool) → Act → World → Prop) (l : Array Bool) (hm : P.follows .mixedOrders = true) (hn : ops.size = n) (hl : Array.replicate n false = l)
    (hT : rtab .any ops = T) (hB : waitsOk T.2 B = true) (hk : baseOk T.2 (List.range n) = true) (hlo : (lof T.2.length (List.range n) (fun _ => false) == l.toList && (List.range n).length == n) = true)
    (hR : R (fun _ => false) a0 w.drew) (hs : ∀ i ∈ List.range n, StepAt P ops Q B (List.range n) (Weak ops V R a0) i)
    (hend : ∀ (b : Nat → Bool) (a : Act) (w' : World), (∀ j, j < n → b j = true) → R b a w' → a.tmps.size = a0.tmps.size → a.defers = a0.defers → (∀ t : Tmp, (∀ (j : Nat) (oj : Oper), ops[j]? = some oj → oj.dst ≠ some t) → a.tmps[t]? = a0.tmps[t]?) →
      (∀ (j : Nat) (oj : Oper) (t : Tmp), ops[j]? = some oj → oj.dst = some t → ∃ v, a.tmps[t]? = some v ∧ V j v w') → Q .normal a w') :
    (Code.region id ops true).wp P Q a0 w := by
  refine start_ (S := fun _ => True) (ds := []) l hm hn hl trivial (fun _ => ?_)
  refine inv_ (List.range n) (Weak ops V R a0) hT hB hk hlo ⟨hR, rfl, rfl, fun _ _ => rfl, fun _ _ _ _ _ h => by cases h⟩ hs ?_
  intro b a w' hall ⟨h1, h2, h3, h4, h5⟩
  refine hend b a w' (fun j hj => hall j (List.contains_iff_mem.2 (List.mem_range.2 hj))) h1 h2 h3 h4 (fun j oj t hj ht => h5 j oj t hj ht (hall j ?_))
  rw [← hn]
  exact List.contains_iff_mem.2 (List.mem_range.2 (Array.getElem?_eq_some_iff.1 hj).1)
end Go.Proofs.YtfipjlcbnfcddaaDoor.R
