/- What the search finds is right. -/
import Derived.Test.YtpdjpdfkacpnnaaSmE
import Derived.Test.YtpdjpdfkacpnnaaSkZ
namespace Go.Am
open Go
set_option linter.unusedVariables false
set_option linter.unusedSimpArgs false
section
theorem foldl_mem {γ : Type} {f : List Mo → γ → List Mo} {Q : γ → Mo → Prop} (hf : ∀ o k x, x ∈ f o k → x ∈ o ∨ Q k x) : ∀ (l : List γ) (o : List Mo) (x : Mo), x ∈ l.foldl f o → x ∈ o ∨ ∃ k ∈ l, Q k x
  | [], o, x, h => .inl h
  | k :: l, o, x, h => by
    rw [List.foldl_cons] at h
    rcases foldl_mem hf l _ x h with h | ⟨k', hk, hq⟩
    · rcases hf o k x h with h | h
      · exact .inl h
      · exact .inr ⟨k, by simp, h⟩
    · exact .inr ⟨k', by simp [hk], hq⟩
theorem gt_app {α : Type} [Inhabited α] {l : List α} {x : α} {i : Nat} (h : i < l.length) : gt (l ++ [x]) (i : Int) = gt l i := by
  rw [gt_nat (by simp; omega), gt_nat h, List.getElem_append_left h]
theorem gt_last {α : Type} [Inhabited α] {l : List α} {x : α} : gt (l ++ [x]) (l.length : Int) = x := by
  rw [gt_nat (by simp)]; simp
/-- Edges that go where they can. -/
def EFit (a b : G) (ns es : List Int) : Prop := ∀ i : Nat, i < es.length → (0 ≤ gt es i ∧ gt es i < b.e.length) ∧ fitO ns (gt a.e i) (gt b.e (gt es i)) = true
theorem EFit.snoc {a b : G} {ns es : List Int} (h : EFit a b ns es) {y : Int} (hy : 0 ≤ y ∧ y < b.e.length) (hf : fitO ns (gt a.e es.length) (gt b.e y) = true) : EFit a b ns (es ++ [y]) := fun i hi => by
  rw [List.length_append, List.length_singleton] at hi
  by_cases h1 : i < es.length
  · rw [gt_app h1]; exact h i h1
  · have : i = es.length := by omega
    subst this
    rw [gt_last]; exact ⟨hy, hf⟩
theorem optL_mem {a b : G} {ns : List Int} {e y : Int} (h : y ∈ optL a b ns e) : (0 ≤ y ∧ y < b.e.length) ∧ fitO ns (gt a.e e) (gt b.e y) = true := by
  unfold optL sel at h
  obtain ⟨k, hk, rfl⟩ := List.mem_map.1 h
  obtain ⟨h1, h2⟩ := List.mem_filter.1 hk
  simp at h1
  exact ⟨by omega, h2⟩
theorem aE_mem {a b : G} {ns : List Int} : ∀ (n : Nat) (es : List Int) (out : List Mo), EFit a b ns es → ∀ x ∈ aE a b ns n es out, x ∈ out ∨ (x.n = ns ∧ x.e.length = es.length + n ∧ EFit a b ns x.e)
  | 0, es, out, hes, x, hx => by
    rw [aE] at hx
    split at hx
    · exact .inl hx
    · rcases List.mem_append.1 hx with hx | hx
      · exact .inl hx
      · simp only [List.mem_singleton] at hx
        subst hx
        exact .inr ⟨rfl, rfl, hes⟩
  | n + 1, es, out, hes, x, hx => by
    rw [aE] at hx
    split at hx
    · exact .inl hx
    · rcases foldl_mem (Q := fun y x => y ∈ optL a b ns es.length → (x.n = ns ∧ x.e.length = es.length + (n + 1) ∧ EFit a b ns x.e)) (fun o y x h => by
        by_cases hy : y ∈ optL a b ns es.length
        · obtain ⟨h1, h2⟩ := optL_mem hy
          rcases aE_mem n _ _ (hes.snoc h1 h2) x h with h | ⟨g1, g2, g3⟩
          · exact .inl h
          · exact .inr fun _ => ⟨g1, by rw [g2]; simp; omega, g3⟩
        · exact .inr fun h => absurd h hy) _ _ x hx with h | ⟨y, hy, h⟩
      · exact .inl h
      · exact .inr (h hy)
def NFit (a b : G) (ns : List Int) : Prop := ∀ i : Nat, i < ns.length → (0 ≤ gt ns i ∧ gt ns i < b.n.length) ∧ gt b.n (gt ns i) = gt a.n i
theorem aN_mem {a b : G} : ∀ (n : Nat) (ns : List Int) (out : List Mo), NFit a b ns → ∀ x ∈ aN a b n ns out, x ∈ out ∨ (x.n.length = ns.length + n ∧ NFit a b x.n ∧ x.e.length = a.e.length ∧ EFit a b x.n x.e)
  | 0, ns, out, hns, x, hx => by
    rw [aN] at hx
    split at hx
    · exact .inl hx
    · rcases aE_mem a.e.length [] out (fun i hi => by simp at hi) x hx with h | ⟨h1, h2, h3⟩
      · exact .inl h
      · subst h1
        exact .inr ⟨rfl, hns, by simpa using h2, h3⟩
  | n + 1, ns, out, hns, x, hx => by
    rw [aN] at hx
    split at hx
    · exact .inl hx
    · rcases foldl_mem (Q := fun (i : Nat) x => i < b.n.length → (x.n.length = ns.length + (n + 1) ∧ NFit a b x.n ∧ x.e.length = a.e.length ∧ EFit a b x.n x.e)) (fun o i x h => by
        split at h
        · rename_i hc
          by_cases hi : i < b.n.length
          · have hns' : NFit a b (ns ++ [(i : Int)]) := fun j hj => by
              rw [List.length_append, List.length_singleton] at hj
              by_cases h1 : j < ns.length
              · rw [gt_app h1]; exact hns j h1
              · have : j = ns.length := by omega
                subst this
                rw [gt_last]
                exact ⟨by omega, hc.1⟩
            rcases aN_mem n _ _ hns' x h with h | ⟨g1, g2, g3, g4⟩
            · exact .inl h
            · exact .inr fun _ => ⟨by rw [g1]; simp; omega, g2, g3, g4⟩
          · exact .inr fun h => absurd h hi
        · exact .inl h) _ _ x hx with h | ⟨i, hi, h⟩
      · exact .inl h
      · exact .inr (h (by simpa using hi))
/-- What the search finds is right. -/
theorem allM_ok {a b : G} {x : Mo} (h : x ∈ allM a b) : validM a b x = 0 := by
  unfold allM at h
  split at h
  case isFalse => simp at h
  rename_i he
  unfold allErr at he
  split at he
  · rename_i h1; exact absurd he h1
  rename_i va
  have va := Decidable.not_not.1 va
  split at he
  · rename_i h1; exact absurd he h1
  rename_i vb
  have vb := Decidable.not_not.1 vb
  rcases aN_mem _ _ _ (fun i hi => by simp at hi) x h with h | ⟨g1, g2, g3, g4⟩
  · simp at h
  · rw [List.length_nil, Nat.zero_add] at g1
    refine mok.2 ⟨va, vb, g1, g3, fun i hi => g2 i (by omega), fun i hi => ?_⟩
    obtain ⟨h1, h2⟩ := g4 i (by omega)
    unfold fitO at h2
    simp only [Bool.and_eq_true, decide_eq_true_eq] at h2
    exact ⟨h1, h2.1.symm, h2.2.1.symm, h2.2.2.symm⟩
theorem allM_len (a b : G) : (allM a b).length ≤ 2001 := by
  unfold allM
  split
  · exact aN_len _ _ _ _ _ (by simp)
  · simp
end
end Go.Am
