/- All morphisms: All, and the reference's search. -/
import Derived.Test.YtpdjpdfkacpnnaaSmPa
namespace Go.Am
open Go
set_option linter.unusedVariables false
set_option linter.unusedSimpArgs false
attribute [local irreducible] W
section
variable (P : Program) (F : String → Nat)
end
section
variable {P : Program} {F : String → Nat} {α : Type}
theorem w_morphism_All (hv : K_graph_Valid P F) (hn : K_morphism_search_addNodes P F) (a b : G) : W P (c_morphism_All F) (Done [.t 4, .t 5] [] (.tup [.arr 2 (pts (allM a b)), .int .i64 (allErr a b)]) []) (init [gD a, gD b]) := by
  refine W_of ?_
  have rva := hv a
  have rvb := hv b
  have hr : validG a = 0 → validG b = 0 → FC P (F "morphism.search.addNodes") [seBox a b [] [] []] (.tup []) [(0, seBox a b [] [] (aN a b a.n.length [] []))] := fun h1 h2 => hn a.n.length a b [] [] h1 h2 (by simp) (by simp)
  have hl := aN_len a b a.n.length [] [] (by simp)
  have hE : allErr a b = if validG a ≠ 0 then validG a else if validG b ≠ 0 then validG b else if 2000 < (aN a b a.n.length [] []).length then 3 else 0 := rfl
  have hM : allM a b = if allErr a b = 0 then aN a b a.n.length [] [] else [] := rfl
  generalize aN a b a.n.length [] [] = l at *
  generalize allErr a b = er at *
  generalize allM a b = m at *
  generalize validG a = va at *
  generalize validG b = vb at *
  simp only [gD, seBox] at *
  simp (config := { maxSteps := 1000000 }) (disch := first | omega | (simp only [go_sem]; omega)) only [go_sem, ↓reduceIte]
  refine call_by rva ?_
  simp (config := { maxSteps := 1000000 }) (disch := first | omega | (simp only [go_sem]; omega)) only [go_sem, ↓reduceIte]
  refine bran_ndec (fun c => ?_) (fun c => ?_)
  · rw [if_pos c] at hE
    rw [if_neg (by omega)] at hM
    subst hE hM
    simp (config := { maxSteps := 1000000 }) (disch := first | omega | (simp only [go_sem]; omega)) only [go_sem, ↓reduceIte]
    rfl
  · subst c
    rw [if_neg (by simp)] at hE
    simp (config := { maxSteps := 1000000 }) (disch := first | omega | (simp only [go_sem]; omega)) only [go_sem, ↓reduceIte]
    refine call_by rvb ?_
    simp (config := { maxSteps := 1000000 }) (disch := first | omega | (simp only [go_sem]; omega)) only [go_sem, ↓reduceIte]
    refine bran_ndec (fun c => ?_) (fun c => ?_)
    · rw [if_pos c] at hE
      rw [if_neg (by omega)] at hM
      subst hE hM
      simp (config := { maxSteps := 1000000 }) (disch := first | omega | (simp only [go_sem]; omega)) only [go_sem, ↓reduceIte]
      rfl
    · subst c
      rw [if_neg (by simp)] at hE
      have hr := hr rfl rfl
      simp only [ints, List.map_nil, pts] at hr
      simp (config := { maxSteps := 1000000 }) (disch := first | omega | (simp only [go_sem]; omega)) only [go_sem, ↓reduceIte]
      refine call_fz hr ?_
      have hpl : (List.map mD l).length = l.length := by simp
      simp (config := { maxSteps := 1000000 }) (disch := first | omega | (simp only [go_sem]; omega)) only [go_sem, ↓reduceIte, hpl]
      refine bran_dec (fun c => ?_) (fun c => ?_)
      · rw [if_pos (by omega)] at hE
        rw [if_neg (by omega)] at hM
        subst hE hM
        simp (config := { maxSteps := 1000000 }) (disch := first | omega | (simp only [go_sem]; omega)) only [go_sem, ↓reduceIte]
        rfl
      · rw [if_neg (by omega)] at hE
        rw [if_pos (by omega)] at hM
        subst hE hM
        simp (config := { maxSteps := 1000000 }) (disch := first | omega | (simp only [go_sem]; omega)) only [go_sem, ↓reduceIte, hpl]
        rfl
end
end Go.Am
