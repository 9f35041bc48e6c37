/- Pullbacks: Of and its reference. -/
import Derived.Test.YtkllpeebnabdiaaSkF
namespace Go.Am
open Go
set_option linter.unusedVariables false
set_option linter.unusedSimpArgs false
section
variable {P : Program} {F : String → Nat} {α : Type}
theorem pbN_len {s : Cs} (h : pbErr s = 0) : (pbN s).length ≤ 40 ∧ (pbE s).length ≤ 80 ∧ givenE s = 0 := by
  unfold pbErr at h
  split at h
  · rename_i h1; exact absurd h h1
  · rename_i h1
    split at h
    · cases h
    · rename_i h2
      exact ⟨by omega, by omega, by simpa using h1⟩
theorem w_pullback_Of (ho : K_pullback_of P F) (hs : K_pullback_sides P F) (s : Cs) : W P (c_pullback_Of F) (Done [.c 2 true 2, .c 3 true 2, .c 4 true 2, .t 5] [] (.tup [gA (pbG s), mA (pbP s), mA (pbQ s), .int .i64 (pbErr s)]) []) (init [csD s]) := by
  refine W_of ?_
  have ro := ho s
  have hl := @pbN_len s
  have hP : pbP s = if pbErr s = 0 then ⟨asA (pbN s), asA (pbE s)⟩ else m0 := rfl
  have hQ : pbQ s = if pbErr s = 0 then ⟨asB (pbN s), asB (pbE s)⟩ else m0 := rfl
  have hZ : pbErr s ≠ 0 → pbG s = g0 := fun h => by simp [pbG, h]
  generalize pbErr s = er at *
  generalize pbG s = gg at *
  generalize pbP s = pp at *
  generalize pbQ s = qq at *
  generalize pbN s = ns at *
  generalize pbE s = es at *
  simp only [csD] at ro
  simp (config := { maxSteps := 1000000 }) (disch := first | omega | (simp only [go_sem]; omega)) only [go_sem, ↓reduceIte, csD]
  refine call_by ro ?_
  obtain ⟨gn, ge⟩ := gg
  simp (config := { maxSteps := 1000000 }) (disch := first | omega | (simp only [go_sem]; omega)) only [go_sem, ↓reduceIte]
  refine bran_ndec (fun c => ?_) (fun c => ?_)
  · rw [if_neg c] at hP hQ
    simp (config := { maxSteps := 1000000 }) (disch := first | omega | (simp only [go_sem]; omega)) only [go_sem, ↓reduceIte]
    rw [hP, hQ, hZ c]
    simp [gA, mA, g0, m0, ints, eds]
  · subst c
    obtain ⟨l1, l2, _⟩ := hl rfl
    simp only [↓reduceIte] at hP hQ ⊢
    simp (config := { maxSteps := 1000000 }) (disch := first | omega | (simp only [go_sem]; omega)) only [go_sem, ↓reduceIte]
    refine call_by (hs ns (by omega)) ?_
    simp (config := { maxSteps := 1000000 }) (disch := first | omega | (simp only [go_sem]; omega)) only [go_sem, ↓reduceIte]
    refine call_by (hs es (by omega)) ?_
    simp (config := { maxSteps := 1000000 }) (disch := first | omega | (simp only [go_sem]; omega)) only [go_sem, ↓reduceIte]
    rw [hP, hQ]
    simp [gA, mA, asA, asB]
theorem w_r11_Of (hv : K_r11_Valid P F) (hp : K_r11_pairs P F) (hx : K_r11_place P F) (hs : K_r11_sides P F) (s : Cs) :
    W P (c_r11_Of F) (Done [.c 2 true 2, .c 3 true 2, .c 4 true 2, .t 5] [] (.tup [gA (pbG s), mA (pbP s), mA (pbQ s), .int .i64 (pbErr s)]) []) (init [csD s]) := by
  refine W_of ?_
  have rg := hv s
  have hs1 := @givenE_spec s
  have hE : pbErr s = if givenE s ≠ 0 then givenE s else if 40 < (pbN s).length ∨ 80 < (pbE s).length then 3 else 0 := rfl
  have hG : pbErr s = 0 → pbG s = ⟨(pbN s).map fun p => gt s.b.n p.a, (pbE s).map (pbEdge s.b.e s.c.e (pbN s))⟩ := fun h => by simp [pbG, h, pbG0]
  have hZ : pbErr s ≠ 0 → pbG s = g0 := fun h => by simp [pbG, h]
  have hP : pbP s = if pbErr s = 0 then ⟨asA (pbN s), asA (pbE s)⟩ else m0 := rfl
  have hQ : pbQ s = if pbErr s = 0 then ⟨asB (pbN s), asB (pbE s)⟩ else m0 := rfl
  generalize pbErr s = er at *
  generalize pbG s = gg at *
  generalize pbP s = pp at *
  generalize pbQ s = qq at *
  generalize givenE s = ge at *
  simp only [csD] at rg
  simp (config := { maxSteps := 1000000 }) (disch := first | omega | (simp only [go_sem]; omega)) only [go_sem, ↓reduceIte, csD]
  refine call_by rg ?_
  simp (config := { maxSteps := 1000000 }) (disch := first | omega | (simp only [go_sem]; omega)) only [go_sem, ↓reduceIte]
  refine bran_ndec (fun c => ?_) (fun c => ?_)
  · rw [if_pos c] at hE
    have hne : ¬ (er = 0) := by omega
    rw [if_neg hne] at hP hQ
    simp (config := { maxSteps := 1000000 }) (disch := first | omega | (simp only [go_sem]; omega)) only [go_sem, ↓reduceIte]
    rw [hZ hne, hE, hP, hQ]
    simp [g0, m0, gA, mA, ints, eds]
  · subst c
    rw [if_neg (by simp)] at hE
    obtain ⟨v1, v2⟩ := hs1 rfl
    obtain ⟨a1, a2, a3, a4, _⟩ := validM_len v1
    obtain ⟨b1, b2, b3, b4, _⟩ := validM_len v2
    obtain ⟨_, _, a5, a6, _⟩ := validM_spec v1
    obtain ⟨_, _, b5, b6, _⟩ := validM_spec v2
    have r1 := hp s.f.n s.g.n 40 (by omega) (by omega) (by omega)
    have r2 := hp s.f.e s.g.e 80 (by omega) (by omega) (by omega)
    have l1 : (pbN s).length ≤ 10000 := pairsL_len (by omega) (by omega)
    have l2 : (pbE s).length ≤ 10000 := pairsL_len (by omega) (by omega)
    have m1 : ∀ p ∈ pbN s, (0 ≤ p.a ∧ p.a < s.b.n.length) := fun p hp => by have := pairsL_bd hp; omega
    have m2 : ∀ p ∈ pbE s, (0 ≤ p.a ∧ p.a < s.b.e.length) ∧ (0 ≤ p.b ∧ p.b < s.c.e.length) := fun p hp => by have := pairsL_bd hp; omega
    change FC P _ _ (.arr 2 (prs ((pbN s).take (40 + 1)))) _ at r1
    change FC P _ _ (.arr 2 (prs ((pbE s).take (80 + 1)))) _ at r2
    generalize pbN s = ns at *
    generalize pbE s = es at *
    obtain ⟨⟨bn, be⟩, ⟨cn, ce⟩, ⟨dn, de⟩, ⟨fn, fe⟩, ⟨gn, ge⟩⟩ := s
    simp only at *
    have t1 : (ns.take (40 + 1)).length = min 41 ns.length := by simp
    have t2 : (es.take (80 + 1)).length = min 81 es.length := by simp
    have t3 : ns.length ≤ 40 → ns.take (40 + 1) = ns := fun h => List.take_of_length_le (by omega)
    have t4 : es.length ≤ 80 → es.take (80 + 1) = es := fun h => List.take_of_length_le (by omega)
    generalize ns.take (40 + 1) = ns' at *
    generalize es.take (80 + 1) = es' at *
    simp (config := { maxSteps := 1000000 }) (disch := first | omega | (simp only [go_sem]; omega)) only [go_sem, ↓reduceIte]
    refine call_by r1 ?_
    simp (config := { maxSteps := 1000000 }) (disch := first | omega | (simp only [go_sem]; omega)) only [go_sem, ↓reduceIte]
    refine call_by r2 ?_
    simp (config := { maxSteps := 1000000 }) (disch := first | omega | (simp only [go_sem]; omega)) only [go_sem, ↓reduceIte]
    have fitN : ∀ i, i ≤ ns.length → ((ns.take i).map fun p => gt bn p.a).length = i := fun i hi => by simp; omega
    have fitE : ∀ i, i ≤ es.length → ((es.take i).map (pbEdge be ce ns)).length = i := fun i hi => by simp; omega
    refine bran_dec (fun c1 => ?_) (fun c1 => ?_)
    · rw [if_pos (by omega)] at hE
      have hne : ¬ (er = 0) := by omega
      rw [if_neg hne] at hP hQ
      simp (config := { maxSteps := 1000000 }) (disch := first | omega | (simp only [go_sem]; omega)) only [go_sem, ↓reduceIte, c1]
      rw [hZ hne, hE, hP, hQ]
      simp [g0, m0, gA, mA, ints, eds]
    · simp (config := { maxSteps := 1000000 }) (disch := first | omega | (simp only [go_sem]; omega)) only [go_sem, ↓reduceIte, c1]
      refine bran_dec (fun c2 => ?_) (fun c2 => ?_)
      · rw [if_pos (by omega)] at hE
        have hne : ¬ (er = 0) := by omega
        rw [if_neg hne] at hP hQ
        simp (config := { maxSteps := 1000000 }) (disch := first | omega | (simp only [go_sem]; omega)) only [go_sem, ↓reduceIte, c1, c2]
        rw [hZ hne, hE, hP, hQ]
        simp [g0, m0, gA, mA, ints, eds]
      · rw [if_neg (by omega)] at hE
        obtain rfl := t3 (by omega)
        obtain rfl := t4 (by omega)
        subst hE
        rw [if_pos rfl] at hP hQ
        have hG := hG rfl
        subst hG hP hQ
        clear t1 t2 t3 t4
        simp (config := { maxSteps := 1000000 }) (disch := first | omega | (simp only [go_sem]; omega)) only [go_sem, ↓reduceIte, c1, c2]
        refine W_loop (fun i : Nat => ⟨[(1, D.pt 0 0), (2, D.pt 3 0), (3, D.pt 6 0), (4, D.pt 9 0), (7, D.sl 10 0 ns'.length), (8, D.sl 11 0 es'.length), (9, D.pt 14 0), (10, D.int IntKind.i64 i)],
          [(0, Ent.box [D.lst 1 (ints bn), D.lst 3 (eds be), D.lst 1 (ints cn), D.lst 3 (eds ce), D.lst 1 (ints dn), D.lst 3 (eds de), D.lst 1 (ints fn), D.lst 1 (ints fe), D.lst 1 (ints gn), D.lst 1 (ints ge)]),
            (1, Ent.arr 1 []), (2, Ent.arr 3 []), (3, Ent.box [D.sl 1 0 0, D.sl 2 0 0]), (4, Ent.arr 1 []), (5, Ent.arr 1 []), (6, Ent.box [D.sl 4 0 0, D.sl 5 0 0]), (7, Ent.arr 1 []), (8, Ent.arr 1 []),
            (9, Ent.box [D.sl 7 0 0, D.sl 8 0 0]), (10, Ent.arr 2 (prs ns')), (11, Ent.arr 2 (prs es')), (12, Ent.arr 1 (ints ((ns'.take i).map fun p => gt bn p.a))), (13, Ent.arr 3 []), (14, Ent.box [D.sl 12 0 i, D.sl 13 0 0])], 15⟩) (fun i => i ≤ ns'.length) (fun i => ns'.length - i) 0 ?_ ?_ ?_
        · simp (config := { maxSteps := 1000000 }) (disch := first | omega | (simp only [go_sem]; omega)) only [go_sem, ↓reduceIte]
          rfl
        · simp
        · intro i hi
          have e1 := fitN i hi
          simp (config := { maxSteps := 1000000 }) (disch := first | omega | (simp only [go_sem]; omega)) only [go_sem, ↓reduceIte, c_r11_Of_b12]
          refine bran_dec (fun c => ?_) (fun c => ?_)
          · have hm := m1 _ (gt_mem (l := ns') (j := i) (by omega) (by omega))
            simp (config := { maxSteps := 1000000 }) (disch := first | omega | (simp only [go_sem]; omega)) only [go_sem, ↓reduceIte, e1]
            exact ⟨i + 1, by rw [take_gt (by omega)]; simp, by omega, by omega⟩
          · obtain rfl : i = ns'.length := by omega
            rw [List.take_length] at e1
            simp (config := { maxSteps := 1000000 }) (disch := first | omega | (simp only [go_sem]; omega)) only [go_sem, ↓reduceIte, e1]
            refine W_loop (fun j : Nat => ⟨[(1, D.pt 0 0), (2, D.pt 3 0), (3, D.pt 6 0), (4, D.pt 9 0), (7, D.sl 10 0 ns'.length), (8, D.sl 11 0 es'.length), (9, D.pt 14 0), (11, D.int IntKind.i64 j)],
              [(0, Ent.box [D.lst 1 (ints bn), D.lst 3 (eds be), D.lst 1 (ints cn), D.lst 3 (eds ce), D.lst 1 (ints dn), D.lst 3 (eds de), D.lst 1 (ints fn), D.lst 1 (ints fe), D.lst 1 (ints gn), D.lst 1 (ints ge)]),
            (1, Ent.arr 1 []), (2, Ent.arr 3 []), (3, Ent.box [D.sl 1 0 0, D.sl 2 0 0]), (4, Ent.arr 1 []), (5, Ent.arr 1 []), (6, Ent.box [D.sl 4 0 0, D.sl 5 0 0]), (7, Ent.arr 1 []), (8, Ent.arr 1 []),
            (9, Ent.box [D.sl 7 0 0, D.sl 8 0 0]), (10, Ent.arr 2 (prs ns')), (11, Ent.arr 2 (prs es')), (12, Ent.arr 1 (ints (ns'.map fun p => gt bn p.a))), (13, Ent.arr 3 (eds ((es'.take j).map (pbEdge be ce ns')))), (14, Ent.box [D.sl 12 0 ns'.length, D.sl 13 0 j])], 15⟩) (fun j => j ≤ es'.length) (fun j => es'.length - j) 0 ?_ ?_ ?_
            · simp (config := { maxSteps := 1000000 }) (disch := first | omega | (simp only [go_sem]; omega)) only [go_sem, ↓reduceIte]
              rfl
            · simp
            · intro j hj
              have e2 := fitE j hj
              simp (config := { maxSteps := 1000000 }) (disch := first | omega | (simp only [go_sem]; omega)) only [go_sem, ↓reduceIte, c_r11_Of_b18]
              refine bran_dec (fun c => ?_) (fun c => ?_)
              · have hm := m2 _ (gt_mem (l := es') (j := j) (by omega) (by omega))
                have q1 := hx ns' (gt be (gt es' j).a).f (gt ce (gt es' j).b).f (by unfold maxL; omega)
                have q2 := hx ns' (gt be (gt es' j).a).o (gt ce (gt es' j).b).o (by unfold maxL; omega)
                simp (config := { maxSteps := 1000000 }) (disch := first | omega | (simp only [go_sem]; omega)) only [go_sem, ↓reduceIte, e2]
                refine call_by q1 ?_
                simp (config := { maxSteps := 1000000 }) (disch := first | omega | (simp only [go_sem]; omega)) only [go_sem, ↓reduceIte, e2]
                refine call_by q2 ?_
                simp (config := { maxSteps := 1000000 }) (disch := first | omega | (simp only [go_sem]; omega)) only [go_sem, ↓reduceIte, e2]
                exact ⟨j + 1, by rw [take_gt (by omega)]; simp [pbEdge], by omega, by omega⟩
              · obtain rfl : j = es'.length := by omega
                rw [List.take_length] at e2
                simp (config := { maxSteps := 1000000 }) (disch := first | omega | (simp only [go_sem]; omega)) only [go_sem, ↓reduceIte, e1, e2]
                refine call_by (hs ns' (by omega)) ?_
                simp (config := { maxSteps := 1000000 }) (disch := first | omega | (simp only [go_sem]; omega)) only [go_sem, ↓reduceIte, e1, e2]
                refine call_by (hs es' (by omega)) ?_
                simp (config := { maxSteps := 1000000 }) (disch := first | omega | (simp only [go_sem]; omega)) only [go_sem, ↓reduceIte, e1, e2]
                simp [gA, mA, asA, asB]
end
end Go.Am
