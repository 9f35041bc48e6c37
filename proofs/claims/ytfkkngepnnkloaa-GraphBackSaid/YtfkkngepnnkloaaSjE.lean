/- The reference of the graph package: Remove. -/
import Derived.Test.YtfkkngepnnkloaaSjD
namespace Go.Am
open Go
set_option linter.unusedVariables false
set_option linter.unusedSimpArgs false
section
variable {P : Program} {F : String → Nat} {α : Type}
set_option maxHeartbeats 2000000 in
theorem w_r05_Remove (hv : K_r05_Valid P F) (ha : K_r05_ascending P F) (hl : K_r05_places P F) (g : G) (ns es : List Int) (h1 : ns.length ≤ maxL) (h2 : es.length ≤ maxL) :
    W P (c_r05_Remove F) (Done [.c 6 true 2, .c 7 true 2, .t 8] [] (remD (removeG g ns es)) []) (init [gD g, .lst 1 (ints ns), .lst 1 (ints es)]) := by
  refine W_of ?_
  obtain ⟨gn, ge⟩ := g
  simp (config := { maxSteps := 1000000 }) (disch := first | omega | (simp only [List.length_set, List.length_append, List.length_cons, List.length_nil, List.length_replicate]; omega)) only [go_sem, Nat.reduceEqDiff, Nat.reduceBEq, Nat.reduceAdd, Nat.reduceSub, Nat.reduceMul, Nat.reduceLT, Nat.reduceLeDiff, ↓reduceIte, reduceCtorEq, Nat.reduceDiv, Nat.reducePow, Nat.reduceMod, gD]
  refine call_by (hv ⟨gn, ge⟩) ?_
  simp (config := { maxSteps := 1000000 }) (disch := first | omega | (simp only [List.length_set, List.length_append, List.length_cons, List.length_nil, List.length_replicate]; omega)) only [go_sem, Nat.reduceEqDiff, Nat.reduceBEq, Nat.reduceAdd, Nat.reduceSub, Nat.reduceMul, Nat.reduceLT, Nat.reduceLeDiff, ↓reduceIte, reduceCtorEq, Nat.reduceDiv, Nat.reducePow, Nat.reduceMod]
  refine bran_ndec (fun c1 => ?_) (fun c1 => ?_)
  · simp (config := { maxSteps := 1000000 }) (disch := first | omega | (simp only [List.length_set, List.length_append, List.length_cons, List.length_nil, List.length_replicate]; omega)) only [go_sem, Nat.reduceEqDiff, Nat.reduceBEq, Nat.reduceAdd, Nat.reduceSub, Nat.reduceMul, Nat.reduceLT, Nat.reduceLeDiff, ↓reduceIte, reduceCtorEq, Nat.reduceDiv, Nat.reducePow, Nat.reduceMod]
    simp [removeG, c1, remD, gA, mA, ints, eds]
  · obtain ⟨v1, v2, v3, v4⟩ := valid_spec c1
    simp only at v1 v2 v3 v4
    simp (config := { maxSteps := 1000000 }) (disch := first | omega | (simp only [List.length_set, List.length_append, List.length_cons, List.length_nil, List.length_replicate]; omega)) only [go_sem, Nat.reduceEqDiff, Nat.reduceBEq, Nat.reduceAdd, Nat.reduceSub, Nat.reduceMul, Nat.reduceLT, Nat.reduceLeDiff, ↓reduceIte, reduceCtorEq, Nat.reduceDiv, Nat.reducePow, Nat.reduceMod]
    refine call_by (ha _ _ h1 (by omega) (by omega)) ?_
    simp (config := { maxSteps := 1000000 }) (disch := first | omega | (simp only [List.length_set, List.length_append, List.length_cons, List.length_nil, List.length_replicate]; omega)) only [go_sem, Nat.reduceEqDiff, Nat.reduceBEq, Nat.reduceAdd, Nat.reduceSub, Nat.reduceMul, Nat.reduceLT, Nat.reduceLeDiff, ↓reduceIte, reduceCtorEq, Nat.reduceDiv, Nat.reducePow, Nat.reduceMod]
    refine bran_ndec (fun c2 => ?_) (fun c2 => ?_)
    · simp (config := { maxSteps := 1000000 }) (disch := first | omega | (simp only [List.length_set, List.length_append, List.length_cons, List.length_nil, List.length_replicate]; omega)) only [go_sem, Nat.reduceEqDiff, Nat.reduceBEq, Nat.reduceAdd, Nat.reduceSub, Nat.reduceMul, Nat.reduceLT, Nat.reduceLeDiff, ↓reduceIte, reduceCtorEq, Nat.reduceDiv, Nat.reducePow, Nat.reduceMod]
      simp [removeG, c1, c2, remD, gA, mA, ints, eds]
    · simp (config := { maxSteps := 1000000 }) (disch := first | omega | (simp only [List.length_set, List.length_append, List.length_cons, List.length_nil, List.length_replicate]; omega)) only [go_sem, Nat.reduceEqDiff, Nat.reduceBEq, Nat.reduceAdd, Nat.reduceSub, Nat.reduceMul, Nat.reduceLT, Nat.reduceLeDiff, ↓reduceIte, reduceCtorEq, Nat.reduceDiv, Nat.reducePow, Nat.reduceMod]
      refine call_by (ha _ _ h2 (by omega) (by omega)) ?_
      simp (config := { maxSteps := 1000000 }) (disch := first | omega | (simp only [List.length_set, List.length_append, List.length_cons, List.length_nil, List.length_replicate]; omega)) only [go_sem, Nat.reduceEqDiff, Nat.reduceBEq, Nat.reduceAdd, Nat.reduceSub, Nat.reduceMul, Nat.reduceLT, Nat.reduceLeDiff, ↓reduceIte, reduceCtorEq, Nat.reduceDiv, Nat.reducePow, Nat.reduceMod]
      refine bran_ndec (fun c3 => ?_) (fun c3 => ?_)
      · simp (config := { maxSteps := 1000000 }) (disch := first | omega | (simp only [List.length_set, List.length_append, List.length_cons, List.length_nil, List.length_replicate]; omega)) only [go_sem, Nat.reduceEqDiff, Nat.reduceBEq, Nat.reduceAdd, Nat.reduceSub, Nat.reduceMul, Nat.reduceLT, Nat.reduceLeDiff, ↓reduceIte, reduceCtorEq, Nat.reduceDiv, Nat.reducePow, Nat.reduceMod]
        simp [removeG, c1, c2, c3, remD, gA, mA, ints, eds]
      · have e1 := left_len ns gn.length
        have e2 := left_len es ge.length
        simp (config := { maxSteps := 1000000 }) (disch := first | omega | (simp only [List.length_set, List.length_append, List.length_cons, List.length_nil, List.length_replicate]; omega)) only [go_sem, Nat.reduceEqDiff, Nat.reduceBEq, Nat.reduceAdd, Nat.reduceSub, Nat.reduceMul, Nat.reduceLT, Nat.reduceLeDiff, ↓reduceIte, reduceCtorEq, Nat.reduceDiv, Nat.reducePow, Nat.reduceMod]
        refine call_by (hl _ _ h1 (by omega) c2) ?_
        simp (config := { maxSteps := 1000000 }) (disch := first | omega | (simp only [List.length_set, List.length_append, List.length_cons, List.length_nil, List.length_replicate]; omega)) only [go_sem, Nat.reduceEqDiff, Nat.reduceBEq, Nat.reduceAdd, Nat.reduceSub, Nat.reduceMul, Nat.reduceLT, Nat.reduceLeDiff, ↓reduceIte, reduceCtorEq, Nat.reduceDiv, Nat.reducePow, Nat.reduceMod, e1]
        refine call_by (hl _ _ h2 (by omega) c3) ?_
        simp (config := { maxSteps := 1000000 }) (disch := first | omega | (simp only [List.length_set, List.length_append, List.length_cons, List.length_nil, List.length_replicate]; omega)) only [go_sem, Nat.reduceEqDiff, Nat.reduceBEq, Nat.reduceAdd, Nat.reduceSub, Nat.reduceMul, Nat.reduceLT, Nat.reduceLeDiff, ↓reduceIte, reduceCtorEq, Nat.reduceDiv, Nat.reducePow, Nat.reduceMod, e1, e2]
        have hb := remN_len gn (leftL ns gn.length).1
        refine W_loop (fun i : Nat => ⟨[(3, .pt 0 0), (6, .pt 3 0), (7, .pt 6 0), (12, .pt 9 0), (13, .pt 12 0), (14, .int .i64 i)],
          [(0, .box [.lst 1 (ints gn), .lst 3 (eds ge)]), (1, .arr 1 []), (2, .arr 3 []), (3, .box [.sl 1 0 0, .sl 2 0 0]), (4, .arr 1 []), (5, .arr 1 []), (6, .box [.sl 4 0 0, .sl 5 0 0]), (7, .arr 1 (ints (leftL ns gn.length).1)),
           (8, .arr 1 (ints (leftL es ge.length).1)), (9, .box [.sl 7 0 gn.length, .sl 8 0 ge.length]), (10, .arr 1 (ints (remN gn (leftL ns gn.length).1 i))), (11, .arr 3 []), (12, .box [.sl 10 0 (remN gn (leftL ns gn.length).1 i).length, .sl 11 0 0])], 13⟩) (fun i => i ≤ gn.length) (fun i => gn.length - i) 0 ?_ ?_ ?_
        · simp (config := { maxSteps := 1000000 }) (disch := first | omega | (simp only [List.length_set, List.length_append, List.length_cons, List.length_nil, List.length_replicate]; omega)) only [go_sem, Nat.reduceEqDiff, Nat.reduceBEq, Nat.reduceAdd, Nat.reduceSub, Nat.reduceMul, Nat.reduceLT, Nat.reduceLeDiff, ↓reduceIte, reduceCtorEq, Nat.reduceDiv, Nat.reducePow, Nat.reduceMod, e1, e2, remN, ints_nil]
          rfl
        · omega
        · intro i hi
          have hbi := hb i
          simp (config := { maxSteps := 1000000 }) (disch := first | omega | (simp only [List.length_set, List.length_append, List.length_cons, List.length_nil, List.length_replicate]; omega)) only [go_sem, Nat.reduceEqDiff, Nat.reduceBEq, Nat.reduceAdd, Nat.reduceSub, Nat.reduceMul, Nat.reduceLT, Nat.reduceLeDiff, ↓reduceIte, reduceCtorEq, Nat.reduceDiv, Nat.reducePow, Nat.reduceMod, c_r05_Remove_b17]
          refine bran_dec (fun c => ?_) (fun c => ?_)
          · simp (config := { maxSteps := 1000000 }) (disch := first | omega | (simp only [List.length_set, List.length_append, List.length_cons, List.length_nil, List.length_replicate]; omega)) only [go_sem, Nat.reduceEqDiff, Nat.reduceBEq, Nat.reduceAdd, Nat.reduceSub, Nat.reduceMul, Nat.reduceLT, Nat.reduceLeDiff, ↓reduceIte, reduceCtorEq, Nat.reduceDiv, Nat.reducePow, Nat.reduceMod, e1, e2]
            refine bran_dec (fun d => ?_) (fun d => ?_)
            · simp (config := { maxSteps := 1000000 }) (disch := first | omega | (simp only [List.length_set, List.length_append, List.length_cons, List.length_nil, List.length_replicate]; omega)) only [go_sem, Nat.reduceEqDiff, Nat.reduceBEq, Nat.reduceAdd, Nat.reduceSub, Nat.reduceMul, Nat.reduceLT, Nat.reduceLeDiff, ↓reduceIte, reduceCtorEq, Nat.reduceDiv, Nat.reducePow, Nat.reduceMod, e1, e2]
              exact ⟨i + 1, by simp [remN, d], by omega, by omega⟩
            · simp (config := { maxSteps := 1000000 }) (disch := first | omega | (simp only [List.length_set, List.length_append, List.length_cons, List.length_nil, List.length_replicate]; omega)) only [go_sem, Nat.reduceEqDiff, Nat.reduceBEq, Nat.reduceAdd, Nat.reduceSub, Nat.reduceMul, Nat.reduceLT, Nat.reduceLeDiff, ↓reduceIte, reduceCtorEq, Nat.reduceDiv, Nat.reducePow, Nat.reduceMod, e1, e2]
              exact ⟨i + 1, by simp [remN, d], by omega, by omega⟩
          · obtain rfl : i = gn.length := by omega
            simp (config := { maxSteps := 1000000 }) (disch := first | omega | (simp only [List.length_set, List.length_append, List.length_cons, List.length_nil, List.length_replicate]; omega)) only [go_sem, Nat.reduceEqDiff, Nat.reduceBEq, Nat.reduceAdd, Nat.reduceSub, Nat.reduceMul, Nat.reduceLT, Nat.reduceLeDiff, ↓reduceIte, reduceCtorEq, Nat.reduceDiv, Nat.reducePow, Nat.reduceMod, e1, e2]
            refine W_loop (fun p : Nat × List E => ⟨[(3, .pt 0 0), (6, .pt 3 0), (7, .pt 6 0), (12, .pt 9 0), (13, .pt 12 0), (15, .int .i64 p.1)],
              [(0, .box [.lst 1 (ints gn), .lst 3 (eds ge)]), (1, .arr 1 []), (2, .arr 3 []), (3, .box [.sl 1 0 0, .sl 2 0 0]), (4, .arr 1 []), (5, .arr 1 []), (6, .box [.sl 4 0 0, .sl 5 0 0]), (7, .arr 1 (ints (leftL ns gn.length).1)),
               (8, .arr 1 (ints (leftL es ge.length).1)), (9, .box [.sl 7 0 gn.length, .sl 8 0 ge.length]), (10, .arr 1 (ints (remN gn (leftL ns gn.length).1 gn.length))), (11, .arr 3 (eds p.2)), (12, .box [.sl 10 0 (remN gn (leftL ns gn.length).1 gn.length).length, .sl 11 0 p.2.length])], 13⟩) (fun p => p.1 ≤ ge.length ∧ remEd ge (leftL ns gn.length).1 (leftL es ge.length).1 p.1 = some p.2) (fun p => ge.length - p.1) (0, []) ?_ ?_ ?_
            · simp (config := { maxSteps := 1000000 }) (disch := first | omega | (simp only [List.length_set, List.length_append, List.length_cons, List.length_nil, List.length_replicate]; omega)) only [go_sem, Nat.reduceEqDiff, Nat.reduceBEq, Nat.reduceAdd, Nat.reduceSub, Nat.reduceMul, Nat.reduceLT, Nat.reduceLeDiff, ↓reduceIte, reduceCtorEq, Nat.reduceDiv, Nat.reducePow, Nat.reduceMod, e1, e2]
              rfl
            · simp [remEd]
            · rintro ⟨i, l⟩ ⟨hi, hl⟩
              simp only at hi hl
              have hll := remEd_len _ _ _ _ _ hl
              simp (config := { maxSteps := 1000000 }) (disch := first | omega | (simp only [List.length_set, List.length_append, List.length_cons, List.length_nil, List.length_replicate]; omega)) only [go_sem, Nat.reduceEqDiff, Nat.reduceBEq, Nat.reduceAdd, Nat.reduceSub, Nat.reduceMul, Nat.reduceLT, Nat.reduceLeDiff, ↓reduceIte, reduceCtorEq, Nat.reduceDiv, Nat.reducePow, Nat.reduceMod, c_r05_Remove_b26]
              refine bran_dec (fun c => ?_) (fun c => ?_)
              · have hf := fits_spec (v4 _ (gt_mem (by omega) c))
                simp (config := { maxSteps := 1000000 }) (disch := first | omega | (simp only [List.length_set, List.length_append, List.length_cons, List.length_nil, List.length_replicate]; omega)) only [go_sem, Nat.reduceEqDiff, Nat.reduceBEq, Nat.reduceAdd, Nat.reduceSub, Nat.reduceMul, Nat.reduceLT, Nat.reduceLeDiff, ↓reduceIte, reduceCtorEq, Nat.reduceDiv, Nat.reducePow, Nat.reduceMod, e1, e2]
                refine bran_dec (fun d => ?_) (fun d => ?_)
                · simp (config := { maxSteps := 1000000 }) (disch := first | omega | (simp only [List.length_set, List.length_append, List.length_cons, List.length_nil, List.length_replicate]; omega)) only [go_sem, Nat.reduceEqDiff, Nat.reduceBEq, Nat.reduceAdd, Nat.reduceSub, Nat.reduceMul, Nat.reduceLT, Nat.reduceLeDiff, ↓reduceIte, reduceCtorEq, Nat.reduceDiv, Nat.reducePow, Nat.reduceMod, e1, e2]
                  exact ⟨(i + 1, l), by simp, ⟨by simp only; omega, by simp [remEd, hl, d]⟩, by simp only; omega⟩
                · simp (config := { maxSteps := 1000000 }) (disch := first | omega | (simp only [List.length_set, List.length_append, List.length_cons, List.length_nil, List.length_replicate]; omega)) only [go_sem, Nat.reduceEqDiff, Nat.reduceBEq, Nat.reduceAdd, Nat.reduceSub, Nat.reduceMul, Nat.reduceLT, Nat.reduceLeDiff, ↓reduceIte, reduceCtorEq, Nat.reduceDiv, Nat.reducePow, Nat.reduceMod, e1, e2]
                  refine bran_dec (fun d2 => ?_) (fun d2 => ?_)
                  · simp (config := { maxSteps := 1000000 }) (disch := first | omega | (simp only [List.length_set, List.length_append, List.length_cons, List.length_nil, List.length_replicate]; omega)) only [go_sem, Nat.reduceEqDiff, Nat.reduceBEq, Nat.reduceAdd, Nat.reduceSub, Nat.reduceMul, Nat.reduceLT, Nat.reduceLeDiff, ↓reduceIte, reduceCtorEq, Nat.reduceDiv, Nat.reducePow, Nat.reduceMod, e1, e2, d2]
                    have hn : remEd ge (leftL ns gn.length).1 (leftL es ge.length).1 (i + 1) = none := by simp [remEd, hl, d, remE, d2]
                    have hn' := remEd_none _ _ _ hn (ge.length - (i + 1))
                    rw [show i + 1 + (ge.length - (i + 1)) = ge.length by omega] at hn'
                    simp [removeG, c1, c2, c3, hn', remD, gA, mA, ints, eds]
                  · simp (config := { maxSteps := 1000000 }) (disch := first | omega | (simp only [List.length_set, List.length_append, List.length_cons, List.length_nil, List.length_replicate]; omega)) only [go_sem, Nat.reduceEqDiff, Nat.reduceBEq, Nat.reduceAdd, Nat.reduceSub, Nat.reduceMul, Nat.reduceLT, Nat.reduceLeDiff, ↓reduceIte, reduceCtorEq, Nat.reduceDiv, Nat.reducePow, Nat.reduceMod, e1, e2, d2]
                    refine bran_dec (fun d3 => ?_) (fun d3 => ?_)
                    · simp (config := { maxSteps := 1000000 }) (disch := first | omega | (simp only [List.length_set, List.length_append, List.length_cons, List.length_nil, List.length_replicate]; omega)) only [go_sem, Nat.reduceEqDiff, Nat.reduceBEq, Nat.reduceAdd, Nat.reduceSub, Nat.reduceMul, Nat.reduceLT, Nat.reduceLeDiff, ↓reduceIte, reduceCtorEq, Nat.reduceDiv, Nat.reducePow, Nat.reduceMod, e1, e2]
                      have hn : remEd ge (leftL ns gn.length).1 (leftL es ge.length).1 (i + 1) = none := by simp [remEd, hl, d, remE, d3]
                      have hn' := remEd_none _ _ _ hn (ge.length - (i + 1))
                      rw [show i + 1 + (ge.length - (i + 1)) = ge.length by omega] at hn'
                      simp [removeG, c1, c2, c3, hn', remD, gA, mA, ints, eds]
                    · simp (config := { maxSteps := 1000000 }) (disch := first | omega | (simp only [List.length_set, List.length_append, List.length_cons, List.length_nil, List.length_replicate]; omega)) only [go_sem, Nat.reduceEqDiff, Nat.reduceBEq, Nat.reduceAdd, Nat.reduceSub, Nat.reduceMul, Nat.reduceLT, Nat.reduceLeDiff, ↓reduceIte, reduceCtorEq, Nat.reduceDiv, Nat.reducePow, Nat.reduceMod, e1, e2]
                      exact ⟨(i + 1, l ++ [remE (leftL ns gn.length).1 (gt ge i)]), by simp [remE], ⟨by simp only; omega, by simp [remEd, hl, d, remE, d2, d3]⟩, by simp only; omega⟩
              · obtain rfl : i = ge.length := by omega
                simp (config := { maxSteps := 1000000 }) (disch := first | omega | (simp only [List.length_set, List.length_append, List.length_cons, List.length_nil, List.length_replicate]; omega)) only [go_sem, Nat.reduceEqDiff, Nat.reduceBEq, Nat.reduceAdd, Nat.reduceSub, Nat.reduceMul, Nat.reduceLT, Nat.reduceLeDiff, ↓reduceIte, reduceCtorEq, Nat.reduceDiv, Nat.reducePow, Nat.reduceMod, e1, e2]
                simp [removeG, c1, c2, c3, hl, remD, gA, mA]
end
end Go.Am
