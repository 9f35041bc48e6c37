/- All morphisms: the reference's search for edges and nodes. -/
import Derived.Test.YtkllpeebnabdiaaSmD
namespace Go.Am
open Go
set_option linter.unusedVariables false
set_option linter.unusedSimpArgs false
attribute [local irreducible] W
section
variable {P : Program} {F : String → Nat} {α : Type}
/-- A fold over what is selected is a fold over all, with a test. -/
theorem foldl_sel {γ : Type} (f : γ → Int → γ) (p : Nat → Bool) : ∀ (n : Nat) (o : γ), (sel p n).foldl f o = (List.range n).foldl (fun o (k : Nat) => if p k = true then f o k else o) o
  | 0, o => rfl
  | n + 1, o => by
    rw [sel_succ, List.range_succ, List.foldl_append, ← foldl_sel f p n o]
    split <;> rename_i h <;> simp [h]
theorem w_r06_edges (n : Nat) (ih : ∀ m, m < n → KA_r06_edges P F m) (a b : G) (ns es : List Int) (out : List Mo) (va : validG a = 0) (vb : validG b = 0) (h1 : ns.length = a.n.length) (h2 : es.length + n = a.e.length) (h3 : out.length ≤ 2001) :
    W P (c_r06_edges F) (Done [.t 10] [] (.arr 2 (pts (aE a b ns n es out))) []) (init [gD a, gD b, .lst 1 (ints ns), .lst 1 (ints es), .arr 2 (pts out)]) := by
  refine W_of ?_
  obtain ⟨a1, a2, _, a4⟩ := valid_spec va
  obtain ⟨b1, b2, _⟩ := valid_spec vb
  cases n with
  | zero =>
    have hE : aE a b ns 0 es out = if 2000 < out.length then out else out ++ [⟨ns, es⟩] := rfl
    generalize aE a b ns 0 es out = q at *
    obtain ⟨an, ae⟩ := a
    obtain ⟨bn, be⟩ := b
    simp only [gD] at *
    simp (config := { maxSteps := 1000000 }) (disch := first | omega | (simp only [go_sem]; omega)) only [go_sem, ↓reduceIte]
    refine bran_dec (fun c => ?_) (fun c => ?_)
    · rw [if_pos (by omega)] at hE
      subst hE
      simp (config := { maxSteps := 1000000 }) (disch := first | omega | (simp only [go_sem]; omega)) only [go_sem, ↓reduceIte]
    · rw [if_neg (by omega)] at hE
      subst hE
      simp (config := { maxSteps := 1000000 }) (disch := first | omega | (simp only [go_sem]; omega)) only [go_sem, ↓reduceIte]
      refine bran_dec (fun d => ?_) (fun d => ?_)
      · simp (config := { maxSteps := 1000000 }) (disch := first | omega | (simp only [go_sem]; omega)) only [go_sem, ↓reduceIte]
        try rfl
      · omega
  | succ n =>
    have hx := a4 _ (gt_mem (l := a.e) (j := es.length) (by omega) (by omega))
    have hx := fits_spec hx
    generalize hstep : (fun (o : List Mo) (k : Nat) => if fitO ns (gt a.e es.length) (gt b.e k) = true then aE a b ns n (es ++ [(k : Int)]) o else o) = step
    have hE : aE a b ns (n + 1) es out = if 2000 < out.length then out else (List.range b.e.length).foldl step out := by
      rw [aE, optL, foldl_sel, ← hstep]
    have hsl : ∀ o i, o.length ≤ 2001 → (step o i).length ≤ 2001 := fun o i ho => by
      rw [← hstep]; simp only; split
      · exact aE_len a b ns n _ o ho
      · exact ho
    have hlen : ∀ i, ((List.range i).foldl step out).length ≤ 2001 := fun i => foldl_len hsl _ _ h3
    have hsucc : ∀ i, (List.range (i + 1)).foldl step out = step ((List.range i).foldl step out) i := fun i => by rw [List.range_succ, List.foldl_append]; rfl
    have hrec : ∀ (i : Nat) (o : List Mo), o.length ≤ 2001 → FC P (F "r06.edges") [gD a, gD b, .lst 1 (ints ns), .lst 1 (ints (es ++ [(i : Int)])), .arr 2 (pts o)] (.arr 2 (pts (aE a b ns n (es ++ [(i : Int)]) o))) [] := fun i o ho =>
      ih n (by omega) a b ns _ o va vb h1 (by simp; omega) ho
    have hst1 : ∀ (i : Nat) (o : List Mo), fitO ns (gt a.e es.length) (gt b.e i) = true → step o i = aE a b ns n (es ++ [(i : Int)]) o := fun i o h1 => by rw [← hstep]; exact if_pos h1
    have hst2 : ∀ (i : Nat) (o : List Mo), fitO ns (gt a.e es.length) (gt b.e i) = false → step o i = o := fun i o h1 => by rw [← hstep]; exact if_neg (fun h => by rw [h] at h1; cases h1)
    generalize hacc : (fun i : Nat => (List.range i).foldl step out) = acc
    have hacc' : ∀ i, (List.range i).foldl step out = acc i := fun i => by rw [← hacc]
    have hacc0 : acc 0 = out := by rw [← hacc]; rfl
    simp only [hacc'] at hlen hE hsucc
    clear hstep hsl ih
    generalize aE a b ns (n + 1) es out = q at *
    obtain ⟨an, ae⟩ := a
    obtain ⟨bn, be⟩ := b
    generalize hxx : gt ae (es.length : Int) = x at *
    simp only [gD] at hrec ⊢
    simp only at a1 a2 b1 b2 hx h1 h2 hE hst1 hst2
    simp only [fitO] at hst1 hst2
    simp (config := { maxSteps := 1000000 }) (disch := first | omega | (simp only [go_sem]; omega)) only [go_sem, ↓reduceIte]
    refine bran_dec (fun c => ?_) (fun c => ?_)
    · rw [if_pos (by omega)] at hE
      subst hE
      simp (config := { maxSteps := 1000000 }) (disch := first | omega | (simp only [go_sem]; omega)) only [go_sem, ↓reduceIte]
    · rw [if_neg (by omega)] at hE
      subst hE
      simp (config := { maxSteps := 1000000 }) (disch := first | omega | (simp only [go_sem]; omega)) only [go_sem, ↓reduceIte]
      refine bran_dec (fun d => ?_) (fun d => ?_)
      · omega
      · simp (config := { maxSteps := 1000000 }) (disch := first | omega | (simp only [go_sem]; omega)) only [go_sem, ↓reduceIte, hxx]
        refine W_loop (fun i : Nat => ⟨[(2, D.lst 1 (ints ns)), (3, D.lst 1 (ints es)), (4, D.sl 0 0 (acc i).length), (5, D.pt 1 0), (6, D.pt 2 0), (11, D.pt 3 0), (12, D.int IntKind.i64 i)],
          [(0, Ent.arr 2 (pts (acc i))), (1, Ent.box [D.lst 1 (ints an), D.lst 3 (eds ae)]), (2, Ent.box [D.lst 1 (ints bn), D.lst 3 (eds be)]), (3, Ent.box [.int .i64 x.t, .int .i64 x.f, .int .i64 x.o])], 4⟩) (fun i => i ≤ be.length) (fun i => be.length - i) 0 ?_ ?_ ?_
        · simp (config := { maxSteps := 1000000 }) (disch := first | omega | (simp only [go_sem]; omega)) only [go_sem, ↓reduceIte, hacc0]
          rfl
        · simp
        · intro i hi
          have hli := hlen i
          have hsu := hsucc i
          have hli2 := hlen (i + 1)
          have hre := hrec i (acc i) hli
          have s1 := hst1 i (acc i)
          have s2 := hst2 i (acc i)
          simp (config := { maxSteps := 1000000 }) (disch := first | omega | (simp only [go_sem]; omega)) only [go_sem, ↓reduceIte, c_r06_edges_b11]
          refine bran_dec (fun f => ?_) (fun f => ?_)
          · simp (config := { maxSteps := 1000000 }) (disch := first | omega | (simp only [go_sem]; omega)) only [go_sem, ↓reduceIte]
            refine bran_by (fun e => ?_) (fun e => ?_)
            · rw [s1 e] at hsu
              rw [← hsu] at hre
              simp (config := { maxSteps := 1000000 }) (disch := first | omega | (simp only [go_sem]; omega)) only [go_sem, ↓reduceIte]
              refine call_fz hre ?_
              simp (config := { maxSteps := 1000000 }) (disch := first | omega | (simp only [go_sem]; omega)) only [go_sem, ↓reduceIte]
              exact ⟨i + 1, by simp, by omega, by omega⟩
            · rw [s2 e] at hsu
              simp (config := { maxSteps := 1000000 }) (disch := first | omega | (simp only [go_sem]; omega)) only [go_sem, ↓reduceIte]
              exact ⟨i + 1, by simp [hsu], by omega, by omega⟩
          · obtain rfl : i = be.length := by omega
            simp (config := { maxSteps := 1000000 }) (disch := first | omega | (simp only [go_sem]; omega)) only [go_sem, ↓reduceIte]
theorem w_r06_nodes (he : K_r06_edges P F) (hp : K_r06_fits P F) (n : Nat) (ih : ∀ m, m < n → KA_r06_nodes P F m) (a b : G) (ns : List Int) (out : List Mo) (va : validG a = 0) (vb : validG b = 0) (h1 : ns.length + n = a.n.length) (h2 : out.length ≤ 2001) :
    W P (c_r06_nodes F) (Done [.t 8] [] (.arr 2 (pts (aN a b n ns out))) []) (init [gD a, gD b, .lst 1 (ints ns), .arr 2 (pts out)]) := by
  refine W_of ?_
  obtain ⟨a1, a2, _, a4⟩ := valid_spec va
  obtain ⟨b1, b2, _⟩ := valid_spec vb
  cases n with
  | zero =>
    have hE : aN a b 0 ns out = if 2000 < out.length then out else aE a b ns a.e.length [] out := rfl
    have re := he a.e.length a b ns [] out va vb (by omega) (by simp) h2
    have re := FC.nils (a := [gD a, gD b, .lst 1 (ints ns), .nl 1, .arr 2 (pts out)]) re (by simp [NilW, ints])
    generalize aN a b 0 ns out = q at *
    generalize aE a b ns a.e.length [] out = r at *
    obtain ⟨an, ae⟩ := a
    obtain ⟨bn, be⟩ := b
    simp only [gD] at re ⊢
    simp only at a1 a2 b1 b2 h1 h2
    simp (config := { maxSteps := 1000000 }) (disch := first | omega | (simp only [go_sem]; omega)) only [go_sem, ↓reduceIte]
    refine bran_dec (fun c => ?_) (fun c => ?_)
    · rw [if_pos (by omega)] at hE
      subst hE
      simp (config := { maxSteps := 1000000 }) (disch := first | omega | (simp only [go_sem]; omega)) only [go_sem, ↓reduceIte]
    · rw [if_neg (by omega)] at hE
      subst hE
      simp (config := { maxSteps := 1000000 }) (disch := first | omega | (simp only [go_sem]; omega)) only [go_sem, ↓reduceIte]
      refine bran_dec (fun d => ?_) (fun d => ?_)
      · simp (config := { maxSteps := 1000000 }) (disch := first | omega | (simp only [go_sem]; omega)) only [go_sem, ↓reduceIte]
        refine call_fz re ?_
        simp (config := { maxSteps := 1000000 }) (disch := first | omega | (simp only [go_sem]; omega)) only [go_sem, ↓reduceIte]
      · omega
  | succ n =>
    generalize hstep : (fun (o : List Mo) (i : Nat) => if gt b.n i = gt a.n ns.length ∧ possL a b (ns ++ [(i : Int)]) = true then aN a b n (ns ++ [(i : Int)]) o else o) = step
    have hE : aN a b (n + 1) ns out = if 2000 < out.length then out else (List.range b.n.length).foldl step out := by rw [← hstep]; rfl
    have hsl : ∀ o i, o.length ≤ 2001 → (step o i).length ≤ 2001 := fun o i ho => by
      rw [← hstep]; simp only; split
      · exact aN_len a b n _ o ho
      · exact ho
    have hlen : ∀ i, ((List.range i).foldl step out).length ≤ 2001 := fun i => foldl_len hsl _ _ h2
    have hsucc : ∀ i, (List.range (i + 1)).foldl step out = step ((List.range i).foldl step out) i := fun i => by rw [List.range_succ, List.foldl_append]; rfl
    have hposs : ∀ i : Nat, FC P (F "r06.fits") [gD a, gD b, .lst 1 (ints (ns ++ [(i : Int)]))] (.bool (possL a b (ns ++ [(i : Int)]))) [] := fun i => hp a b _ va vb (by simp; omega) (by simp)
    have hrec : ∀ (i : Nat) (o : List Mo), o.length ≤ 2001 → FC P (F "r06.nodes") [gD a, gD b, .lst 1 (ints (ns ++ [(i : Int)])), .arr 2 (pts o)] (.arr 2 (pts (aN a b n (ns ++ [(i : Int)]) o))) [] := fun i o ho => ih n (by omega) a b _ o va vb (by simp; omega) ho
    have hst1 : ∀ (i : Nat) (o : List Mo), gt b.n i = gt a.n ns.length → possL a b (ns ++ [(i : Int)]) = true → step o i = aN a b n (ns ++ [(i : Int)]) o := fun i o h1 h2 => by rw [← hstep]; exact if_pos ⟨h1, h2⟩
    have hst2 : ∀ (i : Nat) (o : List Mo), gt b.n i = gt a.n ns.length → possL a b (ns ++ [(i : Int)]) = false → step o i = o := fun i o h1 h2 => by rw [← hstep]; exact if_neg (fun h => by rw [h.2] at h2; cases h2)
    have hst3 : ∀ (i : Nat) (o : List Mo), gt b.n i ≠ gt a.n ns.length → step o i = o := fun i o h1 => by rw [← hstep]; exact if_neg (fun h => h1 h.1)
    generalize hacc : (fun i : Nat => (List.range i).foldl step out) = acc
    have hacc' : ∀ i, (List.range i).foldl step out = acc i := fun i => by rw [← hacc]
    have hacc0 : acc 0 = out := by rw [← hacc]; rfl
    simp only [hacc'] at hlen hE hsucc
    clear hstep hsl ih
    generalize aN a b (n + 1) ns out = q at *
    obtain ⟨an, ae⟩ := a
    obtain ⟨bn, be⟩ := b
    simp only [gD] at hposs hrec ⊢
    simp only at a1 a2 b1 b2 h1 h2 hE hst1 hst2 hst3
    simp (config := { maxSteps := 1000000 }) (disch := first | omega | (simp only [go_sem]; omega)) only [go_sem, ↓reduceIte]
    refine bran_dec (fun c => ?_) (fun c => ?_)
    · rw [if_pos (by omega)] at hE
      subst hE
      simp (config := { maxSteps := 1000000 }) (disch := first | omega | (simp only [go_sem]; omega)) only [go_sem, ↓reduceIte]
    · rw [if_neg (by omega)] at hE
      subst hE
      simp (config := { maxSteps := 1000000 }) (disch := first | omega | (simp only [go_sem]; omega)) only [go_sem, ↓reduceIte]
      refine bran_dec (fun d => ?_) (fun d => ?_)
      · omega
      · simp (config := { maxSteps := 1000000 }) (disch := first | omega | (simp only [go_sem]; omega)) only [go_sem, ↓reduceIte]
        refine W_loop (fun i : Nat => ⟨[(2, D.lst 1 (ints ns)), (3, D.sl 0 0 (acc i).length), (4, D.pt 1 0), (5, D.pt 2 0), (9, D.int IntKind.i64 i)],
          [(0, Ent.arr 2 (pts (acc i))), (1, Ent.box [D.lst 1 (ints an), D.lst 3 (eds ae)]), (2, Ent.box [D.lst 1 (ints bn), D.lst 3 (eds be)])], 3⟩) (fun i => i ≤ bn.length) (fun i => bn.length - i) 0 ?_ ?_ ?_
        · simp (config := { maxSteps := 1000000 }) (disch := first | omega | (simp only [go_sem]; omega)) only [go_sem, ↓reduceIte, hacc0]
          rfl
        · simp
        · intro i hi
          have hli := hlen i
          have hsu := hsucc i
          have hli2 := hlen (i + 1)
          have hre := hrec i (acc i) hli
          have hpo := hposs i
          simp (config := { maxSteps := 1000000 }) (disch := first | omega | (simp only [go_sem]; omega)) only [go_sem, ↓reduceIte, c_r06_nodes_b12]
          refine bran_dec (fun f => ?_) (fun f => ?_)
          · simp (config := { maxSteps := 1000000 }) (disch := first | omega | (simp only [go_sem]; omega)) only [go_sem, ↓reduceIte]
            refine bran_ndec (fun e => ?_) (fun e => ?_)
            · rw [hst3 i _ e] at hsu
              simp (config := { maxSteps := 1000000 }) (disch := first | omega | (simp only [go_sem]; omega)) only [go_sem, ↓reduceIte]
              exact ⟨i + 1, by simp [hsu], by omega, by omega⟩
            · simp (config := { maxSteps := 1000000 }) (disch := first | omega | (simp only [go_sem]; omega)) only [go_sem, ↓reduceIte]
              refine call_by hpo ?_
              simp (config := { maxSteps := 1000000 }) (disch := first | omega | (simp only [go_sem]; omega)) only [go_sem, ↓reduceIte]
              refine bran_by (fun z => ?_) (fun z => ?_)
              · rw [hst1 i _ e z] at hsu
                rw [← hsu] at hre
                simp (config := { maxSteps := 1000000 }) (disch := first | omega | (simp only [go_sem]; omega)) only [go_sem, ↓reduceIte]
                refine call_fz hre ?_
                simp (config := { maxSteps := 1000000 }) (disch := first | omega | (simp only [go_sem]; omega)) only [go_sem, ↓reduceIte]
                exact ⟨i + 1, by simp, by omega, by omega⟩
              · rw [hst2 i _ e z] at hsu
                simp (config := { maxSteps := 1000000 }) (disch := first | omega | (simp only [go_sem]; omega)) only [go_sem, ↓reduceIte]
                exact ⟨i + 1, by simp [hsu], by omega, by omega⟩
          · obtain rfl : i = bn.length := by omega
            simp (config := { maxSteps := 1000000 }) (disch := first | omega | (simp only [go_sem]; omega)) only [go_sem, ↓reduceIte]
theorem w_r06_All (hv : K_r05_Valid P F) (hn : K_r06_nodes P F) (a b : G) : W P (c_r06_All F) (Done [.t 4, .t 5] [] (.tup [.arr 2 (pts (allM a b)), .int .i64 (allErr a b)]) []) (init [gD a, gD b]) := by
  refine W_of ?_
  have rva := hv a
  have rvb := hv b
  have hr : validG a = 0 → validG b = 0 → FC P (F "r06.nodes") [gD a, gD b, .lst 1 (ints []), .arr 2 (pts [])] (.arr 2 (pts (aN a b a.n.length [] []))) [] := fun h1 h2 => hn a.n.length a b [] [] h1 h2 (by simp) (by simp)
  have hl := aN_len a b a.n.length [] [] (by simp)
  have hE : allErr a b = if validG a ≠ 0 then validG a else if validG b ≠ 0 then validG b else if 2000 < (aN a b a.n.length [] []).length then 3 else 0 := rfl
  have hM : allM a b = if allErr a b = 0 then aN a b a.n.length [] [] else [] := rfl
  generalize aN a b a.n.length [] [] = l at *
  generalize allErr a b = er at *
  generalize allM a b = m at *
  generalize validG a = va at *
  generalize validG b = vb at *
  simp only [gD] at *
  simp (config := { maxSteps := 1000000 }) (disch := first | omega | (simp only [go_sem]; omega)) only [go_sem, ↓reduceIte]
  refine call_by rva ?_
  simp (config := { maxSteps := 1000000 }) (disch := first | omega | (simp only [go_sem]; omega)) only [go_sem, ↓reduceIte]
  refine bran_ndec (fun c => ?_) (fun c => ?_)
  · rw [if_pos c] at hE
    rw [if_neg (by omega)] at hM
    subst hE hM
    simp (config := { maxSteps := 1000000 }) (disch := first | omega | (simp only [go_sem]; omega)) only [go_sem, ↓reduceIte]
    rfl
  · subst c
    rw [if_neg (by simp)] at hE
    simp (config := { maxSteps := 1000000 }) (disch := first | omega | (simp only [go_sem]; omega)) only [go_sem, ↓reduceIte]
    refine call_by rvb ?_
    simp (config := { maxSteps := 1000000 }) (disch := first | omega | (simp only [go_sem]; omega)) only [go_sem, ↓reduceIte]
    refine bran_ndec (fun c => ?_) (fun c => ?_)
    · rw [if_pos c] at hE
      rw [if_neg (by omega)] at hM
      subst hE hM
      simp (config := { maxSteps := 1000000 }) (disch := first | omega | (simp only [go_sem]; omega)) only [go_sem, ↓reduceIte]
      rfl
    · subst c
      rw [if_neg (by simp)] at hE
      have hr := FC.nils (a := [.agg [.lst 1 (ints a.n), .lst 3 (eds a.e)], .agg [.lst 1 (ints b.n), .lst 3 (eds b.e)], .nl 0, .nl 0]) (hr rfl rfl) (by simp [NilW, ints, pts])
      simp only [pts, List.map_nil] at hr
      have hpl : (List.map mD l).length = l.length := by simp
      simp (config := { maxSteps := 1000000 }) (disch := first | omega | (simp only [go_sem]; omega)) only [go_sem, ↓reduceIte]
      refine call_fz hr ?_
      simp (config := { maxSteps := 1000000 }) (disch := first | omega | (simp only [go_sem]; omega)) only [go_sem, ↓reduceIte, hpl]
      refine bran_dec (fun c => ?_) (fun c => ?_)
      · rw [if_pos (by omega)] at hE
        rw [if_neg (by omega)] at hM
        subst hE hM
        simp (config := { maxSteps := 1000000 }) (disch := first | omega | (simp only [go_sem]; omega)) only [go_sem, ↓reduceIte]
        rfl
      · rw [if_neg (by omega)] at hE
        rw [if_pos (by omega)] at hM
        subst hE hM
        simp (config := { maxSteps := 1000000 }) (disch := first | omega | (simp only [go_sem]; omega)) only [go_sem, ↓reduceIte, hpl]
        rfl
theorem pts_at {l : List Mo} {i : Nat} (h : i < l.length) : (pts l)[i]? = some (.agg [.lst 1 (ints (gt l i).n), .lst 1 (ints (gt l i).e)]) := by
  unfold pts
  rw [List.getElem?_map, List.getElem?_eq_getElem h, gt_nat h]
  rfl
theorem w_r06_SameAll (hs : K_r06_Same P F) (l m : List Mo) (hl : l.length ≤ maxL) (hsm : ∀ x ∈ l, x.sm) : W P (c_r06_SameAll F) (Done [.t 4] [] (.bool (decide (l = m))) []) (init [.lst 2 (pts l), .lst 2 (pts m)]) := by
  refine W_of ?_
  unfold maxL at hl
  have hpl := pts_length l
  have hpm := pts_length m
  simp (config := { maxSteps := 1000000 }) (disch := first | omega | (simp only [go_sem]; omega)) only [go_sem, ↓reduceIte]
  refine bran_ndec (fun h => ?_) (fun h => ?_)
  · simp (config := { maxSteps := 1000000 }) (disch := first | omega | (simp only [go_sem]; omega)) only [go_sem, ↓reduceIte]
    have : l ≠ m := fun e => h (by rw [e])
    simp [this]
  · have h' : l.length = m.length := by omega
    simp (config := { maxSteps := 1000000 }) (disch := first | omega | (simp only [go_sem]; omega)) only [go_sem, ↓reduceIte]
    refine W_loop (fun i : Nat => ⟨[(0, .lst 2 (pts l)), (1, .lst 2 (pts m)), (5, .int .i64 i)], [], 0⟩) (fun i => i ≤ l.length ∧ l.take i = m.take i) (fun i => l.length - i) 0 ?_ ?_ ?_
    · simp (config := { maxSteps := 1000000 }) (disch := first | omega | (simp only [go_sem]; omega)) only [go_sem, ↓reduceIte]
      rfl
    · simp
    · rintro i ⟨hi, ht⟩
      simp (config := { maxSteps := 1000000 }) (disch := first | omega | (simp only [go_sem]; omega)) only [go_sem, ↓reduceIte, c_r06_SameAll_b8]
      refine bran_dec (fun f => ?_) (fun f => ?_)
      · have q1 := pts_at (l := l) (i := i) (by omega)
        have q2 := pts_at (l := m) (i := i) (by omega)
        have hx := hsm _ (gt_mem (l := l) (j := i) (by omega) (by omega))
        have r := hs (gt l i) (gt m i) hx.1 hx.2
        simp only [mD] at r
        simp (config := { maxSteps := 1000000 }) (disch := first | omega | (simp only [go_sem]; omega)) only [go_sem, ↓reduceIte, q1, q2]
        refine call_by r ?_
        simp (config := { maxSteps := 1000000 }) (disch := first | omega | (simp only [go_sem]; omega)) only [go_sem, ↓reduceIte]
        refine bran_ndec (fun d2 => ?_) (fun d2 => ?_)
        · simp (config := { maxSteps := 1000000 }) (disch := first | omega | (simp only [go_sem]; omega)) only [go_sem, ↓reduceIte]
          have : l ≠ m := fun e => d2 (by rw [e])
          simp [this]
        · simp (config := { maxSteps := 1000000 }) (disch := first | omega | (simp only [go_sem]; omega)) only [go_sem, ↓reduceIte]
          exact ⟨i + 1, by simp, ⟨by omega, by rw [take_gt (by omega), take_gt (by omega), ht, d2]⟩, by omega⟩
      · simp (config := { maxSteps := 1000000 }) (disch := first | omega | (simp only [go_sem]; omega)) only [go_sem, ↓reduceIte]
        obtain rfl : i = l.length := by omega
        rw [List.take_length, List.take_of_length_le (by omega)] at ht
        simp [ht]
end
end Go.Am
