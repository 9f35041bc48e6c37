/- All morphisms: the search of the program, walked. -/
/- All morphisms: nodes. -/
import Derived.Test.YtpdjpdfkacpnnaaSmA
namespace Go.Am
open Go
set_option linter.unusedVariables false
set_option linter.unusedSimpArgs false
section
variable {P : Program} {F : String → Nat} {α : Type}
theorem edges_pos {g : G} (h : validG g = 0) : ∀ x, x ∈ g.e → 0 ≤ x.f ∧ 0 ≤ x.o := fun x hx => by
  have := fits_spec ((valid_spec h).2.2.2 x hx)
  omega
theorem foldl_take {β γ : Type} [Inhabited β] (f : γ → β → γ) (l : List β) (o : γ) {i : Nat} (h : i < l.length) : (l.take (i + 1)).foldl f o = f ((l.take i).foldl f o) (gt l i) := by
  rw [take_gt h, List.foldl_append]; rfl
theorem w_morphism_search_addEdges (hc : K_slices_Clone_I P F) (ho : K_morphism_search_options P F) (n : Nat) (ih : ∀ m, m < n → KA_morphism_search_addEdges P F m) (a b : G) (ns es : List Int) (out : List Mo) (va : validG a = 0) (vb : validG b = 0) (h1 : ns.length = a.n.length) (h2 : es.length + n = a.e.length) (h3 : out.length ≤ 2001) :
    W P (c_morphism_search_addEdges F) (Done [] [0] (.tup []) [(0, seBox a b ns es (aE a b ns n es out))]) (init [seBox a b ns es out]) := by
  refine W_of ?_
  have ap := edges_pos va
  obtain ⟨a1, a2, _, a4⟩ := valid_spec va
  obtain ⟨b1, b2, _⟩ := valid_spec vb
  have rc1 := hc ns (by omega)
  have rc2 := hc es (by omega)
  cases n with
  | zero =>
    have hE : aE a b ns 0 es out = if 2000 < out.length then out else out ++ [⟨ns, es⟩] := rfl
    generalize aE a b ns 0 es out = q at *
    obtain ⟨an, ae⟩ := a
    obtain ⟨bn, be⟩ := b
    simp only [seBox] at *
    simp (config := { maxSteps := 1000000 }) (disch := first | omega | (simp only [go_sem]; omega)) only [go_sem, ↓reduceIte]
    refine bran_dec (fun c => ?_) (fun c => ?_)
    · rw [if_pos (by omega)] at hE
      subst hE
      simp (config := { maxSteps := 1000000 }) (disch := first | omega | (simp only [go_sem]; omega)) only [go_sem, ↓reduceIte]
      rfl
    · rw [if_neg (by omega)] at hE
      subst hE
      simp (config := { maxSteps := 1000000 }) (disch := first | omega | (simp only [go_sem]; omega)) only [go_sem, ↓reduceIte]
      refine bran_dec (fun d => ?_) (fun d => ?_)
      · simp (config := { maxSteps := 1000000 }) (disch := first | omega | (simp only [go_sem]; omega)) only [go_sem, ↓reduceIte]
        refine call_by rc1 ?_
        simp (config := { maxSteps := 1000000 }) (disch := first | omega | (simp only [go_sem]; omega)) only [go_sem, ↓reduceIte]
        refine call_by rc2 ?_
        simp (config := { maxSteps := 1000000 }) (disch := first | omega | (simp only [go_sem]; omega)) only [go_sem, ↓reduceIte]
        rfl
      · omega
  | succ n =>
    have hE : aE a b ns (n + 1) es out = if 2000 < out.length then out else (optL a b ns es.length).foldl (fun o x => aE a b ns n (es ++ [x]) o) out := rfl
    have hop := optL_len a b ns es.length
    have hx := a4 _ (gt_mem (l := a.e) (j := es.length) (by omega) (by omega))
    have hx := fits_spec hx
    have ro := ho a b ns es out es.length (by omega) (by omega) ap (by omega) (by omega)
    generalize aE a b ns (n + 1) es out = q at *
    generalize hol : optL a b ns es.length = ol at *
    have hlen : ∀ i, ((ol.take i).foldl (fun o x => aE a b ns n (es ++ [x]) o) out).length ≤ 2001 := fun i => foldl_len (fun o x ho => aE_len a b ns n _ o ho) _ _ h3
    have hrec : ∀ i : Nat, i < ol.length → FC P (F "morphism.search.addEdges") [seBox a b ns (es ++ [gt ol i]) ((ol.take i).foldl (fun o x => aE a b ns n (es ++ [x]) o) out)] (.tup [])
        [(0, seBox a b ns (es ++ [gt ol i]) ((ol.take (i + 1)).foldl (fun o x => aE a b ns n (es ++ [x]) o) out))] := fun i hi => by
      rw [foldl_take _ _ _ hi]
      exact ih n (by omega) a b ns (es ++ [gt ol i]) _ va vb h1 (by simp; omega) (hlen i)
    have hfold : ol.foldl (fun o x => aE a b ns n (es ++ [x]) o) out = (ol.take ol.length).foldl (fun o x => aE a b ns n (es ++ [x]) o) out := by rw [List.take_length]
    rw [hfold] at hE
    generalize hacc : (fun i : Nat => (ol.take i).foldl (fun o x => aE a b ns n (es ++ [x]) o) out) = acc
    have hacc' : ∀ i, (ol.take i).foldl (fun o x => aE a b ns n (es ++ [x]) o) out = acc i := fun i => by rw [← hacc]
    have hacc0 : acc 0 = out := by rw [← hacc]; rfl
    simp only [hacc'] at hlen hrec hE
    obtain ⟨an, ae⟩ := a
    obtain ⟨bn, be⟩ := b
    simp only [seBox, seRef] at *
    simp (config := { maxSteps := 1000000 }) (disch := first | omega | (simp only [go_sem]; omega)) only [go_sem, ↓reduceIte]
    refine bran_dec (fun c => ?_) (fun c => ?_)
    · rw [if_pos (by omega)] at hE
      subst hE
      simp (config := { maxSteps := 1000000 }) (disch := first | omega | (simp only [go_sem]; omega)) only [go_sem, ↓reduceIte]
      rfl
    · rw [if_neg (by omega)] at hE
      subst hE
      simp (config := { maxSteps := 1000000 }) (disch := first | omega | (simp only [go_sem]; omega)) only [go_sem, ↓reduceIte]
      refine bran_dec (fun d => ?_) (fun d => ?_)
      · omega
      · simp (config := { maxSteps := 1000000 }) (disch := first | omega | (simp only [go_sem]; omega)) only [go_sem, ↓reduceIte]
        refine call_by ro ?_
        simp (config := { maxSteps := 1000000 }) (disch := first | omega | (simp only [go_sem]; omega)) only [go_sem, ↓reduceIte]
        refine W_loop (fun s : Nat × List Int => ⟨[(0, D.pt 3 0), (2, D.int IntKind.i64 es.length), (46, D.sl 4 0 ol.length), (47, D.int IntKind.i64 ol.length), (48, D.int IntKind.i64 s.1)],
            [(0, Ent.arr 1 (ints ns)), (1, Ent.arr 1 (ints s.2)), (2, Ent.arr 2 (pts (acc s.1))), (3, Ent.box [D.lst 1 (ints an), D.lst 3 (eds ae), D.lst 1 (ints bn), D.lst 3 (eds be), D.sl 0 0 ns.length, D.sl 1 0 es.length, D.sl 2 0 (acc s.1).length]), (4, Ent.arr 1 (ints ol))], 5⟩)
          (fun s => s.1 ≤ ol.length ∧ es.length ≤ s.2.length ∧ s.2.take es.length = es) (fun s => ol.length - s.1) (0, es) ?_ ?_ ?_
        · simp (config := { maxSteps := 1000000 }) (disch := first | omega | (simp only [go_sem]; omega)) only [go_sem, ↓reduceIte, hacc0]
          rfl
        · simp
        · rintro ⟨i, xs⟩ ⟨g1, g2, g3⟩
          simp only at g1 g2 g3
          have hli := hlen i
          simp (config := { maxSteps := 1000000 }) (disch := first | omega | (simp only [go_sem]; omega)) only [go_sem, ↓reduceIte, c_morphism_search_addEdges_b11]
          refine bran_dec (fun f => ?_) (fun f => ?_)
          · have hr := hrec i (by omega)
            have hli2 := hlen (i + 1)
            by_cases hk : es.length = xs.length
            · have hxs : xs = es := by rw [← g3, List.take_of_length_le (by omega)]
              subst hxs
              simp (config := { maxSteps := 1000000 }) (disch := first | omega | (simp only [go_sem]; omega)) only [go_sem, ↓reduceIte]
              refine call_fz hr ?_
              simp (config := { maxSteps := 1000000 }) (disch := first | omega | (simp only [go_sem]; omega)) only [go_sem, ↓reduceIte]
              exact ⟨(i + 1, xs ++ [gt ol i]), by simp, ⟨by simp only; omega, by simp, by simp⟩, by simp only; omega⟩
            · simp (config := { maxSteps := 1000000 }) (disch := first | omega | (simp only [go_sem]; omega)) only [go_sem, ↓reduceIte, g3, hk]
              refine call_fz hr ?_
              simp (config := { maxSteps := 1000000 }) (disch := first | omega | (simp only [go_sem]; omega)) only [go_sem, ↓reduceIte]
              exact ⟨(i + 1, es ++ [gt ol i]), by simp, ⟨by simp only; omega, by simp, by simp⟩, by simp only; omega⟩
          · obtain rfl : i = ol.length := by omega
            by_cases hk : es.length = xs.length
            · have hxs : xs = es := by rw [← g3, List.take_of_length_le (by omega)]
              subst hxs
              simp (config := { maxSteps := 1000000 }) (disch := first | omega | (simp only [go_sem]; omega)) only [go_sem, ↓reduceIte]
              rfl
            · simp (config := { maxSteps := 1000000 }) (disch := first | omega | (simp only [go_sem]; omega)) only [go_sem, ↓reduceIte, g3, hk]
              rfl
end
end Go.Am
namespace Go.Am
open Go
set_option linter.unusedVariables false
set_option linter.unusedSimpArgs false
attribute [local irreducible] W
section
variable {P : Program} {F : String → Nat} {α : Type}
theorem sel_nil (p : Nat → Bool) (n : Nat) : sel p n = [] ↔ (List.range n).any p = false := by
  simp only [sel, List.map_eq_nil_iff, List.filter_eq_nil_iff, List.any_eq_false]
theorem w_morphism_search_possible (ho : K_morphism_search_options P F) (a b : G) (ns : List Int) (out : List Mo) (va : validG a = 0) (vb : validG b = 0) (h1 : ns.length ≤ a.n.length) (h2 : 0 < ns.length) :
    W P (c_morphism_search_possible F) (Done [.t 2] [] (.bool (possL a b ns)) []) (init [seRef a b ns [] out]) := by
  refine W_of ?_
  have ap := edges_pos va
  obtain ⟨a1, a2, _, a4⟩ := valid_spec va
  obtain ⟨b1, b2, _⟩ := valid_spec vb
  have hp : possL a b ns = a.e.all (possE b ns) := rfl
  rw [hp]
  have hopt : ∀ i : Nat, i < a.e.length → mxE (gt a.e i) = (ns.length : Int) - 1 → FC P (F "morphism.search.options") [seRef a b ns [] out, .int .i64 i] (.arr 1 (ints (optL a b ns i))) [] := fun i hi hm => by
    have := ap _ (gt_mem (l := a.e) (j := i) (by omega) (by omega))
    refine ho a b ns [] out i b2 hi ap ?_ ?_ <;> (unfold mxE at hm; split at hm <;> omega)
  have hposs : ∀ i : Nat, possE b ns (gt a.e i) = if mxE (gt a.e i) = (ns.length : Int) - 1 ∧ optL a b ns i = [] then false else true := fun i => by
    unfold possE optL
    simp only [sel_nil]
    by_cases h : mxE (gt a.e i) = (ns.length : Int) - 1
    · simp only [h, decide_true, Bool.not_true, Bool.false_or, true_and]
      cases (List.range b.e.length).any fun k : Nat => fitO ns (gt a.e i) (gt b.e k) <;> simp
    · simp [h]
  have hp1 : ∀ i : Nat, mxE (gt a.e i) = (ns.length : Int) - 1 → optL a b ns i = [] → possE b ns (gt a.e i) = false := fun i h1 h2 => by rw [hposs i, if_pos ⟨h1, h2⟩]
  have hp2 : ∀ i : Nat, mxE (gt a.e i) = (ns.length : Int) - 1 → optL a b ns i ≠ [] → possE b ns (gt a.e i) = true := fun i h1 h2 => by rw [hposs i, if_neg (fun h => h2 h.2)]
  have hp3 : ∀ i : Nat, ¬ mxE (gt a.e i) = (ns.length : Int) - 1 → possE b ns (gt a.e i) = true := fun i h1 => by rw [hposs i, if_neg (fun h => h1 h.1)]
  clear hposs
  have holen : ∀ i : Nat, (optL a b ns i).length ≤ 80 := fun i => Nat.le_trans (optL_len a b ns i) b2
  generalize hOL : (fun i : Nat => optL a b ns i) = OL
  have hOL' : ∀ i : Nat, optL a b ns i = OL i := fun i => by rw [← hOL]
  simp only [hOL'] at hopt hp1 hp2 holen
  clear hOL hOL'
  generalize possE b ns = pe at *
  obtain ⟨an, ae⟩ := a
  obtain ⟨bn, be⟩ := b
  simp only [seRef] at *
  simp only [mxE] at hopt hp1 hp2 hp3
  simp (config := { maxSteps := 1000000 }) (disch := first | omega | (simp only [go_sem]; omega)) only [go_sem, ↓reduceIte]
  refine W_loop (fun i : Nat => ⟨[(0, D.ref [D.lst 1 (ints an), D.lst 3 (eds ae), D.lst 1 (ints bn), D.lst 3 (eds be), D.lst 1 (ints ns), D.lst 1 (ints []), D.lst 2 (pts out)]), (3, .int .i64 ((ns.length : Int) - 1)), (16, .lst 3 (eds ae)), (17, .int .i64 ae.length), (18, .int .i64 i)], [], 0⟩)
    (fun i => i ≤ ae.length ∧ ae.all pe = (ae.drop i).all pe) (fun i => ae.length - i) 0 ?_ ?_ ?_
  · simp (config := { maxSteps := 1000000 }) (disch := first | omega | (simp only [go_sem]; omega)) only [go_sem, ↓reduceIte]
    rfl
  · simp
  · rintro i ⟨hi, he⟩
    have w1 := hopt i
    have w3 := holen i
    simp (config := { maxSteps := 1000000 }) (disch := first | omega | (simp only [go_sem]; omega)) only [go_sem, ↓reduceIte, c_morphism_search_possible_b8]
    refine bran_dec (fun c => ?_) (fun c => ?_)
    · have hd := drop_gt (l := ae) (i := i) (by omega)
      have hall : (ae.drop i).all pe = (pe (gt ae i) && (ae.drop (i + 1)).all pe) := by rw [hd]; rfl
      simp (config := { maxSteps := 1000000 }) (disch := first | omega | (simp only [go_sem]; omega)) only [go_sem, ↓reduceIte]
      refine bran_dec (fun d => ?_) (fun d => ?_)
      · have w1 := w1 (by omega) d
        simp (config := { maxSteps := 1000000 }) (disch := first | omega | (simp only [go_sem]; omega)) only [go_sem, ↓reduceIte, d]
        refine call_by w1 ?_
        simp (config := { maxSteps := 1000000 }) (disch := first | omega | (simp only [go_sem]; omega)) only [go_sem, ↓reduceIte]
        refine bran_dec (fun e => ?_) (fun e => ?_)
        · have hnil : OL i = [] := List.length_eq_zero_iff.1 (by omega)
          have w2 := hp1 i d hnil
          simp (config := { maxSteps := 1000000 }) (disch := first | omega | (simp only [go_sem]; omega)) only [go_sem, ↓reduceIte]
          rw [he, hall, w2]
          simp
        · have hnil : OL i ≠ [] := fun h => e (by rw [h]; rfl)
          have w2 := hp2 i d hnil
          simp (config := { maxSteps := 1000000 }) (disch := first | omega | (simp only [go_sem]; omega)) only [go_sem, ↓reduceIte]
          exact ⟨i + 1, by simp, ⟨by omega, by rw [he, hall, w2]; simp⟩, by omega⟩
      · have w2 := hp3 i d
        simp (config := { maxSteps := 1000000 }) (disch := first | omega | (simp only [go_sem]; omega)) only [go_sem, ↓reduceIte, d]
        exact ⟨i + 1, by simp, ⟨by omega, by rw [he, hall, w2]; simp⟩, by omega⟩
    · simp (config := { maxSteps := 1000000 }) (disch := first | omega | (simp only [go_sem]; omega)) only [go_sem, ↓reduceIte]
      rw [he, List.drop_of_length_le (by omega)]
      rfl
theorem w_morphism_search_addNodes (he : K_morphism_search_addEdges P F) (hp : K_morphism_search_possible P F) (n : Nat) (ih : ∀ m, m < n → KA_morphism_search_addNodes P F m) (a b : G) (ns : List Int) (out : List Mo) (va : validG a = 0) (vb : validG b = 0) (h1 : ns.length + n = a.n.length) (h2 : out.length ≤ 2001) :
    W P (c_morphism_search_addNodes F) (Done [] [0] (.tup []) [(0, seBox a b ns [] (aN a b n ns out))]) (init [seBox a b ns [] out]) := by
  refine W_of ?_
  obtain ⟨a1, a2, _, a4⟩ := valid_spec va
  obtain ⟨b1, b2, _⟩ := valid_spec vb
  cases n with
  | zero =>
    have hE : aN a b 0 ns out = if 2000 < out.length then out else aE a b ns a.e.length [] out := rfl
    have re := he a.e.length a b ns [] out va vb (by omega) (by simp) h2
    have hl := aE_len a b ns a.e.length [] out h2
    generalize aN a b 0 ns out = q at *
    generalize aE a b ns a.e.length [] out = r at *
    obtain ⟨an, ae⟩ := a
    obtain ⟨bn, be⟩ := b
    simp only [seBox] at *
    simp (config := { maxSteps := 1000000 }) (disch := first | omega | (simp only [go_sem]; omega)) only [go_sem, ↓reduceIte]
    refine bran_dec (fun c => ?_) (fun c => ?_)
    · rw [if_pos (by omega)] at hE
      subst hE
      simp (config := { maxSteps := 1000000 }) (disch := first | omega | (simp only [go_sem]; omega)) only [go_sem, ↓reduceIte]
      rfl
    · rw [if_neg (by omega)] at hE
      subst hE
      simp (config := { maxSteps := 1000000 }) (disch := first | omega | (simp only [go_sem]; omega)) only [go_sem, ↓reduceIte]
      refine bran_dec (fun d => ?_) (fun d => ?_)
      · simp (config := { maxSteps := 1000000 }) (disch := first | omega | (simp only [go_sem]; omega)) only [go_sem, ↓reduceIte]
        refine call_fz re ?_
        simp (config := { maxSteps := 1000000 }) (disch := first | omega | (simp only [go_sem]; omega)) only [go_sem, ↓reduceIte]
        rfl
      · omega
  | succ n =>
    generalize hstep : (fun (o : List Mo) (i : Nat) => if gt b.n i = gt a.n ns.length ∧ possL a b (ns ++ [(i : Int)]) = true then aN a b n (ns ++ [(i : Int)]) o else o) = step
    have hE : aN a b (n + 1) ns out = if 2000 < out.length then out else (List.range b.n.length).foldl step out := by rw [← hstep]; rfl
    have hsl : ∀ o i, o.length ≤ 2001 → (step o i).length ≤ 2001 := fun o i ho => by
      rw [← hstep]; simp only; split
      · exact aN_len a b n _ o ho
      · exact ho
    have hlen : ∀ i, ((List.range i).foldl step out).length ≤ 2001 := fun i => foldl_len hsl _ _ h2
    have hsucc : ∀ i, (List.range (i + 1)).foldl step out = step ((List.range i).foldl step out) i := fun i => by rw [List.range_succ, List.foldl_append]; rfl
    have hposs : ∀ (i : Nat) (o : List Mo), FC P (F "morphism.search.possible") [seRef a b (ns ++ [(i : Int)]) [] o] (.bool (possL a b (ns ++ [(i : Int)]))) [] := fun i o => hp a b _ o va vb (by simp; omega) (by simp)
    have hrec : ∀ (i : Nat) (o : List Mo), o.length ≤ 2001 → FC P (F "morphism.search.addNodes") [seBox a b (ns ++ [(i : Int)]) [] o] (.tup []) [(0, seBox a b (ns ++ [(i : Int)]) [] (aN a b n (ns ++ [(i : Int)]) o))] := fun i o ho => ih n (by omega) a b _ o va vb (by simp; omega) ho
    have hst1 : ∀ (i : Nat) (o : List Mo), gt b.n i = gt a.n ns.length → possL a b (ns ++ [(i : Int)]) = true → step o i = aN a b n (ns ++ [(i : Int)]) o := fun i o h1 h2 => by rw [← hstep]; exact if_pos ⟨h1, h2⟩
    have hst2 : ∀ (i : Nat) (o : List Mo), gt b.n i = gt a.n ns.length → possL a b (ns ++ [(i : Int)]) = false → step o i = o := fun i o h1 h2 => by rw [← hstep]; exact if_neg (fun h => by rw [h.2] at h2; cases h2)
    have hst3 : ∀ (i : Nat) (o : List Mo), gt b.n i ≠ gt a.n ns.length → step o i = o := fun i o h1 => by rw [← hstep]; exact if_neg (fun h => h1 h.1)
    generalize hacc : (fun i : Nat => (List.range i).foldl step out) = acc
    have hacc' : ∀ i, (List.range i).foldl step out = acc i := fun i => by rw [← hacc]
    have hacc0 : acc 0 = out := by rw [← hacc]; rfl
    simp only [hacc'] at hlen hE hsucc
    clear hstep hsl ih
    generalize (fun i : Nat => possL a b (ns ++ [(i : Int)])) = pl at *
    generalize aN a b (n + 1) ns out = q at *
    obtain ⟨an, ae⟩ := a
    obtain ⟨bn, be⟩ := b
    simp only [seBox, seRef] at *
    simp (config := { maxSteps := 1000000 }) (disch := first | omega | (simp only [go_sem]; omega)) only [go_sem, ↓reduceIte]
    refine bran_dec (fun c => ?_) (fun c => ?_)
    · rw [if_pos (by omega)] at hE
      subst hE
      simp (config := { maxSteps := 1000000 }) (disch := first | omega | (simp only [go_sem]; omega)) only [go_sem, ↓reduceIte]
      rfl
    · rw [if_neg (by omega)] at hE
      subst hE
      simp (config := { maxSteps := 1000000 }) (disch := first | omega | (simp only [go_sem]; omega)) only [go_sem, ↓reduceIte]
      refine bran_dec (fun d => ?_) (fun d => ?_)
      · omega
      · simp (config := { maxSteps := 1000000 }) (disch := first | omega | (simp only [go_sem]; omega)) only [go_sem, ↓reduceIte]
        refine W_loop (fun s : Nat × List Int => ⟨[(0, D.pt 3 0), (2, D.int IntKind.i64 ns.length), (30, D.lst 1 (ints bn)), (31, D.int IntKind.i64 bn.length), (32, D.int IntKind.i64 s.1)],
            [(0, Ent.arr 1 (ints s.2)), (1, Ent.arr 1 (ints [])), (2, Ent.arr 2 (pts (acc s.1))), (3, Ent.box [D.lst 1 (ints an), D.lst 3 (eds ae), D.lst 1 (ints bn), D.lst 3 (eds be), D.sl 0 0 ns.length, D.sl 1 0 0, D.sl 2 0 (acc s.1).length])], 4⟩)
          (fun s => s.1 ≤ bn.length ∧ ns.length ≤ s.2.length ∧ s.2.take ns.length = ns) (fun s => bn.length - s.1) (0, ns) ?_ ?_ ?_
        · simp (config := { maxSteps := 1000000 }) (disch := first | omega | (simp only [go_sem]; omega)) only [go_sem, ↓reduceIte, hacc0]
          rfl
        · simp
        · rintro ⟨i, xs⟩ ⟨g1, g2, g3⟩
          simp only at g1 g2 g3
          have hli := hlen i
          have hsu := hsucc i
          have hli2 := hlen (i + 1)
          have hpo := hposs i (acc i)
          have hre := hrec i (acc i) hli
          simp (config := { maxSteps := 1000000 }) (disch := first | omega | (simp only [go_sem]; omega)) only [go_sem, ↓reduceIte, c_morphism_search_addNodes_b13]
          refine bran_dec (fun f => ?_) (fun f => ?_)
          · simp (config := { maxSteps := 1000000 }) (disch := first | omega | (simp only [go_sem]; omega)) only [go_sem, ↓reduceIte]
            refine bran_ndec (fun e => ?_) (fun e => ?_)
            · rw [hst3 i _ e] at hsu
              simp (config := { maxSteps := 1000000 }) (disch := first | omega | (simp only [go_sem]; omega)) only [go_sem, ↓reduceIte]
              exact ⟨(i + 1, xs), by simp [hsu], ⟨by simp only; omega, g2, g3⟩, by simp only; omega⟩
            · by_cases hk : ns.length = xs.length
              · have hxs : xs = ns := by rw [← g3, List.take_of_length_le (by omega)]
                subst hxs
                simp (config := { maxSteps := 1000000 }) (disch := first | omega | (simp only [go_sem]; omega)) only [go_sem, ↓reduceIte]
                refine call_by hpo ?_
                simp (config := { maxSteps := 1000000 }) (disch := first | omega | (simp only [go_sem]; omega)) only [go_sem, ↓reduceIte]
                refine bran_by (fun z => ?_) (fun z => ?_)
                · rw [hst1 i _ e z] at hsu
                  rw [← hsu] at hre
                  simp (config := { maxSteps := 1000000 }) (disch := first | omega | (simp only [go_sem]; omega)) only [go_sem, ↓reduceIte]
                  refine call_fz hre ?_
                  simp (config := { maxSteps := 1000000 }) (disch := first | omega | (simp only [go_sem]; omega)) only [go_sem, ↓reduceIte]
                  exact ⟨(i + 1, xs ++ [(i : Int)]), by simp, ⟨by simp only; omega, by simp, by simp⟩, by simp only; omega⟩
                · rw [hst2 i _ e z] at hsu
                  simp (config := { maxSteps := 1000000 }) (disch := first | omega | (simp only [go_sem]; omega)) only [go_sem, ↓reduceIte]
                  exact ⟨(i + 1, xs ++ [(i : Int)]), by simp [hsu], ⟨by simp only; omega, by simp, by simp⟩, by simp only; omega⟩
              · simp (config := { maxSteps := 1000000 }) (disch := first | omega | (simp only [go_sem]; omega)) only [go_sem, ↓reduceIte, g3, hk]
                refine call_by hpo ?_
                simp (config := { maxSteps := 1000000 }) (disch := first | omega | (simp only [go_sem]; omega)) only [go_sem, ↓reduceIte]
                refine bran_by (fun z => ?_) (fun z => ?_)
                · rw [hst1 i _ e z] at hsu
                  rw [← hsu] at hre
                  simp (config := { maxSteps := 1000000 }) (disch := first | omega | (simp only [go_sem]; omega)) only [go_sem, ↓reduceIte]
                  refine call_fz hre ?_
                  simp (config := { maxSteps := 1000000 }) (disch := first | omega | (simp only [go_sem]; omega)) only [go_sem, ↓reduceIte]
                  exact ⟨(i + 1, ns ++ [(i : Int)]), by simp, ⟨by simp only; omega, by simp, by simp⟩, by simp only; omega⟩
                · rw [hst2 i _ e z] at hsu
                  simp (config := { maxSteps := 1000000 }) (disch := first | omega | (simp only [go_sem]; omega)) only [go_sem, ↓reduceIte]
                  exact ⟨(i + 1, ns ++ [(i : Int)]), by simp [hsu], ⟨by simp only; omega, by simp, by simp⟩, by simp only; omega⟩
          · obtain rfl : i = bn.length := by omega
            by_cases hk : ns.length = xs.length
            · have hxs : xs = ns := by rw [← g3, List.take_of_length_le (by omega)]
              subst hxs
              simp (config := { maxSteps := 1000000 }) (disch := first | omega | (simp only [go_sem]; omega)) only [go_sem, ↓reduceIte]
              rfl
            · simp (config := { maxSteps := 1000000 }) (disch := first | omega | (simp only [go_sem]; omega)) only [go_sem, ↓reduceIte, g3, hk]
              rfl
end
end Go.Am
