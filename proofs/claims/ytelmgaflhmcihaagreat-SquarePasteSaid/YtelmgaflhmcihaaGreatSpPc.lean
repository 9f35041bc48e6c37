/- Morphisms that are right; identities. -/
/- Images of graphs by numbers: what they are, and that they are morphisms. -/
/- Morphisms: identities, composition, inverses. -/
/- Partitions: what pairs generate, and the classes. -/
/- Quotients of graphs, and what is glued: plain facts. -/
/- Partitions: the program's functions, and the reference's Generate. -/
/- Quotients of graphs: the program's and the reference's functions; coequalizers. -/
import Derived.Test.YtelmgaflhmcihaaGreatSpPa
import Derived.Test.YtelmgaflhmcihaaGreatSpPb
namespace Go.Am
open Go
set_option linter.unusedVariables false
set_option linter.unusedSimpArgs false
section
variable {α : Type}
theorem list_ext_gt [Inhabited α] {a b : List α} (hl : a.length = b.length) (h : ∀ i : Nat, i < a.length → gt a i = gt b i) : a = b := by
  refine List.ext_getElem hl fun i h1 h2 => ?_
  have := h i h1
  rwa [gt_nat h1, gt_nat h2] at this
theorem thr_gt {l b : List Int} {i : Nat} (h : i < l.length) : gt (thr l b) i = gt b (gt l i) := by
  rw [gt_nat (by rw [thr_len]; exact h)]
  simp only [thr, List.getElem_map]
  rw [gt_nat h]
theorem gt_cons {α : Type} [Inhabited α] (a : α) (l : List α) (i : Nat) : gt (a :: l) ((i + 1 : Nat) : Int) = gt l i := by simp [gt]
theorem gt_cons0 {α : Type} [Inhabited α] (a : α) (l : List α) : gt (a :: l) ((0 : Nat) : Int) = a := by simp [gt]
theorem nodeE_mk {bn : List Int} : ∀ {ms as : List Int}, ms.length = as.length → (∀ i : Nat, i < ms.length → (0 ≤ gt ms i ∧ gt ms i < bn.length) ∧ gt bn (gt ms i) = gt as i) → nodeE bn ms as = 0
  | [], as, _, _ => rfl
  | k :: ms, [], hl, _ => by simp at hl
  | k :: ms, t :: as, hl, h => by
    have h0 := h 0 (by simp)
    rw [gt_cons0, gt_cons0] at h0
    rw [nodeE, if_pos h0.1, if_pos h0.2]
    exact nodeE_mk (by simpa using hl) fun i hi => by have := h (i + 1) (by simpa using hi); rwa [gt_cons, gt_cons] at this
theorem edgeE_mk {be : List E} {mn : List Int} : ∀ {ms : List Int} {as : List E}, ms.length = as.length → (∀ i : Nat, i < ms.length →
    (0 ≤ gt ms i ∧ gt ms i < be.length) ∧ (gt as i).t = (gt be (gt ms i)).t ∧ gt mn (gt as i).f = (gt be (gt ms i)).f ∧ gt mn (gt as i).o = (gt be (gt ms i)).o) → edgeE be mn ms as = 0
  | [], as, _, _ => by cases as <;> rfl
  | k :: ms, [], hl, _ => by simp at hl
  | k :: ms, x :: as, hl, h => by
    have h0 := h 0 (by simp)
    rw [gt_cons0, gt_cons0] at h0
    rw [edgeE, if_pos h0.1, if_pos h0.2.1, if_pos h0.2.2]
    exact edgeE_mk (by simpa using hl) fun i hi => by have := h (i + 1) (by simpa using hi); rwa [gt_cons, gt_cons] at this
/-- A morphism is right. -/
structure MOk (a b : G) (m : Mo) : Prop where
  va : validG a = 0
  vb : validG b = 0
  ln : m.n.length = a.n.length
  le : m.e.length = a.e.length
  nd : ∀ i : Nat, i < a.n.length → (0 ≤ gt m.n i ∧ gt m.n i < b.n.length) ∧ gt b.n (gt m.n i) = gt a.n i
  ed : ∀ i : Nat, i < a.e.length → (0 ≤ gt m.e i ∧ gt m.e i < b.e.length) ∧ (gt a.e i).t = (gt b.e (gt m.e i)).t ∧ gt m.n (gt a.e i).f = (gt b.e (gt m.e i)).f ∧ gt m.n (gt a.e i).o = (gt b.e (gt m.e i)).o
theorem mok {a b : G} {m : Mo} : validM a b m = 0 ↔ MOk a b m := by
  constructor
  · intro h
    obtain ⟨h1, h2, h3, h4, h5, h6⟩ := validM_spec h
    exact ⟨h1, h2, h3, h4, fun i hi => nodeE_all h5 h3 i (by omega), fun i hi => edgeE_all h6 h4 i (by omega)⟩
  · intro h
    unfold validM
    rw [if_neg (by simp [h.va]), if_neg (by simp [h.vb]), if_neg (by have := h.ln; have := h.le; omega), if_neg (by
      rw [nodeE_mk h.ln fun i hi => h.nd i (by have := h.ln; omega)]; simp)]
    exact edgeE_mk h.le fun i hi => h.ed i (by have := h.le; omega)
/-- A graph is right. -/
theorem valid_mk {g : G} (h1 : g.n.length ≤ 40) (h2 : g.e.length ≤ 80) (h3 : ∀ x, x ∈ g.n → okN x = true) (h4 : ∀ x, x ∈ g.e → fitsE g.n.length x = true) : validG g = 0 := by
  unfold validG
  rw [if_neg (by omega), if_pos]
  simp only [Bool.and_eq_true, List.all_eq_true]
  exact ⟨h3, h4⟩
theorem gt_inj {α : Type} [Inhabited α] {l : List α} (hn : l.Nodup) {i j : Nat} (hi : i < l.length) (hj : j < l.length) (h : gt l i = gt l j) : i = j := by
  rw [gt_nat hi, gt_nat hj] at h
  exact (List.getElem_inj hn).1 h
theorem gt_map {α β : Type} [Inhabited α] [Inhabited β] {l : List α} {f : α → β} {i : Nat} (h : i < l.length) : gt (l.map f) i = f (gt l i) := by
  rw [gt_nat (by simpa using h), gt_nat h]; simp
theorem gtI {α : Type} [Inhabited α] {l : List α} {y : Int} (h : 0 ≤ y ∧ y < l.length) : ∃ i : Nat, i < l.length ∧ y = (i : Int) := ⟨y.toNat, by omega, by omega⟩
theorem edge_fits {g : G} (h : validG g = 0) {i : Int} (hi : 0 ≤ i ∧ i < g.e.length) : (0 ≤ (gt g.e i).t ∧ (gt g.e i).t ≤ 99) ∧ (0 ≤ (gt g.e i).f ∧ (gt g.e i).f < g.n.length) ∧ (0 ≤ (gt g.e i).o ∧ (gt g.e i).o < g.n.length) :=
  fits_spec ((valid_spec h).2.2.2 _ (gt_mem hi.1 hi.2))
theorem nums_gt {n i : Nat} (hi : i < n) : gt (nums 0 n) i = i := by
  unfold nums
  rw [gt_nat (by simp; exact hi)]
  simp
theorem nums_mem {n : Nat} {x : Int} : x ∈ nums 0 n ↔ 0 ≤ x ∧ x < n := by
  unfold nums
  simp only [List.mem_map, List.mem_range]
  constructor
  · rintro ⟨k, hk, rfl⟩; omega
  · rintro ⟨h1, h2⟩; exact ⟨x.toNat, by omega, by omega⟩
theorem nums_nodup (n : Nat) : (nums 0 n).Nodup := by
  unfold nums List.Nodup
  rw [List.pairwise_map]
  exact (List.nodup_range (n := n)).imp fun h => by omega
def idM (g : G) : Mo := ⟨nums 0 g.n.length, nums 0 g.e.length⟩
theorem idM_ok {g : G} (h : validG g = 0) : MOk g g (idM g) := by
  refine ⟨h, h, by simp [idM, nums_len], by simp [idM, nums_len], fun i hi => ?_, fun i hi => ?_⟩
  · simp only [idM]
    rw [nums_gt hi]
    exact ⟨by omega, rfl⟩
  · simp only [idM]
    rw [nums_gt hi]
    obtain ⟨_, h1, h2⟩ := edge_fits h (i := i) (by omega)
    obtain ⟨j, hj, hj2⟩ := gtI h1
    obtain ⟨k, hk, hk2⟩ := gtI h2
    refine ⟨by omega, rfl, ?_, ?_⟩
    · rw [hj2, nums_gt hj]
    · rw [hk2, nums_gt hk]
end
end Go.Am
namespace Go.Am
open Go
set_option linter.unusedVariables false
set_option linter.unusedSimpArgs false
def mergeL (p : List Int) (a b : Int) : List Int := p.map fun k => if k = max (gt p a) (gt p b) then min (gt p a) (gt p b) else k
def keyI (c : List Int) (i : Nat) : Int := (gt c ((i : Int).tmod c.length)).tmod ((i : Int) + 1)
def part (g : G) (c : List Int) : Nat → List Int
  | 0 => nums 0 g.n.length
  | k + 1 => if keyI c (k + 1) < ((k + 1 : Nat) : Int) ∧ gt g.n (keyI c (k + 1)) = gt g.n ((k + 1 : Nat) : Int) then mergeL (part g c k) (keyI c (k + 1)) ((k + 1 : Nat) : Int) else part g c k
def quo (p : List Int) : Nat → List Int × Nat
  | 0 => ([], 0)
  | i + 1 => if gt p i = i then ((quo p i).1 ++ [((quo p i).2 : Int)], (quo p i).2 + 1) else ((quo p i).1 ++ [gt (quo p i).1 (gt p i)], (quo p i).2)
section
theorem gt_appS {α : Type} [Inhabited α] {l : List α} {x : α} {i : Nat} (h : i < l.length) : gt (l ++ [x]) (i : Int) = gt l i := by
  rw [gt_nat (by simp; omega), gt_nat h, List.getElem_append_left h]
theorem gt_lastS {α : Type} [Inhabited α] {l : List α} {x : α} {i : Nat} (h : i = l.length) : gt (l ++ [x]) (i : Int) = x := by
  subst h
  rw [gt_nat (by simp)]; simp
theorem merge_len (p : List Int) (a b : Int) : (mergeL p a b).length = p.length := by simp [mergeL]
theorem gt_setH {l : List Int} {k i : Nat} {v : Int} (hi : i < l.length) : gt (l.set k v) i = if k = i then v else gt l i := by
  rw [gt_nat (by simpa using hi), gt_nat hi, List.getElem_set]
end
end Go.Am
namespace Go.Am
open Go
set_option linter.unusedVariables false
set_option linter.unusedSimpArgs false
attribute [local irreducible] W
/- morphism.Same -/
def c_morphism_Same_r0 (F : String → Nat) : List LI := [⟨some 2, .bx (.t 0), none⟩,
  ⟨some 3, .bx (.t 1), none⟩,
  ⟨some 4, .mov (.k (.bool false)), none⟩]
def c_morphism_Same_r1 (F : String → Nat) : List LI := [⟨some 5, .fad 0 (.t 2), none⟩,
  ⟨some 6, .load false 1 (.t 5), none⟩,
  ⟨some 7, .fad 0 (.t 3), none⟩,
  ⟨some 8, .load false 1 (.t 7), none⟩,
  ⟨some 9, .call (F "slices.Equal.I") [.t 6, .t 8] [], none⟩,
  ⟨some 10, .mov (.t 9), none⟩,
  ⟨some 11, .fad 1 (.t 2), some (10, true)⟩,
  ⟨some 12, .load false 1 (.t 11), some (10, true)⟩,
  ⟨some 13, .fad 1 (.t 3), some (10, true)⟩,
  ⟨some 14, .load false 1 (.t 13), some (10, true)⟩,
  ⟨some 15, .call (F "slices.Equal.I") [.t 12, .t 14] [], some (10, true)⟩,
  ⟨some 16, .pick (.t 10) (.t 15) (.k (.bool false)), none⟩,
  ⟨some 4, .mov (.t 16), none⟩]
def c_morphism_Same (F : String → Nat) : LC := (.seq (.reg (c_morphism_Same_r0 F) [2, 3]) (.seq (.reg (c_morphism_Same_r1 F) [4]) .ret))
def h_morphism_Same : Hints := ⟨[], fun _ => [], tab [(0, [2, 3]), (1, [4])], tab []⟩

attribute [go_sem] c_morphism_Same_r0 c_morphism_Same_r1 c_morphism_Same
section
variable (P : Program) (F : String → Nat)
def K_morphism_Same : Prop := ∀ a b : Mo, a.n.length ≤ maxL → a.e.length ≤ maxL → FC P (F "morphism.Same") [mD a, mD b] (.bool (decide (a = b))) []
end
section
variable {P : Program} {F : String → Nat} {α : Type}
theorem fillL {α : Type} (l : List α) (x z : α) (m : Nat) : (l ++ List.replicate (m + 1) z).set l.length x = (l ++ [x]) ++ List.replicate m z := by
  rw [List.set_append_right _ _ (Nat.le_refl _)]
  simp [List.replicate_succ]
theorem w_morphism_Same (he : K_slices_Equal_I P F) (a b : Mo) (h1 : a.n.length ≤ maxL) (h2 : a.e.length ≤ maxL) : W P (c_morphism_Same F) (Done [.t 4] [] (.bool (decide (a = b))) []) (init [mD a, mD b]) := by
  refine W_of ?_
  obtain ⟨an, ae⟩ := a
  obtain ⟨bn, be⟩ := b
  simp only at h1 h2
  simp (config := { maxSteps := 1000000 }) (disch := first | omega | (simp only [go_sem]; omega)) only [go_sem, ↓reduceIte, mD]
  refine call_by (he _ _ h1) ?_
  simp (config := { maxSteps := 1000000 }) (disch := first | omega | (simp only [go_sem]; omega)) only [go_sem, ↓reduceIte]
  refine bran_dec (fun c => ?_) (fun c => ?_)
  · subst c
    simp (config := { maxSteps := 1000000 }) (disch := first | omega | (simp only [go_sem]; omega)) only [go_sem, ↓reduceIte]
    refine call_by (he _ _ h2) ?_
    simp (config := { maxSteps := 1000000 }) (disch := first | omega | (simp only [go_sem]; omega)) only [go_sem, ↓reduceIte]
    simp
  · simp (config := { maxSteps := 1000000 }) (disch := first | omega | (simp only [go_sem]; omega)) only [go_sem, ↓reduceIte, c]
    simp [c]
end
end Go.Am
namespace Go.Am
open Go
set_option linter.unusedVariables false
set_option linter.unusedSimpArgs false
/-- The partition after some pairs. -/
def genI (n : Nat) (l : List Pr) : Nat → List Int
  | 0 => nums 0 n
  | i + 1 => mergeL (genI n l i) (gt l i).a (gt l i).b
def genL (n : Nat) (l : List Pr) : List Int := genI n l l.length
def PrIn (n : Nat) (l : List Pr) : Prop := ∀ i : Nat, i < l.length → (0 ≤ (gt l i).a ∧ (gt l i).a < n) ∧ (0 ≤ (gt l i).b ∧ (gt l i).b < n)
/-- Elements that point to lesser ones, and where that ends. -/
structure Fo (p r : List Int) : Prop where
  l : p.length = r.length
  b : ∀ i : Nat, i < p.length → 0 ≤ gt p i ∧ gt p i ≤ i
  s : ∀ i : Nat, i < p.length → gt r (gt p i) = gt r i
  t : ∀ i : Nat, i < p.length → gt p i = i → gt r i = i
  c : ∀ i : Nat, i < p.length → (0 ≤ gt r i ∧ gt r i ≤ i) ∧ gt p (gt r i) = gt r i
/-- A list of least elements. -/
def Idem (p : List Int) : Prop := ∀ i : Nat, i < p.length → (0 ≤ gt p i ∧ gt p i ≤ i) ∧ gt p (gt p i) = gt p i
/-- The elements that are least. -/
def qN {α : Type} [Inhabited α] (l : List α) (p : List Int) : Nat → List α
  | 0 => []
  | i + 1 => if gt p i = i then qN l p i ++ [gt l i] else qN l p i
/-- Elements put where a list says. -/
def setL {α : Type} [Inhabited α] (l : List α) (q : List Int) (z : List α) : Nat → List α
  | 0 => z
  | i + 1 => (setL l q z i).set (gt q i).toNat (gt l i)
section
theorem natI {x : Int} (h : 0 ≤ x) : ∃ k : Nat, x = (k : Int) := ⟨x.toNat, by omega⟩
theorem mergeL_gt {p : List Int} {a b : Int} {i : Nat} (hi : i < p.length) : gt (mergeL p a b) i = if gt p i = max (gt p a) (gt p b) then min (gt p a) (gt p b) else gt p i := by
  unfold mergeL
  rw [gt_nat (by simpa using hi), gt_nat hi]
  simp
theorem Fo.idem {p r : List Int} (h : Fo p r) : Idem r := fun i hi => by
  obtain ⟨h1, h3⟩ := h.c i (by have := h.l; omega)
  refine ⟨h1, ?_⟩
  obtain ⟨k, hk⟩ := natI h1.1
  rw [hk] at h1 h3 ⊢
  exact h.t k (by have := h.l; omega) h3
theorem nums_Fo (n : Nat) : Fo (nums 0 n) (nums 0 n) := by
  refine ⟨rfl, fun i hi => ?_, fun i hi => ?_, fun i hi _ => ?_, fun i hi => ?_⟩ <;> rw [nums_len] at hi
  · rw [nums_gt hi]; omega
  · rw [nums_gt hi]; exact nums_gt hi
  · exact nums_gt hi
  · rw [nums_gt hi]; exact ⟨by omega, nums_gt hi⟩
theorem Fo.unite {p r : List Int} (h : Fo p r) {a b : Nat} (ha : a < p.length) (hb : b < p.length) :
    Fo (p.set (max (gt r a) (gt r b)).toNat (min (gt r a) (gt r b))) (mergeL r a b) := by
  have hl := h.l
  obtain ⟨⟨a1, a2⟩, a3⟩ := h.c a ha
  obtain ⟨⟨b1, b2⟩, b3⟩ := h.c b hb
  have ia := (h.idem a (by omega)).2
  have ib := (h.idem b (by omega)).2
  have hg : ∀ i : Nat, i < p.length → gt (mergeL r a b) i = if gt r i = max (gt r a) (gt r b) then min (gt r a) (gt r b) else gt r i := fun i hi => mergeL_gt (by omega)
  have hm : (mergeL r a b).length = p.length := by rw [merge_len, hl]
  have l1 : gt r (min (gt r a) (gt r b)) = min (gt r a) (gt r b) ∧ gt p (min (gt r a) (gt r b)) = min (gt r a) (gt r b) := by
    by_cases c : gt r a ≤ gt r b
    · rw [Int.min_eq_left c]; exact ⟨ia, a3⟩
    · rw [Int.min_eq_right (by omega)]; exact ⟨ib, b3⟩
  have h1 : gt r (max (gt r a) (gt r b)) = max (gt r a) (gt r b) ∧ gt p (max (gt r a) (gt r b)) = max (gt r a) (gt r b) := by
    by_cases c : gt r a ≤ gt r b
    · rw [Int.max_eq_right c]; exact ⟨ib, b3⟩
    · rw [Int.max_eq_left (by omega)]; exact ⟨ia, a3⟩
  obtain ⟨lo, hlo⟩ := natI (x := min (gt r a) (gt r b)) (by omega)
  obtain ⟨hi, hhi⟩ := natI (x := max (gt r a) (gt r b)) (by omega)
  have hle : lo ≤ hi := by omega
  have hlt : hi < p.length := by omega
  rw [hlo] at l1
  rw [hhi] at h1
  rw [hlo, hhi, Int.toNat_natCast]
  simp only [hlo, hhi] at hg
  generalize mergeL r a b = r' at *
  have hp : ∀ i : Nat, i < p.length → gt (p.set hi (lo : Int)) i = if hi = i then (lo : Int) else gt p i := fun i hi' => gt_setH hi'
  refine ⟨by simp [hm], fun i hi' => ?_, fun i hi' => ?_, fun i hi' => ?_, fun i hi' => ?_⟩ <;> rw [List.length_set] at hi'
  · rw [hp i hi']
    split
    · omega
    · exact h.b i hi'
  · rw [hp i hi']
    split
    · rename_i e; subst e
      rw [hg lo (by omega), hg hi hlt, l1.1, h1.1, if_pos rfl]
      split <;> rfl
    · have hb' := h.b i hi'
      have hs := h.s i hi'
      obtain ⟨k, hk⟩ := natI hb'.1
      rw [hk] at hs hb' ⊢
      rw [hg k (by omega), hg i hi', hs]
  · rw [hp i hi', hg i hi']
    split
    · rename_i e; subst e
      intro e
      rw [h1.1, if_pos rfl]; exact e
    · rename_i e
      intro e2
      rw [h.t i hi' e2, if_neg (by omega)]
  · obtain ⟨⟨c1, c2⟩, c3⟩ := h.c i hi'
    rw [hg i hi']
    split
    · refine ⟨by omega, ?_⟩
      rw [hp lo (by omega), l1.2]
      split <;> rfl
    · rename_i e
      refine ⟨⟨c1, c2⟩, ?_⟩
      obtain ⟨k, hk⟩ := natI c1
      rw [hk] at c2 c3 e ⊢
      rw [hp k (by omega), if_neg (by omega)]
      exact c3
theorem Fo.flat {p r : List Int} (h : Fo p r) {i : Nat} (hi : i < p.length) : Fo (p.set i (gt r i)) r := by
  obtain ⟨⟨c1, c2⟩, c3⟩ := h.c i hi
  have hid := (h.idem i (by have := h.l; omega)).2
  have hp : ∀ k : Nat, k < p.length → gt (p.set i (gt r i)) k = if i = k then gt r i else gt p k := fun k hk => gt_setH hk
  refine ⟨by simp [h.l], fun k hk => ?_, fun k hk => ?_, fun k hk => ?_, fun k hk => ?_⟩ <;> rw [List.length_set] at hk
  · rw [hp k hk]
    split
    · omega
    · exact h.b k hk
  · rw [hp k hk]
    split
    · rename_i e; subst e; exact hid
    · exact h.s k hk
  · rw [hp k hk]
    split
    · rename_i e; subst e; exact id
    · exact h.t k hk
  · obtain ⟨⟨d1, d2⟩, d3⟩ := h.c k hk
    refine ⟨⟨d1, d2⟩, ?_⟩
    have he := (h.idem k (by have := h.l; omega)).2
    obtain ⟨m, hm⟩ := natI d1
    rw [hm] at d2 d3 he ⊢
    rw [hp m (by omega)]
    split
    · rename_i e; subst e; exact he
    · exact d3
theorem gen_Fo {n : Nat} {l : List Pr} (hl : PrIn n l) : ∀ i : Nat, i ≤ l.length → ∃ p, Fo p (genI n l i) ∧ p.length = n
  | 0, _ => ⟨_, nums_Fo n, nums_len 0 n⟩
  | i + 1, hi => by
    obtain ⟨p, h1, h2⟩ := gen_Fo hl i (by omega)
    obtain ⟨⟨a1, a2⟩, b1, b2⟩ := hl i (by omega)
    obtain ⟨a, ha⟩ := natI a1
    obtain ⟨b, hb⟩ := natI b1
    rw [genI, ha, hb]
    exact ⟨_, h1.unite (a := a) (b := b) (by omega) (by omega), by rw [List.length_set, h2]⟩
theorem gen_len {n : Nat} {l : List Pr} : ∀ i : Nat, (genI n l i).length = n
  | 0 => nums_len 0 n
  | i + 1 => by rw [genI, merge_len, gen_len i]
theorem gen_idem {n : Nat} {l : List Pr} (hl : PrIn n l) {i : Nat} (hi : i ≤ l.length) : Idem (genI n l i) :=
  let ⟨_, h, _⟩ := gen_Fo hl i hi; h.idem
theorem merge_same {p : List Int} {a b : Int} {x y : Nat} (hx : x < p.length) (hy : y < p.length) (h : gt p x = gt p y) : gt (mergeL p a b) x = gt (mergeL p a b) y := by
  rw [mergeL_gt hx, mergeL_gt hy, h]
theorem merge_ab {p : List Int} {a b : Nat} (ha : a < p.length) (hb : b < p.length) : gt (mergeL p a b) a = gt (mergeL p a b) b := by
  rw [mergeL_gt ha, mergeL_gt hb]
  by_cases c : gt p a ≤ gt p b
  · rw [Int.max_eq_right c, Int.min_eq_left c, if_pos rfl]
    split <;> rfl
  · rw [Int.max_eq_left (by omega), Int.min_eq_right (by omega), if_pos rfl]
    split <;> rfl
theorem gen_pair {n : Nat} {l : List Pr} (hl : PrIn n l) : ∀ i : Nat, i ≤ l.length → ∀ k : Nat, k < i → gt (genI n l i) (gt l k).a = gt (genI n l i) (gt l k).b
  | 0, _, k, hk => by omega
  | i + 1, hi, k, hk => by
    have gl := gen_len (n := n) (l := l) i
    obtain ⟨⟨a1, a2⟩, b1, b2⟩ := hl k (by omega)
    rw [genI]
    by_cases c : k = i
    · subst c
      obtain ⟨a, ha⟩ := natI a1
      obtain ⟨b, hb⟩ := natI b1
      rw [ha, hb]
      exact merge_ab (by omega) (by omega)
    · have ih := gen_pair hl i (by omega) k (by omega)
      obtain ⟨a, ha⟩ := natI a1
      obtain ⟨b, hb⟩ := natI b1
      rw [ha, hb] at ih ⊢
      exact merge_same (by omega) (by omega) ih
theorem gen_fun {β : Type} {φ : Int → β} {n : Nat} {l : List Pr} (hl : PrIn n l) (hf : ∀ i : Nat, i < l.length → φ (gt l i).a = φ (gt l i).b) : ∀ i : Nat, i ≤ l.length → ∀ k : Nat, k < n → φ (gt (genI n l i) k) = φ k
  | 0, _, k, hk => by rw [genI, nums_gt hk]
  | i + 1, hi, k, hk => by
    have gl := gen_len (n := n) (l := l) i
    obtain ⟨⟨a1, a2⟩, b1, b2⟩ := hl i (by omega)
    have ih := gen_fun hl hf i (by omega)
    have he := hf i (by omega)
    obtain ⟨a, ha⟩ := natI a1
    obtain ⟨b, hb⟩ := natI b1
    rw [genI, ha, hb, mergeL_gt (by omega)]
    rw [ha, hb] at he
    have ea := ih a (by omega)
    have eb := ih b (by omega)
    have ek := ih k hk
    by_cases c : gt (genI n l i) a ≤ gt (genI n l i) b
    · rw [Int.max_eq_right c, Int.min_eq_left c]
      split
      · rename_i e
        rw [ea, he, ← eb, ← e, ek]
      · exact ek
    · rw [Int.max_eq_left (by omega), Int.min_eq_right (by omega)]
      split
      · rename_i e
        rw [eb, ← he, ← ea, ← e, ek]
      · exact ek
/-- The classes' numbers. -/
structure QS (p : List Int) (n : Nat) (s : List Int × Nat) : Prop where
  l : s.1.length = n
  c : s.2 ≤ n
  b : ∀ i : Nat, i < n → 0 ≤ gt s.1 i ∧ gt s.1 i < s.2
  r : ∀ i : Nat, i < n → gt s.1 (gt p i) = gt s.1 i
  j : ∀ i k : Nat, i < n → k < n → gt p i = i → gt p k = k → gt s.1 i = gt s.1 k → i = k
  s : ∀ k : Nat, k < s.2 → ∃ i : Nat, i < n ∧ gt p i = i ∧ gt s.1 i = k
theorem quo_QS {p : List Int} (hp : Idem p) : ∀ n : Nat, n ≤ p.length → QS p n (quo p n)
  | 0, _ => ⟨rfl, Nat.le_refl _, fun i hi => by omega, fun i hi => by omega, fun i k hi => by omega, fun k hk => by simp [quo] at hk⟩
  | n + 1, hn => by
    obtain ⟨h1, h2, h3, h4, h5, h6⟩ := quo_QS hp n (by omega)
    obtain ⟨⟨p1, p2⟩, p3⟩ := hp n (by omega)
    rw [quo]
    generalize quo p n = s at *
    obtain ⟨q, c⟩ := s
    simp only at h1 h2 h3 h4 h5 h6 ⊢
    split
    · rename_i e
      have hq : ∀ i : Nat, i < n → gt (q ++ [(c : Int)]) i = gt q i := fun i hi => gt_appS (by omega)
      have hn : gt (q ++ [(c : Int)]) n = c := gt_lastS h1.symm
      refine ⟨by simp [h1], by simp only; omega, fun i hi => ?_, fun i hi => ?_, fun i k hi hk ei ek he => ?_, fun k hk => ?_⟩ <;> simp only at *
      · by_cases x : i = n
        · subst x; rw [hn]; omega
        · rw [hq i (by omega)]; have := h3 i (by omega); omega
      · by_cases x : i = n
        · subst x; rw [e]
        · obtain ⟨⟨a1, a2⟩, a3⟩ := hp i (by omega)
          have ih := h4 i (by omega)
          obtain ⟨m, hm⟩ := natI a1
          rw [hm] at a2 ih ⊢
          rw [hq m (by omega), hq i (by omega), ih]
      · by_cases x : i = n
        · by_cases y : k = n
          · omega
          · subst x; rw [hn, hq k (by omega)] at he
            have := h3 k (by omega); omega
        · by_cases y : k = n
          · subst y; rw [hn, hq i (by omega)] at he
            have := h3 i (by omega); omega
          · rw [hq i (by omega), hq k (by omega)] at he
            exact h5 i k (by omega) (by omega) ei ek he
      · by_cases x : k = c
        · subst x; exact ⟨n, by omega, e, hn⟩
        · obtain ⟨i, i1, i2, i3⟩ := h6 k (by omega)
          exact ⟨i, by omega, i2, by rw [hq i i1, i3]⟩
    · rename_i e
      obtain ⟨m, hm⟩ := natI p1
      rw [hm] at p2 p3 e ⊢
      have hq : ∀ i : Nat, i < n → gt (q ++ [gt q m]) i = gt q i := fun i hi => gt_appS (by omega)
      have hn : gt (q ++ [gt q m]) n = gt q m := gt_lastS h1.symm
      refine ⟨by simp [h1], by simp only; omega, fun i hi => ?_, fun i hi => ?_, fun i k hi hk ei ek he => ?_, fun k hk => ?_⟩ <;> simp only at *
      · by_cases x : i = n
        · subst x; rw [hn]; exact h3 m (by omega)
        · rw [hq i (by omega)]; exact h3 i (by omega)
      · by_cases x : i = n
        · subst x; rw [hm, hn, hq m (by omega)]
        · obtain ⟨⟨a1, a2⟩, a3⟩ := hp i (by omega)
          have ih := h4 i (by omega)
          obtain ⟨m', hm'⟩ := natI a1
          rw [hm'] at a2 ih ⊢
          rw [hq m' (by omega), hq i (by omega), ih]
      · have x : i ≠ n := fun x => by subst x; omega
        have y : k ≠ n := fun x => by subst x; omega
        rw [hq i (by omega), hq k (by omega)] at he
        exact h5 i k (by omega) (by omega) ei ek he
      · obtain ⟨i, i1, i2, i3⟩ := h6 k hk
        exact ⟨i, by omega, i2, by rw [hq i i1, i3]⟩
theorem QS.iff {p : List Int} {n : Nat} {s : List Int × Nat} (hp : Idem p) (hn : n ≤ p.length) (h : QS p n s) {i k : Nat} (hi : i < n) (hk : k < n) : gt s.1 i = gt s.1 k ↔ gt p i = gt p k := by
  obtain ⟨⟨a1, a2⟩, a3⟩ := hp i (by omega)
  obtain ⟨⟨b1, b2⟩, b3⟩ := hp k (by omega)
  have hi' := h.r i hi
  have hk' := h.r k hk
  obtain ⟨x, hx⟩ := natI a1
  obtain ⟨y, hy⟩ := natI b1
  rw [hx] at a2 a3 hi' ⊢
  rw [hy] at b2 b3 hk' ⊢
  constructor
  · intro e
    have := h.j x y (by omega) (by omega) a3 b3 (by rw [hi', hk', e])
    rw [this]
  · intro e
    rw [← hi', ← hk', e]
theorem qN_len {α : Type} [Inhabited α] (l : List α) (p : List Int) : ∀ n : Nat, (qN l p n).length = (quo p n).2
  | 0 => rfl
  | n + 1 => by
    rw [qN, quo]
    split
    · rw [List.length_append, qN_len l p n]; rfl
    · exact qN_len l p n
theorem qN_gt {α : Type} [Inhabited α] (l : List α) {p : List Int} (hp : Idem p) : ∀ n : Nat, n ≤ p.length → ∀ i : Nat, i < n → gt p i = i → gt (qN l p n) (gt (quo p n).1 i) = gt l i
  | 0, _, i, hi, _ => by omega
  | n + 1, hn, i, hi, e => by
    have hs := quo_QS hp n (by omega)
    have hl := qN_len l p n
    rw [qN, quo]
    by_cases c : gt p n = n
    · rw [if_pos c, if_pos c]
      simp only
      by_cases x : i = n
      · subst x
        rw [gt_lastS hs.l.symm, ← hl, gt_lastS rfl]
      · rw [gt_appS (by have := hs.l; omega)]
        obtain ⟨b1, b2⟩ := hs.b i (by omega)
        have ih := qN_gt l hp n (by omega) i (by omega) e
        obtain ⟨m, hm⟩ := natI b1
        rw [hm] at b2 ih ⊢
        rw [gt_appS (by omega), ih]
    · rw [if_neg c, if_neg c]
      simp only
      have x : i ≠ n := fun x => by subst x; exact c e
      rw [gt_appS (by have := hs.l; omega)]
      exact qN_gt l hp n (by omega) i (by omega) e
theorem qN_all {α : Type} [Inhabited α] {l : List α} {p : List Int} (hp : Idem p) {n : Nat} (hn : n ≤ p.length) (hl : ∀ i : Nat, i < n → gt l (gt p i) = gt l i) {i : Nat} (hi : i < n) : gt (qN l p n) (gt (quo p n).1 i) = gt l i := by
  have hs := quo_QS hp n hn
  obtain ⟨⟨a1, a2⟩, a3⟩ := hp i (by omega)
  have h1 := hs.r i hi
  have h2 := hl i hi
  obtain ⟨k, hk⟩ := natI a1
  rw [hk] at a2 a3 h1 h2
  rw [← h1, qN_gt l hp n hn k (by omega) a3, h2]
theorem qN_mem {α : Type} [Inhabited α] {l : List α} {p : List Int} : ∀ {n : Nat}, n ≤ l.length → ∀ x ∈ qN l p n, x ∈ l
  | 0, _, x, hx => by simp [qN] at hx
  | n + 1, hn, x, hx => by
    rw [qN] at hx
    split at hx
    · rcases List.mem_append.1 hx with hx | hx
      · exact qN_mem (by omega) x hx
      · rw [List.mem_singleton] at hx
        rw [hx]; exact gt_mem (by omega) (by omega)
    · exact qN_mem (by omega) x hx
theorem setL_len {α : Type} [Inhabited α] (l : List α) (q : List Int) (z : List α) : ∀ i : Nat, (setL l q z i).length = z.length
  | 0 => rfl
  | i + 1 => by rw [setL, List.length_set, setL_len l q z i]
theorem gt_setS {α : Type} [Inhabited α] {l : List α} {k i : Nat} {v : α} (hi : i < l.length) : gt (l.set k v) i = if k = i then v else gt l i := by
  rw [gt_nat (by simpa using hi), gt_nat hi, List.getElem_set]
theorem setL_gt {α : Type} [Inhabited α] {l : List α} {q : List Int} {z w : List α} : ∀ {n : Nat}, (∀ i : Nat, i < n → 0 ≤ gt q i ∧ gt w (gt q i) = gt l i) → ∀ k : Nat, k < z.length →
    gt (setL l q z n) k = gt w k ∨ (gt (setL l q z n) k = gt z k ∧ ∀ i : Nat, i < n → gt q i ≠ k)
  | 0, _, k, hk => .inr ⟨rfl, fun i hi => by omega⟩
  | n + 1, h, k, hk => by
    have ih := setL_gt (z := z) (n := n) (fun i hi => h i (by omega)) k hk
    obtain ⟨h1, h2⟩ := h n (by omega)
    rw [setL, gt_setS (by rw [setL_len]; exact hk)]
    by_cases c : (gt q n).toNat = k
    · rw [if_pos c]
      refine .inl ?_
      rw [← h2, show gt q n = (k : Int) by omega]
    · rw [if_neg c]
      refine ih.imp id fun ⟨i1, i2⟩ => ⟨i1, fun i hi => ?_⟩
      by_cases x : i = n
      · subst x; omega
      · exact i2 i (by omega)
end
end Go.Am
namespace Go.Am
open Go
set_option linter.unusedVariables false
set_option linter.unusedSimpArgs false
def reE (q : List Int) (es : List E) : List E := es.map fun x => ⟨x.t, gt q x.f, gt q x.o⟩
def quoG (g : G) (p r : List Int) : G := ⟨qN g.n p p.length, qN (reE (quo p p.length).1 g.e) r r.length⟩
def quoM (p r : List Int) : Mo := ⟨(quo p p.length).1, (quo r r.length).1⟩
/-- Partitions by which a graph can be divided. -/
structure Cong (g : G) (p r : List Int) : Prop where
  pl : p.length = g.n.length
  rl : r.length = g.e.length
  ph : Idem p
  rh : Idem r
  pt : ∀ i : Nat, i < p.length → gt g.n (gt p i) = gt g.n i
  rt : ∀ i : Nat, i < r.length → gt (reE (quo p p.length).1 g.e) (gt r i) = gt (reE (quo p p.length).1 g.e) i
def prL (f h : List Int) (n : Nat) : List Pr := (List.range n).map fun i : Nat => ⟨gt f i, gt h i⟩
def gluN (g : G) (f h : Mo) : List Int := genL g.n.length (prL f.n h.n f.n.length)
def gluE (g : G) (f h : Mo) : List Int := genL g.e.length (prL f.e h.e f.e.length)
def gluG (g : G) (f h : Mo) : G := quoG g (gluN g f h) (gluE g f h)
def gluM (g : G) (f h : Mo) : Mo := quoM (gluN g f h) (gluE g f h)
section
theorem reE_len (q : List Int) (es : List E) : (reE q es).length = es.length := by simp [reE]
theorem reE_gt {q : List Int} {es : List E} {i : Nat} (h : i < es.length) : gt (reE q es) i = ⟨(gt es i).t, gt q (gt es i).f, gt q (gt es i).o⟩ := by
  unfold reE
  rw [gt_map h]
theorem prL_len (f h : List Int) (n : Nat) : (prL f h n).length = n := by simp [prL]
theorem prL_succ (f h : List Int) (n : Nat) : prL f h (n + 1) = prL f h n ++ [⟨gt f n, gt h n⟩] := by simp [prL, List.range_succ]
theorem prL_gt {f h : List Int} {n i : Nat} (hi : i < n) : gt (prL f h n) i = ⟨gt f i, gt h i⟩ := by
  unfold prL
  rw [gt_nat (by simp; exact hi)]
  simp
theorem Cong.node {g : G} {p r : List Int} (h : Cong g p r) {i : Nat} (hi : i < g.n.length) : (0 ≤ gt (quoM p r).n i ∧ gt (quoM p r).n i < (quoG g p r).n.length) ∧ gt (quoG g p r).n (gt (quoM p r).n i) = gt g.n i := by
  have hs := quo_QS h.ph _ (Nat.le_refl _)
  have hpl := h.pl
  refine ⟨?_, ?_⟩
  · simp only [quoM, quoG, qN_len]
    exact hs.b i (by omega)
  · exact qN_all h.ph (Nat.le_refl _) h.pt (by omega)
theorem Cong.edge {g : G} {p r : List Int} (h : Cong g p r) {i : Nat} (hi : i < g.e.length) : (0 ≤ gt (quoM p r).e i ∧ gt (quoM p r).e i < (quoG g p r).e.length) ∧ gt (quoG g p r).e (gt (quoM p r).e i) = ⟨(gt g.e i).t, gt (quoM p r).n (gt g.e i).f, gt (quoM p r).n (gt g.e i).o⟩ := by
  have hs := quo_QS h.rh _ (Nat.le_refl _)
  have hrl := h.rl
  refine ⟨?_, ?_⟩
  · simp only [quoM, quoG, qN_len]
    exact hs.b i (by omega)
  · have := qN_all h.rh (Nat.le_refl _) h.rt (show i < r.length by omega)
    simp only [quoM, quoG]
    rw [this, reE_gt hi]
theorem Cong.surN {g : G} {p r : List Int} (h : Cong g p r) {k : Nat} (hk : k < (quoG g p r).n.length) : ∃ i : Nat, i < g.n.length ∧ gt p i = i ∧ gt (quoM p r).n i = k := by
  have hs := quo_QS h.ph _ (Nat.le_refl _)
  simp only [quoG, qN_len] at hk
  obtain ⟨i, h1, h2, h3⟩ := hs.s k hk
  exact ⟨i, by rw [← h.pl]; exact h1, h2, h3⟩
theorem Cong.surE {g : G} {p r : List Int} (h : Cong g p r) {k : Nat} (hk : k < (quoG g p r).e.length) : ∃ i : Nat, i < g.e.length ∧ gt r i = i ∧ gt (quoM p r).e i = k := by
  have hs := quo_QS h.rh _ (Nat.le_refl _)
  simp only [quoG, qN_len] at hk
  obtain ⟨i, h1, h2, h3⟩ := hs.s k hk
  exact ⟨i, by rw [← h.rl]; exact h1, h2, h3⟩
theorem Cong.ok {g : G} {p r : List Int} (hv : validG g = 0) (h : Cong g p r) : MOk g (quoG g p r) (quoM p r) := by
  have vs := valid_spec hv
  have h1 := quo_QS h.ph _ (Nat.le_refl _)
  have h2 := quo_QS h.rh _ (Nat.le_refl _)
  have hpl := h.pl
  have hrl := h.rl
  refine ⟨hv, valid_mk ?_ ?_ (fun y hy => ?_) (fun y hy => ?_), ?_, ?_, fun i hi => h.node hi, fun i hi => ?_⟩
  · simp only [quoG, qN_len]; have := h1.c; omega
  · simp only [quoG, qN_len]; have := h2.c; omega
  · exact vs.2.2.1 y (qN_mem (by omega) y hy)
  · obtain ⟨k, hk, hk2⟩ := mem_gt hy
    obtain ⟨i, hi, _, hi2⟩ := h.surE hk
    have he := (h.edge hi).2
    rw [hi2, hk2] at he
    rw [he]
    obtain ⟨t1, t2, t3⟩ := edge_fits hv (i := i) (by omega)
    obtain ⟨a, ha, ha2⟩ := gtI t2
    obtain ⟨b, hb, hb2⟩ := gtI t3
    rw [ha2, hb2]
    exact fits_mk t1 (h.node ha).1 (h.node hb).1
  · simp only [quoM]; rw [h1.l, hpl]
  · simp only [quoM]; rw [h2.l, hrl]
  · obtain ⟨e1, e2⟩ := h.edge hi
    refine ⟨e1, ?_⟩
    rw [e2]
    exact ⟨rfl, rfl, rfl⟩
theorem Cong.iffN {g : G} {p r : List Int} (h : Cong g p r) {i k : Nat} (hi : i < g.n.length) (hk : k < g.n.length) : gt (quoM p r).n i = gt (quoM p r).n k ↔ gt p i = gt p k :=
  (quo_QS h.ph _ (Nat.le_refl _)).iff h.ph (Nat.le_refl _) (by rw [h.pl]; exact hi) (by rw [h.pl]; exact hk)
theorem Cong.iffE {g : G} {p r : List Int} (h : Cong g p r) {i k : Nat} (hi : i < g.e.length) (hk : k < g.e.length) : gt (quoM p r).e i = gt (quoM p r).e k ↔ gt r i = gt r k :=
  (quo_QS h.rh _ (Nat.le_refl _)).iff h.rh (Nat.le_refl _) (by rw [h.rl]; exact hi) (by rw [h.rl]; exact hk)
theorem prL_in {f h : List Int} {m : Nat} (hl : h.length = f.length) (h1 : ∀ x ∈ f, 0 ≤ x ∧ x < m) (h2 : ∀ x ∈ h, 0 ≤ x ∧ x < m) : PrIn m (prL f h f.length) := fun i hi => by
  rw [prL_len] at hi
  rw [prL_gt hi]
  exact ⟨h1 _ (gt_mem (by omega) (by omega)), h2 _ (gt_mem (by omega) (by omega))⟩
section
variable {a g : G} {f h : Mo}
theorem glu_prN (hf : MOk a g f) (hh : MOk a g h) : PrIn g.n.length (prL f.n h.n f.n.length) := by
  have bf := (validM_bd (mok.2 hf)).1
  have bh := (validM_bd (mok.2 hh)).1
  exact prL_in (by rw [hf.ln, hh.ln]) bf bh
theorem glu_prE (hf : MOk a g f) (hh : MOk a g h) : PrIn g.e.length (prL f.e h.e f.e.length) := by
  have bf := (validM_bd (mok.2 hf)).2
  have bh := (validM_bd (mok.2 hh)).2
  exact prL_in (by rw [hf.le, hh.le]) bf bh
theorem gluN_len : (gluN g f h).length = g.n.length := gen_len _
theorem gluE_len : (gluE g f h).length = g.e.length := gen_len _
/-- What is the same for glued nodes is the same in each class. -/
theorem gluN_fun {β : Type} {φ : Int → β} (hf : MOk a g f) (hh : MOk a g h) (e : ∀ i : Nat, i < a.n.length → φ (gt f.n i) = φ (gt h.n i)) {k : Nat} (hk : k < g.n.length) : φ (gt (gluN g f h) k) = φ k := by
  refine gen_fun (glu_prN hf hh) (fun i hi => ?_) _ (Nat.le_refl _) k hk
  rw [prL_len] at hi
  rw [prL_gt hi]
  exact e i (by rw [← hf.ln]; exact hi)
theorem gluE_fun {β : Type} {φ : Int → β} (hf : MOk a g f) (hh : MOk a g h) (e : ∀ i : Nat, i < a.e.length → φ (gt f.e i) = φ (gt h.e i)) {k : Nat} (hk : k < g.e.length) : φ (gt (gluE g f h) k) = φ k := by
  refine gen_fun (glu_prE hf hh) (fun i hi => ?_) _ (Nat.le_refl _) k hk
  rw [prL_len] at hi
  rw [prL_gt hi]
  exact e i (by rw [← hf.le]; exact hi)
theorem gluN_pair (hf : MOk a g f) (hh : MOk a g h) {i : Nat} (hi : i < a.n.length) : gt (gluN g f h) (gt f.n i) = gt (gluN g f h) (gt h.n i) := by
  have ln := hf.ln
  have := gen_pair (glu_prN hf hh) _ (Nat.le_refl _) i (by rw [prL_len]; omega)
  rw [prL_gt (by omega)] at this
  exact this
theorem gluE_pair (hf : MOk a g f) (hh : MOk a g h) {i : Nat} (hi : i < a.e.length) : gt (gluE g f h) (gt f.e i) = gt (gluE g f h) (gt h.e i) := by
  have ln := hf.le
  have := gen_pair (glu_prE hf hh) _ (Nat.le_refl _) i (by rw [prL_len]; omega)
  rw [prL_gt (by omega)] at this
  exact this
theorem glu_cong (hf : MOk a g f) (hh : MOk a g h) : Cong g (gluN g f h) (gluE g f h) := by
  have ip : Idem (gluN g f h) := gen_idem (glu_prN hf hh) (Nat.le_refl _)
  have ir : Idem (gluE g f h) := gen_idem (glu_prE hf hh) (Nat.le_refl _)
  refine ⟨gluN_len, gluE_len, ip, ir, fun i hi => ?_, fun i hi => ?_⟩
  · rw [gluN_len] at hi
    exact gluN_fun (φ := gt g.n) hf hh (fun i hi => by rw [(hf.nd i hi).2, (hh.nd i hi).2]) hi
  · rw [gluE_len] at hi
    refine gluE_fun (φ := gt (reE (quo (gluN g f h) (gluN g f h).length).1 g.e)) hf hh (fun i hi => ?_) hi
    obtain ⟨f1, f2, f3, f4⟩ := hf.ed i hi
    obtain ⟨h1, h2, h3, h4⟩ := hh.ed i hi
    obtain ⟨x, hx, hx2⟩ := gtI f1
    obtain ⟨y, hy, hy2⟩ := gtI h1
    rw [hx2] at f2 f3 f4
    rw [hy2] at h2 h3 h4
    rw [hx2, hy2, reE_gt hx, reE_gt hy, ← f2, ← f3, ← f4, ← h2, ← h3, ← h4]
    have hs := quo_QS ip _ (Nat.le_refl _)
    obtain ⟨_, t2, t3⟩ := edge_fits hf.va (i := i) (by omega)
    have ends : ∀ v : Int, 0 ≤ v ∧ v < a.n.length → gt (quo (gluN g f h) (gluN g f h).length).1 (gt f.n v) = gt (quo (gluN g f h) (gluN g f h).length).1 (gt h.n v) := fun v hv => by
      obtain ⟨j, hj, hj2⟩ := gtI hv
      subst hj2
      have hp := gluN_pair hf hh hj
      obtain ⟨u, hu, hu2⟩ := gtI (hf.nd j hj).1
      obtain ⟨w, hw, hw2⟩ := gtI (hh.nd j hj).1
      rw [hu2, hw2] at hp ⊢
      exact (hs.iff ip (Nat.le_refl _) (by rw [gluN_len]; exact hu) (by rw [gluN_len]; exact hw)).2 hp
    rw [ends _ t2, ends _ t3]
theorem glu_ok (hf : MOk a g f) (hh : MOk a g h) : MOk g (gluG g f h) (gluM g f h) := (glu_cong hf hh).ok hf.vb
theorem mo_ext {x y : Mo} (h1 : x.n = y.n) (h2 : x.e = y.e) : x = y := by cases x; cases y; simp only at h1 h2; rw [h1, h2]
theorem thr_ext {l b m c : List Int} (hl : l.length = m.length) (h : ∀ i : Nat, i < l.length → gt b (gt l i) = gt c (gt m i)) : thr l b = thr m c :=
  list_ext_gt (by rw [thr_len, thr_len, hl]) fun i hi => by rw [thr_len] at hi; rw [thr_gt hi, thr_gt (by omega), h i hi]
theorem glu_eq (hf : MOk a g f) (hh : MOk a g h) : thenM f (gluM g f h) = thenM h (gluM g f h) := by
  have hc := glu_cong hf hh
  refine mo_ext (thr_ext (by rw [hf.ln, hh.ln]) fun i hi => ?_) (thr_ext (by rw [hf.le, hh.le]) fun i hi => ?_)
  · rw [hf.ln] at hi
    have hp := gluN_pair hf hh hi
    obtain ⟨u, hu, hu2⟩ := gtI (hf.nd i hi).1
    obtain ⟨w, hw, hw2⟩ := gtI (hh.nd i hi).1
    rw [hu2, hw2] at hp ⊢
    exact (hc.iffN hu hw).2 hp
  · rw [hf.le] at hi
    have hp := gluE_pair hf hh hi
    obtain ⟨u, hu, hu2⟩ := gtI (hf.ed i hi).1
    obtain ⟨w, hw, hw2⟩ := gtI (hh.ed i hi).1
    rw [hu2, hw2] at hp ⊢
    exact (hc.iffE hu hw).2 hp
theorem thenM_n {m n x y : Mo} (h : thenM m n = thenM x y) {i : Nat} (h1 : i < m.n.length) (h2 : i < x.n.length) : gt n.n (gt m.n i) = gt y.n (gt x.n i) := by
  have := congrArg (fun z : Mo => gt z.n i) h
  simp only [thenM] at this
  rwa [thr_gt h1, thr_gt h2] at this
theorem thenM_e {m n x y : Mo} (h : thenM m n = thenM x y) {i : Nat} (h1 : i < m.e.length) (h2 : i < x.e.length) : gt n.e (gt m.e i) = gt y.e (gt x.e i) := by
  have := congrArg (fun z : Mo => gt z.e i) h
  simp only [thenM] at this
  rwa [thr_gt h1, thr_gt h2] at this
theorem glu_surN (hf : MOk a g f) (hh : MOk a g h) {k : Nat} (hk : k < (gluG g f h).n.length) : ∃ i : Nat, i < g.n.length ∧ gt (gluM g f h).n i = k :=
  let ⟨i, h1, _, h3⟩ := (glu_cong hf hh).surN hk; ⟨i, h1, h3⟩
theorem glu_surE (hf : MOk a g f) (hh : MOk a g h) {k : Nat} (hk : k < (gluG g f h).e.length) : ∃ i : Nat, i < g.e.length ∧ gt (gluM g f h).e i = k :=
  let ⟨i, h1, _, h3⟩ := (glu_cong hf hh).surE hk; ⟨i, h1, h3⟩
/-- Two morphisms from what is glued are the same if they are so from the graph. -/
theorem glu_one {x : G} {u v : Mo} (hf : MOk a g f) (hh : MOk a g h) (hu : MOk (gluG g f h) x u) (hv : MOk (gluG g f h) x v) (e : thenM (gluM g f h) u = thenM (gluM g f h) v) : u = v := by
  have hq := glu_ok hf hh
  have l1 := hq.ln
  have l2 := hq.le
  refine mo_ext (list_ext_gt (by rw [hu.ln, hv.ln]) fun k hk => ?_) (list_ext_gt (by rw [hu.le, hv.le]) fun k hk => ?_)
  · rw [hu.ln] at hk
    obtain ⟨i, hi, hi2⟩ := glu_surN hf hh hk
    have := thenM_n e (i := i) (by omega) (by omega)
    rwa [hi2] at this
  · rw [hu.le] at hk
    obtain ⟨i, hi, hi2⟩ := glu_surE hf hh hk
    have := thenM_e e (i := i) (by omega) (by omega)
    rwa [hi2] at this
end
end
end Go.Am
namespace Go.Am
open Go
set_option linter.unusedVariables false
set_option linter.unusedSimpArgs false
attribute [local irreducible] W
/- partition.root -/
def c_partition_root_r0 (F : String → Nat) : List LI := [⟨some 4, .mov (.k (.int .i64 (0))), none⟩]
def c_partition_root_r1 (F : String → Nat) : List LI := [⟨some 5, .mov (.t 0), none⟩,
  ⟨some 6, .mov (.t 1), none⟩,
  ⟨some 7, .iad 1 (.t 5) (.t 6), none⟩,
  ⟨some 8, .load false 1 (.t 7), none⟩,
  ⟨some 9, .mov (.t 1), none⟩,
  ⟨some 10, .bin .neq (.t 8) (.t 9), none⟩]
def c_partition_root_r2 (F : String → Nat) : List LI := [⟨some 11, .mov (.t 0), none⟩,
  ⟨some 12, .mov (.t 1), none⟩,
  ⟨some 13, .iad 1 (.t 11) (.t 12), none⟩,
  ⟨some 14, .load false 1 (.t 13), none⟩,
  ⟨some 1, .mov (.t 14), none⟩]
def c_partition_root_b3 (F : String → Nat) : LC := (.seq (.seq (.reg (c_partition_root_r1 F) [0, 1, 10]) (.cond (.t 10) .skip (.exit 0))) (.block 1 (.reg (c_partition_root_r2 F) [0, 1])))
def c_partition_root_r4 (F : String → Nat) : List LI := [⟨some 15, .mov (.t 1), none⟩,
  ⟨some 4, .mov (.t 15), none⟩]
def c_partition_root (F : String → Nat) : LC := (.seq (.reg (c_partition_root_r0 F) [0, 1]) (.seq (.block 0 (.loop [0, 1] (c_partition_root_b3 F))) (.seq (.reg (c_partition_root_r4 F) [4]) .ret)))
def h_partition_root : Hints := ⟨[], fun _ => [], tab [(0, [0, 1]), (1, [0, 1, 10]), (2, [0, 1]), (3, [4])], tab [(1, [0, 1])]⟩

/- partition.unite -/
def c_partition_unite_r0 (F : String → Nat) : List LI := [⟨some 8, .mov (.t 0), none⟩,
  ⟨some 9, .mov (.t 1), none⟩,
  ⟨some 10, .call (F "partition.root") [.t 8, .t 9] [], none⟩,
  ⟨some 11, .mov (.t 0), none⟩,
  ⟨some 12, .mov (.t 2), none⟩,
  ⟨some 13, .call (F "partition.root") [.t 11, .t 12] [], none⟩,
  ⟨some 6, .mov (.t 10), none⟩,
  ⟨some 7, .mov (.t 13), none⟩]
def c_partition_unite_r1 (F : String → Nat) : List LI := [⟨some 14, .mov (.t 0), none⟩,
  ⟨some 15, .mov (.t 6), none⟩,
  ⟨some 16, .mov (.t 7), none⟩,
  ⟨some 17, .mx [.t 15, .t 16], none⟩,
  ⟨some 18, .mov (.t 6), none⟩,
  ⟨some 19, .mov (.t 7), none⟩,
  ⟨some 20, .mn [.t 18, .t 19], none⟩,
  ⟨some 21, .iad 1 (.t 14) (.t 17), none⟩,
  ⟨none, .store 1 (.t 21) (.t 20), none⟩]
def c_partition_unite (F : String → Nat) : LC := (.seq (.reg (c_partition_unite_r0 F) [0, 6, 7]) (.reg (c_partition_unite_r1 F) [0]))
def h_partition_unite : Hints := ⟨[0], fun _ => [], tab [(0, [0, 6, 7]), (1, [0])], tab []⟩

/- partition.finest -/
def c_partition_finest_r0 (F : String → Nat) : List LI := [⟨some 2, .mov (.k (.nl 1)), none⟩]
def c_partition_finest_r1 (F : String → Nat) : List LI := [⟨some 5, .mov (.t 0), none⟩,
  ⟨some 6, .makeSl 1 8 (.int .i64 (0)) (.t 5), none⟩,
  ⟨some 3, .mov (.t 6), none⟩]
def c_partition_finest_r2 (F : String → Nat) : List LI := [⟨some 7, .mov (.t 3), none⟩,
  ⟨some 8, .len (.t 7), none⟩,
  ⟨some 9, .mov (.k (.int .i64 (0))), none⟩]
def c_partition_finest_r3 (F : String → Nat) : List LI := [⟨some 10, .bin .lss (.t 9) (.t 8), none⟩]
def c_partition_finest_r4 (F : String → Nat) : List LI := [⟨some 11, .mov (.t 9), none⟩,
  ⟨some 4, .mov (.t 11), none⟩]
def c_partition_finest_r5 (F : String → Nat) : List LI := [⟨some 12, .mov (.t 3), none⟩,
  ⟨some 13, .mov (.t 4), none⟩,
  ⟨some 14, .mov (.t 4), none⟩,
  ⟨some 15, .iad 1 (.t 12) (.t 13), none⟩,
  ⟨none, .store 1 (.t 15) (.t 14), none⟩]
def c_partition_finest_r6 (F : String → Nat) : List LI := [⟨some 16, .bin .add (.t 9) (.k (.int .i64 (1))), none⟩,
  ⟨some 9, .mov (.t 16), none⟩]
def c_partition_finest_b7 (F : String → Nat) : LC := (.seq (.reg (c_partition_finest_r3 F) [3, 8, 9, 10]) (.seq (.cond (.t 10) .skip (.exit 0)) (.seq (.block 1 (.seq (.reg (c_partition_finest_r4 F) [3, 4, 8, 9]) (.reg (c_partition_finest_r5 F) [3, 8, 9]))) (.reg (c_partition_finest_r6 F) [3, 8, 9]))))
def c_partition_finest_r8 (F : String → Nat) : List LI := [⟨some 17, .mov (.t 3), none⟩,
  ⟨some 2, .mov (.t 17), none⟩]
def c_partition_finest (F : String → Nat) : LC := (.seq (.reg (c_partition_finest_r0 F) [0]) (.seq (.reg (c_partition_finest_r1 F) [3]) (.seq (.seq (.reg (c_partition_finest_r2 F) [3, 8, 9]) (.block 0 (.loop [3, 8, 9] (c_partition_finest_b7 F)))) (.seq (.reg (c_partition_finest_r8 F) [2]) .ret))))
def h_partition_finest : Hints := ⟨[], fun _ => [], tab [(0, [0]), (1, [3]), (2, [3, 8, 9]), (3, [3, 8, 9, 10]), (4, [3, 4, 8, 9]), (5, [3, 8, 9]), (6, [3, 8, 9]), (7, [2])], tab [(3, [3, 8, 9])]⟩

/- partition.flat -/
def c_partition_flat_r0 (F : String → Nat) : List LI := [⟨some 2, .mov (.k (.nl 1)), none⟩]
def c_partition_flat_r1 (F : String → Nat) : List LI := [⟨some 4, .mov (.t 0), none⟩,
  ⟨some 5, .len (.t 4), none⟩,
  ⟨some 6, .mov (.k (.int .i64 (0))), none⟩]
def c_partition_flat_r2 (F : String → Nat) : List LI := [⟨some 7, .bin .lss (.t 6) (.t 5), none⟩]
def c_partition_flat_r3 (F : String → Nat) : List LI := [⟨some 8, .mov (.t 6), none⟩,
  ⟨some 3, .mov (.t 8), none⟩]
def c_partition_flat_r4 (F : String → Nat) : List LI := [⟨some 9, .mov (.t 0), none⟩,
  ⟨some 10, .mov (.t 3), none⟩,
  ⟨some 11, .mov (.t 0), none⟩,
  ⟨some 12, .mov (.t 3), none⟩,
  ⟨some 13, .call (F "partition.root") [.t 11, .t 12] [], none⟩,
  ⟨some 14, .iad 1 (.t 9) (.t 10), none⟩,
  ⟨none, .store 1 (.t 14) (.t 13), none⟩]
def c_partition_flat_r5 (F : String → Nat) : List LI := [⟨some 15, .bin .add (.t 6) (.k (.int .i64 (1))), none⟩,
  ⟨some 6, .mov (.t 15), none⟩]
def c_partition_flat_b6 (F : String → Nat) : LC := (.seq (.reg (c_partition_flat_r2 F) [0, 5, 6, 7]) (.seq (.cond (.t 7) .skip (.exit 0)) (.seq (.block 1 (.seq (.reg (c_partition_flat_r3 F) [0, 3, 5, 6]) (.reg (c_partition_flat_r4 F) [0, 5, 6]))) (.reg (c_partition_flat_r5 F) [0, 5, 6]))))
def c_partition_flat_r7 (F : String → Nat) : List LI := [⟨some 16, .mov (.t 0), none⟩,
  ⟨some 2, .mov (.t 16), none⟩]
def c_partition_flat (F : String → Nat) : LC := (.seq (.reg (c_partition_flat_r0 F) [0]) (.seq (.seq (.reg (c_partition_flat_r1 F) [0, 5, 6]) (.block 0 (.loop [0, 5, 6] (c_partition_flat_b6 F)))) (.seq (.reg (c_partition_flat_r7 F) [2]) .ret)))
def h_partition_flat : Hints := ⟨[], fun _ => [], tab [(0, [0]), (1, [0, 5, 6]), (2, [0, 5, 6, 7]), (3, [0, 3, 5, 6]), (4, [0, 5, 6]), (5, [0, 5, 6]), (6, [2])], tab [(2, [0, 5, 6])]⟩

/- partition.Generate -/
def c_partition_Generate_r0 (F : String → Nat) : List LI := [⟨some 4, .mov (.k (.nl 1)), none⟩,
  ⟨some 5, .mov (.k (.int .i64 (0))), none⟩]
def c_partition_Generate_r1 (F : String → Nat) : List LI := [⟨some 9, .mov (.t 0), none⟩,
  ⟨some 10, .bin .gtr (.t 9) (.k (.int .i64 (80))), none⟩]
def c_partition_Generate_r2 (F : String → Nat) : List LI := [⟨some 4, .mov (.k (.nl 1)), none⟩,
  ⟨some 5, .mov (.k (.int .i64 (3))), none⟩]
def c_partition_Generate_r3 (F : String → Nat) : List LI := [⟨some 11, .mov (.t 0), none⟩,
  ⟨some 12, .bin .lss (.t 11) (.k (.int .i64 (0))), none⟩]
def c_partition_Generate_r4 (F : String → Nat) : List LI := [⟨some 4, .mov (.k (.nl 1)), none⟩,
  ⟨some 5, .mov (.k (.int .i64 (6))), none⟩]
def c_partition_Generate_r5 (F : String → Nat) : List LI := [⟨some 13, .mov (.t 0), none⟩,
  ⟨some 14, .call (F "partition.finest") [.t 13] [], none⟩,
  ⟨some 6, .mov (.t 14), none⟩]
def c_partition_Generate_r6 (F : String → Nat) : List LI := [⟨some 15, .mov (.t 1), none⟩,
  ⟨some 16, .len (.t 15), none⟩,
  ⟨some 17, .mov (.k (.int .i64 (0))), none⟩]
def c_partition_Generate_r7 (F : String → Nat) : List LI := [⟨some 18, .bin .lss (.t 17) (.t 16), none⟩]
def c_partition_Generate_r8 (F : String → Nat) : List LI := [⟨some 19, .iad 2 (.t 15) (.t 17), none⟩,
  ⟨some 20, .load true 2 (.t 19), none⟩,
  ⟨some 8, .alloc [.int .i64 (0), .int .i64 (0)], none⟩,
  ⟨none, .store 2 (.t 8) (.t 20), none⟩]
def c_partition_Generate_r9 (F : String → Nat) : List LI := [⟨some 21, .fad 0 (.t 8), none⟩,
  ⟨some 22, .load false 1 (.t 21), none⟩,
  ⟨some 23, .bin .lss (.t 22) (.k (.int .i64 (0))), none⟩,
  ⟨some 24, .mov (.t 23), none⟩,
  ⟨some 25, .fad 0 (.t 8), some (24, false)⟩,
  ⟨some 26, .load false 1 (.t 25), some (24, false)⟩,
  ⟨some 27, .mov (.t 0), some (24, false)⟩,
  ⟨some 28, .bin .geq (.t 26) (.t 27), some (24, false)⟩,
  ⟨some 29, .pick (.t 24) (.k (.bool true)) (.t 28), none⟩,
  ⟨some 30, .mov (.t 29), none⟩,
  ⟨some 31, .fad 1 (.t 8), some (30, false)⟩,
  ⟨some 32, .load false 1 (.t 31), some (30, false)⟩,
  ⟨some 33, .bin .lss (.t 32) (.k (.int .i64 (0))), some (30, false)⟩,
  ⟨some 34, .pick (.t 30) (.k (.bool true)) (.t 33), none⟩,
  ⟨some 35, .mov (.t 34), none⟩,
  ⟨some 36, .fad 1 (.t 8), some (35, false)⟩,
  ⟨some 37, .load false 1 (.t 36), some (35, false)⟩,
  ⟨some 38, .mov (.t 0), some (35, false)⟩,
  ⟨some 39, .bin .geq (.t 37) (.t 38), some (35, false)⟩,
  ⟨some 40, .pick (.t 35) (.k (.bool true)) (.t 39), none⟩]
def c_partition_Generate_r10 (F : String → Nat) : List LI := [⟨some 4, .mov (.k (.nl 1)), none⟩,
  ⟨some 5, .mov (.k (.int .i64 (6))), none⟩]
def c_partition_Generate_r11 (F : String → Nat) : List LI := [⟨some 41, .mov (.t 6), none⟩,
  ⟨some 42, .fad 0 (.t 8), none⟩,
  ⟨some 43, .load false 1 (.t 42), none⟩,
  ⟨some 44, .fad 1 (.t 8), none⟩,
  ⟨some 45, .load false 1 (.t 44), none⟩,
  ⟨some 46, .call (F "partition.unite") [.t 41, .t 43, .t 45] [.mu, .rd, .rd], none⟩]
def c_partition_Generate_r12 (F : String → Nat) : List LI := [⟨some 47, .bin .add (.t 17) (.k (.int .i64 (1))), none⟩,
  ⟨some 17, .mov (.t 47), none⟩]
def c_partition_Generate_b13 (F : String → Nat) : LC := (.seq (.reg (c_partition_Generate_r7 F) [0, 6, 15, 16, 17, 18]) (.seq (.cond (.t 18) .skip (.exit 0)) (.seq (.block 1 (.seq (.reg (c_partition_Generate_r8 F) [0, 6, 8, 15, 16, 17]) (.seq (.seq (.reg (c_partition_Generate_r9 F) [0, 6, 8, 15, 16, 17, 40]) (.cond (.t 40) (.seq (.reg (c_partition_Generate_r10 F) [4, 5]) .ret) .skip)) (.reg (c_partition_Generate_r11 F) [0, 6, 15, 16, 17])))) (.reg (c_partition_Generate_r12 F) [0, 6, 15, 16, 17]))))
def c_partition_Generate_r14 (F : String → Nat) : List LI := [⟨some 48, .mov (.t 6), none⟩,
  ⟨some 49, .call (F "partition.flat") [.t 48] [.ow], none⟩,
  ⟨some 4, .mov (.t 49), none⟩,
  ⟨some 5, .mov (.k (.int .i64 (0))), none⟩]
def c_partition_Generate (F : String → Nat) : LC := (.seq (.reg (c_partition_Generate_r0 F) [0, 1]) (.seq (.seq (.reg (c_partition_Generate_r1 F) [0, 1, 10]) (.cond (.t 10) (.seq (.reg (c_partition_Generate_r2 F) [4, 5]) .ret) .skip)) (.seq (.seq (.reg (c_partition_Generate_r3 F) [0, 1, 12]) (.cond (.t 12) (.seq (.reg (c_partition_Generate_r4 F) [4, 5]) .ret) .skip)) (.seq (.reg (c_partition_Generate_r5 F) [0, 1, 6]) (.seq (.seq (.reg (c_partition_Generate_r6 F) [0, 6, 15, 16, 17]) (.block 0 (.loop [0, 6, 15, 16, 17] (c_partition_Generate_b13 F)))) (.seq (.reg (c_partition_Generate_r14 F) [4, 5]) .ret))))))
def h_partition_Generate : Hints := ⟨[], fun _ => [], tab [(0, [0, 1]), (1, [0, 1, 10]), (2, [4, 5]), (3, [0, 1, 12]), (4, [4, 5]), (5, [0, 1, 6]), (6, [0, 6, 15, 16, 17]), (7, [0, 6, 15, 16, 17, 18]), (8, [0, 6, 8, 15, 16, 17]), (9, [0, 6, 8, 15, 16, 17, 40]), (10, [4, 5]), (11, [0, 6, 15, 16, 17]), (12, [0, 6, 15, 16, 17]), (13, [4, 5])], tab [(7, [0, 6, 15, 16, 17])]⟩

/- partition.right -/
def c_partition_right_r0 (F : String → Nat) : List LI := [⟨some 2, .mov (.k (.bool false)), none⟩]
def c_partition_right_r1 (F : String → Nat) : List LI := [⟨some 5, .mov (.t 0), none⟩,
  ⟨some 6, .len (.t 5), none⟩,
  ⟨some 7, .mov (.k (.int .i64 (0))), none⟩]
def c_partition_right_r2 (F : String → Nat) : List LI := [⟨some 8, .bin .lss (.t 7) (.t 6), none⟩]
def c_partition_right_r3 (F : String → Nat) : List LI := [⟨some 9, .mov (.t 7), none⟩,
  ⟨some 10, .iad 1 (.t 5) (.t 7), none⟩,
  ⟨some 11, .load false 1 (.t 10), none⟩,
  ⟨some 3, .mov (.t 9), none⟩,
  ⟨some 4, .mov (.t 11), none⟩]
def c_partition_right_r4 (F : String → Nat) : List LI := [⟨some 12, .mov (.t 4), none⟩,
  ⟨some 13, .bin .lss (.t 12) (.k (.int .i64 (0))), none⟩,
  ⟨some 14, .mov (.t 13), none⟩,
  ⟨some 15, .mov (.t 4), some (14, false)⟩,
  ⟨some 16, .mov (.t 3), some (14, false)⟩,
  ⟨some 17, .bin .gtr (.t 15) (.t 16), some (14, false)⟩,
  ⟨some 18, .pick (.t 14) (.k (.bool true)) (.t 17), none⟩,
  ⟨some 19, .mov (.t 18), none⟩,
  ⟨some 20, .mov (.t 0), some (19, false)⟩,
  ⟨some 21, .mov (.t 4), some (19, false)⟩,
  ⟨some 22, .iad 1 (.t 20) (.t 21), some (19, false)⟩,
  ⟨some 23, .load false 1 (.t 22), some (19, false)⟩,
  ⟨some 24, .mov (.t 4), some (19, false)⟩,
  ⟨some 25, .bin .neq (.t 23) (.t 24), some (19, false)⟩,
  ⟨some 26, .pick (.t 19) (.k (.bool true)) (.t 25), none⟩]
def c_partition_right_r5 (F : String → Nat) : List LI := [⟨some 2, .mov (.k (.bool false)), none⟩]
def c_partition_right_r6 (F : String → Nat) : List LI := [⟨some 27, .bin .add (.t 7) (.k (.int .i64 (1))), none⟩,
  ⟨some 7, .mov (.t 27), none⟩]
def c_partition_right_b7 (F : String → Nat) : LC := (.seq (.reg (c_partition_right_r2 F) [0, 5, 6, 7, 8]) (.seq (.cond (.t 8) .skip (.exit 0)) (.seq (.block 1 (.seq (.reg (c_partition_right_r3 F) [0, 3, 4, 5, 6, 7]) (.seq (.reg (c_partition_right_r4 F) [0, 5, 6, 7, 26]) (.cond (.t 26) (.seq (.reg (c_partition_right_r5 F) [2]) .ret) .skip)))) (.reg (c_partition_right_r6 F) [0, 5, 6, 7]))))
def c_partition_right_r8 (F : String → Nat) : List LI := [⟨some 2, .mov (.k (.bool true)), none⟩]
def c_partition_right (F : String → Nat) : LC := (.seq (.reg (c_partition_right_r0 F) [0]) (.seq (.seq (.reg (c_partition_right_r1 F) [0, 5, 6, 7]) (.block 0 (.loop [0, 5, 6, 7] (c_partition_right_b7 F)))) (.seq (.reg (c_partition_right_r8 F) [2]) .ret)))
def h_partition_right : Hints := ⟨[], fun _ => [], tab [(0, [0]), (1, [0, 5, 6, 7]), (2, [0, 5, 6, 7, 8]), (3, [0, 3, 4, 5, 6, 7]), (4, [0, 5, 6, 7, 26]), (5, [2]), (6, [0, 5, 6, 7]), (7, [2])], tab [(2, [0, 5, 6, 7])]⟩

/- partition.one -/
def c_partition_one_r0 (F : String → Nat) : List LI := [⟨some 2, .mov (.k (.int .i64 (0))), none⟩]
def c_partition_one_r1 (F : String → Nat) : List LI := [⟨some 3, .mov (.t 0), none⟩,
  ⟨some 4, .len (.t 3), none⟩,
  ⟨some 5, .bin .gtr (.t 4) (.k (.int .i64 (80))), none⟩]
def c_partition_one_r2 (F : String → Nat) : List LI := [⟨some 2, .mov (.k (.int .i64 (3))), none⟩]
def c_partition_one_r3 (F : String → Nat) : List LI := [⟨some 6, .mov (.t 0), none⟩,
  ⟨some 7, .call (F "partition.right") [.t 6] [], none⟩,
  ⟨some 8, .not (.t 7), none⟩]
def c_partition_one_r4 (F : String → Nat) : List LI := [⟨some 2, .mov (.k (.int .i64 (1))), none⟩]
def c_partition_one_r5 (F : String → Nat) : List LI := [⟨some 2, .mov (.k (.int .i64 (0))), none⟩]
def c_partition_one (F : String → Nat) : LC := (.seq (.reg (c_partition_one_r0 F) [0]) (.seq (.seq (.reg (c_partition_one_r1 F) [0, 5]) (.cond (.t 5) (.seq (.reg (c_partition_one_r2 F) [2]) .ret) .skip)) (.seq (.seq (.reg (c_partition_one_r3 F) [8]) (.cond (.t 8) (.seq (.reg (c_partition_one_r4 F) [2]) .ret) .skip)) (.seq (.reg (c_partition_one_r5 F) [2]) .ret))))
def h_partition_one : Hints := ⟨[], fun _ => [], tab [(0, [0]), (1, [0, 5]), (2, [2]), (3, [8]), (4, [2]), (5, [2])], tab []⟩

/- partition.Quotient -/
def c_partition_Quotient_r0 (F : String → Nat) : List LI := [⟨some 2, .mov (.k (.nl 1)), none⟩,
  ⟨some 3, .mov (.k (.int .i64 (0))), none⟩,
  ⟨some 4, .mov (.k (.int .i64 (0))), none⟩]
def c_partition_Quotient_r1 (F : String → Nat) : List LI := [⟨some 10, .mov (.t 0), none⟩,
  ⟨some 11, .call (F "partition.one") [.t 10] [], none⟩,
  ⟨some 5, .mov (.t 11), none⟩]
def c_partition_Quotient_r2 (F : String → Nat) : List LI := [⟨some 12, .mov (.t 5), none⟩,
  ⟨some 13, .bin .neq (.t 12) (.k (.int .i64 (0))), none⟩]
def c_partition_Quotient_r3 (F : String → Nat) : List LI := [⟨some 14, .mov (.t 5), none⟩,
  ⟨some 2, .mov (.k (.nl 1)), none⟩,
  ⟨some 3, .mov (.k (.int .i64 (0))), none⟩,
  ⟨some 4, .mov (.t 14), none⟩]
def c_partition_Quotient_r4 (F : String → Nat) : List LI := [⟨some 6, .mov (.k (.nl 1)), none⟩]
def c_partition_Quotient_r5 (F : String → Nat) : List LI := [⟨some 7, .mov (.k (.int .i64 (0))), none⟩]
def c_partition_Quotient_r6 (F : String → Nat) : List LI := [⟨some 15, .mov (.t 0), none⟩,
  ⟨some 16, .len (.t 15), none⟩,
  ⟨some 17, .mov (.k (.int .i64 (0))), none⟩]
def c_partition_Quotient_r7 (F : String → Nat) : List LI := [⟨some 18, .bin .lss (.t 17) (.t 16), none⟩]
def c_partition_Quotient_r8 (F : String → Nat) : List LI := [⟨some 19, .mov (.t 17), none⟩,
  ⟨some 20, .iad 1 (.t 15) (.t 17), none⟩,
  ⟨some 21, .load false 1 (.t 20), none⟩,
  ⟨some 8, .mov (.t 19), none⟩,
  ⟨some 9, .mov (.t 21), none⟩]
def c_partition_Quotient_r9 (F : String → Nat) : List LI := [⟨some 22, .mov (.t 9), none⟩,
  ⟨some 23, .mov (.t 8), none⟩,
  ⟨some 24, .bin .eql (.t 22) (.t 23), none⟩]
def c_partition_Quotient_r10 (F : String → Nat) : List LI := [⟨some 25, .mov (.t 6), none⟩,
  ⟨some 26, .mov (.t 7), none⟩,
  ⟨some 27, .buildSl 1 8 (.int .i64 (0)) 1 [(0, .t 26)], none⟩,
  ⟨some 28, .app 1 8 (.t 25) (.t 27), none⟩,
  ⟨some 6, .mov (.t 28), none⟩]
def c_partition_Quotient_r11 (F : String → Nat) : List LI := [⟨some 29, .mov (.t 7), none⟩,
  ⟨some 30, .bin .add (.t 29) (.k (.int .i64 (1))), none⟩,
  ⟨some 7, .mov (.t 30), none⟩]
def c_partition_Quotient_r12 (F : String → Nat) : List LI := [⟨some 31, .mov (.t 6), none⟩,
  ⟨some 32, .mov (.t 6), none⟩,
  ⟨some 33, .mov (.t 9), none⟩,
  ⟨some 34, .iad 1 (.t 32) (.t 33), none⟩,
  ⟨some 35, .load false 1 (.t 34), none⟩,
  ⟨some 36, .buildSl 1 8 (.int .i64 (0)) 1 [(0, .t 35)], none⟩,
  ⟨some 37, .app 1 8 (.t 31) (.t 36), none⟩,
  ⟨some 6, .mov (.t 37), none⟩]
def c_partition_Quotient_r13 (F : String → Nat) : List LI := [⟨some 38, .bin .add (.t 17) (.k (.int .i64 (1))), none⟩,
  ⟨some 17, .mov (.t 38), none⟩]
def c_partition_Quotient_b14 (F : String → Nat) : LC := (.seq (.reg (c_partition_Quotient_r7 F) [6, 7, 15, 16, 17, 18]) (.seq (.cond (.t 18) .skip (.exit 0)) (.seq (.block 1 (.seq (.reg (c_partition_Quotient_r8 F) [6, 7, 8, 9, 15, 16, 17]) (.seq (.reg (c_partition_Quotient_r9 F) [6, 7, 9, 15, 16, 17, 24]) (.cond (.t 24) (.seq (.reg (c_partition_Quotient_r10 F) [6, 7, 15, 16, 17]) (.reg (c_partition_Quotient_r11 F) [6, 7, 15, 16, 17])) (.reg (c_partition_Quotient_r12 F) [6, 7, 15, 16, 17]))))) (.reg (c_partition_Quotient_r13 F) [6, 7, 15, 16, 17]))))
def c_partition_Quotient_r15 (F : String → Nat) : List LI := [⟨some 39, .mov (.t 6), none⟩,
  ⟨some 40, .mov (.t 7), none⟩,
  ⟨some 2, .mov (.t 39), none⟩,
  ⟨some 3, .mov (.t 40), none⟩,
  ⟨some 4, .mov (.k (.int .i64 (0))), none⟩]
def c_partition_Quotient (F : String → Nat) : LC := (.seq (.reg (c_partition_Quotient_r0 F) [0]) (.seq (.seq (.reg (c_partition_Quotient_r1 F) [0, 5]) (.seq (.reg (c_partition_Quotient_r2 F) [0, 5, 13]) (.cond (.t 13) (.seq (.reg (c_partition_Quotient_r3 F) [2, 3, 4]) .ret) .skip))) (.seq (.reg (c_partition_Quotient_r4 F) [0, 6]) (.seq (.reg (c_partition_Quotient_r5 F) [0, 6, 7]) (.seq (.seq (.reg (c_partition_Quotient_r6 F) [6, 7, 15, 16, 17]) (.block 0 (.loop [6, 7, 15, 16, 17] (c_partition_Quotient_b14 F)))) (.seq (.reg (c_partition_Quotient_r15 F) [2, 3, 4]) .ret))))))
def h_partition_Quotient : Hints := ⟨[], fun _ => [], tab [(0, [0]), (1, [0, 5]), (2, [0, 5, 13]), (3, [2, 3, 4]), (4, [0, 6]), (5, [0, 6, 7]), (6, [6, 7, 15, 16, 17]), (7, [6, 7, 15, 16, 17, 18]), (8, [6, 7, 8, 9, 15, 16, 17]), (9, [6, 7, 9, 15, 16, 17, 24]), (10, [6, 7, 15, 16, 17]), (11, [6, 7, 15, 16, 17]), (12, [6, 7, 15, 16, 17]), (13, [6, 7, 15, 16, 17]), (14, [2, 3, 4])], tab [(7, [6, 7, 15, 16, 17])]⟩

attribute [go_sem] c_partition_root_r0 c_partition_root_r1 c_partition_root_r2 c_partition_root_r4 c_partition_root c_partition_unite_r0 c_partition_unite_r1 c_partition_unite c_partition_finest_r0 c_partition_finest_r1 c_partition_finest_r2 c_partition_finest_r3 c_partition_finest_r4 c_partition_finest_r5 c_partition_finest_r6 c_partition_finest_r8 c_partition_finest c_partition_flat_r0 c_partition_flat_r1 c_partition_flat_r2 c_partition_flat_r3 c_partition_flat_r4 c_partition_flat_r5 c_partition_flat_r7 c_partition_flat c_partition_Generate_r0 c_partition_Generate_r1 c_partition_Generate_r2 c_partition_Generate_r3 c_partition_Generate_r4 c_partition_Generate_r5 c_partition_Generate_r6 c_partition_Generate_r7 c_partition_Generate_r8 c_partition_Generate_r9 c_partition_Generate_r10 c_partition_Generate_r11 c_partition_Generate_r12 c_partition_Generate_r14 c_partition_Generate c_partition_right_r0 c_partition_right_r1 c_partition_right_r2 c_partition_right_r3 c_partition_right_r4 c_partition_right_r5 c_partition_right_r6 c_partition_right_r8 c_partition_right c_partition_one_r0 c_partition_one_r1 c_partition_one_r2 c_partition_one_r3 c_partition_one_r4 c_partition_one_r5 c_partition_one c_partition_Quotient_r0 c_partition_Quotient_r1 c_partition_Quotient_r2 c_partition_Quotient_r3 c_partition_Quotient_r4 c_partition_Quotient_r5 c_partition_Quotient_r6 c_partition_Quotient_r7 c_partition_Quotient_r8 c_partition_Quotient_r9 c_partition_Quotient_r10 c_partition_Quotient_r11 c_partition_Quotient_r12 c_partition_Quotient_r13 c_partition_Quotient_r15 c_partition_Quotient
section
variable (P : Program) (F : String → Nat)
def K_partition_root : Prop := ∀ (p r : List Int) (i : Nat), Fo p r → p.length ≤ 1000 → i < p.length → FC P (F "partition.root") [.lst 1 (ints p), .int .i64 i] (.int .i64 (gt r i)) []
def K_partition_unite : Prop := ∀ (p r : List Int) (a b : Nat), Fo p r → p.length ≤ 1000 → a < p.length → b < p.length → FC P (F "partition.unite") [.arr 1 (ints p), .int .i64 a, .int .i64 b] (.tup []) [(0, .arr 1 (ints (p.set (max (gt r a) (gt r b)).toNat (min (gt r a) (gt r b)))))]
def K_partition_finest : Prop := ∀ n : Nat, n ≤ 1000000 → FC P (F "partition.finest") [.int .i64 n] (.arr 1 (ints (nums 0 n))) []
def K_partition_flat : Prop := ∀ p r : List Int, Fo p r → p.length ≤ 1000 → FC P (F "partition.flat") [.arr 1 (ints p)] (.arr 1 (ints r)) []
def K_partition_Generate : Prop := ∀ (n : Nat) (l : List Pr), n ≤ 80 → l.length ≤ 1000 → PrIn n l → FC P (F "partition.Generate") [.int .i64 n, .lst 2 (prs l)] (.tup [.arr 1 (ints (genL n l)), .int .i64 0]) []
def K_partition_right : Prop := ∀ p : List Int, Idem p → p.length ≤ 80 → FC P (F "partition.right") [.lst 1 (ints p)] (.bool true) []
def K_partition_one : Prop := ∀ p : List Int, Idem p → p.length ≤ 80 → FC P (F "partition.one") [.lst 1 (ints p)] (.int .i64 0) []
def K_partition_Quotient : Prop := ∀ p : List Int, Idem p → p.length ≤ 80 → FC P (F "partition.Quotient") [.lst 1 (ints p)] (.tup [.arr 1 (ints (quo p p.length).1), .int .i64 (quo p p.length).2, .int .i64 0]) []
end
section
variable {P : Program} {F : String → Nat} {α : Type}
theorem w_partition_root (p r : List Int) (i : Nat) (h : Fo p r) (hl : p.length ≤ 1000) (hi : i < p.length) : W P (c_partition_root F) (Done [.t 4] [] (.int .i64 (gt r i)) []) (init [.lst 1 (ints p), .int .i64 i]) := by
  refine W_of ?_
  simp (config := { maxSteps := 1000000 }) (disch := first | omega | (simp only [go_sem]; omega)) only [go_sem, ↓reduceIte]
  refine W_loop (fun k : Nat => ⟨[(0, .lst 1 (ints p)), (1, .int .i64 k)], [], 0⟩) (fun k => k < p.length ∧ gt r k = gt r i) (fun k => k) i ?_ ?_ ?_
  · simp (config := { maxSteps := 1000000 }) (disch := first | omega | (simp only [go_sem]; omega)) only [go_sem, ↓reduceIte]
    try rfl
  · exact ⟨hi, rfl⟩
  · rintro k ⟨h1, h2⟩
    obtain ⟨b1, b2⟩ := h.b k h1
    obtain ⟨m, hm⟩ := natI b1
    have hs := h.s k h1
    have ht := h.t k h1
    simp (config := { maxSteps := 1000000 }) (disch := first | omega | (simp only [go_sem]; omega)) only [go_sem, ↓reduceIte, c_partition_root_b3]
    refine bran_ndec (fun c => ?_) (fun c => ?_)
    · rw [hm] at c hs b2
      simp (config := { maxSteps := 1000000 }) (disch := first | omega | (simp only [go_sem]; omega)) only [go_sem, ↓reduceIte]
      exact ⟨m, by rw [hm], ⟨by omega, by rw [hs, h2]⟩, by omega⟩
    · simp (config := { maxSteps := 1000000 }) (disch := first | omega | (simp only [go_sem]; omega)) only [go_sem, ↓reduceIte]
      rw [← h2, ht c]
theorem w_partition_unite (hr : K_partition_root P F) (p r : List Int) (a b : Nat) (h : Fo p r) (hl : p.length ≤ 1000) (ha : a < p.length) (hb : b < p.length) :
    W P (c_partition_unite F) (Done [] [0] (.tup []) [(0, .arr 1 (ints (p.set (max (gt r a) (gt r b)).toNat (min (gt r a) (gt r b)))))]) (init [.arr 1 (ints p), .int .i64 a, .int .i64 b]) := by
  refine W_of ?_
  have r1 := hr p r a h hl ha
  have r2 := hr p r b h hl hb
  have hlo : min (gt r a) (gt r b) = if gt r b < gt r a then gt r b else gt r a := by rw [Int.min_def]; split <;> split <;> omega
  have hhi : max (gt r a) (gt r b) = if gt r a < gt r b then gt r b else gt r a := by rw [Int.max_def]; split <;> split <;> omega
  have hb1 : 0 ≤ max (gt r a) (gt r b) ∧ max (gt r a) (gt r b) < p.length := by
    obtain ⟨⟨a1, a2⟩, _⟩ := h.c a ha
    obtain ⟨⟨b1, b2⟩, _⟩ := h.c b hb
    omega
  rw [hhi] at hb1
  rw [hlo, hhi]
  clear hlo hhi
  simp (config := { maxSteps := 1000000 }) (disch := first | omega | (simp only [go_sem]; omega)) only [go_sem, ↓reduceIte]
  refine call_by r1 ?_
  simp (config := { maxSteps := 1000000 }) (disch := first | omega | (simp only [go_sem]; omega)) only [go_sem, ↓reduceIte]
  refine call_by r2 ?_
  simp (config := { maxSteps := 1000000 }) (disch := first | omega | (simp only [go_sem]; omega)) only [go_sem, ↓reduceIte]
theorem w_partition_finest (n : Nat) (hn : n ≤ 1000000) : W P (c_partition_finest F) (Done [.t 2] [] (.arr 1 (ints (nums 0 n))) []) (init [.int .i64 n]) := by
  refine W_of ?_
  simp (config := { maxSteps := 1000000 }) (disch := first | omega | (simp only [go_sem]; omega)) only [go_sem, ↓reduceIte]
  refine W_loop (fun i : Nat => ⟨[(3, .sl 0 0 n), (8, .int .i64 n), (9, .int .i64 i)], [(0, .arr 1 (ints (nums 0 i ++ List.replicate (n - i) 0)))], 1⟩) (fun i => i ≤ n) (fun i => n - i) 0 ?_ ?_ ?_
  · simp (config := { maxSteps := 1000000 }) (disch := first | omega | (simp only [go_sem]; omega)) only [go_sem, ↓reduceIte, nums_zero]
    rfl
  · omega
  · intro i hi
    have hl := nums_len 0 i
    simp (config := { maxSteps := 1000000 }) (disch := first | omega | (simp only [go_sem]; omega)) only [go_sem, ↓reduceIte, c_partition_finest_b7]
    refine bran_dec (fun c => ?_) (fun c => ?_)
    · have hf : (nums 0 i ++ List.replicate (n - i) 0).set i (i : Int) = nums 0 (i + 1) ++ List.replicate (n - (i + 1)) 0 := by
        have := fillL (nums 0 i) (i : Int) 0 (n - (i + 1))
        rw [hl, show n - (i + 1) + 1 = n - i by omega] at this
        rw [this, nums_succ]
        simp
      simp (config := { maxSteps := 1000000 }) (disch := first | omega | (simp only [go_sem]; omega)) only [go_sem, ↓reduceIte, hl, hf]
      exact ⟨i + 1, by simp, by omega, by omega⟩
    · obtain rfl : i = n := by omega
      simp (config := { maxSteps := 1000000 }) (disch := first | omega | (simp only [go_sem]; omega)) only [go_sem, ↓reduceIte, hl]
      simp
theorem w_partition_flat (hr : K_partition_root P F) (p r : List Int) (h : Fo p r) (hl : p.length ≤ 1000) : W P (c_partition_flat F) (Done [.t 2] [] (.arr 1 (ints r)) []) (init [.arr 1 (ints p)]) := by
  refine W_of ?_
  have hlr := h.l
  generalize hn : p.length = n at *
  simp (config := { maxSteps := 1000000 }) (disch := first | omega | (simp only [go_sem]; omega)) only [go_sem, ↓reduceIte, hn]
  refine W_loop (fun s : Nat × List Int => ⟨[(0, .sl 0 0 n), (5, .int .i64 n), (6, .int .i64 s.1)], [(0, .arr 1 (ints s.2))], 1⟩) (fun s => s.1 ≤ n ∧ s.2.length = n ∧ Fo s.2 r ∧ ∀ j : Nat, j < s.1 → gt s.2 j = gt r j) (fun s => n - s.1) (0, p) ?_ ?_ ?_
  · simp (config := { maxSteps := 1000000 }) (disch := first | omega | (simp only [go_sem]; omega)) only [go_sem, ↓reduceIte, hn]
    rfl
  · exact ⟨by omega, hn, h, fun j hj => by omega⟩
  · rintro ⟨i, q⟩ ⟨h1, h2, h3, h4⟩
    simp only at h1 h2 h3 h4
    by_cases c : i < n
    · have g1 : decide ((i : Int) < n) = true := decide_eq_true (by omega)
      have r1 := hr q r i h3 (by omega) (by omega)
      simp (config := { maxSteps := 1000000 }) (disch := first | omega | (simp only [go_sem]; omega)) only [go_sem, ↓reduceIte, c_partition_flat_b6, g1, h2]
      refine call_by r1 ?_
      simp (config := { maxSteps := 1000000 }) (disch := first | omega | (simp only [go_sem]; omega)) only [go_sem, ↓reduceIte, h2]
      refine ⟨(i + 1, q.set i (gt r i)), by simp, ⟨by simp only; omega, by simp [h2], h3.flat (by omega), fun j hj => ?_⟩, by simp only; omega⟩
      simp only
      rw [gt_setS (by omega)]
      split
      · rename_i e; subst e; rfl
      · simp only at hj; exact h4 j (by omega)
    · have g1 : decide ((i : Int) < n) = false := decide_eq_false (by omega)
      have e : q = r := list_ext_gt (by omega) fun j hj => h4 j (by omega)
      subst e
      simp (config := { maxSteps := 1000000 }) (disch := first | omega | (simp only [go_sem]; omega)) only [go_sem, ↓reduceIte, c_partition_flat_b6, g1, h2]
theorem w_partition_Generate (hf : K_partition_finest P F) (hu : K_partition_unite P F) (hfl : K_partition_flat P F) (n : Nat) (l : List Pr) (hn : n ≤ 80) (hl : l.length ≤ 1000) (hp : PrIn n l) :
    W P (c_partition_Generate F) (Done [.t 4, .t 5] [] (.tup [.arr 1 (ints (genL n l)), .int .i64 0]) []) (init [.int .i64 n, .lst 2 (prs l)]) := by
  refine W_of ?_
  have d1 : decide ((80 : Int) < n) = false := decide_eq_false (by omega)
  have d2 : decide ((n : Int) < 0) = false := decide_eq_false (by omega)
  have r1 := hf n (by omega)
  have nl := nums_len 0 n
  simp (config := { maxSteps := 1000000 }) (disch := first | omega | (simp only [go_sem]; omega)) only [go_sem, ↓reduceIte, d1, d2]
  refine call_by r1 ?_
  simp (config := { maxSteps := 1000000 }) (disch := first | omega | (simp only [go_sem]; omega)) only [go_sem, ↓reduceIte, nl]
  refine W_loop (fun s : Nat × List Int => ⟨[(0, .int .i64 n), (6, .sl 0 0 n), (15, .lst 2 (prs l)), (16, .int .i64 l.length), (17, .int .i64 s.1)], [(0, .arr 1 (ints s.2))], 1⟩) (fun s => s.1 ≤ l.length ∧ s.2.length = n ∧ Fo s.2 (genI n l s.1)) (fun s => l.length - s.1) (0, nums 0 n) ?_ ?_ ?_
  · simp (config := { maxSteps := 1000000 }) (disch := first | omega | (simp only [go_sem]; omega)) only [go_sem, ↓reduceIte, nl]
    rfl
  · exact ⟨by simp, nl, nums_Fo n⟩
  · rintro ⟨i, q⟩ ⟨h1, h2, h3⟩
    simp only at h1 h2 h3
    by_cases c : i < l.length
    · have g1 : decide ((i : Int) < l.length) = true := decide_eq_true (by omega)
      obtain ⟨⟨a1, a2⟩, b1, b2⟩ := hp i c
      have hs : genI n l (i + 1) = mergeL (genI n l i) (gt l i).a (gt l i).b := rfl
      generalize hgi : genI n l (i + 1) = gi' at *
      generalize genI n l i = gi at *
      obtain ⟨a, ha⟩ := natI a1
      obtain ⟨b, hb⟩ := natI b1
      rw [ha, hb] at hs
      rw [ha] at a1 a2
      rw [hb] at b1 b2
      have r2 := hu q gi a b h3 (by omega) (by omega) (by omega)
      have e1 : decide ((a : Int) < 0) = false := decide_eq_false (by omega)
      have e2 : decide ((n : Int) ≤ a) = false := decide_eq_false (by omega)
      have e3 : decide ((b : Int) < 0) = false := decide_eq_false (by omega)
      have e4 : decide ((n : Int) ≤ b) = false := decide_eq_false (by omega)
      have hf2 := h3.unite (a := a) (b := b) (by omega) (by omega)
      rw [← hs] at hf2
      clear hs
      generalize hq : q.set (max (gt gi a) (gt gi b)).toNat (min (gt gi a) (gt gi b)) = q' at *
      have ql : q'.length = n := by rw [← hq, List.length_set, h2]
      simp (config := { maxSteps := 1000000 }) (disch := first | omega | (simp only [go_sem]; omega)) only [go_sem, ↓reduceIte, c_partition_Generate_b13, g1, ha, hb, e1, e2, e3, e4, h2]
      refine call_by r2 ?_
      simp (config := { maxSteps := 1000000 }) (disch := first | omega | (simp only [go_sem]; omega)) only [go_sem, ↓reduceIte, h2, ql]
      exact ⟨(i + 1, q'), by simp, ⟨by simp only; omega, ql, by show Fo q' (genI n l (i + 1)); rw [hgi]; exact hf2⟩, by simp only; omega⟩
    · have g1 : decide ((i : Int) < l.length) = false := decide_eq_false (by omega)
      obtain rfl : i = l.length := by omega
      have gl := gen_len (n := n) (l := l) l.length
      have r2 := hfl q _ h3 (by omega)
      have hE : genL n l = genI n l l.length := rfl
      rw [hE]
      generalize genI n l l.length = gi at *
      simp (config := { maxSteps := 1000000 }) (disch := first | omega | (simp only [go_sem]; omega)) only [go_sem, ↓reduceIte, c_partition_Generate_b13, g1, h2]
      refine call_by r2 ?_
      simp (config := { maxSteps := 1000000 }) (disch := first | omega | (simp only [go_sem]; omega)) only [go_sem, ↓reduceIte, gl]
theorem w_partition_right (p : List Int) (hp : Idem p) (hl : p.length ≤ 80) : W P (c_partition_right F) (Done [.t 2] [] (.bool true) []) (init [.lst 1 (ints p)]) := by
  refine W_of ?_
  simp (config := { maxSteps := 1000000 }) (disch := first | omega | (simp only [go_sem]; omega)) only [go_sem, ↓reduceIte]
  refine W_loop (fun i : Nat => ⟨[(0, .lst 1 (ints p)), (5, .lst 1 (ints p)), (6, .int .i64 p.length), (7, .int .i64 i)], [], 0⟩) (fun i => i ≤ p.length) (fun i => p.length - i) 0 ?_ ?_ ?_
  · simp (config := { maxSteps := 1000000 }) (disch := first | omega | (simp only [go_sem]; omega)) only [go_sem, ↓reduceIte]
    rfl
  · simp
  · intro i hi
    by_cases c : i < p.length
    · obtain ⟨⟨h1, h2⟩, h3⟩ := hp i c
      have g1 : decide ((i : Int) < p.length) = true := decide_eq_true (by omega)
      have g2 : decide (gt p i < 0) = false := decide_eq_false (by omega)
      have g3 : decide ((i : Int) < gt p i) = false := decide_eq_false (by omega)
      have g4 : decide (gt p (gt p i) = gt p i) = true := decide_eq_true h3
      simp (config := { maxSteps := 1000000 }) (disch := first | omega | (simp only [go_sem]; omega)) only [go_sem, ↓reduceIte, c_partition_right_b7, g1, g2, g3, g4]
      exact ⟨i + 1, by simp, by omega, by omega⟩
    · have g1 : decide ((i : Int) < p.length) = false := decide_eq_false (by omega)
      simp (config := { maxSteps := 1000000 }) (disch := first | omega | (simp only [go_sem]; omega)) only [go_sem, ↓reduceIte, c_partition_right_b7, g1]
theorem w_partition_one (hr : K_partition_right P F) (p : List Int) (hp : Idem p) (hl : p.length ≤ 80) : W P (c_partition_one F) (Done [.t 2] [] (.int .i64 0) []) (init [.lst 1 (ints p)]) := by
  refine W_of ?_
  have r := hr p hp hl
  have g0 : decide ((80 : Int) < p.length) = false := decide_eq_false (by omega)
  simp (config := { maxSteps := 1000000 }) (disch := first | omega | (simp only [go_sem]; omega)) only [go_sem, ↓reduceIte, g0]
  refine call_by r ?_
  simp (config := { maxSteps := 1000000 }) (disch := first | omega | (simp only [go_sem]; omega)) only [go_sem, ↓reduceIte]
theorem w_partition_Quotient (ho : K_partition_one P F) (p : List Int) (hp : Idem p) (hl : p.length ≤ 80) : W P (c_partition_Quotient F) (Done [.t 2, .t 3, .t 4] [] (.tup [.arr 1 (ints (quo p p.length).1), .int .i64 (quo p p.length).2, .int .i64 0]) []) (init [.lst 1 (ints p)]) := by
  refine W_of ?_
  have r := ho p hp hl
  have ql : ∀ i : Nat, (quo p i).1.length = i ∧ (quo p i).2 ≤ i := fun i => by
    induction i with
    | zero => simp [quo]
    | succ i ih =>
      rw [quo]
      split <;> simp [ih.1] <;> omega
  simp (config := { maxSteps := 1000000 }) (disch := first | omega | (simp only [go_sem]; omega)) only [go_sem, ↓reduceIte]
  refine call_by r ?_
  simp (config := { maxSteps := 1000000 }) (disch := first | omega | (simp only [go_sem]; omega)) only [go_sem, ↓reduceIte]
  refine W_loop (fun i : Nat => ⟨[(6, .sl 0 0 i), (7, .int .i64 (quo p i).2), (15, .lst 1 (ints p)), (16, .int .i64 p.length), (17, .int .i64 i)], [(0, .arr 1 (ints (quo p i).1))], 1⟩) (fun i => i ≤ p.length) (fun i => p.length - i) 0 ?_ ?_ ?_
  · simp (config := { maxSteps := 1000000 }) (disch := first | omega | (simp only [go_sem]; omega)) only [go_sem, ↓reduceIte, ints_nil, quo]
    rfl
  · simp
  · intro i hi
    obtain ⟨e1, e2⟩ := ql i
    have hs : quo p (i + 1) = if gt p i = i then ((quo p i).1 ++ [((quo p i).2 : Int)], (quo p i).2 + 1) else ((quo p i).1 ++ [gt (quo p i).1 (gt p i)], (quo p i).2) := rfl
    simp (config := { maxSteps := 1000000 }) (disch := first | omega | (simp only [go_sem]; omega)) only [go_sem, ↓reduceIte, c_partition_Quotient_b14]
    refine bran_dec (fun c => ?_) (fun c => ?_)
    · obtain ⟨⟨h1, h2⟩, h3⟩ := hp i (by omega)
      simp (config := { maxSteps := 1000000 }) (disch := first | omega | (simp only [go_sem]; omega)) only [go_sem, ↓reduceIte]
      refine bran_dec (fun d => ?_) (fun d => ?_)
      · rw [if_pos d] at hs
        simp (config := { maxSteps := 1000000 }) (disch := first | omega | (simp only [go_sem]; omega)) only [go_sem, ↓reduceIte, e1]
        exact ⟨i + 1, by simp [hs], by omega, by omega⟩
      · rw [if_neg d] at hs
        simp (config := { maxSteps := 1000000 }) (disch := first | omega | (simp only [go_sem]; omega)) only [go_sem, ↓reduceIte, e1]
        exact ⟨i + 1, by simp [hs], by omega, by omega⟩
    · obtain rfl : i = p.length := by omega
      simp (config := { maxSteps := 1000000 }) (disch := first | omega | (simp only [go_sem]; omega)) only [go_sem, ↓reduceIte, e1]
end
end Go.Am
namespace Go.Am
open Go
set_option linter.unusedVariables false
set_option linter.unusedSimpArgs false
attribute [local irreducible] W
/- pushout.quotient -/
def c_pushout_quotient_r0 (F : String → Nat) : List LI := [⟨some 3, .bx (.t 0), none⟩,
  ⟨some 6, .alloc [.nl 1, .nl 3], none⟩,
  ⟨some 7, .alloc [.nl 1, .nl 1], none⟩,
  ⟨some 8, .mov (.k (.int .i64 (0))), none⟩]
def c_pushout_quotient_r1 (F : String → Nat) : List LI := [⟨some 25, .fad 0 (.t 3), none⟩,
  ⟨some 26, .load false 1 (.t 25), none⟩,
  ⟨some 27, .len (.t 26), none⟩,
  ⟨some 28, .mov (.t 1), none⟩,
  ⟨some 29, .call (F "partition.Generate") [.t 27, .t 28] [], none⟩,
  ⟨some 24, .mov (.t 29), none⟩,
  ⟨some 30, .ext (.t 24) 0, none⟩,
  ⟨some 31, .ext (.t 24) 1, none⟩,
  ⟨some 9, .mov (.t 30), none⟩,
  ⟨some 10, .mov (.t 31), none⟩]
def c_pushout_quotient_r2 (F : String → Nat) : List LI := [⟨some 32, .mov (.t 10), none⟩,
  ⟨some 33, .bin .neq (.t 32) (.k (.int .i64 (0))), none⟩]
def c_pushout_quotient_r3 (F : String → Nat) : List LI := [⟨some 34, .build [.nl 1, .nl 3] [], none⟩,
  ⟨some 35, .build [.nl 1, .nl 1] [], none⟩,
  ⟨some 36, .mov (.t 10), none⟩,
  ⟨none, .store 2 (.t 6) (.t 34), none⟩,
  ⟨none, .store 2 (.t 7) (.t 35), none⟩,
  ⟨some 8, .mov (.t 36), none⟩]
def c_pushout_quotient_r4 (F : String → Nat) : List LI := [⟨some 38, .fad 1 (.t 3), none⟩,
  ⟨some 39, .load false 1 (.t 38), none⟩,
  ⟨some 40, .len (.t 39), none⟩,
  ⟨some 41, .mov (.t 2), none⟩,
  ⟨some 42, .call (F "partition.Generate") [.t 40, .t 41] [], none⟩,
  ⟨some 37, .mov (.t 42), none⟩,
  ⟨some 43, .ext (.t 37) 0, none⟩,
  ⟨some 44, .ext (.t 37) 1, none⟩,
  ⟨some 11, .mov (.t 43), none⟩,
  ⟨some 10, .mov (.t 44), none⟩]
def c_pushout_quotient_r5 (F : String → Nat) : List LI := [⟨some 45, .mov (.t 10), none⟩,
  ⟨some 46, .bin .neq (.t 45) (.k (.int .i64 (0))), none⟩]
def c_pushout_quotient_r6 (F : String → Nat) : List LI := [⟨some 47, .build [.nl 1, .nl 3] [], none⟩,
  ⟨some 48, .build [.nl 1, .nl 1] [], none⟩,
  ⟨some 49, .mov (.t 10), none⟩,
  ⟨none, .store 2 (.t 6) (.t 47), none⟩,
  ⟨none, .store 2 (.t 7) (.t 48), none⟩,
  ⟨some 8, .mov (.t 49), none⟩]
def c_pushout_quotient_r7 (F : String → Nat) : List LI := [⟨some 51, .mov (.t 9), none⟩,
  ⟨some 52, .call (F "partition.Quotient") [.t 51] [], none⟩,
  ⟨some 50, .mov (.t 52), none⟩,
  ⟨some 53, .ext (.t 50) 0, none⟩,
  ⟨some 54, .ext (.t 50) 1, none⟩,
  ⟨some 55, .ext (.t 50) 2, none⟩,
  ⟨some 12, .mov (.t 53), none⟩,
  ⟨some 13, .mov (.t 54), none⟩,
  ⟨some 14, .mov (.t 55), none⟩]
def c_pushout_quotient_r8 (F : String → Nat) : List LI := [⟨some 57, .mov (.t 11), none⟩,
  ⟨some 58, .call (F "partition.Quotient") [.t 57] [], none⟩,
  ⟨some 56, .mov (.t 58), none⟩,
  ⟨some 59, .ext (.t 56) 0, none⟩,
  ⟨some 60, .ext (.t 56) 1, none⟩,
  ⟨some 61, .ext (.t 56) 2, none⟩,
  ⟨some 15, .mov (.t 59), none⟩,
  ⟨some 16, .mov (.t 60), none⟩,
  ⟨some 17, .mov (.t 61), none⟩]
def c_pushout_quotient_r9 (F : String → Nat) : List LI := [⟨some 18, .alloc [.nl 1, .nl 3], none⟩]
def c_pushout_quotient_r10 (F : String → Nat) : List LI := [⟨some 62, .mov (.t 9), none⟩,
  ⟨some 63, .len (.t 62), none⟩,
  ⟨some 64, .mov (.k (.int .i64 (0))), none⟩]
def c_pushout_quotient_r11 (F : String → Nat) : List LI := [⟨some 65, .bin .lss (.t 64) (.t 63), none⟩]
def c_pushout_quotient_r12 (F : String → Nat) : List LI := [⟨some 66, .mov (.t 64), none⟩,
  ⟨some 67, .iad 1 (.t 62) (.t 64), none⟩,
  ⟨some 68, .load false 1 (.t 67), none⟩,
  ⟨some 19, .mov (.t 66), none⟩,
  ⟨some 20, .mov (.t 68), none⟩]
def c_pushout_quotient_r13 (F : String → Nat) : List LI := [⟨some 69, .mov (.t 20), none⟩,
  ⟨some 70, .mov (.t 19), none⟩,
  ⟨some 71, .bin .eql (.t 69) (.t 70), none⟩]
def c_pushout_quotient_r14 (F : String → Nat) : List LI := [⟨some 72, .fad 0 (.t 18), none⟩,
  ⟨some 73, .load false 1 (.t 72), none⟩,
  ⟨some 74, .fad 0 (.t 3), none⟩,
  ⟨some 75, .load false 1 (.t 74), none⟩,
  ⟨some 76, .mov (.t 19), none⟩,
  ⟨some 77, .iad 1 (.t 75) (.t 76), none⟩,
  ⟨some 78, .load false 1 (.t 77), none⟩,
  ⟨some 79, .buildSl 1 8 (.int .i64 (0)) 1 [(0, .t 78)], none⟩,
  ⟨some 80, .app 1 8 (.t 73) (.t 79), none⟩,
  ⟨some 81, .fad 0 (.t 18), none⟩,
  ⟨none, .store 1 (.t 81) (.t 80), none⟩]
def c_pushout_quotient_r15 (F : String → Nat) : List LI := [⟨some 82, .bin .add (.t 64) (.k (.int .i64 (1))), none⟩,
  ⟨some 64, .mov (.t 82), none⟩]
def c_pushout_quotient_b16 (F : String → Nat) : LC := (.seq (.reg (c_pushout_quotient_r11 F) [3, 6, 7, 11, 12, 15, 18, 62, 63, 64, 65]) (.seq (.cond (.t 65) .skip (.exit 0)) (.seq (.block 1 (.seq (.reg (c_pushout_quotient_r12 F) [3, 6, 7, 11, 12, 15, 18, 19, 20, 62, 63, 64]) (.seq (.reg (c_pushout_quotient_r13 F) [3, 6, 7, 11, 12, 15, 18, 19, 62, 63, 64, 71]) (.cond (.t 71) (.dreg [(1, none, [], true), (7, none, [1], false)] (c_pushout_quotient_r14 F) [3, 6, 7, 11, 12, 15, 18, 62, 63, 64]) .skip)))) (.reg (c_pushout_quotient_r15 F) [3, 6, 7, 11, 12, 15, 18, 62, 63, 64]))))
def c_pushout_quotient_r17 (F : String → Nat) : List LI := [⟨some 83, .mov (.t 11), none⟩,
  ⟨some 84, .len (.t 83), none⟩,
  ⟨some 85, .mov (.k (.int .i64 (0))), none⟩]
def c_pushout_quotient_r18 (F : String → Nat) : List LI := [⟨some 86, .bin .lss (.t 85) (.t 84), none⟩]
def c_pushout_quotient_r19 (F : String → Nat) : List LI := [⟨some 87, .mov (.t 85), none⟩,
  ⟨some 88, .iad 1 (.t 83) (.t 85), none⟩,
  ⟨some 89, .load false 1 (.t 88), none⟩,
  ⟨some 21, .mov (.t 87), none⟩,
  ⟨some 22, .mov (.t 89), none⟩]
def c_pushout_quotient_r20 (F : String → Nat) : List LI := [⟨some 90, .mov (.t 22), none⟩,
  ⟨some 91, .mov (.t 21), none⟩,
  ⟨some 92, .bin .eql (.t 90) (.t 91), none⟩]
def c_pushout_quotient_r21 (F : String → Nat) : List LI := [⟨some 93, .fad 1 (.t 3), none⟩,
  ⟨some 94, .load false 1 (.t 93), none⟩,
  ⟨some 95, .mov (.t 21), none⟩,
  ⟨some 96, .iad 3 (.t 94) (.t 95), none⟩,
  ⟨some 97, .load true 3 (.t 96), none⟩,
  ⟨some 23, .alloc [.int .i64 (0), .int .i64 (0), .int .i64 (0)], none⟩,
  ⟨none, .store 3 (.t 23) (.t 97), none⟩]
def c_pushout_quotient_r22 (F : String → Nat) : List LI := [⟨some 98, .fad 1 (.t 18), none⟩,
  ⟨some 99, .load false 1 (.t 98), none⟩,
  ⟨some 100, .fad 0 (.t 23), none⟩,
  ⟨some 101, .load false 1 (.t 100), none⟩,
  ⟨some 102, .mov (.t 12), none⟩,
  ⟨some 103, .fad 1 (.t 23), none⟩,
  ⟨some 104, .load false 1 (.t 103), none⟩,
  ⟨some 105, .iad 1 (.t 102) (.t 104), none⟩,
  ⟨some 106, .load false 1 (.t 105), none⟩,
  ⟨some 107, .mov (.t 12), none⟩,
  ⟨some 108, .fad 2 (.t 23), none⟩,
  ⟨some 109, .load false 1 (.t 108), none⟩,
  ⟨some 110, .iad 1 (.t 107) (.t 109), none⟩,
  ⟨some 111, .load false 1 (.t 110), none⟩,
  ⟨some 112, .build [.int .i64 (0), .int .i64 (0), .int .i64 (0)] [(0, 1, .t 101), (1, 1, .t 106), (2, 1, .t 111)], none⟩,
  ⟨some 113, .buildSl 3 24 (.agg [.int .i64 (0), .int .i64 (0), .int .i64 (0)]) 1 [(0, .t 112)], none⟩,
  ⟨some 114, .app 3 24 (.t 99) (.t 113), none⟩,
  ⟨some 115, .fad 1 (.t 18), none⟩,
  ⟨none, .store 1 (.t 115) (.t 114), none⟩]
def c_pushout_quotient_r23 (F : String → Nat) : List LI := [⟨some 116, .bin .add (.t 85) (.k (.int .i64 (1))), none⟩,
  ⟨some 85, .mov (.t 116), none⟩]
def c_pushout_quotient_b24 (F : String → Nat) : LC := (.seq (.reg (c_pushout_quotient_r18 F) [3, 6, 7, 12, 15, 18, 83, 84, 85, 86]) (.seq (.cond (.t 86) .skip (.exit 2)) (.seq (.block 3 (.seq (.reg (c_pushout_quotient_r19 F) [3, 6, 7, 12, 15, 18, 21, 22, 83, 84, 85]) (.seq (.reg (c_pushout_quotient_r20 F) [3, 6, 7, 12, 15, 18, 21, 83, 84, 85, 92]) (.cond (.t 92) (.seq (.reg (c_pushout_quotient_r21 F) [3, 6, 7, 12, 15, 18, 23, 83, 84, 85]) (.dreg [(1, none, [], true), (15, none, [1], false)] (c_pushout_quotient_r22 F) [3, 6, 7, 12, 15, 18, 83, 84, 85])) .skip)))) (.reg (c_pushout_quotient_r23 F) [3, 6, 7, 12, 15, 18, 83, 84, 85]))))
def c_pushout_quotient_r25 (F : String → Nat) : List LI := [⟨some 117, .load true 2 (.t 18), none⟩,
  ⟨some 118, .mov (.t 12), none⟩,
  ⟨some 119, .mov (.t 15), none⟩,
  ⟨some 120, .build [.nl 1, .nl 1] [(0, 1, .t 118), (1, 1, .t 119)], none⟩,
  ⟨none, .store 2 (.t 6) (.t 117), none⟩,
  ⟨none, .store 2 (.t 7) (.t 120), none⟩,
  ⟨some 8, .mov (.k (.int .i64 (0))), none⟩]
def c_pushout_quotient (F : String → Nat) : LC := (.seq (.reg (c_pushout_quotient_r0 F) [1, 2, 3, 6, 7]) (.seq (.reg (c_pushout_quotient_r1 F) [2, 3, 6, 7, 9, 10]) (.seq (.seq (.reg (c_pushout_quotient_r2 F) [2, 3, 6, 7, 9, 10, 33]) (.cond (.t 33) (.seq (.reg (c_pushout_quotient_r3 F) [6, 7, 8]) .ret) .skip)) (.seq (.reg (c_pushout_quotient_r4 F) [3, 6, 7, 9, 10, 11]) (.seq (.seq (.reg (c_pushout_quotient_r5 F) [3, 6, 7, 9, 10, 11, 46]) (.cond (.t 46) (.seq (.reg (c_pushout_quotient_r6 F) [6, 7, 8]) .ret) .skip)) (.seq (.reg (c_pushout_quotient_r7 F) [3, 6, 7, 9, 11, 12]) (.seq (.reg (c_pushout_quotient_r8 F) [3, 6, 7, 9, 11, 12, 15]) (.seq (.reg (c_pushout_quotient_r9 F) [3, 6, 7, 9, 11, 12, 15, 18]) (.seq (.seq (.reg (c_pushout_quotient_r10 F) [3, 6, 7, 11, 12, 15, 18, 62, 63, 64]) (.block 0 (.loop [3, 6, 7, 11, 12, 15, 18, 62, 63, 64] (c_pushout_quotient_b16 F)))) (.seq (.seq (.reg (c_pushout_quotient_r17 F) [3, 6, 7, 12, 15, 18, 83, 84, 85]) (.block 2 (.loop [3, 6, 7, 12, 15, 18, 83, 84, 85] (c_pushout_quotient_b24 F)))) (.seq (.reg (c_pushout_quotient_r25 F) [6, 7, 8]) .ret)))))))))))
def h_pushout_quotient : Hints := ⟨[], fun _ => [], tab [(0, [1, 2, 3, 6, 7]), (1, [2, 3, 6, 7, 9, 10]), (2, [2, 3, 6, 7, 9, 10, 33]), (3, [6, 7, 8]), (4, [3, 6, 7, 9, 10, 11]), (5, [3, 6, 7, 9, 10, 11, 46]), (6, [6, 7, 8]), (7, [3, 6, 7, 9, 11, 12]), (8, [3, 6, 7, 9, 11, 12, 15]), (9, [3, 6, 7, 9, 11, 12, 15, 18]), (10, [3, 6, 7, 11, 12, 15, 18, 62, 63, 64]), (11, [3, 6, 7, 11, 12, 15, 18, 62, 63, 64, 65]), (12, [3, 6, 7, 11, 12, 15, 18, 19, 20, 62, 63, 64]), (13, [3, 6, 7, 11, 12, 15, 18, 19, 62, 63, 64, 71]), (14, [3, 6, 7, 11, 12, 15, 18, 62, 63, 64]), (15, [3, 6, 7, 11, 12, 15, 18, 62, 63, 64]), (16, [3, 6, 7, 12, 15, 18, 83, 84, 85]), (17, [3, 6, 7, 12, 15, 18, 83, 84, 85, 86]), (18, [3, 6, 7, 12, 15, 18, 21, 22, 83, 84, 85]), (19, [3, 6, 7, 12, 15, 18, 21, 83, 84, 85, 92]), (20, [3, 6, 7, 12, 15, 18, 23, 83, 84, 85]), (21, [3, 6, 7, 12, 15, 18, 83, 84, 85]), (22, [3, 6, 7, 12, 15, 18, 83, 84, 85]), (23, [6, 7, 8])], tab [(11, [3, 6, 7, 11, 12, 15, 18, 62, 63, 64]), (17, [3, 6, 7, 12, 15, 18, 83, 84, 85])]⟩

/- pushout.pairs -/
def c_pushout_pairs_r0 (F : String → Nat) : List LI := [⟨some 8, .mov (.k (.nl 2)), none⟩]
def c_pushout_pairs_r1 (F : String → Nat) : List LI := [⟨some 9, .mov (.k (.nl 2)), none⟩]
def c_pushout_pairs_r2 (F : String → Nat) : List LI := [⟨some 11, .mov (.t 0), none⟩,
  ⟨some 12, .len (.t 11), none⟩,
  ⟨some 13, .mov (.k (.int .i64 (0))), none⟩]
def c_pushout_pairs_r3 (F : String → Nat) : List LI := [⟨some 14, .bin .lss (.t 13) (.t 12), none⟩]
def c_pushout_pairs_r4 (F : String → Nat) : List LI := [⟨some 15, .mov (.t 13), none⟩,
  ⟨some 10, .mov (.t 15), none⟩]
def c_pushout_pairs_r5 (F : String → Nat) : List LI := [⟨some 16, .mov (.t 9), none⟩,
  ⟨some 17, .mov (.t 2), none⟩,
  ⟨some 18, .mov (.t 0), none⟩,
  ⟨some 19, .mov (.t 10), none⟩,
  ⟨some 20, .iad 1 (.t 18) (.t 19), none⟩,
  ⟨some 21, .load false 1 (.t 20), none⟩,
  ⟨some 22, .iad 1 (.t 17) (.t 21), none⟩,
  ⟨some 23, .load false 1 (.t 22), none⟩,
  ⟨some 24, .mov (.t 3), none⟩,
  ⟨some 25, .mov (.t 1), none⟩,
  ⟨some 26, .mov (.t 10), none⟩,
  ⟨some 27, .iad 1 (.t 25) (.t 26), none⟩,
  ⟨some 28, .load false 1 (.t 27), none⟩,
  ⟨some 29, .iad 1 (.t 24) (.t 28), none⟩,
  ⟨some 30, .load false 1 (.t 29), none⟩,
  ⟨some 31, .build [.int .i64 (0), .int .i64 (0)] [(0, 1, .t 23), (1, 1, .t 30)], none⟩,
  ⟨some 32, .buildSl 2 16 (.agg [.int .i64 (0), .int .i64 (0)]) 1 [(0, .t 31)], none⟩,
  ⟨some 33, .app 2 16 (.t 16) (.t 32), none⟩,
  ⟨some 9, .mov (.t 33), none⟩]
def c_pushout_pairs_r6 (F : String → Nat) : List LI := [⟨some 34, .bin .add (.t 13) (.k (.int .i64 (1))), none⟩,
  ⟨some 13, .mov (.t 34), none⟩]
def c_pushout_pairs_b7 (F : String → Nat) : LC := (.seq (.reg (c_pushout_pairs_r3 F) [0, 1, 2, 3, 9, 12, 13, 14]) (.seq (.cond (.t 14) .skip (.exit 0)) (.seq (.block 1 (.seq (.reg (c_pushout_pairs_r4 F) [0, 1, 2, 3, 9, 10, 12, 13]) (.dreg [] (c_pushout_pairs_r5 F) [0, 1, 2, 3, 9, 12, 13]))) (.reg (c_pushout_pairs_r6 F) [0, 1, 2, 3, 9, 12, 13]))))
def c_pushout_pairs_r8 (F : String → Nat) : List LI := [⟨some 35, .mov (.t 9), none⟩,
  ⟨some 8, .mov (.t 35), none⟩]
def c_pushout_pairs (F : String → Nat) : LC := (.seq (.reg (c_pushout_pairs_r0 F) [0, 1, 2, 3]) (.seq (.reg (c_pushout_pairs_r1 F) [0, 1, 2, 3, 9]) (.seq (.seq (.reg (c_pushout_pairs_r2 F) [0, 1, 2, 3, 9, 12, 13]) (.block 0 (.loop [0, 1, 2, 3, 9, 12, 13] (c_pushout_pairs_b7 F)))) (.seq (.reg (c_pushout_pairs_r8 F) [8]) .ret))))
def h_pushout_pairs : Hints := ⟨[], fun _ => [], tab [(0, [0, 1, 2, 3]), (1, [0, 1, 2, 3, 9]), (2, [0, 1, 2, 3, 9, 12, 13]), (3, [0, 1, 2, 3, 9, 12, 13, 14]), (4, [0, 1, 2, 3, 9, 10, 12, 13]), (5, [0, 1, 2, 3, 9, 12, 13]), (6, [0, 1, 2, 3, 9, 12, 13]), (7, [8])], tab [(3, [0, 1, 2, 3, 9, 12, 13])]⟩

/- pushout.follow -/
def c_pushout_follow_r0 (F : String → Nat) : List LI := [⟨some 4, .mov (.k (.nl 1)), none⟩]
def c_pushout_follow_r1 (F : String → Nat) : List LI := [⟨some 8, .mov (.t 0), none⟩,
  ⟨some 9, .len (.t 8), none⟩,
  ⟨some 10, .makeSl 1 8 (.int .i64 (0)) (.t 9), none⟩,
  ⟨some 5, .mov (.t 10), none⟩]
def c_pushout_follow_r2 (F : String → Nat) : List LI := [⟨some 11, .mov (.t 0), none⟩,
  ⟨some 12, .len (.t 11), none⟩,
  ⟨some 13, .mov (.k (.int .i64 (0))), none⟩]
def c_pushout_follow_r3 (F : String → Nat) : List LI := [⟨some 14, .bin .lss (.t 13) (.t 12), none⟩]
def c_pushout_follow_r4 (F : String → Nat) : List LI := [⟨some 15, .mov (.t 13), none⟩,
  ⟨some 16, .iad 1 (.t 11) (.t 13), none⟩,
  ⟨some 17, .load false 1 (.t 16), none⟩,
  ⟨some 6, .mov (.t 15), none⟩,
  ⟨some 7, .mov (.t 17), none⟩]
def c_pushout_follow_r5 (F : String → Nat) : List LI := [⟨some 18, .mov (.t 5), none⟩,
  ⟨some 19, .mov (.t 6), none⟩,
  ⟨some 20, .mov (.t 1), none⟩,
  ⟨some 21, .mov (.t 7), none⟩,
  ⟨some 22, .iad 1 (.t 20) (.t 21), none⟩,
  ⟨some 23, .load false 1 (.t 22), none⟩,
  ⟨some 24, .iad 1 (.t 18) (.t 19), none⟩,
  ⟨none, .store 1 (.t 24) (.t 23), none⟩]
def c_pushout_follow_r6 (F : String → Nat) : List LI := [⟨some 25, .bin .add (.t 13) (.k (.int .i64 (1))), none⟩,
  ⟨some 13, .mov (.t 25), none⟩]
def c_pushout_follow_b7 (F : String → Nat) : LC := (.seq (.reg (c_pushout_follow_r3 F) [1, 5, 11, 12, 13, 14]) (.seq (.cond (.t 14) .skip (.exit 0)) (.seq (.block 1 (.seq (.reg (c_pushout_follow_r4 F) [1, 5, 6, 7, 11, 12, 13]) (.reg (c_pushout_follow_r5 F) [1, 5, 11, 12, 13]))) (.reg (c_pushout_follow_r6 F) [1, 5, 11, 12, 13]))))
def c_pushout_follow_r8 (F : String → Nat) : List LI := [⟨some 26, .mov (.t 5), none⟩,
  ⟨some 4, .mov (.t 26), none⟩]
def c_pushout_follow (F : String → Nat) : LC := (.seq (.reg (c_pushout_follow_r0 F) [0, 1]) (.seq (.reg (c_pushout_follow_r1 F) [0, 1, 5]) (.seq (.seq (.reg (c_pushout_follow_r2 F) [1, 5, 11, 12, 13]) (.block 0 (.loop [1, 5, 11, 12, 13] (c_pushout_follow_b7 F)))) (.seq (.reg (c_pushout_follow_r8 F) [4]) .ret))))
def h_pushout_follow : Hints := ⟨[], fun _ => [], tab [(0, [0, 1]), (1, [0, 1, 5]), (2, [1, 5, 11, 12, 13]), (3, [1, 5, 11, 12, 13, 14]), (4, [1, 5, 6, 7, 11, 12, 13]), (5, [1, 5, 11, 12, 13]), (6, [1, 5, 11, 12, 13]), (7, [4])], tab [(3, [1, 5, 11, 12, 13])]⟩

/- pushout.then -/
def c_pushout_then_r0 (F : String → Nat) : List LI := [⟨some 2, .bx (.t 0), none⟩,
  ⟨some 3, .bx (.t 1), none⟩,
  ⟨some 4, .alloc [.nl 1, .nl 1], none⟩]
def c_pushout_then_r1 (F : String → Nat) : List LI := [⟨some 5, .fad 0 (.t 2), none⟩,
  ⟨some 6, .load false 1 (.t 5), none⟩,
  ⟨some 7, .fad 0 (.t 3), none⟩,
  ⟨some 8, .load false 1 (.t 7), none⟩,
  ⟨some 9, .call (F "pushout.follow") [.t 6, .t 8] [], none⟩,
  ⟨some 10, .fad 1 (.t 2), none⟩,
  ⟨some 11, .load false 1 (.t 10), none⟩,
  ⟨some 12, .fad 1 (.t 3), none⟩,
  ⟨some 13, .load false 1 (.t 12), none⟩,
  ⟨some 14, .call (F "pushout.follow") [.t 11, .t 13] [], none⟩,
  ⟨some 15, .build [.nl 1, .nl 1] [(0, 1, .t 9), (1, 1, .t 14)], none⟩,
  ⟨none, .store 2 (.t 4) (.t 15), none⟩]
def c_pushout_then (F : String → Nat) : LC := (.seq (.reg (c_pushout_then_r0 F) [2, 3, 4]) (.seq (.dreg [(4, none, [], true), (6, (some 32), [4], false), (8, (some 128), [4], false)] (c_pushout_then_r1 F) [4]) .ret))
def h_pushout_then : Hints := ⟨[], fun _ => [], tab [(0, [2, 3, 4]), (1, [4])], tab []⟩

attribute [go_sem] c_pushout_quotient_r0 c_pushout_quotient_r1 c_pushout_quotient_r2 c_pushout_quotient_r3 c_pushout_quotient_r4 c_pushout_quotient_r5 c_pushout_quotient_r6 c_pushout_quotient_r7 c_pushout_quotient_r8 c_pushout_quotient_r9 c_pushout_quotient_r10 c_pushout_quotient_r11 c_pushout_quotient_r12 c_pushout_quotient_r13 c_pushout_quotient_r14 c_pushout_quotient_r15 c_pushout_quotient_r17 c_pushout_quotient_r18 c_pushout_quotient_r19 c_pushout_quotient_r20 c_pushout_quotient_r21 c_pushout_quotient_r22 c_pushout_quotient_r23 c_pushout_quotient_r25 c_pushout_quotient c_pushout_pairs_r0 c_pushout_pairs_r1 c_pushout_pairs_r2 c_pushout_pairs_r3 c_pushout_pairs_r4 c_pushout_pairs_r5 c_pushout_pairs_r6 c_pushout_pairs_r8 c_pushout_pairs c_pushout_follow_r0 c_pushout_follow_r1 c_pushout_follow_r2 c_pushout_follow_r3 c_pushout_follow_r4 c_pushout_follow_r5 c_pushout_follow_r6 c_pushout_follow_r8 c_pushout_follow c_pushout_then_r0 c_pushout_then_r1 c_pushout_then
section
variable (P : Program) (F : String → Nat)
def K_pushout_quotient : Prop := ∀ (g : G) (ns es : List Pr), validG g = 0 → ns.length ≤ 1000 → es.length ≤ 1000 → PrIn g.n.length ns → PrIn g.e.length es → FC P (F "pushout.quotient") [gD g, .lst 2 (prs ns), .lst 2 (prs es)] (.tup [gA (quoG g (genL g.n.length ns) (genL g.e.length es)), mA (quoM (genL g.n.length ns) (genL g.e.length es)), .int .i64 0]) []
def K_pushout_pairs : Prop := ∀ (f g l r : List Int), f.length ≤ 1000 → g.length = f.length → (∀ x ∈ f, 0 ≤ x ∧ x < l.length) → (∀ x ∈ g, 0 ≤ x ∧ x < r.length) → FC P (F "pushout.pairs") [.lst 1 (ints f), .lst 1 (ints g), .lst 1 (ints l), .lst 1 (ints r)] (.arr 2 (prs (prL (thr f l) (thr g r) (thr f l).length))) []
def K_pushout_follow : Prop := ∀ l b : List Int, l.length ≤ 1000000 → (∀ x ∈ l, 0 ≤ x ∧ x < b.length) → FC P (F "pushout.follow") [.lst 1 (ints l), .lst 1 (ints b)] (.arr 1 (ints (thr l b))) []
def K_pushout_then : Prop := ∀ m n : Mo, m.n.length ≤ 1000000 → m.e.length ≤ 1000000 → (∀ x ∈ m.n, 0 ≤ x ∧ x < n.n.length) → (∀ x ∈ m.e, 0 ≤ x ∧ x < n.e.length) → FC P (F "pushout.then") [mD m, mD n] (mA (thenM m n)) []
end
section
variable {P : Program} {F : String → Nat} {α : Type}
theorem qN_le {α : Type} [Inhabited α] (l : List α) (p : List Int) : ∀ n : Nat, (qN l p n).length ≤ n
  | 0 => by simp [qN]
  | n + 1 => by rw [qN]; have := qN_le l p n; split <;> simp <;> omega
set_option maxRecDepth 100000 in
set_option maxHeartbeats 4000000 in
theorem w_pushout_quotient (hg : K_partition_Generate P F) (hq : K_partition_Quotient P F) (g : G) (ns es : List Pr) (hv : validG g = 0) (l1 : ns.length ≤ 1000) (l2 : es.length ≤ 1000) (p1 : PrIn g.n.length ns) (p2 : PrIn g.e.length es) :
    W P (c_pushout_quotient F) (Done [.c 6 true 2, .c 7 true 2, .t 8] [] (.tup [gA (quoG g (genL g.n.length ns) (genL g.e.length es)), mA (quoM (genL g.n.length ns) (genL g.e.length es)), .int .i64 0]) []) (init [gD g, .lst 2 (prs ns), .lst 2 (prs es)]) := by
  refine W_of ?_
  have vs := valid_spec hv
  have r1 := hg g.n.length ns (by omega) l1 p1
  have r2 := hg g.e.length es (by omega) l2 p2
  have i1 : Idem (genL g.n.length ns) := gen_idem p1 (Nat.le_refl _)
  have i2 : Idem (genL g.e.length es) := gen_idem p2 (Nat.le_refl _)
  have gl1 : (genL g.n.length ns).length = g.n.length := gen_len _
  have gl2 : (genL g.e.length es).length = g.e.length := gen_len _
  have r3 := hq _ i1 (by omega)
  have r4 := hq _ i2 (by omega)
  have q1 := quo_QS i1 _ (Nat.le_refl _)
  have q2 := quo_QS i2 _ (Nat.le_refl _)
  unfold quoG quoM
  generalize genL g.n.length ns = p at *
  generalize genL g.e.length es = r at *
  have hb1 := q1.b
  have hl1 := q1.l
  have hl2 := q2.l
  clear q1 q2
  rw [gl1] at r3 hb1 hl1 ⊢
  rw [gl2] at r4 hl2 ⊢
  generalize (quo p g.n.length).1 = q at *
  generalize (quo p g.n.length).2 = qc at *
  generalize (quo r g.e.length).1 = qe at *
  generalize (quo r g.e.length).2 = qec at *
  have hef : ∀ i : Nat, i < g.e.length → (0 ≤ (gt g.e i).f ∧ (gt g.e i).f < g.n.length) ∧ (0 ≤ (gt g.e i).o ∧ (gt g.e i).o < g.n.length) := fun i hi => (edge_fits hv (i := i) (by omega)).2
  have hr : ∀ i : Nat, i < g.e.length → gt (reE q g.e) i = ⟨(gt g.e i).t, gt q (gt g.e i).f, gt q (gt g.e i).o⟩ := fun i hi => reE_gt hi
  have hrl := reE_len q g.e
  generalize reE q g.e = re at *
  obtain ⟨gn, ge⟩ := g
  simp only [gD, gA, mA] at *
  simp (config := { maxSteps := 1000000 }) (disch := first | omega | (simp only [go_sem]; omega)) only [go_sem, ↓reduceIte]
  refine call_by r1 ?_
  simp (config := { maxSteps := 1000000 }) (disch := first | omega | (simp only [go_sem]; omega)) only [go_sem, ↓reduceIte, gl1]
  refine call_by r2 ?_
  simp (config := { maxSteps := 1000000 }) (disch := first | omega | (simp only [go_sem]; omega)) only [go_sem, ↓reduceIte, gl1, gl2]
  refine call_by r3 ?_
  simp (config := { maxSteps := 1000000 }) (disch := first | omega | (simp only [go_sem]; omega)) only [go_sem, ↓reduceIte, gl1, gl2, hl1]
  refine call_by r4 ?_
  simp (config := { maxSteps := 1000000 }) (disch := first | omega | (simp only [go_sem]; omega)) only [go_sem, ↓reduceIte, gl1, gl2, hl1, hl2]
  have lN := qN_le gn p
  refine W_loop (fun i : Nat => ⟨[(3, .pt 0 0), (6, .pt 3 0), (7, .pt 6 0), (11, .sl 7 0 ge.length), (12, .sl 8 0 gn.length), (15, .sl 9 0 ge.length), (18, .pt 12 0), (62, .sl 13 0 gn.length), (63, .int .i64 gn.length), (64, .int .i64 i)],
    [(0, .box [.lst 1 (ints gn), .lst 3 (eds ge)]), (1, .arr 1 []), (2, .arr 3 []), (3, .box [.sl 1 0 0, .sl 2 0 0]), (4, .arr 1 []), (5, .arr 1 []), (6, .box [.sl 4 0 0, .sl 5 0 0]), (7, .arr 1 (ints r)), (8, .arr 1 (ints q)), (9, .arr 1 (ints qe)),
     (10, .arr 1 (ints (qN gn p i))), (11, .arr 3 []), (12, .box [.sl 10 0 (qN gn p i).length, .sl 11 0 0]), (13, .arr 1 (ints p))], 14⟩) (fun i => i ≤ gn.length) (fun i => gn.length - i) 0 ?_ ?_ ?_
  · simp (config := { maxSteps := 1000000 }) (disch := first | omega | (simp only [go_sem]; omega)) only [go_sem, ↓reduceIte, qN, gl1, gl2, hl1, hl2, ints_nil]
    rfl
  · simp
  · intro i hi
    have lNi := lN i
    by_cases c : i < gn.length
    · have g1 : decide ((i : Int) < gn.length) = true := decide_eq_true (by omega)
      have hs : qN gn p (i + 1) = if gt p i = i then qN gn p i ++ [gt gn i] else qN gn p i := rfl
      by_cases d : gt p i = i
      · have g2 : decide (gt p i = i) = true := decide_eq_true d
        rw [if_pos d] at hs
        simp (config := { maxSteps := 1000000 }) (disch := first | omega | (simp only [go_sem]; omega)) only [go_sem, ↓reduceIte, c_pushout_quotient_b16, g1, g2, gl1]
        exact ⟨i + 1, by simp [hs], by omega, by omega⟩
      · have g2 : decide (gt p i = i) = false := decide_eq_false d
        rw [if_neg d] at hs
        simp (config := { maxSteps := 1000000 }) (disch := first | omega | (simp only [go_sem]; omega)) only [go_sem, ↓reduceIte, c_pushout_quotient_b16, g1, g2, gl1]
        exact ⟨i + 1, by simp [hs], by omega, by omega⟩
    · have g1 : decide ((i : Int) < gn.length) = false := decide_eq_false (by omega)
      obtain rfl : i = gn.length := by omega
      simp (config := { maxSteps := 1000000 }) (disch := first | omega | (simp only [go_sem]; omega)) only [go_sem, ↓reduceIte, c_pushout_quotient_b16, g1, gl1, gl2, hl1, hl2]
      generalize qN gn p gn.length = on at *
      have lE := qN_le re r
      refine W_loop (fun i : Nat => ⟨[(3, .pt 0 0), (6, .pt 3 0), (7, .pt 6 0), (12, .sl 7 0 gn.length), (15, .sl 8 0 ge.length), (18, .pt 11 0), (83, .sl 12 0 ge.length), (84, .int .i64 ge.length), (85, .int .i64 i)],
        [(0, .box [.lst 1 (ints gn), .lst 3 (eds ge)]), (1, .arr 1 []), (2, .arr 3 []), (3, .box [.sl 1 0 0, .sl 2 0 0]), (4, .arr 1 []), (5, .arr 1 []), (6, .box [.sl 4 0 0, .sl 5 0 0]), (7, .arr 1 (ints q)), (8, .arr 1 (ints qe)),
         (9, .arr 1 (ints on)), (10, .arr 3 (eds (qN re r i))), (11, .box [.sl 9 0 on.length, .sl 10 0 (qN re r i).length]), (12, .arr 1 (ints r))], 13⟩) (fun i => i ≤ ge.length) (fun i => ge.length - i) 0 ?_ ?_ ?_
      · simp (config := { maxSteps := 1000000 }) (disch := first | omega | (simp only [go_sem]; omega)) only [go_sem, ↓reduceIte, qN, gl1, gl2, hl1, hl2, ints_nil]
        rfl
      · simp
      · intro i hi
        have lEi := lE i
        by_cases c : i < ge.length
        · have g1 : decide ((i : Int) < ge.length) = true := decide_eq_true (by omega)
          have hs : qN re r (i + 1) = if gt r i = i then qN re r i ++ [gt re i] else qN re r i := rfl
          rw [hr i c] at hs
          obtain ⟨⟨f1, f2⟩, o1, o2⟩ := hef i c
          by_cases d : gt r i = i
          · have g2 : decide (gt r i = i) = true := decide_eq_true d
            rw [if_pos d] at hs
            simp (config := { maxSteps := 1000000 }) (disch := first | omega | (simp only [go_sem]; omega)) only [go_sem, ↓reduceIte, c_pushout_quotient_b24, g1, g2, gl2, hl1]
            exact ⟨i + 1, by simp [hs], by omega, by omega⟩
          · have g2 : decide (gt r i = i) = false := decide_eq_false d
            rw [if_neg d] at hs
            simp (config := { maxSteps := 1000000 }) (disch := first | omega | (simp only [go_sem]; omega)) only [go_sem, ↓reduceIte, c_pushout_quotient_b24, g1, g2, gl2]
            exact ⟨i + 1, by simp [hs], by omega, by omega⟩
        · have g1 : decide ((i : Int) < ge.length) = false := decide_eq_false (by omega)
          obtain rfl : i = ge.length := by omega
          simp (config := { maxSteps := 1000000 }) (disch := first | omega | (simp only [go_sem]; omega)) only [go_sem, ↓reduceIte, c_pushout_quotient_b24, g1, gl2, hl1, hl2]
          try rfl
theorem w_pushout_pairs (f g l r : List Int) (hf : f.length ≤ 1000) (hg : g.length = f.length) (h1 : ∀ x ∈ f, 0 ≤ x ∧ x < l.length) (h2 : ∀ x ∈ g, 0 ≤ x ∧ x < r.length) :
    W P (c_pushout_pairs F) (Done [.t 8] [] (.arr 2 (prs (prL (thr f l) (thr g r) (thr f l).length))) []) (init [.lst 1 (ints f), .lst 1 (ints g), .lst 1 (ints l), .lst 1 (ints r)]) := by
  refine W_of ?_
  have e1 := prL_len (thr f l) (thr g r)
  have e0 : prL (thr f l) (thr g r) 0 = [] := rfl
  have e2 : ∀ i : Nat, i < f.length → prL (thr f l) (thr g r) (i + 1) = prL (thr f l) (thr g r) i ++ [⟨gt l (gt f i), gt r (gt g i)⟩] := fun i hi => by rw [prL_succ, thr_gt hi, thr_gt (by omega)]
  rw [thr_len]
  generalize prL (thr f l) (thr g r) = pl at *
  simp (config := { maxSteps := 1000000 }) (disch := first | omega | (simp only [go_sem]; omega)) only [go_sem, ↓reduceIte]
  refine W_loop (fun i : Nat => ⟨[(0, .lst 1 (ints f)), (1, .lst 1 (ints g)), (2, .lst 1 (ints l)), (3, .lst 1 (ints r)), (9, .sl 0 0 i), (12, .int .i64 f.length), (13, .int .i64 i)], [(0, .arr 2 (prs (pl i)))], 1⟩) (fun i => i ≤ f.length) (fun i => f.length - i) 0 ?_ ?_ ?_
  · simp (config := { maxSteps := 1000000 }) (disch := first | omega | (simp only [go_sem]; omega)) only [go_sem, ↓reduceIte, e0]
    rfl
  · simp
  · intro i hi
    have e1i := e1 i
    by_cases c : i < f.length
    · have g1 : decide ((i : Int) < f.length) = true := decide_eq_true (by omega)
      have hx := h1 _ (gt_mem (l := f) (j := i) (by omega) (by omega))
      have hy := h2 _ (gt_mem (l := g) (j := i) (by omega) (by omega))
      simp (config := { maxSteps := 1000000 }) (disch := first | omega | (simp only [go_sem]; omega)) only [go_sem, ↓reduceIte, c_pushout_pairs_b7, g1, hg, e1i]
      exact ⟨i + 1, by simp [e2 i c], by omega, by omega⟩
    · have g1 : decide ((i : Int) < f.length) = false := decide_eq_false (by omega)
      obtain rfl : i = f.length := by omega
      simp (config := { maxSteps := 1000000 }) (disch := first | omega | (simp only [go_sem]; omega)) only [go_sem, ↓reduceIte, c_pushout_pairs_b7, g1, e1i]
theorem w_pushout_follow (l b : List Int) (hl : l.length ≤ 1000000) (hb : ∀ x ∈ l, 0 ≤ x ∧ x < b.length) : W P (c_pushout_follow F) (Done [.t 4] [] (.arr 1 (ints (thr l b))) []) (init [.lst 1 (ints l), .lst 1 (ints b)]) := by
  refine W_of ?_
  simp (config := { maxSteps := 1000000 }) (disch := first | omega | (simp only [go_sem]; omega)) only [go_sem, ↓reduceIte]
  refine W_loop (fun i : Nat => ⟨[(1, .lst 1 (ints b)), (5, .sl 0 0 l.length), (11, .lst 1 (ints l)), (12, .int .i64 l.length), (13, .int .i64 i)], [(0, .arr 1 (ints (thr (l.take i) b ++ List.replicate (l.length - i) 0)))], 1⟩) (fun i => i ≤ l.length) (fun i => l.length - i) 0 ?_ ?_ ?_
  · simp (config := { maxSteps := 1000000 }) (disch := first | omega | (simp only [go_sem]; omega)) only [go_sem, ↓reduceIte]
    rfl
  · simp
  · intro i hi
    have el : (thr (l.take i) b).length = i := by rw [thr_len]; simp; omega
    simp (config := { maxSteps := 1000000 }) (disch := first | omega | (simp only [go_sem]; omega)) only [go_sem, ↓reduceIte, c_pushout_follow_b7]
    refine bran_dec (fun c => ?_) (fun c => ?_)
    · have hx := hb _ (gt_mem (l := l) (j := i) (by omega) (by omega))
      have hf : (thr (l.take i) b ++ List.replicate (l.length - i) 0).set i (gt b (gt l i)) = thr (l.take (i + 1)) b ++ List.replicate (l.length - (i + 1)) 0 := by
        have := fillL (thr (l.take i) b) (gt b (gt l i)) 0 (l.length - (i + 1))
        rw [el, show l.length - (i + 1) + 1 = l.length - i by omega] at this
        rw [this, thr_step (by omega)]
      simp (config := { maxSteps := 1000000 }) (disch := first | omega | (simp only [go_sem]; omega)) only [go_sem, ↓reduceIte, el, hf]
      exact ⟨i + 1, by simp, by omega, by omega⟩
    · obtain rfl : i = l.length := by omega
      rw [List.take_length] at el
      simp (config := { maxSteps := 1000000 }) (disch := first | omega | (simp only [go_sem]; omega)) only [go_sem, ↓reduceIte, el]
      simp
theorem w_pushout_then (ht : K_pushout_follow P F) (m n : Mo) (h1 : m.n.length ≤ 1000000) (h2 : m.e.length ≤ 1000000) (h3 : ∀ x ∈ m.n, 0 ≤ x ∧ x < n.n.length) (h4 : ∀ x ∈ m.e, 0 ≤ x ∧ x < n.e.length) :
    W P (c_pushout_then F) (Done [.c 4 true 2] [] (mA (thenM m n)) []) (init [mD m, mD n]) := by
  refine W_of ?_
  obtain ⟨mn, me⟩ := m
  obtain ⟨nn, ne⟩ := n
  have r1 := ht mn nn h1 h3
  have r2 := ht me ne h2 h4
  simp (config := { maxSteps := 1000000 }) (disch := first | omega | (simp only [go_sem]; omega)) only [go_sem, ↓reduceIte, mD]
  refine call_by r1 ?_
  simp (config := { maxSteps := 1000000 }) (disch := first | omega | (simp only [go_sem]; omega)) only [go_sem, ↓reduceIte]
  refine call_by r2 ?_
  simp (config := { maxSteps := 1000000 }) (disch := first | omega | (simp only [go_sem]; omega)) only [go_sem, ↓reduceIte, mA, thenM]
end
end Go.Am
