/- The graph package and its reference: parts. -/
/- Drafts of graphs; what laws take. -/
/- Lists of bools as data; ascending lists; parts of graphs, plain. -/
/- Parts of graphs: whether they are right; membership. -/
/- Closing of parts; Dangling, Identified, Of and Check of complements. -/
/- Parts by bits; cases of descriptions; the law ComplementCovers. -/
/- Unions of parts; the law ComplementLeast. -/
/- Unions, intersections, images and boundaries of parts, plain. -/
/- Parts without a boundary and connected components, plain. -/
/- Chapter 07: helpers of the laws; the laws Valid, Close, Join, Image, Adjoint, Extract, Boundary. -/
import Derived.Test.YtbpjoianghehmaaSpPa
import Derived.Test.YtbpjoianghehmaaSpPb
import Derived.Test.YtbpjoianghehmaaSpPc
import Derived.Test.YtbpjoianghehmaaAmRu
namespace Go.Am
open Go
set_option linter.unusedVariables false
set_option linter.unusedSimpArgs false
/- r05.Copied -/
def c_r05_Copied_r0 (F : String → Nat) : List LI := [⟨some 1, .bx (.t 0), none⟩,
  ⟨some 2, .alloc [.nl 1, .nl 3], none⟩]
def c_r05_Copied_r1 (F : String → Nat) : List LI := [⟨some 3, .buildSl 1 8 (.int .i64 (0)) 0 [], none⟩,
  ⟨some 4, .fad 0 (.t 1), none⟩,
  ⟨some 5, .load false 1 (.t 4), none⟩,
  ⟨some 6, .app 1 8 (.t 3) (.t 5), none⟩,
  ⟨some 7, .buildSl 3 24 (.agg [.int .i64 (0), .int .i64 (0), .int .i64 (0)]) 0 [], none⟩,
  ⟨some 8, .fad 1 (.t 1), none⟩,
  ⟨some 9, .load false 1 (.t 8), none⟩,
  ⟨some 10, .app 3 24 (.t 7) (.t 9), none⟩,
  ⟨some 11, .build [.nl 1, .nl 3] [(0, 1, .t 6), (1, 1, .t 10)], none⟩,
  ⟨none, .store 2 (.t 2) (.t 11), none⟩]
def c_r05_Copied (F : String → Nat) : LC := (.seq (.reg (c_r05_Copied_r0 F) [1, 2]) (.seq (.dreg [(2, (some 2), [], false), (3, none, [], true), (6, (some 32), [3], false)] (c_r05_Copied_r1 F) [2]) .ret))
def h_r05_Copied : Hints := ⟨[], fun _ => [], tab [(0, [1, 2]), (1, [2])], tab []⟩

attribute [go_sem] c_r05_Copied_r0 c_r05_Copied_r1 c_r05_Copied
section
variable (P : Program) (F : String → Nat)
def K_r05_Copied : Prop := ∀ g : G, g.n.length ≤ 1000000 → g.e.length ≤ 1000000 → FC P (F "r05.Copied") [gD g] (gA g) []
end
section
variable {P : Program} {F : String → Nat} {α : Type}
theorem w_r05_Copied (g : G) (h0 : g.n.length ≤ 1000000) (h1 : g.e.length ≤ 1000000) : W P (c_r05_Copied F) (Done [.c 2 true 2] [] (gA g) []) (init [gD g]) := by
  refine W_of ?_
  obtain ⟨ns, es⟩ := g
  simp only at h0 h1
  simp (config := { maxSteps := 1000000 }) (disch := first | omega | (simp only [go_sem]; omega)) only [go_sem, ↓reduceIte, gD, gA]
end
end Go.Am
namespace Go.Am
open Go
set_option linter.unusedVariables false
set_option linter.unusedSimpArgs false
section
variable (P : Program) (F : String → Nat)
end
def shI : Sh := .int .i64
def shIs : Sh := .slc 1 8 shI
def shE : Sh := .cat [shI, shI, shI]
def shG : Sh := .cat [shIs, .slc 3 24 shE]
theorem rd_int {x : D} (h : HasEl shI x) : ∃ n : Int, x = .int .i64 n ∧ IntKind.i64.min ≤ n ∧ n ≤ IntKind.i64.max := by
  simpa only [shI, HasEl] using h
theorem rd_intl : ∀ {xs : List D}, (∀ y ∈ xs, HasEl shI y) → ∃ l : List Int, xs = ints l
  | [], _ => ⟨[], rfl⟩
  | x :: xs, h => by
    obtain ⟨l, rfl⟩ := rd_intl (xs := xs) fun y hy => h y (by simp [hy])
    obtain ⟨n, rfl, _⟩ := rd_int (h x (by simp))
    exact ⟨n :: l, rfl⟩
theorem rd_ints {x : D} (h : HasEl shIs x) : ∃ l : List Int, x = .lst 1 (ints l) ∧ l.length ≤ 20000000000000 := by
  simp only [shIs, HasEl] at h
  obtain ⟨xs, rfl, h1, h2⟩ := h
  obtain ⟨l, rfl⟩ := rd_intl h2
  refine ⟨l, rfl, ?_⟩
  rw [ints_length] at h1
  unfold reachBytes at h1
  omega
theorem rd_edge {x : D} (h : HasEl shE x) : ∃ e : E, x = edD e := by
  simp only [shE, HasEl] at h
  obtain ⟨ds, rfl, h⟩ := h
  simp only [shI, HasShs, HasEl] at h
  obtain ⟨_, _, rfl, ⟨a, rfl, _⟩, _, _, rfl, ⟨b, rfl, _⟩, _, _, rfl, ⟨c, rfl, _⟩, rfl⟩ := h
  exact ⟨⟨a, b, c⟩, rfl⟩
theorem rd_edl : ∀ {xs : List D}, (∀ y ∈ xs, HasEl shE y) → ∃ l : List E, xs = eds l
  | [], _ => ⟨[], rfl⟩
  | x :: xs, h => by
    obtain ⟨l, rfl⟩ := rd_edl (xs := xs) fun y hy => h y (by simp [hy])
    obtain ⟨n, rfl⟩ := rd_edge (h x (by simp))
    exact ⟨n :: l, rfl⟩
theorem rd_graph {x : D} (h : HasEl shG x) : ∃ g : G, x = gD g := by
  simp only [shG, HasEl] at h
  obtain ⟨ds, rfl, h⟩ := h
  have h' : ∃ a b, ds = a :: b ∧ HasEl shIs a ∧ HasShs [.slc 3 24 shE] b := by simpa only [shIs, HasShs] using h
  obtain ⟨a, _, rfl, h1, h'⟩ := h'
  obtain ⟨l, rfl, _⟩ := rd_ints h1
  simp only [HasShs, HasEl] at h'
  obtain ⟨_, _, rfl, ⟨xs, rfl, _, h3⟩, rfl⟩ := h'
  obtain ⟨es, rfl⟩ := rd_edl h3
  exact ⟨⟨l, es⟩, rfl⟩
theorem hasShs_slc {z b : Nat} {e : Sh} {l : List Sh} {ds : List D} (h : HasShs (.slc z b e :: l) ds) : ∃ a b', ds = a :: b' ∧ HasEl (.slc z b e) a ∧ HasShs l b' := by simpa only [HasShs] using h
theorem hasShs_nil {ds : List D} (h : HasShs [] ds) : ds = [] := by simpa only [HasShs] using h
def moL (m : Mo) : List D := [.lst 1 (ints m.n), .lst 1 (ints m.e)]
def shM : Sh := .cat [shIs, shIs]
theorem rd_ml {ds : List D} (h : HasShs [shIs, shIs] ds) : ∃ m : Mo, ds = moL m ∧ m.sm := by
  obtain ⟨_, _, rfl, h1, h⟩ := hasShs_slc h
  obtain ⟨_, _, rfl, h2, h⟩ := hasShs_slc h
  obtain rfl := hasShs_nil h
  obtain ⟨n, rfl, l1⟩ := rd_ints h1
  obtain ⟨e, rfl, l2⟩ := rd_ints h2
  exact ⟨⟨n, e⟩, rfl, by simp only [maxL]; omega, by simp only [maxL]; omega⟩
theorem rd_morph {x : D} (h : HasEl shM x) : ∃ m : Mo, x = mD m ∧ m.sm := by
  simp only [shM, HasEl] at h
  obtain ⟨ds, rfl, h⟩ := h
  obtain ⟨m, rfl, h2⟩ := rd_ml h
  exact ⟨m, rfl, h2⟩
section
variable {P : Program} {F : String → Nat} {α : Type}
end
end Go.Am
namespace Go.Am
open Go
set_option linter.unusedVariables false
set_option linter.unusedSimpArgs false
section
theorem gt_setB {α : Type} [Inhabited α] {l : List α} {k i : Nat} {v : α} (hi : i < l.length) : gt (l.set k v) i = if k = i then v else gt l i := by
  rw [gt_nat (by simpa using hi), gt_nat hi, List.getElem_set]
theorem sel_asc (p : Nat → Bool) (n : Nat) : AscL (sel p n) n := ⟨sel_pair p n, fun x hx => by obtain ⟨k, h1, _, rfl⟩ := sel_mem.1 hx; omega⟩
theorem closeP_ok {g : G} {ns es : List Int} (hv : validG g = 0) : PK g (closeP g ns es) := by
  refine ⟨hv, sel_asc _ _, sel_asc _ _, fun x hx => ?_⟩
  obtain ⟨k, hk, hk2, rfl⟩ := sel_mem.1 hx
  simp only [decide_eq_true_eq] at hk2
  obtain ⟨_, t2, t3⟩ := edge_fits hv (i := k) (by omega)
  obtain ⟨a, ha, ha2⟩ := gtI t2
  obtain ⟨b, hb, hb2⟩ := gtI t3
  simp only [closeP]
  rw [ha2, hb2, sel_memN, sel_memN]
  refine ⟨⟨ha, ?_⟩, hb, ?_⟩
  · simp only [Bool.or_eq_true, decide_eq_true_eq]
    exact .inr (ends_mem.2 ⟨k, hk2, .inl ha2⟩)
  · simp only [Bool.or_eq_true, decide_eq_true_eq]
    exact .inr (ends_mem.2 ⟨k, hk2, .inr hb2⟩)
end
end Go.Am
namespace Go.Am
open Go
set_option linter.unusedVariables false
set_option linter.unusedSimpArgs false
attribute [local irreducible] W
/- r07.has -/
def c_r07_has_r0 (F : String → Nat) : List LI := [⟨some 4, .mov (.k (.bool false)), none⟩]
def c_r07_has_r1 (F : String → Nat) : List LI := [⟨some 5, .mov (.k (.int .i64 (0))), none⟩]
def c_r07_has_r2 (F : String → Nat) : List LI := [⟨some 6, .mov (.t 5), none⟩,
  ⟨some 7, .mov (.t 0), none⟩,
  ⟨some 8, .len (.t 7), none⟩,
  ⟨some 9, .bin .lss (.t 6) (.t 8), none⟩]
def c_r07_has_r3 (F : String → Nat) : List LI := [⟨some 12, .mov (.t 0), none⟩,
  ⟨some 13, .mov (.t 5), none⟩,
  ⟨some 14, .iad 1 (.t 12) (.t 13), none⟩,
  ⟨some 15, .load false 1 (.t 14), none⟩,
  ⟨some 16, .mov (.t 1), none⟩,
  ⟨some 17, .bin .eql (.t 15) (.t 16), none⟩]
def c_r07_has_r4 (F : String → Nat) : List LI := [⟨some 4, .mov (.k (.bool true)), none⟩]
def c_r07_has_r5 (F : String → Nat) : List LI := [⟨some 10, .mov (.t 5), none⟩,
  ⟨some 11, .bin .add (.t 10) (.k (.int .i64 (1))), none⟩,
  ⟨some 5, .mov (.t 11), none⟩]
def c_r07_has_b6 (F : String → Nat) : LC := (.seq (.seq (.reg (c_r07_has_r2 F) [0, 1, 5, 9]) (.cond (.t 9) .skip (.exit 0))) (.seq (.block 1 (.seq (.reg (c_r07_has_r3 F) [0, 1, 5, 17]) (.cond (.t 17) (.seq (.reg (c_r07_has_r4 F) [4]) .ret) .skip))) (.reg (c_r07_has_r5 F) [0, 1, 5])))
def c_r07_has_r7 (F : String → Nat) : List LI := [⟨some 4, .mov (.k (.bool false)), none⟩]
def c_r07_has (F : String → Nat) : LC := (.seq (.reg (c_r07_has_r0 F) [0, 1]) (.seq (.seq (.reg (c_r07_has_r1 F) [0, 1, 5]) (.block 0 (.loop [0, 1, 5] (c_r07_has_b6 F)))) (.seq (.reg (c_r07_has_r7 F) [4]) .ret)))
def h_r07_has : Hints := ⟨[], fun _ => [], tab [(0, [0, 1]), (1, [0, 1, 5]), (2, [0, 1, 5, 9]), (3, [0, 1, 5]), (4, [0, 1, 5, 17]), (5, [4]), (6, [4])], tab [(2, [0, 1, 5])]⟩

/- r07.into -/
def c_r07_into_r0 (F : String → Nat) : List LI := [⟨some 4, .mov (.k (.nl 1)), none⟩]
def c_r07_into_r1 (F : String → Nat) : List LI := [⟨some 5, .mov (.k (.nl 1)), none⟩]
def c_r07_into_r2 (F : String → Nat) : List LI := [⟨some 6, .mov (.k (.int .i64 (0))), none⟩]
def c_r07_into_r3 (F : String → Nat) : List LI := [⟨some 7, .mov (.t 6), none⟩,
  ⟨some 8, .mov (.t 0), none⟩,
  ⟨some 9, .len (.t 8), none⟩,
  ⟨some 10, .bin .lss (.t 7) (.t 9), none⟩]
def c_r07_into_r4 (F : String → Nat) : List LI := [⟨some 13, .mov (.t 1), none⟩,
  ⟨some 14, .mov (.t 0), none⟩,
  ⟨some 15, .mov (.t 6), none⟩,
  ⟨some 16, .iad 1 (.t 14) (.t 15), none⟩,
  ⟨some 17, .load false 1 (.t 16), none⟩,
  ⟨some 18, .call (F "r07.has") [.t 13, .t 17] [], none⟩]
def c_r07_into_r5 (F : String → Nat) : List LI := [⟨some 19, .mov (.t 5), none⟩,
  ⟨some 20, .mov (.t 6), none⟩,
  ⟨some 21, .buildSl 1 8 (.int .i64 (0)) 1 [(0, .t 20)], none⟩,
  ⟨some 22, .app 1 8 (.t 19) (.t 21), none⟩,
  ⟨some 5, .mov (.t 22), none⟩]
def c_r07_into_r6 (F : String → Nat) : List LI := [⟨some 11, .mov (.t 6), none⟩,
  ⟨some 12, .bin .add (.t 11) (.k (.int .i64 (1))), none⟩,
  ⟨some 6, .mov (.t 12), none⟩]
def c_r07_into_b7 (F : String → Nat) : LC := (.seq (.seq (.reg (c_r07_into_r3 F) [0, 1, 5, 6, 10]) (.cond (.t 10) .skip (.exit 0))) (.seq (.block 1 (.seq (.reg (c_r07_into_r4 F) [0, 1, 5, 6, 18]) (.cond (.t 18) (.reg (c_r07_into_r5 F) [0, 1, 5, 6]) .skip))) (.reg (c_r07_into_r6 F) [0, 1, 5, 6])))
def c_r07_into_r8 (F : String → Nat) : List LI := [⟨some 23, .mov (.t 5), none⟩,
  ⟨some 4, .mov (.t 23), none⟩]
def c_r07_into (F : String → Nat) : LC := (.seq (.reg (c_r07_into_r0 F) [0, 1]) (.seq (.reg (c_r07_into_r1 F) [0, 1, 5]) (.seq (.seq (.reg (c_r07_into_r2 F) [0, 1, 5, 6]) (.block 0 (.loop [0, 1, 5, 6] (c_r07_into_b7 F)))) (.seq (.reg (c_r07_into_r8 F) [4]) .ret))))
def h_r07_into : Hints := ⟨[], fun _ => [], tab [(0, [0, 1]), (1, [0, 1, 5]), (2, [0, 1, 5, 6]), (3, [0, 1, 5, 6, 10]), (4, [0, 1, 5, 6]), (5, [0, 1, 5, 6, 18]), (6, [0, 1, 5, 6]), (7, [4])], tab [(3, [0, 1, 5, 6])]⟩

/- r07.Few -/
def c_r07_Few_r0 (F : String → Nat) : List LI := [⟨some 2, .bx (.t 0), none⟩,
  ⟨some 4, .mov (.k (.bool false)), none⟩]
def c_r07_Few_r1 (F : String → Nat) : List LI := [⟨some 5, .fad 0 (.t 2), none⟩,
  ⟨some 6, .load false 1 (.t 5), none⟩,
  ⟨some 7, .len (.t 6), none⟩,
  ⟨some 8, .fad 1 (.t 2), none⟩,
  ⟨some 9, .load false 1 (.t 8), none⟩,
  ⟨some 10, .len (.t 9), none⟩,
  ⟨some 11, .bin .add (.t 7) (.t 10), none⟩,
  ⟨some 12, .mov (.t 1), none⟩,
  ⟨some 13, .bin .leq (.t 11) (.t 12), none⟩,
  ⟨some 4, .mov (.t 13), none⟩]
def c_r07_Few (F : String → Nat) : LC := (.seq (.reg (c_r07_Few_r0 F) [1, 2]) (.seq (.reg (c_r07_Few_r1 F) [4]) .ret))
def h_r07_Few : Hints := ⟨[], fun _ => [], tab [(0, [1, 2]), (1, [4])], tab []⟩

attribute [go_sem] c_r07_has_r0 c_r07_has_r1 c_r07_has_r2 c_r07_has_r3 c_r07_has_r4 c_r07_has_r5 c_r07_has_r7 c_r07_has c_r07_into_r0 c_r07_into_r1 c_r07_into_r2 c_r07_into_r3 c_r07_into_r4 c_r07_into_r5 c_r07_into_r6 c_r07_into_r8 c_r07_into c_r07_Few_r0 c_r07_Few_r1 c_r07_Few
def intoL (l p : List Int) : List Int := sel (fun i : Nat => decide (gt l i ∈ p)) l.length
section
variable (P : Program) (F : String → Nat)
def K_r07_has : Prop := ∀ (l : List Int) (n : Int), l.length ≤ maxL → FC P (F "r07.has") [.lst 1 (ints l), .int .i64 n] (.bool (decide (n ∈ l))) []
def K_r07_into : Prop := ∀ (l p : List Int), l.length ≤ 10000 → p.length ≤ maxL → FC P (F "r07.into") [.lst 1 (ints l), .lst 1 (ints p)] (.arr 1 (ints (intoL l p))) []
def K_r07_Few : Prop := ∀ (m : Mo) (n : Int), m.n.length ≤ maxL → m.e.length ≤ maxL → FC P (F "r07.Few") [mD m, .int .i64 n] (.bool (fewM m n)) []
end
section
variable {P : Program} {F : String → Nat} {α : Type}
theorem mem_take {l : List Int} {n : Int} {i : Nat} (h : i < l.length) : n ∈ l.take (i + 1) ↔ n ∈ l.take i ∨ gt l i = n := by
  rw [take_gt h]; simp [eq_comm]
theorem w_r07_has (l : List Int) (n : Int) (hl : l.length ≤ maxL) : W P (c_r07_has F) (Done [.t 4] [] (.bool (decide (n ∈ l))) []) (init [.lst 1 (ints l), .int .i64 n]) := by
  refine W_of ?_
  unfold maxL at hl
  simp (config := { maxSteps := 1000000 }) (disch := first | omega | (simp only [go_sem]; omega)) only [go_sem, ↓reduceIte]
  refine W_loop (fun i : Nat => ⟨[(0, .lst 1 (ints l)), (1, .int .i64 n), (5, .int .i64 i)], [], 0⟩) (fun i => i ≤ l.length ∧ n ∉ l.take i) (fun i => l.length - i) 0 ?_ ?_ ?_
  · simp (config := { maxSteps := 1000000 }) (disch := first | omega | (simp only [go_sem]; omega)) only [go_sem, ↓reduceIte]
    rfl
  · simp
  · rintro i ⟨hi, hn⟩
    simp (config := { maxSteps := 1000000 }) (disch := first | omega | (simp only [go_sem]; omega)) only [go_sem, ↓reduceIte, c_r07_has_b6]
    refine bran_dec (fun c => ?_) (fun c => ?_)
    · have hm := mem_take (n := n) (l := l) (i := i) (by omega)
      simp (config := { maxSteps := 1000000 }) (disch := first | omega | (simp only [go_sem]; omega)) only [go_sem, ↓reduceIte]
      refine bran_dec (fun d => ?_) (fun d => ?_)
      · have : n ∈ l := by rw [← d]; exact gt_mem (by omega) (by omega)
        simp (config := { maxSteps := 1000000 }) (disch := first | omega | (simp only [go_sem]; omega)) only [go_sem, ↓reduceIte]
        simp [this]
      · simp (config := { maxSteps := 1000000 }) (disch := first | omega | (simp only [go_sem]; omega)) only [go_sem, ↓reduceIte]
        exact ⟨i + 1, by simp, ⟨by omega, fun h => by rcases hm.1 h with h | h; exact hn h; exact d h⟩, by omega⟩
    · obtain rfl : i = l.length := by omega
      rw [List.take_length] at hn
      simp (config := { maxSteps := 1000000 }) (disch := first | omega | (simp only [go_sem]; omega)) only [go_sem, ↓reduceIte]
      simp [hn]
theorem w_r07_into (hh : K_r07_has P F) (l p : List Int) (hl : l.length ≤ 10000) (hp : p.length ≤ maxL) : W P (c_r07_into F) (Done [.t 4] [] (.arr 1 (ints (intoL l p))) []) (init [.lst 1 (ints l), .lst 1 (ints p)]) := by
  refine W_of ?_
  simp (config := { maxSteps := 1000000 }) (disch := first | omega | (simp only [go_sem]; omega)) only [go_sem, ↓reduceIte]
  refine W_loop (fun i : Nat => ⟨[(0, .lst 1 (ints l)), (1, .lst 1 (ints p)), (5, .sl 0 0 (sel (fun i : Nat => decide (gt l i ∈ p)) i).length), (6, .int .i64 i)], [(0, .arr 1 (ints (sel (fun i : Nat => decide (gt l i ∈ p)) i)))], 1⟩) (fun i => i ≤ l.length) (fun i => l.length - i) 0 ?_ ?_ ?_
  · simp (config := { maxSteps := 1000000 }) (disch := first | omega | (simp only [go_sem]; omega)) only [go_sem, ↓reduceIte, sel_zero]
    rfl
  · simp
  · intro i hi
    have e1 := sel_len (fun i : Nat => decide (gt l i ∈ p)) i
    have hs := sel_succ (fun i : Nat => decide (gt l i ∈ p)) i
    simp (config := { maxSteps := 1000000 }) (disch := first | omega | (simp only [go_sem]; omega)) only [go_sem, ↓reduceIte, c_r07_into_b7]
    refine bran_dec (fun c => ?_) (fun c => ?_)
    · have r := hh p (gt l i) hp
      generalize decide (gt l i ∈ p) = b at *
      simp (config := { maxSteps := 1000000 }) (disch := first | omega | (simp only [go_sem]; omega)) only [go_sem, ↓reduceIte]
      refine call_by r ?_
      cases b
      · simp (config := { maxSteps := 1000000 }) (disch := first | omega | (simp only [go_sem]; omega)) only [go_sem, ↓reduceIte]
        exact ⟨i + 1, by simp [hs], by omega, by omega⟩
      · simp (config := { maxSteps := 1000000 }) (disch := first | omega | (simp only [go_sem]; omega)) only [go_sem, ↓reduceIte]
        exact ⟨i + 1, by simp [hs], by omega, by omega⟩
    · obtain rfl : i = l.length := by omega
      simp (config := { maxSteps := 1000000 }) (disch := first | omega | (simp only [go_sem]; omega)) only [go_sem, ↓reduceIte]
      try rfl
theorem w_r07_Few (m : Mo) (n : Int) (h1 : m.n.length ≤ maxL) (h2 : m.e.length ≤ maxL) : W P (c_r07_Few F) (Done [.t 4] [] (.bool (fewM m n)) []) (init [mD m, .int .i64 n]) := by
  refine W_of ?_
  obtain ⟨mn, me⟩ := m
  simp only [maxL] at h1 h2
  simp (config := { maxSteps := 1000000 }) (disch := first | omega | (simp only [go_sem]; omega)) only [go_sem, ↓reduceIte, mD, fewM]
end
end Go.Am
namespace Go.Am
open Go
set_option linter.unusedVariables false
set_option linter.unusedSimpArgs false
attribute [local irreducible] W
/- r07.marked -/
def c_r07_marked_r0 (F : String → Nat) : List LI := [⟨some 2, .mov (.k (.nl 1)), none⟩]
def c_r07_marked_r1 (F : String → Nat) : List LI := [⟨some 3, .mov (.k (.nl 1)), none⟩]
def c_r07_marked_r2 (F : String → Nat) : List LI := [⟨some 4, .mov (.k (.int .i64 (0))), none⟩]
def c_r07_marked_r3 (F : String → Nat) : List LI := [⟨some 5, .mov (.t 4), none⟩,
  ⟨some 6, .mov (.t 0), none⟩,
  ⟨some 7, .len (.t 6), none⟩,
  ⟨some 8, .bin .lss (.t 5) (.t 7), none⟩]
def c_r07_marked_r4 (F : String → Nat) : List LI := [⟨some 11, .mov (.t 0), none⟩,
  ⟨some 12, .mov (.t 4), none⟩,
  ⟨some 13, .iad 1 (.t 11) (.t 12), none⟩,
  ⟨some 14, .load false 1 (.t 13), none⟩]
def c_r07_marked_r5 (F : String → Nat) : List LI := [⟨some 15, .mov (.t 3), none⟩,
  ⟨some 16, .mov (.t 4), none⟩,
  ⟨some 17, .buildSl 1 8 (.int .i64 (0)) 1 [(0, .t 16)], none⟩,
  ⟨some 18, .app 1 8 (.t 15) (.t 17), none⟩,
  ⟨some 3, .mov (.t 18), none⟩]
def c_r07_marked_r6 (F : String → Nat) : List LI := [⟨some 9, .mov (.t 4), none⟩,
  ⟨some 10, .bin .add (.t 9) (.k (.int .i64 (1))), none⟩,
  ⟨some 4, .mov (.t 10), none⟩]
def c_r07_marked_b7 (F : String → Nat) : LC := (.seq (.seq (.reg (c_r07_marked_r3 F) [0, 3, 4, 8]) (.cond (.t 8) .skip (.exit 0))) (.seq (.block 1 (.seq (.reg (c_r07_marked_r4 F) [0, 3, 4, 14]) (.cond (.t 14) (.reg (c_r07_marked_r5 F) [0, 3, 4]) .skip))) (.reg (c_r07_marked_r6 F) [0, 3, 4])))
def c_r07_marked_r8 (F : String → Nat) : List LI := [⟨some 19, .mov (.t 3), none⟩,
  ⟨some 2, .mov (.t 19), none⟩]
def c_r07_marked (F : String → Nat) : LC := (.seq (.reg (c_r07_marked_r0 F) [0]) (.seq (.reg (c_r07_marked_r1 F) [0, 3]) (.seq (.seq (.reg (c_r07_marked_r2 F) [0, 3, 4]) (.block 0 (.loop [0, 3, 4] (c_r07_marked_b7 F)))) (.seq (.reg (c_r07_marked_r8 F) [2]) .ret))))
def h_r07_marked : Hints := ⟨[], fun _ => [], tab [(0, [0]), (1, [0, 3]), (2, [0, 3, 4]), (3, [0, 3, 4, 8]), (4, [0, 3, 4]), (5, [0, 3, 4, 14]), (6, [0, 3, 4]), (7, [2])], tab [(3, [0, 3, 4])]⟩

/- r07.Least -/
def c_r07_Least_r0 (F : String → Nat) : List LI := [⟨some 3, .bx (.t 0), none⟩,
  ⟨some 6, .alloc [.nl 1, .nl 1], none⟩]
def c_r07_Least_r1 (F : String → Nat) : List LI := [⟨some 9, .buildSl 1 1 (.bool false) 0 [], none⟩,
  ⟨some 10, .mov (.t 1), none⟩,
  ⟨some 11, .app 1 1 (.t 9) (.t 10), none⟩,
  ⟨some 7, .mov (.t 11), none⟩]
def c_r07_Least_r2 (F : String → Nat) : List LI := [⟨some 8, .mov (.k (.int .i64 (0))), none⟩]
def c_r07_Least_r3 (F : String → Nat) : List LI := [⟨some 12, .mov (.t 8), none⟩,
  ⟨some 13, .mov (.t 2), none⟩,
  ⟨some 14, .len (.t 13), none⟩,
  ⟨some 15, .bin .lss (.t 12) (.t 14), none⟩]
def c_r07_Least_r4 (F : String → Nat) : List LI := [⟨some 18, .mov (.t 2), none⟩,
  ⟨some 19, .mov (.t 8), none⟩,
  ⟨some 20, .iad 1 (.t 18) (.t 19), none⟩,
  ⟨some 21, .load false 1 (.t 20), none⟩]
def c_r07_Least_r5 (F : String → Nat) : List LI := [⟨some 22, .mov (.t 7), none⟩,
  ⟨some 23, .fad 1 (.t 3), none⟩,
  ⟨some 24, .load false 1 (.t 23), none⟩,
  ⟨some 25, .mov (.t 8), none⟩,
  ⟨some 26, .iad 3 (.t 24) (.t 25), none⟩,
  ⟨some 27, .fad 1 (.t 26), none⟩,
  ⟨some 28, .load false 1 (.t 27), none⟩,
  ⟨some 29, .mov (.t 7), none⟩,
  ⟨some 30, .fad 1 (.t 3), none⟩,
  ⟨some 31, .load false 1 (.t 30), none⟩,
  ⟨some 32, .mov (.t 8), none⟩,
  ⟨some 33, .iad 3 (.t 31) (.t 32), none⟩,
  ⟨some 34, .fad 2 (.t 33), none⟩,
  ⟨some 35, .load false 1 (.t 34), none⟩,
  ⟨some 36, .iad 1 (.t 22) (.t 28), none⟩,
  ⟨none, .store 1 (.t 36) (.k (.bool true)), none⟩,
  ⟨some 37, .iad 1 (.t 29) (.t 35), none⟩,
  ⟨none, .store 1 (.t 37) (.k (.bool true)), none⟩]
def c_r07_Least_r6 (F : String → Nat) : List LI := [⟨some 16, .mov (.t 8), none⟩,
  ⟨some 17, .bin .add (.t 16) (.k (.int .i64 (1))), none⟩,
  ⟨some 8, .mov (.t 17), none⟩]
def c_r07_Least_b7 (F : String → Nat) : LC := (.seq (.seq (.reg (c_r07_Least_r3 F) [2, 3, 6, 7, 8, 15]) (.cond (.t 15) .skip (.exit 0))) (.seq (.block 1 (.seq (.reg (c_r07_Least_r4 F) [2, 3, 6, 7, 8, 21]) (.cond (.t 21) (.dreg [] (c_r07_Least_r5 F) [2, 3, 6, 7, 8]) .skip))) (.reg (c_r07_Least_r6 F) [2, 3, 6, 7, 8])))
def c_r07_Least_r8 (F : String → Nat) : List LI := [⟨some 38, .mov (.t 7), none⟩,
  ⟨some 39, .call (F "r07.marked") [.t 38] [], none⟩,
  ⟨some 40, .mov (.t 2), none⟩,
  ⟨some 41, .call (F "r07.marked") [.t 40] [], none⟩,
  ⟨some 42, .build [.nl 1, .nl 1] [(0, 1, .t 39), (1, 1, .t 41)], none⟩,
  ⟨none, .store 2 (.t 6) (.t 42), none⟩]
def c_r07_Least (F : String → Nat) : LC := (.seq (.reg (c_r07_Least_r0 F) [1, 2, 3, 6]) (.seq (.reg (c_r07_Least_r1 F) [2, 3, 6, 7]) (.seq (.seq (.reg (c_r07_Least_r2 F) [2, 3, 6, 7, 8]) (.block 0 (.loop [2, 3, 6, 7, 8] (c_r07_Least_b7 F)))) (.seq (.reg (c_r07_Least_r8 F) [6]) .ret))))
def h_r07_Least : Hints := ⟨[], fun _ => [], tab [(0, [1, 2, 3, 6]), (1, [2, 3, 6, 7]), (2, [2, 3, 6, 7, 8]), (3, [2, 3, 6, 7, 8, 15]), (4, [2, 3, 6, 7, 8]), (5, [2, 3, 6, 7, 8, 21]), (6, [2, 3, 6, 7, 8]), (7, [6])], tab [(3, [2, 3, 6, 7, 8])]⟩

/- r07.Close -/
def c_r07_Close_r0 (F : String → Nat) : List LI := [⟨some 3, .bx (.t 0), none⟩,
  ⟨some 6, .alloc [.nl 1, .nl 1], none⟩,
  ⟨some 7, .mov (.k (.int .i64 (0))), none⟩]
def c_r07_Close_r1 (F : String → Nat) : List LI := [⟨some 13, .load true 2 (.t 3), none⟩,
  ⟨some 14, .call (F "r05.Valid") [.t 13] [], none⟩,
  ⟨some 8, .mov (.t 14), none⟩]
def c_r07_Close_r2 (F : String → Nat) : List LI := [⟨some 15, .mov (.t 8), none⟩,
  ⟨some 16, .bin .neq (.t 15) (.k (.int .i64 (0))), none⟩]
def c_r07_Close_r3 (F : String → Nat) : List LI := [⟨some 17, .build [.nl 1, .nl 1] [], none⟩,
  ⟨some 18, .mov (.t 8), none⟩,
  ⟨none, .store 2 (.t 6) (.t 17), none⟩,
  ⟨some 7, .mov (.t 18), none⟩]
def c_r07_Close_r4 (F : String → Nat) : List LI := [⟨some 19, .fad 0 (.t 3), none⟩,
  ⟨some 20, .load false 1 (.t 19), none⟩,
  ⟨some 21, .len (.t 20), none⟩,
  ⟨some 22, .makeSl 1 1 (.bool false) (.t 21), none⟩,
  ⟨some 23, .fad 1 (.t 3), none⟩,
  ⟨some 24, .load false 1 (.t 23), none⟩,
  ⟨some 25, .len (.t 24), none⟩,
  ⟨some 26, .makeSl 1 1 (.bool false) (.t 25), none⟩,
  ⟨some 9, .mov (.t 22), none⟩,
  ⟨some 10, .mov (.t 26), none⟩]
def c_r07_Close_r5 (F : String → Nat) : List LI := [⟨some 11, .mov (.k (.int .i64 (0))), none⟩]
def c_r07_Close_r6 (F : String → Nat) : List LI := [⟨some 27, .mov (.t 11), none⟩,
  ⟨some 28, .mov (.t 1), none⟩,
  ⟨some 29, .len (.t 28), none⟩,
  ⟨some 30, .bin .lss (.t 27) (.t 29), none⟩]
def c_r07_Close_r7 (F : String → Nat) : List LI := [⟨some 33, .mov (.t 1), none⟩,
  ⟨some 34, .mov (.t 11), none⟩,
  ⟨some 35, .iad 1 (.t 33) (.t 34), none⟩,
  ⟨some 36, .load false 1 (.t 35), none⟩,
  ⟨some 37, .bin .lss (.t 36) (.k (.int .i64 (0))), none⟩,
  ⟨some 38, .mov (.t 37), none⟩,
  ⟨some 39, .mov (.t 1), some (38, false)⟩,
  ⟨some 40, .mov (.t 11), some (38, false)⟩,
  ⟨some 41, .iad 1 (.t 39) (.t 40), some (38, false)⟩,
  ⟨some 42, .load false 1 (.t 41), some (38, false)⟩,
  ⟨some 43, .mov (.t 9), some (38, false)⟩,
  ⟨some 44, .len (.t 43), some (38, false)⟩,
  ⟨some 45, .bin .geq (.t 42) (.t 44), some (38, false)⟩,
  ⟨some 46, .pick (.t 38) (.k (.bool true)) (.t 45), none⟩]
def c_r07_Close_r8 (F : String → Nat) : List LI := [⟨some 47, .build [.nl 1, .nl 1] [], none⟩,
  ⟨none, .store 2 (.t 6) (.t 47), none⟩,
  ⟨some 7, .mov (.k (.int .i64 (6))), none⟩]
def c_r07_Close_r9 (F : String → Nat) : List LI := [⟨some 48, .mov (.t 9), none⟩,
  ⟨some 49, .mov (.t 1), none⟩,
  ⟨some 50, .mov (.t 11), none⟩,
  ⟨some 51, .iad 1 (.t 49) (.t 50), none⟩,
  ⟨some 52, .load false 1 (.t 51), none⟩,
  ⟨some 53, .iad 1 (.t 48) (.t 52), none⟩,
  ⟨none, .store 1 (.t 53) (.k (.bool true)), none⟩]
def c_r07_Close_r10 (F : String → Nat) : List LI := [⟨some 31, .mov (.t 11), none⟩,
  ⟨some 32, .bin .add (.t 31) (.k (.int .i64 (1))), none⟩,
  ⟨some 11, .mov (.t 32), none⟩]
def c_r07_Close_b11 (F : String → Nat) : LC := (.seq (.seq (.reg (c_r07_Close_r6 F) [1, 2, 3, 6, 9, 10, 11, 30]) (.cond (.t 30) .skip (.exit 0))) (.seq (.block 1 (.seq (.seq (.reg (c_r07_Close_r7 F) [1, 2, 3, 6, 9, 10, 11, 46]) (.cond (.t 46) (.seq (.reg (c_r07_Close_r8 F) [6, 7]) .ret) .skip)) (.reg (c_r07_Close_r9 F) [1, 2, 3, 6, 9, 10, 11]))) (.reg (c_r07_Close_r10 F) [1, 2, 3, 6, 9, 10, 11])))
def c_r07_Close_r12 (F : String → Nat) : List LI := [⟨some 12, .mov (.k (.int .i64 (0))), none⟩]
def c_r07_Close_r13 (F : String → Nat) : List LI := [⟨some 54, .mov (.t 12), none⟩,
  ⟨some 55, .mov (.t 2), none⟩,
  ⟨some 56, .len (.t 55), none⟩,
  ⟨some 57, .bin .lss (.t 54) (.t 56), none⟩]
def c_r07_Close_r14 (F : String → Nat) : List LI := [⟨some 60, .mov (.t 2), none⟩,
  ⟨some 61, .mov (.t 12), none⟩,
  ⟨some 62, .iad 1 (.t 60) (.t 61), none⟩,
  ⟨some 63, .load false 1 (.t 62), none⟩,
  ⟨some 64, .bin .lss (.t 63) (.k (.int .i64 (0))), none⟩,
  ⟨some 65, .mov (.t 64), none⟩,
  ⟨some 66, .mov (.t 2), some (65, false)⟩,
  ⟨some 67, .mov (.t 12), some (65, false)⟩,
  ⟨some 68, .iad 1 (.t 66) (.t 67), some (65, false)⟩,
  ⟨some 69, .load false 1 (.t 68), some (65, false)⟩,
  ⟨some 70, .mov (.t 10), some (65, false)⟩,
  ⟨some 71, .len (.t 70), some (65, false)⟩,
  ⟨some 72, .bin .geq (.t 69) (.t 71), some (65, false)⟩,
  ⟨some 73, .pick (.t 65) (.k (.bool true)) (.t 72), none⟩]
def c_r07_Close_r15 (F : String → Nat) : List LI := [⟨some 74, .build [.nl 1, .nl 1] [], none⟩,
  ⟨none, .store 2 (.t 6) (.t 74), none⟩,
  ⟨some 7, .mov (.k (.int .i64 (6))), none⟩]
def c_r07_Close_r16 (F : String → Nat) : List LI := [⟨some 75, .mov (.t 10), none⟩,
  ⟨some 76, .mov (.t 2), none⟩,
  ⟨some 77, .mov (.t 12), none⟩,
  ⟨some 78, .iad 1 (.t 76) (.t 77), none⟩,
  ⟨some 79, .load false 1 (.t 78), none⟩,
  ⟨some 80, .iad 1 (.t 75) (.t 79), none⟩,
  ⟨none, .store 1 (.t 80) (.k (.bool true)), none⟩]
def c_r07_Close_r17 (F : String → Nat) : List LI := [⟨some 58, .mov (.t 12), none⟩,
  ⟨some 59, .bin .add (.t 58) (.k (.int .i64 (1))), none⟩,
  ⟨some 12, .mov (.t 59), none⟩]
def c_r07_Close_b18 (F : String → Nat) : LC := (.seq (.seq (.reg (c_r07_Close_r13 F) [2, 3, 6, 9, 10, 12, 57]) (.cond (.t 57) .skip (.exit 2))) (.seq (.block 3 (.seq (.seq (.reg (c_r07_Close_r14 F) [2, 3, 6, 9, 10, 12, 73]) (.cond (.t 73) (.seq (.reg (c_r07_Close_r15 F) [6, 7]) .ret) .skip)) (.reg (c_r07_Close_r16 F) [2, 3, 6, 9, 10, 12]))) (.reg (c_r07_Close_r17 F) [2, 3, 6, 9, 10, 12])))
def c_r07_Close_r19 (F : String → Nat) : List LI := [⟨some 81, .load true 2 (.t 3), none⟩,
  ⟨some 82, .mov (.t 9), none⟩,
  ⟨some 83, .mov (.t 10), none⟩,
  ⟨some 84, .call (F "r07.Least") [.t 81, .t 82, .t 83] [], none⟩,
  ⟨none, .store 2 (.t 6) (.t 84), none⟩,
  ⟨some 7, .mov (.k (.int .i64 (0))), none⟩]
def c_r07_Close (F : String → Nat) : LC := (.seq (.reg (c_r07_Close_r0 F) [1, 2, 3, 6]) (.seq (.seq (.reg (c_r07_Close_r1 F) [1, 2, 3, 6, 8]) (.seq (.reg (c_r07_Close_r2 F) [1, 2, 3, 6, 8, 16]) (.cond (.t 16) (.seq (.reg (c_r07_Close_r3 F) [6, 7]) .ret) .skip))) (.seq (.dreg [(5, (some 16), [], false)] (c_r07_Close_r4 F) [1, 2, 3, 6, 9, 10]) (.seq (.seq (.reg (c_r07_Close_r5 F) [1, 2, 3, 6, 9, 10, 11]) (.block 0 (.loop [1, 2, 3, 6, 9, 10, 11] (c_r07_Close_b11 F)))) (.seq (.seq (.reg (c_r07_Close_r12 F) [2, 3, 6, 9, 10, 12]) (.block 2 (.loop [2, 3, 6, 9, 10, 12] (c_r07_Close_b18 F)))) (.seq (.reg (c_r07_Close_r19 F) [6, 7]) .ret))))))
def h_r07_Close : Hints := ⟨[], fun _ => [], tab [(0, [1, 2, 3, 6]), (1, [1, 2, 3, 6, 8]), (2, [1, 2, 3, 6, 8, 16]), (3, [6, 7]), (4, [1, 2, 3, 6, 9, 10]), (5, [1, 2, 3, 6, 9, 10, 11]), (6, [1, 2, 3, 6, 9, 10, 11, 30]), (7, [1, 2, 3, 6, 9, 10, 11]), (8, [1, 2, 3, 6, 9, 10, 11, 46]), (9, [6, 7]), (10, [1, 2, 3, 6, 9, 10, 11]), (11, [2, 3, 6, 9, 10, 12]), (12, [2, 3, 6, 9, 10, 12, 57]), (13, [2, 3, 6, 9, 10, 12]), (14, [2, 3, 6, 9, 10, 12, 73]), (15, [6, 7]), (16, [2, 3, 6, 9, 10, 12]), (17, [6, 7])], tab [(6, [1, 2, 3, 6, 9, 10, 11]), (12, [2, 3, 6, 9, 10, 12])]⟩

attribute [go_sem] c_r07_marked_r0 c_r07_marked_r1 c_r07_marked_r2 c_r07_marked_r3 c_r07_marked_r4 c_r07_marked_r5 c_r07_marked_r6 c_r07_marked_r8 c_r07_marked c_r07_Least_r0 c_r07_Least_r1 c_r07_Least_r2 c_r07_Least_r3 c_r07_Least_r4 c_r07_Least_r5 c_r07_Least_r6 c_r07_Least_r8 c_r07_Least c_r07_Close_r0 c_r07_Close_r1 c_r07_Close_r2 c_r07_Close_r3 c_r07_Close_r4 c_r07_Close_r5 c_r07_Close_r6 c_r07_Close_r7 c_r07_Close_r8 c_r07_Close_r9 c_r07_Close_r10 c_r07_Close_r12 c_r07_Close_r13 c_r07_Close_r14 c_r07_Close_r15 c_r07_Close_r16 c_r07_Close_r17 c_r07_Close_r19 c_r07_Close
def leastP (g : G) (bn be : List Bool) : Mo := ⟨sel (fun k : Nat => gt bn k || decide ((k : Int) ∈ endsL g (markL be))) bn.length, markL be⟩
section
variable (P : Program) (F : String → Nat)
def K_r07_marked : Prop := ∀ b : List Bool, b.length ≤ 1000 → FC P (F "r07.marked") [.lst 1 (bls b)] (.arr 1 (ints (markL b))) []
def K_r07_Least : Prop := ∀ (g : G) (bn be : List Bool), validG g = 0 → bn.length = g.n.length → be.length = g.e.length → FC P (F "r07.Least") [gD g, .lst 1 (bls bn), .lst 1 (bls be)] (mA (leastP g bn be)) []
def K_r07_Close : Prop := ∀ (g : G) (ns es : List Int), ns.length ≤ 1000000 → es.length ≤ 1000000 → FC P (F "r07.Close") [gD g, .lst 1 (ints ns), .lst 1 (ints es)] (.tup [mA (closeR g ns es).1, .int .i64 (closeR g ns es).2]) []
end
section
variable {P : Program} {F : String → Nat} {α : Type}
theorem w_r07_marked (b : List Bool) (hb : b.length ≤ 1000) : W P (c_r07_marked F) (Done [.t 2] [] (.arr 1 (ints (markL b))) []) (init [.lst 1 (bls b)]) := by
  refine W_of ?_
  have hM : markL b = sel (fun k : Nat => gt b k) b.length := rfl
  have sl := sel_len (fun k : Nat => gt b k)
  have ss := sel_succ (fun k : Nat => gt b k)
  have s0 := sel_zero (fun k : Nat => gt b k)
  rw [hM]
  clear hM
  generalize hS : sel (fun k : Nat => gt b k) = S at *
  simp (config := { maxSteps := 1000000 }) (disch := first | omega | (simp only [go_sem]; omega)) only [go_sem, ↓reduceIte]
  refine W_loop (fun i : Nat => ⟨[(0, .lst 1 (bls b)), (3, .sl 0 0 (S i).length), (4, .int .i64 i)], [(0, .arr 1 (ints (S i)))], 1⟩) (fun i => i ≤ b.length) (fun i => b.length - i) 0 ?_ ?_ ?_
  · simp (config := { maxSteps := 1000000 }) (disch := first | omega | (simp only [go_sem]; omega)) only [go_sem, ↓reduceIte, s0, ints_nil]
    rfl
  · simp
  · intro i hi
    have sli := sl i
    by_cases c : i < b.length
    · have g1 : decide ((i : Int) < b.length) = true := decide_eq_true (by omega)
      have hs := ss i
      generalize hb' : gt b i = t at *
      cases t
      · simp (config := { maxSteps := 1000000 }) (disch := first | omega | (simp only [go_sem]; omega)) only [go_sem, ↓reduceIte, c_r07_marked_b7, g1, hb']
        exact ⟨i + 1, by simp [hs], by omega, by omega⟩
      · simp (config := { maxSteps := 1000000 }) (disch := first | omega | (simp only [go_sem]; omega)) only [go_sem, ↓reduceIte, c_r07_marked_b7, g1, hb']
        exact ⟨i + 1, by simp [hs], by omega, by omega⟩
    · have g1 : decide ((i : Int) < b.length) = false := decide_eq_false (by omega)
      obtain rfl : i = b.length := by omega
      simp (config := { maxSteps := 1000000 }) (disch := first | omega | (simp only [go_sem]; omega)) only [go_sem, ↓reduceIte, c_r07_marked_b7, g1]
theorem markL_mem {b : List Bool} {k : Nat} : (k : Int) ∈ markL b ↔ k < b.length ∧ gt b k = true := sel_memN
set_option maxHeartbeats 1000000 in
theorem w_r07_Least (hm : K_r07_marked P F) (g : G) (bn be : List Bool) (hv : validG g = 0) (h1 : bn.length = g.n.length) (h2 : be.length = g.e.length) : W P (c_r07_Least F) (Done [.c 6 true 2] [] (mA (leastP g bn be)) []) (init [gD g, .lst 1 (bls bn), .lst 1 (bls be)]) := by
  refine W_of ?_
  have vs := valid_spec hv
  have hef : ∀ i : Nat, i < g.e.length → (0 ≤ (gt g.e i).f ∧ (gt g.e i).f < g.n.length) ∧ (0 ≤ (gt g.e i).o ∧ (gt g.e i).o < g.n.length) := fun i hi => (edge_fits hv (i := i) (by omega)).2
  have hL : leastP g bn be = ⟨sel (fun k : Nat => gt bn k || decide ((k : Int) ∈ endsL g (markL be))) bn.length, markL be⟩ := rfl
  have r2 := hm be (by omega)
  have hm1 := fun z : List Bool => hm z
  have ends : ∀ (i : Nat) (x : Int), x ∈ endsL g ((markL be).filter fun e => decide (e < ((i + 1 : Nat) : Int))) ↔ x ∈ endsL g ((markL be).filter fun e => decide (e < (i : Int))) ∨ (i < be.length ∧ gt be i = true ∧ ((gt g.e i).f = x ∨ (gt g.e i).o = x)) := fun i x => by
    rw [ends_mem, ends_mem]
    constructor
    · rintro ⟨e, he, hx⟩
      rw [List.mem_filter] at he
      obtain ⟨he, hlt⟩ := he
      obtain ⟨k, hk, hk2, rfl⟩ := sel_mem.1 he
      by_cases c : k = i
      · subst c; exact .inr ⟨hk, hk2, hx⟩
      · refine .inl ⟨k, List.mem_filter.2 ⟨he, ?_⟩, hx⟩
        simp at hlt ⊢
        omega
    · rintro (⟨e, he, hx⟩ | ⟨h3, h4, hx⟩)
      · rw [List.mem_filter] at he
        refine ⟨e, List.mem_filter.2 ⟨he.1, ?_⟩, hx⟩
        have := he.2
        simp at this ⊢
        omega
      · exact ⟨i, List.mem_filter.2 ⟨markL_mem.2 ⟨h3, h4⟩, by simp; omega⟩, hx⟩
  have endsZ : ∀ x : Int, ¬ x ∈ endsL g ((markL be).filter fun e => decide (e < ((0 : Nat) : Int))) := fun x h => by
    obtain ⟨e, he, _⟩ := ends_mem.1 h
    rw [List.mem_filter] at he
    obtain ⟨k, _, _, rfl⟩ := sel_mem.1 he.1
    have := he.2
    simp at this
    omega
  have endsF : (markL be).filter (fun e => decide (e < (be.length : Int))) = markL be := List.filter_eq_self.2 fun e he => by
    obtain ⟨k, hk, _, rfl⟩ := sel_mem.1 he
    simpa using hk
  rw [hL]
  clear hL
  obtain ⟨gn, ge⟩ := g
  simp only [gD] at *
  simp (config := { maxSteps := 1000000 }) (disch := first | omega | (simp only [go_sem]; omega)) only [go_sem, ↓reduceIte]
  refine W_loop (fun s : Nat × List Bool => ⟨[(2, .lst 1 (bls be)), (3, .pt 0 0), (6, .pt 3 0), (7, .sl 4 0 gn.length), (8, .int .i64 s.1)], [(0, .box [.lst 1 (ints gn), .lst 3 (eds ge)]), (1, .arr 1 []), (2, .arr 1 []), (3, .box [.sl 1 0 0, .sl 2 0 0]), (4, .arr 1 (bls s.2))], 5⟩)
    (fun s => s.1 ≤ be.length ∧ s.2.length = gn.length ∧ ∀ k : Nat, k < gn.length → gt s.2 k = (gt bn k || decide ((k : Int) ∈ endsL ⟨gn, ge⟩ ((markL be).filter fun e => decide (e < (s.1 : Int)))))) (fun s => be.length - s.1) (0, bn) ?_ ?_ ?_
  · simp (config := { maxSteps := 1000000 }) (disch := first | omega | (simp only [go_sem]; omega)) only [go_sem, ↓reduceIte, h1]
    rfl
  · exact ⟨by simp, h1, fun k hk => by rw [decide_eq_false (endsZ k)]; simp⟩
  · rintro ⟨i, z⟩ ⟨i1, i2, i3⟩
    simp only at i1 i2 i3
    by_cases c : i < be.length
    · have g1 : decide ((i : Int) < be.length) = true := decide_eq_true (by omega)
      obtain ⟨⟨f1, f2⟩, o1, o2⟩ := hef i (by omega)
      generalize hb' : gt be i = t at *
      cases t
      · simp (config := { maxSteps := 1000000 }) (disch := first | omega | (simp only [go_sem]; omega)) only [go_sem, ↓reduceIte, c_r07_Least_b7, g1, hb']
        refine ⟨(i + 1, z), by simp, ⟨by simp only; omega, i2, fun k hk => ?_⟩, by simp only; omega⟩
        rw [i3 k hk]
        have := ends i k
        rw [hb'] at this
        have this' : (k : Int) ∈ endsL ⟨gn, ge⟩ ((markL be).filter fun e => decide (e < ((i + 1 : Nat) : Int))) ↔ (k : Int) ∈ endsL ⟨gn, ge⟩ ((markL be).filter fun e => decide (e < (i : Int))) := by rw [this]; simp
        simp only
        rw [decide_eq_decide.2 this']
      · simp (config := { maxSteps := 1000000 }) (disch := first | omega | (simp only [go_sem]; omega)) only [go_sem, ↓reduceIte, c_r07_Least_b7, g1, hb', i2]
        refine ⟨(i + 1, (z.set (gt ge i).f.toNat true).set (gt ge i).o.toNat true), by simp, ⟨by simp only; omega, by simp [i2], fun k hk => ?_⟩, by simp only; omega⟩
        have := ends i k
        rw [hb'] at this
        have this' : (k : Int) ∈ endsL ⟨gn, ge⟩ ((markL be).filter fun e => decide (e < ((i + 1 : Nat) : Int))) ↔ (k : Int) ∈ endsL ⟨gn, ge⟩ ((markL be).filter fun e => decide (e < (i : Int))) ∨ ((gt ge i).f = (k : Int) ∨ (gt ge i).o = (k : Int)) := by rw [this]; simp [c]
        have hdec : decide ((k : Int) ∈ endsL ⟨gn, ge⟩ ((markL be).filter fun e => decide (e < ((i + 1 : Nat) : Int)))) = (decide ((k : Int) ∈ endsL ⟨gn, ge⟩ ((markL be).filter fun e => decide (e < (i : Int)))) || (decide ((gt ge i).f = (k : Int)) || decide ((gt ge i).o = (k : Int)))) := by
          rw [Bool.eq_iff_iff]
          simp only [decide_eq_true_eq, Bool.or_eq_true]
          exact this'
        simp only
        rw [gt_setB (by simp; omega), gt_setB (by omega), i3 k hk, hdec]
        by_cases e1 : (gt ge i).o.toNat = k
        · have : (gt ge i).o = (k : Int) := by omega
          simp [e1, this, c]
        · by_cases e2 : (gt ge i).f.toNat = k
          · have : (gt ge i).f = (k : Int) := by omega
            simp [e1, e2, this, c]
          · have q1 : ¬ (gt ge i).o = (k : Int) := by omega
            have q2 : ¬ (gt ge i).f = (k : Int) := by omega
            simp [e1, e2, q1, q2]
    · have g1 : decide ((i : Int) < be.length) = false := decide_eq_false (by omega)
      obtain rfl : i = be.length := by omega
      rw [endsF] at i3
      have hz : markL z = sel (fun k : Nat => gt bn k || decide ((k : Int) ∈ endsL ⟨gn, ge⟩ (markL be))) bn.length := by
        refine asc_ext (sel_pair _ _) (sel_pair _ _) fun x => ?_
        rw [markL_x, sel_mem]
        constructor
        · rintro ⟨k, k1, k2, rfl⟩; exact ⟨k, by omega, by rw [← i3 k (by omega)]; exact k2, rfl⟩
        · rintro ⟨k, k1, k2, rfl⟩; exact ⟨k, by omega, by rw [i3 k (by omega)]; exact k2, rfl⟩
      have r1 := hm1 z (by omega)
      rw [hz] at r1
      generalize sel (fun k : Nat => gt bn k || decide ((k : Int) ∈ endsL ⟨gn, ge⟩ (markL be))) bn.length = w1 at *
      simp (config := { maxSteps := 1000000 }) (disch := first | omega | (simp only [go_sem]; omega)) only [go_sem, ↓reduceIte, c_r07_Least_b7, g1, i2]
      refine call_by r1 ?_
      simp (config := { maxSteps := 1000000 }) (disch := first | omega | (simp only [go_sem]; omega)) only [go_sem, ↓reduceIte]
      refine call_by r2 ?_
      simp (config := { maxSteps := 1000000 }) (disch := first | omega | (simp only [go_sem]; omega)) only [go_sem, ↓reduceIte]
      try rfl
theorem close_least {g : G} {ns es : List Int} {bn be : List Bool} (h1 : bn.length = g.n.length) (h2 : be.length = g.e.length) (h3 : ∀ k : Nat, k < g.n.length → gt bn k = decide ((k : Int) ∈ ns)) (h4 : ∀ k : Nat, k < g.e.length → gt be k = decide ((k : Int) ∈ es)) (h5 : ∀ x ∈ es, 0 ≤ x ∧ x < g.e.length) : leastP g bn be = closeP g ns es := by
  have hM : markL be = sel (fun k : Nat => decide ((k : Int) ∈ es)) g.e.length := asc_ext (sel_pair _ _) (sel_pair _ _) fun x => by
    rw [markL_x, sel_mem]
    constructor
    · rintro ⟨k, k1, k2, rfl⟩; exact ⟨k, by omega, by rw [← h4 k (by omega)]; exact k2, rfl⟩
    · rintro ⟨k, k1, k2, rfl⟩; exact ⟨k, by omega, by rw [h4 k (by omega)]; exact k2, rfl⟩
  have hE : ∀ x, x ∈ endsL g (markL be) ↔ x ∈ endsL g es := fun x => by
    rw [ends_mem, ends_mem, hM]
    constructor
    · rintro ⟨e, he, hx⟩
      obtain ⟨k, _, k2, rfl⟩ := sel_mem.1 he
      exact ⟨k, by simpa using k2, hx⟩
    · rintro ⟨e, he, hx⟩
      obtain ⟨k, hk, rfl⟩ := gtI (h5 e he)
      exact ⟨k, sel_memN.2 ⟨hk, by simpa using he⟩, hx⟩
  refine mo_extP (asc_ext (sel_pair _ _) (sel_pair _ _) fun x => ?_) hM
  rw [show (leastP g bn be).n = sel (fun k : Nat => gt bn k || decide ((k : Int) ∈ endsL g (markL be))) bn.length from rfl, show (closeP g ns es).n = sel (fun k : Nat => decide ((k : Int) ∈ ns) || decide ((k : Int) ∈ endsL g es)) g.n.length from rfl, sel_mem, sel_mem]
  constructor
  · rintro ⟨k, k1, k2, rfl⟩
    refine ⟨k, by omega, ?_, rfl⟩
    rw [h3 k (by omega), decide_eq_decide.2 (hE k)] at k2
    exact k2
  · rintro ⟨k, k1, k2, rfl⟩
    refine ⟨k, by omega, ?_, rfl⟩
    rw [h3 k (by omega), decide_eq_decide.2 (hE k)]
    exact k2
set_option maxHeartbeats 1000000 in
theorem w_r07_Close (hv : K_r05_Valid P F) (hl : K_r07_Least P F) (g : G) (ns es : List Int) (h1 : ns.length ≤ 1000000) (h2 : es.length ≤ 1000000) : W P (c_r07_Close F) (Done [.c 6 true 2, .t 7] [] (.tup [mA (closeR g ns es).1, .int .i64 (closeR g ns es).2]) []) (init [gD g, .lst 1 (ints ns), .lst 1 (ints es)]) := by
  refine W_of ?_
  have r1 := hv g
  have hR : closeR g ns es = if validG g ≠ 0 then (m0, validG g) else if ns.all (inB g.n.length) && es.all (inB g.e.length) then (closeP g ns es, 0) else (m0, 6) := rfl
  by_cases c0 : validG g = 0
  case neg =>
    rw [if_pos c0] at hR
    rw [hR]
    generalize validG g = v at *
    simp only [gD] at *
    simp (config := { maxSteps := 1000000 }) (disch := first | omega | (simp only [go_sem]; omega)) only [go_sem, ↓reduceIte]
    refine call_by r1 ?_
    simp (config := { maxSteps := 1000000 }) (disch := first | omega | (simp only [go_sem]; omega)) only [go_sem, ↓reduceIte, c0]
    simp [m0, mA, ints]
  rw [if_neg (by simp [c0])] at hR
  rw [c0] at r1
  have vs := valid_spec c0
  have hL := fun bn be => hl g bn be c0
  have hC := @close_least g ns es
  have bad : ∀ i : Nat, (i < ns.length ∧ ¬ (0 ≤ gt ns i ∧ gt ns i < g.n.length)) ∨ (i < es.length ∧ ¬ (0 ≤ gt es i ∧ gt es i < g.e.length)) → closeR g ns es = (m0, 6) := fun i h => by
    rw [hR, if_neg]
    rw [Bool.and_eq_true, inB_all, inB_all]
    rintro ⟨q1, q2⟩
    rcases h with ⟨q3, q4⟩ | ⟨q3, q4⟩
    · exact q4 (q1 i q3)
    · exact q4 (q2 i q3)
  have good : (∀ i : Nat, i < ns.length → 0 ≤ gt ns i ∧ gt ns i < g.n.length) → (∀ i : Nat, i < es.length → 0 ≤ gt es i ∧ gt es i < g.e.length) → closeR g ns es = (closeP g ns es, 0) := fun q1 q2 => by
    rw [hR, if_pos (by rw [Bool.and_eq_true, inB_all, inB_all]; exact ⟨q1, q2⟩)]
  clear hR c0
  generalize closeR g ns es = R at *
  obtain ⟨gn, ge⟩ := g
  simp only [gD] at *
  simp (config := { maxSteps := 1000000 }) (disch := first | omega | (simp only [go_sem]; omega)) only [go_sem, ↓reduceIte]
  refine call_by r1 ?_
  simp (config := { maxSteps := 1000000 }) (disch := first | omega | (simp only [go_sem]; omega)) only [go_sem, ↓reduceIte]
  refine W_loop (fun s : Nat × List Bool => ⟨[(1, .lst 1 (ints ns)), (2, .lst 1 (ints es)), (3, .pt 0 0), (6, .pt 3 0), (9, .sl 4 0 gn.length), (10, .sl 5 0 ge.length), (11, .int .i64 s.1)],
    [(0, .box [.lst 1 (ints gn), .lst 3 (eds ge)]), (1, .arr 1 []), (2, .arr 1 []), (3, .box [.sl 1 0 0, .sl 2 0 0]), (4, .arr 1 (bls s.2)), (5, .arr 1 (bls (List.replicate ge.length false)))], 6⟩)
    (fun s => s.1 ≤ ns.length ∧ s.2.length = gn.length ∧ (∀ i : Nat, i < s.1 → 0 ≤ gt ns i ∧ gt ns i < gn.length) ∧ ∀ k : Nat, k < gn.length → gt s.2 k = decide ((k : Int) ∈ ns.take s.1)) (fun s => ns.length - s.1) (0, List.replicate gn.length false) ?_ ?_ ?_
  · simp (config := { maxSteps := 1000000 }) (disch := first | omega | (simp only [go_sem]; omega)) only [go_sem, ↓reduceIte]
    rfl
  · refine ⟨by simp, by simp, fun k hk => by simp only at hk; omega, fun k hk => ?_⟩
    rw [gt_nat (by simpa using hk)]
    simp
  · rintro ⟨i, z⟩ ⟨i1, i2, i3, i4⟩
    simp only at i1 i2 i3 i4
    by_cases c : i < ns.length
    · have g1 : decide ((i : Int) < ns.length) = true := decide_eq_true (by omega)
      by_cases d : 0 ≤ gt ns i ∧ gt ns i < gn.length
      · have g2 : decide (gt ns i < 0) = false := decide_eq_false (by omega)
        have g3 : decide ((gn.length : Int) ≤ gt ns i) = false := decide_eq_false (by omega)
        simp (config := { maxSteps := 1000000 }) (disch := first | omega | (simp only [go_sem]; omega)) only [go_sem, ↓reduceIte, c_r07_Close_b11, g1, g2, g3, i2]
        refine ⟨(i + 1, z.set (gt ns i).toNat true), by simp, ⟨by simp only; omega, by simp [i2], fun k hk => ?_, fun k hk => ?_⟩, by simp only; omega⟩
        · simp only at hk
          by_cases e : k = i
          · subst e; exact d
          · exact i3 k (by omega)
        · simp only
          rw [gt_setB (by omega), i4 k hk, take_gt (by omega)]
          by_cases e : (gt ns i).toNat = k
          · have : (k : Int) = gt ns i := by omega
            simp [e, this]
          · have : ¬ (k : Int) = gt ns i := by omega
            simp [e, this]
      · rw [bad i (.inl ⟨c, d⟩)]
        by_cases d2 : gt ns i < 0
        · have g2 : decide (gt ns i < 0) = true := decide_eq_true d2
          simp (config := { maxSteps := 1000000 }) (disch := first | omega | (simp only [go_sem]; omega)) only [go_sem, ↓reduceIte, c_r07_Close_b11, g1, g2]
          simp [m0, mA, ints]
        · have g2 : decide (gt ns i < 0) = false := decide_eq_false d2
          have g3 : decide ((gn.length : Int) ≤ gt ns i) = true := decide_eq_true (by omega)
          simp (config := { maxSteps := 1000000 }) (disch := first | omega | (simp only [go_sem]; omega)) only [go_sem, ↓reduceIte, c_r07_Close_b11, g1, g2, g3, i2]
          simp [m0, mA, ints]
    · have g1 : decide ((i : Int) < ns.length) = false := decide_eq_false (by omega)
      obtain rfl : i = ns.length := by omega
      rw [List.take_length] at i4
      simp (config := { maxSteps := 1000000 }) (disch := first | omega | (simp only [go_sem]; omega)) only [go_sem, ↓reduceIte, c_r07_Close_b11, g1, i2]
      refine W_loop (fun s : Nat × List Bool => ⟨[(2, .lst 1 (ints es)), (3, .pt 0 0), (6, .pt 3 0), (9, .sl 4 0 gn.length), (10, .sl 5 0 ge.length), (12, .int .i64 s.1)],
        [(0, .box [.lst 1 (ints gn), .lst 3 (eds ge)]), (1, .arr 1 []), (2, .arr 1 []), (3, .box [.sl 1 0 0, .sl 2 0 0]), (4, .arr 1 (bls z)), (5, .arr 1 (bls s.2))], 6⟩)
        (fun s => s.1 ≤ es.length ∧ s.2.length = ge.length ∧ (∀ i : Nat, i < s.1 → 0 ≤ gt es i ∧ gt es i < ge.length) ∧ ∀ k : Nat, k < ge.length → gt s.2 k = decide ((k : Int) ∈ es.take s.1)) (fun s => es.length - s.1) (0, List.replicate ge.length false) ?_ ?_ ?_
      · simp (config := { maxSteps := 1000000 }) (disch := first | omega | (simp only [go_sem]; omega)) only [go_sem, ↓reduceIte, i2]
        rfl
      · refine ⟨by simp, by simp, fun k hk => by simp only at hk; omega, fun k hk => ?_⟩
        rw [gt_nat (by simpa using hk)]
        simp
      · rintro ⟨i, y⟩ ⟨j1, j2, j3, j4⟩
        simp only at j1 j2 j3 j4
        by_cases c : i < es.length
        · have g1 : decide ((i : Int) < es.length) = true := decide_eq_true (by omega)
          by_cases d : 0 ≤ gt es i ∧ gt es i < ge.length
          · have g2 : decide (gt es i < 0) = false := decide_eq_false (by omega)
            have g3 : decide ((ge.length : Int) ≤ gt es i) = false := decide_eq_false (by omega)
            simp (config := { maxSteps := 1000000 }) (disch := first | omega | (simp only [go_sem]; omega)) only [go_sem, ↓reduceIte, c_r07_Close_b18, g1, g2, g3, j2]
            refine ⟨(i + 1, y.set (gt es i).toNat true), by simp, ⟨by simp only; omega, by simp [j2], fun k hk => ?_, fun k hk => ?_⟩, by simp only; omega⟩
            · simp only at hk
              by_cases e : k = i
              · subst e; exact d
              · exact j3 k (by omega)
            · simp only
              rw [gt_setB (by omega), j4 k hk, take_gt (by omega)]
              by_cases e : (gt es i).toNat = k
              · have : (k : Int) = gt es i := by omega
                simp [e, this]
              · have : ¬ (k : Int) = gt es i := by omega
                simp [e, this]
          · rw [bad i (.inr ⟨c, d⟩)]
            by_cases d2 : gt es i < 0
            · have g2 : decide (gt es i < 0) = true := decide_eq_true d2
              simp (config := { maxSteps := 1000000 }) (disch := first | omega | (simp only [go_sem]; omega)) only [go_sem, ↓reduceIte, c_r07_Close_b18, g1, g2]
              simp [m0, mA, ints]
            · have g2 : decide (gt es i < 0) = false := decide_eq_false d2
              have g3 : decide ((ge.length : Int) ≤ gt es i) = true := decide_eq_true (by omega)
              simp (config := { maxSteps := 1000000 }) (disch := first | omega | (simp only [go_sem]; omega)) only [go_sem, ↓reduceIte, c_r07_Close_b18, g1, g2, g3, j2]
              simp [m0, mA, ints]
        · have g1 : decide ((i : Int) < es.length) = false := decide_eq_false (by omega)
          obtain rfl : i = es.length := by omega
          rw [List.take_length] at j4
          rw [good i3 j3]
          have r2 := hL z y i2 j2
          rw [hC i2 j2 i4 j4 (fun x hx => by obtain ⟨k, hk, rfl⟩ := mem_gt hx; exact j3 k hk)] at r2
          generalize closeP ⟨gn, ge⟩ ns es = cp at *
          obtain ⟨cn, ce⟩ := cp
          simp only [mA] at r2
          simp (config := { maxSteps := 1000000 }) (disch := first | omega | (simp only [go_sem]; omega)) only [go_sem, ↓reduceIte, c_r07_Close_b18, g1, i2, j2]
          refine call_by r2 ?_
          simp (config := { maxSteps := 1000000 }) (disch := first | omega | (simp only [go_sem]; omega)) only [go_sem, ↓reduceIte]
          try rfl
end
end Go.Am
namespace Go.Am
open Go
set_option linter.unusedVariables false
set_option linter.unusedSimpArgs false
attribute [local irreducible] W
/- r07.Made -/
def c_r07_Made_r0 (F : String → Nat) : List LI := [⟨some 2, .bx (.t 0), none⟩,
  ⟨some 4, .alloc [.nl 1, .nl 1], none⟩]
def c_r07_Made_r1 (F : String → Nat) : List LI := [⟨some 9, .fad 0 (.t 2), none⟩,
  ⟨some 10, .load false 1 (.t 9), none⟩,
  ⟨some 11, .len (.t 10), none⟩,
  ⟨some 12, .makeSl 1 1 (.bool false) (.t 11), none⟩,
  ⟨some 13, .fad 1 (.t 2), none⟩,
  ⟨some 14, .load false 1 (.t 13), none⟩,
  ⟨some 15, .len (.t 14), none⟩,
  ⟨some 16, .makeSl 1 1 (.bool false) (.t 15), none⟩,
  ⟨some 5, .mov (.t 12), none⟩,
  ⟨some 6, .mov (.t 16), none⟩]
def c_r07_Made_r2 (F : String → Nat) : List LI := [⟨some 7, .mov (.k (.int .i64 (0))), none⟩]
def c_r07_Made_r3 (F : String → Nat) : List LI := [⟨some 17, .mov (.t 7), none⟩,
  ⟨some 18, .mov (.t 5), none⟩,
  ⟨some 19, .len (.t 18), none⟩,
  ⟨some 20, .bin .lss (.t 17) (.t 19), none⟩]
def c_r07_Made_r4 (F : String → Nat) : List LI := [⟨some 23, .mov (.t 5), none⟩,
  ⟨some 24, .mov (.t 7), none⟩,
  ⟨some 25, .mov (.t 1), none⟩,
  ⟨some 26, .mov (.t 7), none⟩,
  ⟨some 27, .bin .rem (.t 26) (.k (.int .i64 (64))), none⟩,
  ⟨some 28, .bin .shr (.t 25) (.t 27), none⟩,
  ⟨some 29, .bin .and (.t 28) (.k (.int .u64 (1))), none⟩,
  ⟨some 30, .bin .eql (.t 29) (.k (.int .u64 (1))), none⟩,
  ⟨some 31, .iad 1 (.t 23) (.t 24), none⟩,
  ⟨none, .store 1 (.t 31) (.t 30), none⟩]
def c_r07_Made_r5 (F : String → Nat) : List LI := [⟨some 21, .mov (.t 7), none⟩,
  ⟨some 22, .bin .add (.t 21) (.k (.int .i64 (1))), none⟩,
  ⟨some 7, .mov (.t 22), none⟩]
def c_r07_Made_b6 (F : String → Nat) : LC := (.seq (.seq (.reg (c_r07_Made_r3 F) [1, 2, 4, 5, 6, 7, 20]) (.cond (.t 20) .skip (.exit 0))) (.seq (.block 1 (.reg (c_r07_Made_r4 F) [1, 2, 4, 5, 6, 7])) (.reg (c_r07_Made_r5 F) [1, 2, 4, 5, 6, 7])))
def c_r07_Made_r7 (F : String → Nat) : List LI := [⟨some 8, .mov (.k (.int .i64 (0))), none⟩]
def c_r07_Made_r8 (F : String → Nat) : List LI := [⟨some 32, .mov (.t 8), none⟩,
  ⟨some 33, .mov (.t 6), none⟩,
  ⟨some 34, .len (.t 33), none⟩,
  ⟨some 35, .bin .lss (.t 32) (.t 34), none⟩]
def c_r07_Made_r9 (F : String → Nat) : List LI := [⟨some 38, .mov (.t 6), none⟩,
  ⟨some 39, .mov (.t 8), none⟩,
  ⟨some 40, .mov (.t 1), none⟩,
  ⟨some 41, .mov (.t 5), none⟩,
  ⟨some 42, .len (.t 41), none⟩,
  ⟨some 43, .mov (.t 8), none⟩,
  ⟨some 44, .bin .add (.t 42) (.t 43), none⟩,
  ⟨some 45, .bin .rem (.t 44) (.k (.int .i64 (64))), none⟩,
  ⟨some 46, .bin .shr (.t 40) (.t 45), none⟩,
  ⟨some 47, .bin .and (.t 46) (.k (.int .u64 (1))), none⟩,
  ⟨some 48, .bin .eql (.t 47) (.k (.int .u64 (1))), none⟩,
  ⟨some 49, .iad 1 (.t 38) (.t 39), none⟩,
  ⟨none, .store 1 (.t 49) (.t 48), none⟩]
def c_r07_Made_r10 (F : String → Nat) : List LI := [⟨some 36, .mov (.t 8), none⟩,
  ⟨some 37, .bin .add (.t 36) (.k (.int .i64 (1))), none⟩,
  ⟨some 8, .mov (.t 37), none⟩]
def c_r07_Made_b11 (F : String → Nat) : LC := (.seq (.seq (.reg (c_r07_Made_r8 F) [1, 2, 4, 5, 6, 8, 35]) (.cond (.t 35) .skip (.exit 2))) (.seq (.block 3 (.reg (c_r07_Made_r9 F) [1, 2, 4, 5, 6, 8])) (.reg (c_r07_Made_r10 F) [1, 2, 4, 5, 6, 8])))
def c_r07_Made_r12 (F : String → Nat) : List LI := [⟨some 50, .load true 2 (.t 2), none⟩,
  ⟨some 51, .mov (.t 5), none⟩,
  ⟨some 52, .mov (.t 6), none⟩,
  ⟨some 53, .call (F "r07.Least") [.t 50, .t 51, .t 52] [], none⟩,
  ⟨none, .store 2 (.t 4) (.t 53), none⟩]
def c_r07_Made (F : String → Nat) : LC := (.seq (.reg (c_r07_Made_r0 F) [1, 2, 4]) (.seq (.dreg [(5, (some 16), [], false)] (c_r07_Made_r1 F) [1, 2, 4, 5, 6]) (.seq (.seq (.reg (c_r07_Made_r2 F) [1, 2, 4, 5, 6, 7]) (.block 0 (.loop [1, 2, 4, 5, 6, 7] (c_r07_Made_b6 F)))) (.seq (.seq (.reg (c_r07_Made_r7 F) [1, 2, 4, 5, 6, 8]) (.block 2 (.loop [1, 2, 4, 5, 6, 8] (c_r07_Made_b11 F)))) (.seq (.reg (c_r07_Made_r12 F) [4]) .ret)))))
def h_r07_Made : Hints := ⟨[], fun _ => [], tab [(0, [1, 2, 4]), (1, [1, 2, 4, 5, 6]), (2, [1, 2, 4, 5, 6, 7]), (3, [1, 2, 4, 5, 6, 7, 20]), (4, [1, 2, 4, 5, 6, 7]), (5, [1, 2, 4, 5, 6, 7]), (6, [1, 2, 4, 5, 6, 8]), (7, [1, 2, 4, 5, 6, 8, 35]), (8, [1, 2, 4, 5, 6, 8]), (9, [1, 2, 4, 5, 6, 8]), (10, [4])], tab [(3, [1, 2, 4, 5, 6, 7]), (7, [1, 2, 4, 5, 6, 8])]⟩

attribute [go_sem] c_r07_Made_r0 c_r07_Made_r1 c_r07_Made_r2 c_r07_Made_r3 c_r07_Made_r4 c_r07_Made_r5 c_r07_Made_r7 c_r07_Made_r8 c_r07_Made_r9 c_r07_Made_r10 c_r07_Made_r12 c_r07_Made
/-- The bit of a number. -/
def bitB (s i : Int) : Bool := decide (IntKind.u64.wrap ((BitVec.ofInt 64 (s.fdiv (2 ^ (min (i.tmod 64).toNat 64))) &&& 1#64).toNat : Int) = 1)
def bitL (s : Int) (n m : Nat) : List Bool := (List.range m).map fun k : Nat => bitB s ((n : Int) + (k : Int))
/-- The least part with the elements that bits name. -/
def partP (g : G) (s : Int) : Mo := leastP g (bitL s 0 g.n.length) (bitL s g.n.length g.e.length)
section
variable (P : Program) (F : String → Nat)
def K_r07_Made : Prop := ∀ (g : G) (s : Int), validG g = 0 → FC P (F "r07.Made") [gD g, .int .u64 s] (mA (partP g s)) []
end
section
variable {P : Program} {F : String → Nat} {α : Type}
theorem bitL_len (s : Int) (n m : Nat) : (bitL s n m).length = m := by simp [bitL]
theorem bitL_gt {s : Int} {n m k : Nat} (h : k < m) : gt (bitL s n m) (k : Int) = bitB s ((n : Int) + k) := by
  rw [gt_nat (by rw [bitL_len]; exact h)]
  simp [bitL]
theorem least_close {g : G} {bn be : List Bool} (h1 : bn.length = g.n.length) (h2 : be.length = g.e.length) : leastP g bn be = closeP g (markL bn) (markL be) := by
  have hm : ∀ (b : List Bool) (k : Nat), k < b.length → gt b k = decide ((k : Int) ∈ markL b) := fun b k hk => by
    rw [Bool.eq_iff_iff, decide_eq_true_eq, markL_mem]
    exact ⟨fun h => ⟨hk, h⟩, fun h => h.2⟩
  refine close_least h1 h2 (fun k hk => hm bn k (by omega)) (fun k hk => hm be k (by omega)) fun x hx => ?_
  obtain ⟨k, hk, _, rfl⟩ := sel_mem.1 hx
  omega
theorem partP_ok {g : G} {s : Int} (hv : validG g = 0) : PK g (partP g s) := by
  unfold partP
  rw [least_close (bitL_len _ _ _) (bitL_len _ _ _)]
  exact closeP_ok hv
theorem w_r07_Made (hl : K_r07_Least P F) (g : G) (s : Int) (hv : validG g = 0) : W P (c_r07_Made F) (Done [.c 4 true 2] [] (mA (partP g s)) []) (init [gD g, .int .u64 s]) := by
  refine W_of ?_
  have vs := valid_spec hv
  have r1 := hl g (bitL s 0 g.n.length) (bitL s g.n.length g.e.length) hv (bitL_len _ _ _) (bitL_len _ _ _)
  have hL : partP g s = leastP g (bitL s 0 g.n.length) (bitL s g.n.length g.e.length) := rfl
  rw [hL]
  clear hL
  have b0 := bitL_len s 0 g.n.length
  have b1 := bitL_len s g.n.length g.e.length
  have bg0 : ∀ k : Nat, k < g.n.length → gt (bitL s 0 g.n.length) (k : Int) = bitB s (k : Int) := fun k hk => by rw [bitL_gt hk]; simp
  have bg1 : ∀ k : Nat, k < g.e.length → gt (bitL s g.n.length g.e.length) (k : Int) = bitB s ((g.n.length : Int) + k) := fun k hk => bitL_gt hk
  generalize bitL s 0 g.n.length = x0 at *
  generalize bitL s g.n.length g.e.length = x1 at *
  have hnb : ∀ i : Int, 0 ≤ i → ¬ i.tmod 64 < 0 := fun i h => by rw [Int.tmod_eq_emod_of_nonneg h]; omega
  have hb : ∀ i : Int, decide (IntKind.u64.wrap ((BitVec.ofInt 64 (s.fdiv (2 ^ (min (i.tmod 64).toNat 64))) &&& 1#64).toNat : Int) = 1) = bitB s i := fun i => rfl
  have z0 : ¬ ((64 : Int) = 0) := by omega
  obtain ⟨gn, ge⟩ := g
  simp only [gD] at *
  simp (config := { maxSteps := 1000000 }) (disch := first | omega | (simp only [go_sem]; omega)) only [go_sem, ↓reduceIte]
  refine W_loop (fun t : Nat × List Bool => ⟨[(1, .int .u64 s), (2, .pt 0 0), (4, .pt 3 0), (5, .sl 4 0 gn.length), (6, .sl 5 0 ge.length), (7, .int .i64 t.1)],
    [(0, .box [.lst 1 (ints gn), .lst 3 (eds ge)]), (1, .arr 1 []), (2, .arr 1 []), (3, .box [.sl 1 0 0, .sl 2 0 0]), (4, .arr 1 (bls t.2)), (5, .arr 1 (bls (List.replicate ge.length false)))], 6⟩)
    (fun t => t.1 ≤ gn.length ∧ t.2.length = gn.length ∧ ∀ k : Nat, k < t.1 → gt t.2 k = bitB s k) (fun t => gn.length - t.1) (0, List.replicate gn.length false) ?_ ?_ ?_
  · simp (config := { maxSteps := 1000000 }) (disch := first | omega | (simp only [go_sem]; omega)) only [go_sem, ↓reduceIte]
    rfl
  · exact ⟨by simp, by simp, fun k hk => by simp at hk⟩
  · rintro ⟨i, z⟩ ⟨i1, i2, i3⟩
    simp only at i1 i2 i3
    by_cases c : i < gn.length
    · have g1 : decide ((i : Int) < gn.length) = true := decide_eq_true (by omega)
      have hi := hnb i (by omega)
      have hbi := hb i
      simp (config := { maxSteps := 1000000 }) (disch := first | omega | (simp only [go_sem]; omega)) only [go_sem, ↓reduceIte, c_r07_Made_b6, g1, z0, hi, hbi, i2]
      refine ⟨(i + 1, z.set i (bitB s i)), by simp; rfl, ⟨by simp only; omega, by simp [i2], fun k hk => ?_⟩, by simp only; omega⟩
      simp only at hk
      simp only
      rw [gt_setB (by omega)]
      by_cases e : i = k
      · subst e; simp
      · rw [if_neg e]; exact i3 k (by omega)
    · have g1 : decide ((i : Int) < gn.length) = false := decide_eq_false (by omega)
      obtain rfl : i = gn.length := by omega
      have hz : z = x0 := list_ext_gt (by omega) fun k hk => by rw [i3 k (by omega), bg0 k (by omega)]
      subst hz
      clear i3
      simp (config := { maxSteps := 1000000 }) (disch := first | omega | (simp only [go_sem]; omega)) only [go_sem, ↓reduceIte, c_r07_Made_b6, g1, i2]
      refine W_loop (fun t : Nat × List Bool => ⟨[(1, .int .u64 s), (2, .pt 0 0), (4, .pt 3 0), (5, .sl 4 0 gn.length), (6, .sl 5 0 ge.length), (8, .int .i64 t.1)],
        [(0, .box [.lst 1 (ints gn), .lst 3 (eds ge)]), (1, .arr 1 []), (2, .arr 1 []), (3, .box [.sl 1 0 0, .sl 2 0 0]), (4, .arr 1 (bls z)), (5, .arr 1 (bls t.2))], 6⟩)
        (fun t => t.1 ≤ ge.length ∧ t.2.length = ge.length ∧ ∀ k : Nat, k < t.1 → gt t.2 k = bitB s ((gn.length : Int) + k)) (fun t => ge.length - t.1) (0, List.replicate ge.length false) ?_ ?_ ?_
      · simp (config := { maxSteps := 1000000 }) (disch := first | omega | (simp only [go_sem]; omega)) only [go_sem, ↓reduceIte]
        rfl
      · exact ⟨by simp, by simp, fun k hk => by simp at hk⟩
      · rintro ⟨i, y⟩ ⟨j1, j2, j3⟩
        simp only at j1 j2 j3
        by_cases c : i < ge.length
        · have g1 : decide ((i : Int) < ge.length) = true := decide_eq_true (by omega)
          have hi := hnb ((gn.length : Int) + i) (by omega)
          have hbi := hb ((gn.length : Int) + i)
          simp (config := { maxSteps := 1000000 }) (disch := first | omega | (simp only [go_sem]; omega)) only [go_sem, ↓reduceIte, c_r07_Made_b11, g1, z0, hi, hbi, i2, j2]
          refine ⟨(i + 1, y.set i (bitB s ((gn.length : Int) + i))), by simp; rfl, ⟨by simp only; omega, by simp [j2], fun k hk => ?_⟩, by simp only; omega⟩
          simp only at hk
          simp only
          rw [gt_setB (by omega)]
          by_cases e : i = k
          · subst e; simp
          · rw [if_neg e]; exact j3 k (by omega)
        · have g1 : decide ((i : Int) < ge.length) = false := decide_eq_false (by omega)
          obtain rfl : i = ge.length := by omega
          have hz : y = x1 := list_ext_gt (by omega) fun k hk => by rw [j3 k (by omega), bg1 k (by omega)]
          subst hz
          clear j3
          generalize leastP ⟨gn, ge⟩ z y = w at *
          obtain ⟨wn, we⟩ := w
          simp only [mA] at *
          simp (config := { maxSteps := 1000000 }) (disch := first | omega | (simp only [go_sem]; omega)) only [go_sem, ↓reduceIte, c_r07_Made_b11, g1, i2, j2]
          refine call_by r1 ?_
          simp (config := { maxSteps := 1000000 }) (disch := first | omega | (simp only [go_sem]; omega)) only [go_sem, ↓reduceIte]
          try rfl
def shU64 : Sh := .int .u64
theorem rd_u64 {x : D} (h : HasEl shU64 x) : ∃ n : Int, x = .int .u64 n := by
  simp only [shU64, HasEl] at h
  obtain ⟨n, rfl, _⟩ := h
  exact ⟨n, rfl⟩
end
end Go.Am
namespace Go.Am
open Go
set_option linter.unusedVariables false
set_option linter.unusedSimpArgs false
attribute [local irreducible] W
/- r07.In -/
def c_r07_In_r0 (F : String → Nat) : List LI := [⟨some 2, .bx (.t 0), none⟩,
  ⟨some 3, .bx (.t 1), none⟩,
  ⟨some 4, .mov (.k (.bool false)), none⟩]
def c_r07_In_r1 (F : String → Nat) : List LI := [⟨some 5, .fad 0 (.t 2), none⟩,
  ⟨some 6, .load false 1 (.t 5), none⟩,
  ⟨some 7, .fad 0 (.t 3), none⟩,
  ⟨some 8, .load false 1 (.t 7), none⟩,
  ⟨some 9, .call (F "r07.into") [.t 6, .t 8] [], none⟩,
  ⟨some 10, .len (.t 9), none⟩,
  ⟨some 11, .fad 0 (.t 2), none⟩,
  ⟨some 12, .load false 1 (.t 11), none⟩,
  ⟨some 13, .len (.t 12), none⟩,
  ⟨some 14, .bin .eql (.t 10) (.t 13), none⟩,
  ⟨some 15, .mov (.t 14), none⟩,
  ⟨some 16, .fad 1 (.t 2), some (15, true)⟩,
  ⟨some 17, .load false 1 (.t 16), some (15, true)⟩,
  ⟨some 18, .fad 1 (.t 3), some (15, true)⟩,
  ⟨some 19, .load false 1 (.t 18), some (15, true)⟩,
  ⟨some 20, .call (F "r07.into") [.t 17, .t 19] [], some (15, true)⟩,
  ⟨some 21, .len (.t 20), some (15, true)⟩,
  ⟨some 22, .fad 1 (.t 2), some (15, true)⟩,
  ⟨some 23, .load false 1 (.t 22), some (15, true)⟩,
  ⟨some 24, .len (.t 23), some (15, true)⟩,
  ⟨some 25, .bin .eql (.t 21) (.t 24), some (15, true)⟩,
  ⟨some 26, .pick (.t 15) (.t 25) (.k (.bool false)), none⟩,
  ⟨some 4, .mov (.t 26), none⟩]
def c_r07_In (F : String → Nat) : LC := (.seq (.reg (c_r07_In_r0 F) [2, 3]) (.seq (.dreg [(4, none, [], true), (7, (some 64), [4], false), (15, none, [], true), (18, (some 133119), [15], false)] (c_r07_In_r1 F) [4]) .ret))
def h_r07_In : Hints := ⟨[], fun _ => [], tab [(0, [2, 3]), (1, [4])], tab []⟩

attribute [go_sem] c_r07_In_r0 c_r07_In_r1 c_r07_In
def inP (p q : Mo) : Bool := decide (((intoL p.n q.n).length : Int) = p.n.length) && decide (((intoL p.e q.e).length : Int) = p.e.length)
section
variable (P : Program) (F : String → Nat)
def K_r07_In : Prop := ∀ (p q : Mo), p.n.length ≤ 10000 → p.e.length ≤ 10000 → q.sm → FC P (F "r07.In") [mD p, mD q] (.bool (inP p q)) []
end
section
variable {P : Program} {F : String → Nat} {α : Type}
theorem w_r07_In (hi : K_r07_into P F) (p q : Mo) (h1 : p.n.length ≤ 10000) (h2 : p.e.length ≤ 10000) (h3 : q.sm) : W P (c_r07_In F) (Done [.t 4] [] (.bool (inP p q)) []) (init [mD p, mD q]) := by
  refine W_of ?_
  have r1 := hi p.n q.n h1 h3.1
  have r2 := hi p.e q.e h2 h3.2
  have hI : inP p q = (decide (((intoL p.n q.n).length : Int) = p.n.length) && decide (((intoL p.e q.e).length : Int) = p.e.length)) := rfl
  have l1 : (intoL p.n q.n).length ≤ p.n.length := sel_len _ _
  have l2 : (intoL p.e q.e).length ≤ p.e.length := sel_len _ _
  rw [hI]
  clear hI
  obtain ⟨pn, pe⟩ := p
  obtain ⟨qn, qe⟩ := q
  simp only [mD] at *
  generalize intoL pn qn = i1 at *
  generalize intoL pe qe = i2 at *
  cases c : decide ((i1.length : Int) = pn.length)
  · simp (config := { maxSteps := 1000000 }) (disch := first | omega | (simp only [go_sem]; omega)) only [go_sem, ↓reduceIte]
    refine call_by r1 ?_
    simp (config := { maxSteps := 1000000 }) (disch := first | omega | (simp only [go_sem]; omega)) only [go_sem, ↓reduceIte, c]
    try simp
  · simp (config := { maxSteps := 1000000 }) (disch := first | omega | (simp only [go_sem]; omega)) only [go_sem, ↓reduceIte]
    refine call_by r1 ?_
    simp (config := { maxSteps := 1000000 }) (disch := first | omega | (simp only [go_sem]; omega)) only [go_sem, ↓reduceIte, c]
    refine call_by r2 ?_
    simp (config := { maxSteps := 1000000 }) (disch := first | omega | (simp only [go_sem]; omega)) only [go_sem, ↓reduceIte]
    try simp
theorem sel_full {f : Nat → Bool} : ∀ {n : Nat}, (∀ k, k < n → f k = true) → (sel f n).length = n
  | 0, _ => by rw [sel_zero]; rfl
  | n + 1, h => by rw [sel_succ, if_pos (h n (by omega)), List.length_append, sel_full fun k hk => h k (by omega)]; rfl
theorem into_full {l p : List Int} (h : ∀ v ∈ l, v ∈ p) : (intoL l p).length = l.length :=
  sel_full fun k hk => decide_eq_true (h _ (gt_mem (by omega) (by omega)))
end
end Go.Am
namespace Go.Am
open Go
set_option linter.unusedVariables false
set_option linter.unusedSimpArgs false
section
theorem into_len {l p : List Int} : (intoL l p).length = l.length ↔ ∀ x ∈ l, x ∈ p := by
  constructor
  · intro h x hx
    obtain ⟨i, hi, rfl⟩ := mem_gt hx
    refine Decidable.byContradiction fun hn => ?_
    have key : ∀ n : Nat, i < n → (sel (fun i : Nat => decide (gt l i ∈ p)) n).length < n := fun n => by
      induction n with
      | zero => intro h; omega
      | succ n ih =>
        intro hin
        have hle := sel_len (fun i : Nat => decide (gt l i ∈ p)) n
        rw [sel_succ]
        by_cases e : i = n
        · subst e
          rw [if_neg (by simpa using hn)]
          omega
        · have := ih (by omega)
          split
          · rw [List.length_append]; simp only [List.length_cons, List.length_nil]; omega
          · omega
    have := key l.length hi
    unfold intoL at h
    omega
  · exact into_full
theorem inP_iff {p q : Mo} : inP p q = true ↔ (∀ x ∈ p.n, x ∈ q.n) ∧ ∀ x ∈ p.e, x ∈ q.e := by
  unfold inP
  rw [Bool.and_eq_true, decide_eq_true_eq, decide_eq_true_eq, ← into_len, ← into_len]
  omega
end
end Go.Am
namespace Go.Am
open Go
set_option linter.unusedVariables false
set_option linter.unusedSimpArgs false
/-- What contains the elements contains what they close to. -/
theorem close_in {g : G} {ns es : List Int} {p : Mo} (hp : PK g p) (h : inP ⟨ns, es⟩ p = true) : inP (closeP g ns es) p = true := by
  obtain ⟨h1, h2⟩ := inP_iff.1 h
  refine inP_iff.2 ⟨fun x hx => ?_, fun x hx => ?_⟩
  · obtain ⟨k, _, k2, rfl⟩ := sel_mem.1 hx
    simp only [Bool.or_eq_true, decide_eq_true_eq] at k2
    rcases k2 with k2 | k2
    · exact h1 _ k2
    · obtain ⟨e, d1, d2⟩ := ends_mem.1 k2
      have := hp.d e (h2 e d1)
      rcases d2 with d2 | d2 <;> rw [← d2]
      · exact this.1
      · exact this.2
  · obtain ⟨k, _, k2, rfl⟩ := sel_mem.1 hx
    exact h2 _ (by simpa using k2)
end Go.Am
namespace Go.Am
open Go
set_option linter.unusedVariables false
set_option linter.unusedSimpArgs false
attribute [local irreducible] W
/- slices.IndexFunc.apiPart -/
def c_slices_IndexFunc_apiPart_r0 (F : String → Nat) : List LI := [⟨some 4, .mov (.k (.int .i64 (0))), none⟩]
def c_slices_IndexFunc_apiPart_r1 (F : String → Nat) : List LI := [⟨some 6, .mov (.t 0), none⟩,
  ⟨some 7, .len (.t 6), none⟩,
  ⟨some 8, .mov (.k (.int .i64 (0))), none⟩]
def c_slices_IndexFunc_apiPart_r2 (F : String → Nat) : List LI := [⟨some 9, .bin .lss (.t 8) (.t 7), none⟩]
def c_slices_IndexFunc_apiPart_r3 (F : String → Nat) : List LI := [⟨some 10, .mov (.t 8), none⟩,
  ⟨some 5, .mov (.t 10), none⟩]
def c_slices_IndexFunc_apiPart_r4 (F : String → Nat) : List LI := [⟨some 11, .mov (.t 1), none⟩,
  ⟨some 12, .mov (.t 0), none⟩,
  ⟨some 13, .mov (.t 5), none⟩,
  ⟨some 14, .iad 2 (.t 12) (.t 13), none⟩,
  ⟨some 15, .load true 2 (.t 14), none⟩,
  ⟨some 16, .callv (.t 11) [.t 15], none⟩]
def c_slices_IndexFunc_apiPart_r5 (F : String → Nat) : List LI := [⟨some 17, .mov (.t 5), none⟩,
  ⟨some 4, .mov (.t 17), none⟩]
def c_slices_IndexFunc_apiPart_r6 (F : String → Nat) : List LI := [⟨some 18, .bin .add (.t 8) (.k (.int .i64 (1))), none⟩,
  ⟨some 8, .mov (.t 18), none⟩]
def c_slices_IndexFunc_apiPart_b7 (F : String → Nat) : LC := (.seq (.reg (c_slices_IndexFunc_apiPart_r2 F) [0, 1, 7, 8, 9]) (.seq (.cond (.t 9) .skip (.exit 0)) (.seq (.block 1 (.seq (.reg (c_slices_IndexFunc_apiPart_r3 F) [0, 1, 5, 7, 8]) (.seq (.reg (c_slices_IndexFunc_apiPart_r4 F) [0, 1, 5, 7, 8, 16]) (.cond (.t 16) (.seq (.reg (c_slices_IndexFunc_apiPart_r5 F) [4]) .ret) .skip)))) (.reg (c_slices_IndexFunc_apiPart_r6 F) [0, 1, 7, 8]))))
def c_slices_IndexFunc_apiPart_r8 (F : String → Nat) : List LI := [⟨some 4, .mov (.k (.int .i64 (-1))), none⟩]
def c_slices_IndexFunc_apiPart (F : String → Nat) : LC := (.seq (.reg (c_slices_IndexFunc_apiPart_r0 F) [0, 1]) (.seq (.seq (.reg (c_slices_IndexFunc_apiPart_r1 F) [0, 1, 7, 8]) (.block 0 (.loop [0, 1, 7, 8] (c_slices_IndexFunc_apiPart_b7 F)))) (.seq (.reg (c_slices_IndexFunc_apiPart_r8 F) [4]) .ret)))
def h_slices_IndexFunc_apiPart : Hints := ⟨[], fun _ => [], tab [(0, [0, 1]), (1, [0, 1, 7, 8]), (2, [0, 1, 7, 8, 9]), (3, [0, 1, 5, 7, 8]), (4, [0, 1, 5, 7, 8, 16]), (5, [4]), (6, [0, 1, 7, 8]), (7, [4])], tab [(2, [0, 1, 7, 8])]⟩

/- slices.ContainsFunc.apiPart -/
def c_slices_ContainsFunc_apiPart_r0 (F : String → Nat) : List LI := [⟨some 4, .mov (.k (.bool false)), none⟩]
def c_slices_ContainsFunc_apiPart_r1 (F : String → Nat) : List LI := [⟨some 5, .mov (.t 0), none⟩,
  ⟨some 6, .mov (.t 1), none⟩,
  ⟨some 7, .call (F "slices.IndexFunc.apiPart") [.t 5, .t 6] [], none⟩,
  ⟨some 8, .bin .geq (.t 7) (.k (.int .i64 (0))), none⟩,
  ⟨some 4, .mov (.t 8), none⟩]
def c_slices_ContainsFunc_apiPart (F : String → Nat) : LC := (.seq (.reg (c_slices_ContainsFunc_apiPart_r0 F) [0, 1]) (.seq (.reg (c_slices_ContainsFunc_apiPart_r1 F) [4]) .ret))
def h_slices_ContainsFunc_apiPart : Hints := ⟨[], fun _ => [], tab [(0, [0, 1]), (1, [4])], tab []⟩

/- l07.small -/
def c_l07_small_r0 (F : String → Nat) : List LI := [⟨some 2, .bx (.t 0), none⟩,
  ⟨some 4, .mov (.k (.bool false)), none⟩]
def c_l07_small_r1 (F : String → Nat) : List LI := [⟨some 5, .load true 2 (.t 2), none⟩,
  ⟨some 6, .call (F "r05.Few") [.t 5] [], none⟩,
  ⟨some 7, .mov (.t 6), none⟩,
  ⟨some 8, .mov (.t 1), some (7, true)⟩,
  ⟨some 9, .call (F "slices.ContainsFunc.apiPart") [.t 8, .k (.clo (F "l07.small.1") [])] [], some (7, true)⟩,
  ⟨some 10, .not (.t 9), some (7, true)⟩,
  ⟨some 11, .pick (.t 7) (.t 10) (.k (.bool false)), none⟩,
  ⟨some 4, .mov (.t 11), none⟩]
def c_l07_small (F : String → Nat) : LC := (.seq (.reg (c_l07_small_r0 F) [1, 2]) (.seq (.reg (c_l07_small_r1 F) [4]) .ret))
def h_l07_small : Hints := ⟨[], fun _ => [], tab [(0, [1, 2]), (1, [4])], tab []⟩

/- l07.small.1 -/
def c_l07_small_1_r0 (F : String → Nat) : List LI := [⟨some 1, .bx (.t 0), none⟩,
  ⟨some 2, .mov (.k (.bool false)), none⟩]
def c_l07_small_1_r1 (F : String → Nat) : List LI := [⟨some 3, .load true 2 (.t 1), none⟩,
  ⟨some 4, .call (F "r07.Few") [.t 3, .k (.int .i64 (150))] [], none⟩,
  ⟨some 5, .not (.t 4), none⟩,
  ⟨some 2, .mov (.t 5), none⟩]
def c_l07_small_1 (F : String → Nat) : LC := (.seq (.reg (c_l07_small_1_r0 F) [1]) (.seq (.reg (c_l07_small_1_r1 F) [2]) .ret))
def h_l07_small_1 : Hints := ⟨[], fun _ => [], tab [(0, [1]), (1, [2])], tab []⟩

/- l07.SubgraphClose -/
def c_l07_SubgraphClose_r0 (F : String → Nat) : List LI := [⟨some 3, .bx (.t 0), none⟩,
  ⟨some 4, .bx (.t 1), none⟩,
  ⟨some 6, .mov (.k (.bool false)), none⟩]
def c_l07_SubgraphClose_r1 (F : String → Nat) : List LI := [⟨some 12, .call (F "l07.awake") [] [], none⟩,
  ⟨some 13, .not (.t 12), none⟩,
  ⟨some 14, .mov (.t 13), none⟩,
  ⟨some 15, .load true 2 (.t 3), some (14, false)⟩,
  ⟨some 16, .call (F "l07.small") [.t 15, .k (.nl 0)] [], some (14, false)⟩,
  ⟨some 17, .not (.t 16), some (14, false)⟩,
  ⟨some 18, .pick (.t 14) (.k (.bool true)) (.t 17), none⟩,
  ⟨some 19, .mov (.t 18), none⟩,
  ⟨some 20, .fad 0 (.t 4), some (19, false)⟩,
  ⟨some 21, .load false 1 (.t 20), some (19, false)⟩,
  ⟨some 22, .len (.t 21), some (19, false)⟩,
  ⟨some 23, .bin .gtr (.t 22) (.k (.int .i64 (100))), some (19, false)⟩,
  ⟨some 24, .pick (.t 19) (.k (.bool true)) (.t 23), none⟩,
  ⟨some 25, .mov (.t 24), none⟩,
  ⟨some 26, .fad 1 (.t 4), some (25, false)⟩,
  ⟨some 27, .load false 1 (.t 26), some (25, false)⟩,
  ⟨some 28, .len (.t 27), some (25, false)⟩,
  ⟨some 29, .bin .gtr (.t 28) (.k (.int .i64 (100))), some (25, false)⟩,
  ⟨some 30, .pick (.t 25) (.k (.bool true)) (.t 29), none⟩]
def c_l07_SubgraphClose_r2 (F : String → Nat) : List LI := [⟨some 31, .call (F "l07.awake") [] [], none⟩,
  ⟨some 6, .mov (.t 31), none⟩]
def c_l07_SubgraphClose_r3 (F : String → Nat) : List LI := [⟨some 33, .load true 2 (.t 3), none⟩,
  ⟨some 34, .call (F "r05.Copied") [.t 33] [], none⟩,
  ⟨some 35, .fad 0 (.t 4), none⟩,
  ⟨some 36, .load false 1 (.t 35), none⟩,
  ⟨some 37, .call (F "slices.Clone.I") [.t 36] [], none⟩,
  ⟨some 38, .fad 1 (.t 4), none⟩,
  ⟨some 39, .load false 1 (.t 38), none⟩,
  ⟨some 40, .call (F "slices.Clone.I") [.t 39] [], none⟩,
  ⟨some 41, .call (F "subgraph.Close") [.t 34, .t 37, .t 40] [], none⟩,
  ⟨some 32, .mov (.t 41), none⟩,
  ⟨some 42, .ext (.t 32) 0, none⟩,
  ⟨some 43, .ext (.t 32) 1, none⟩,
  ⟨some 7, .alloc [.nl 1, .nl 1], none⟩,
  ⟨none, .store 2 (.t 7) (.t 42), none⟩,
  ⟨some 8, .mov (.t 43), none⟩]
def c_l07_SubgraphClose_r4 (F : String → Nat) : List LI := [⟨some 45, .load true 2 (.t 3), none⟩,
  ⟨some 46, .fad 0 (.t 4), none⟩,
  ⟨some 47, .load false 1 (.t 46), none⟩,
  ⟨some 48, .fad 1 (.t 4), none⟩,
  ⟨some 49, .load false 1 (.t 48), none⟩,
  ⟨some 50, .call (F "r07.Close") [.t 45, .t 47, .t 49] [], none⟩,
  ⟨some 44, .mov (.t 50), none⟩,
  ⟨some 51, .ext (.t 44) 0, none⟩,
  ⟨some 52, .ext (.t 44) 1, none⟩,
  ⟨some 9, .alloc [.nl 1, .nl 1], none⟩,
  ⟨none, .store 2 (.t 9) (.t 51), none⟩,
  ⟨some 10, .mov (.t 52), none⟩]
def c_l07_SubgraphClose_r5 (F : String → Nat) : List LI := [⟨some 53, .load true 2 (.t 7), none⟩,
  ⟨some 54, .load true 2 (.t 9), none⟩,
  ⟨some 55, .call (F "r07.Same") [.t 53, .t 54] [], none⟩,
  ⟨some 56, .not (.t 55), none⟩,
  ⟨some 57, .mov (.t 56), none⟩,
  ⟨some 58, .mov (.t 8), some (57, false)⟩,
  ⟨some 59, .mov (.t 10), some (57, false)⟩,
  ⟨some 60, .bin .neq (.t 58) (.t 59), some (57, false)⟩,
  ⟨some 61, .pick (.t 57) (.k (.bool true)) (.t 60), none⟩,
  ⟨some 62, .mov (.t 61), none⟩,
  ⟨some 63, .mov (.t 8), some (62, false)⟩,
  ⟨some 64, .bin .neq (.t 63) (.k (.int .i64 (0))), some (62, false)⟩,
  ⟨some 65, .pick (.t 62) (.k (.bool true)) (.t 64), none⟩]
def c_l07_SubgraphClose_r6 (F : String → Nat) : List LI := [⟨some 66, .load true 2 (.t 7), none⟩,
  ⟨some 67, .load true 2 (.t 9), none⟩,
  ⟨some 68, .call (F "r07.Same") [.t 66, .t 67] [], none⟩,
  ⟨some 69, .mov (.t 68), none⟩,
  ⟨some 70, .mov (.t 8), some (69, true)⟩,
  ⟨some 71, .mov (.t 10), some (69, true)⟩,
  ⟨some 72, .bin .eql (.t 70) (.t 71), some (69, true)⟩,
  ⟨some 73, .pick (.t 69) (.t 72) (.k (.bool false)), none⟩,
  ⟨some 6, .mov (.t 73), none⟩]
def c_l07_SubgraphClose_r7 (F : String → Nat) : List LI := [⟨some 74, .load true 2 (.t 3), none⟩,
  ⟨some 75, .mov (.t 2), none⟩,
  ⟨some 76, .call (F "r07.Made") [.t 74, .t 75] [], none⟩,
  ⟨some 11, .alloc [.nl 1, .nl 1], none⟩,
  ⟨none, .store 2 (.t 11) (.t 76), none⟩]
def c_l07_SubgraphClose_r8 (F : String → Nat) : List LI := [⟨some 77, .load true 2 (.t 4), none⟩,
  ⟨some 78, .load true 2 (.t 11), none⟩,
  ⟨some 79, .call (F "r07.In") [.t 77, .t 78] [], none⟩,
  ⟨some 80, .not (.t 79), none⟩,
  ⟨some 81, .mov (.t 80), none⟩,
  ⟨some 82, .load true 2 (.t 7), some (81, false)⟩,
  ⟨some 83, .load true 2 (.t 11), some (81, false)⟩,
  ⟨some 84, .call (F "r07.In") [.t 82, .t 83] [], some (81, false)⟩,
  ⟨some 85, .pick (.t 81) (.k (.bool true)) (.t 84), none⟩,
  ⟨some 6, .mov (.t 85), none⟩]
def c_l07_SubgraphClose (F : String → Nat) : LC := (.seq (.reg (c_l07_SubgraphClose_r0 F) [2, 3, 4]) (.seq (.seq (.reg (c_l07_SubgraphClose_r1 F) [2, 3, 4, 30]) (.cond (.t 30) (.seq (.reg (c_l07_SubgraphClose_r2 F) [6]) .ret) .skip)) (.seq (.dreg [(1, none, [], true), (3, (some 4), [1], false), (4, none, [], true), (6, (some 32), [1, 4], false)] (c_l07_SubgraphClose_r3 F) [2, 3, 4, 7, 8]) (.seq (.reg (c_l07_SubgraphClose_r4 F) [2, 3, 4, 7, 8, 9, 10]) (.seq (.seq (.reg (c_l07_SubgraphClose_r5 F) [2, 3, 4, 7, 8, 9, 10, 65]) (.cond (.t 65) (.seq (.reg (c_l07_SubgraphClose_r6 F) [6]) .ret) .skip)) (.seq (.reg (c_l07_SubgraphClose_r7 F) [4, 7, 11]) (.seq (.reg (c_l07_SubgraphClose_r8 F) [6]) .ret)))))))
def h_l07_SubgraphClose : Hints := ⟨[], fun _ => [], tab [(0, [2, 3, 4]), (1, [2, 3, 4, 30]), (2, [6]), (3, [2, 3, 4, 7, 8]), (4, [2, 3, 4, 7, 8, 9, 10]), (5, [2, 3, 4, 7, 8, 9, 10, 65]), (6, [6]), (7, [4, 7, 11]), (8, [6])], tab []⟩

attribute [go_sem] c_slices_IndexFunc_apiPart_r0 c_slices_IndexFunc_apiPart_r1 c_slices_IndexFunc_apiPart_r2 c_slices_IndexFunc_apiPart_r3 c_slices_IndexFunc_apiPart_r4 c_slices_IndexFunc_apiPart_r5 c_slices_IndexFunc_apiPart_r6 c_slices_IndexFunc_apiPart_r8 c_slices_IndexFunc_apiPart c_slices_ContainsFunc_apiPart_r0 c_slices_ContainsFunc_apiPart_r1 c_slices_ContainsFunc_apiPart c_l07_small_r0 c_l07_small_r1 c_l07_small c_l07_small_1_r0 c_l07_small_1_r1 c_l07_small_1 c_l07_SubgraphClose_r0 c_l07_SubgraphClose_r1 c_l07_SubgraphClose_r2 c_l07_SubgraphClose_r3 c_l07_SubgraphClose_r4 c_l07_SubgraphClose_r5 c_l07_SubgraphClose_r6 c_l07_SubgraphClose_r7 c_l07_SubgraphClose_r8 c_l07_SubgraphClose
def smallL (g : G) (l : List Mo) : Bool := few g && l.all fun m => fewM m 150
section
variable (P : Program) (F : String → Nat)
def K_slices_IndexFunc_apiPart : Prop := ∀ (l : List Mo), l.length ≤ maxL → ∀ (g : Nat) (cs : List D), cs.all okC2 = true → ∀ p : Mo → Bool, (∀ x, x ∈ l → FC P g (mD x :: cs) (.bool (p x)) []) → FC P (F "slices.IndexFunc.apiPart") [.lst 2 (pts l), .clo g cs] (.int .i64 (idx p l 0)) []
def K_slices_ContainsFunc_apiPart : Prop := ∀ (l : List Mo), l.length ≤ maxL → ∀ (g : Nat) (cs : List D), cs.all okC2 = true → ∀ p : Mo → Bool, (∀ x, x ∈ l → FC P g (mD x :: cs) (.bool (p x)) []) → FC P (F "slices.ContainsFunc.apiPart") [.lst 2 (pts l), .clo g cs] (.bool (l.any p)) []
def K_l07_small_1 : Prop := ∀ m : Mo, m.sm → FC P (F "l07.small.1") [mD m] (.bool (!fewM m 150)) []
def K_l07_small : Prop := ∀ (g : G) (l : List Mo), l.length ≤ 1000 → (∀ m ∈ l, m.sm) → FC P (F "l07.small") [gD g, .lst 2 (pts l)] (.bool (smallL g l)) []
def K_l07_SubgraphClose : Prop := ∀ (g : G) (p : Mo) (s : Int), p.sm → FC P (F "l07.SubgraphClose") [gD g, mD p, .int .u64 s] (.bool true) []
end
section
variable {P : Program} {F : String → Nat} {α : Type}
theorem w_slices_IndexFunc_apiPart (l : List Mo) (hl : l.length ≤ maxL) (g : Nat) (cs : List D) (hcs : cs.all okC2 = true) (p : Mo → Bool) (hg : ∀ x, x ∈ l → FC P g (mD x :: cs) (.bool (p x)) []) : W P (c_slices_IndexFunc_apiPart F) (Done [.t 4] [] (.int .i64 (idx p l 0)) []) (init [.lst 2 (pts l), .clo g cs]) := by
  refine W_of ?_
  unfold maxL at hl
  have e1 := caps_lend2 hcs
  have e2 := caps_ren hcs
  have pl := pts_length l
  simp (config := { maxSteps := 1000000 }) (disch := first | omega | (simp only [go_sem]; omega)) only [go_sem, ↓reduceIte, pl]
  refine W_loop (fun i : Nat => ⟨[(0, .lst 2 (pts l)), (1, .clo g cs), (7, .int .i64 l.length), (8, .int .i64 i)], [], 0⟩) (fun i => i ≤ l.length ∧ idx p l 0 = idx p (l.drop i) i) (fun i => l.length - i) 0 ?_ ?_ ?_
  · simp (config := { maxSteps := 1000000 }) (disch := first | omega | (simp only [go_sem]; omega)) only [go_sem, ↓reduceIte, e2, pl]
    rfl
  · simp
  · intro i hi
    by_cases h : i < l.length
    · have d1 : decide ((i : Int) < l.length) = true := decide_eq_true (by omega)
      have hd := idx_drop p l i (by omega)
      have r := hg _ (gt_mem (l := l) (j := (i : Int)) (by omega) (by omega))
      simp only [mD] at r
      simp (config := { maxSteps := 1000000 }) (disch := first | omega | (simp only [go_sem]; omega)) only [go_sem, ↓reduceIte, c_slices_IndexFunc_apiPart_b7, d1, e1, pl]
      refine call_by r ?_
      simp (config := { maxSteps := 1000000 }) (disch := first | omega | (simp only [go_sem]; omega)) only [go_sem, ↓reduceIte]
      refine bran_by (fun h2 => ?_) (fun h2 => ?_)
      · simp (config := { maxSteps := 1000000 }) (disch := first | omega | (simp only [go_sem]; omega)) only [go_sem, ↓reduceIte]
        rw [hi.2, hd, if_pos h2]
      · simp (config := { maxSteps := 1000000 }) (disch := first | omega | (simp only [go_sem]; omega)) only [go_sem, ↓reduceIte, e2]
        exact ⟨i + 1, by simp, ⟨by omega, by rw [hi.2, hd, if_neg (by simp [h2])]⟩, by omega⟩
    · have d1 : decide ((i : Int) < l.length) = false := decide_eq_false (by omega)
      simp (config := { maxSteps := 1000000 }) (disch := first | omega | (simp only [go_sem]; omega)) only [go_sem, ↓reduceIte, c_slices_IndexFunc_apiPart_b7, d1]
      rw [hi.2, List.drop_of_length_le (by omega)]
      rfl
theorem w_slices_ContainsFunc_apiPart (hi : K_slices_IndexFunc_apiPart P F) (l : List Mo) (hl : l.length ≤ maxL) (g : Nat) (cs : List D) (hcs : cs.all okC2 = true) (p : Mo → Bool) (hg : ∀ x, x ∈ l → FC P g (mD x :: cs) (.bool (p x)) []) : W P (c_slices_ContainsFunc_apiPart F) (Done [.t 4] [] (.bool (l.any p)) []) (init [.lst 2 (pts l), .clo g cs]) := by
  refine W_of ?_
  have r := hi l hl g cs hcs p hg
  have hge := idx_ge p l 0 (by omega)
  have e0 := caps_lend hcs
  generalize idx p l 0 = ix at *
  simp (config := { maxSteps := 1000000 }) (disch := first | omega | (simp only [go_sem]; omega)) only [go_sem, ↓reduceIte, e0]
  refine call_by r ?_
  simp (config := { maxSteps := 1000000 }) (disch := first | omega | (simp only [go_sem]; omega)) only [go_sem, ↓reduceIte]
  try rw [hge]
theorem w_l07_small_1 (hf : K_r07_Few P F) (m : Mo) (h : m.sm) : W P (c_l07_small_1 F) (Done [.t 2] [] (.bool (!fewM m 150)) []) (init [mD m]) := by
  refine W_of ?_
  have r1 := hf m 150 h.1 h.2
  generalize fewM m 150 = b at *
  simp only [mD] at *
  simp (config := { maxSteps := 1000000 }) (disch := first | omega | (simp only [go_sem]; omega)) only [go_sem, ↓reduceIte]
  refine call_by r1 ?_
  simp (config := { maxSteps := 1000000 }) (disch := first | omega | (simp only [go_sem]; omega)) only [go_sem, ↓reduceIte]
theorem w_l07_small (hg : K_r05_Few P F) (hc : K_slices_ContainsFunc_apiPart P F) (h1 : K_l07_small_1 P F) (g : G) (l : List Mo) (hl : l.length ≤ 1000) (hm : ∀ m ∈ l, m.sm) : W P (c_l07_small F) (Done [.t 4] [] (.bool (smallL g l)) []) (init [gD g, .lst 2 (pts l)]) := by
  refine W_of ?_
  have r1 := hg g
  have r2 := hc l (by unfold maxL; omega) (F "l07.small.1") [] rfl _ (fun x hx => h1 x (hm x hx))
  have e : smallL g l = (few g && !l.any fun m => !fewM m 150) := by
    unfold smallL
    rw [List.all_eq_not_any_not]
  rw [e]
  generalize few g = b1 at *
  generalize (l.any fun m => !fewM m 150) = b2 at *
  simp only [gD] at *
  cases b1
  · simp (config := { maxSteps := 1000000 }) (disch := first | omega | (simp only [go_sem]; omega)) only [go_sem, ↓reduceIte]
    refine call_by r1 ?_
    simp (config := { maxSteps := 1000000 }) (disch := first | omega | (simp only [go_sem]; omega)) only [go_sem, ↓reduceIte]
    try simp
  · simp (config := { maxSteps := 1000000 }) (disch := first | omega | (simp only [go_sem]; omega)) only [go_sem, ↓reduceIte]
    refine call_by r1 ?_
    simp (config := { maxSteps := 1000000 }) (disch := first | omega | (simp only [go_sem]; omega)) only [go_sem, ↓reduceIte]
    refine call_by r2 ?_
    simp (config := { maxSteps := 1000000 }) (disch := first | omega | (simp only [go_sem]; omega)) only [go_sem, ↓reduceIte]
    try simp
theorem few_len {g : G} (h : few g = true) : g.n.length ≤ 45 ∧ g.e.length ≤ 90 := by
  simp only [few, Bool.and_eq_true, decide_eq_true_eq] at h
  exact h
theorem closeR_ok {g : G} {ns es : List Int} (h : (closeR g ns es).2 = 0) : validG g = 0 ∧ (closeR g ns es).1 = closeP g ns es := by
  unfold closeR at h ⊢
  split
  · rename_i c; rw [if_pos c] at h; exact absurd h c
  · rename_i c
    rw [if_neg c] at h
    split
    · exact ⟨Decidable.not_not.1 c, rfl⟩
    · rename_i d; rw [if_neg d] at h; cases h
theorem closeR_len (g : G) (ns es : List Int) : (closeR g ns es).1.n.length ≤ 1000 ∧ (closeR g ns es).1.e.length ≤ 1000 := by
  unfold closeR
  split
  · simp [m0]
  · rename_i c
    split
    · have := (closeP_ok (ns := ns) (es := es) (Decidable.not_not.1 c)).len
      simp only
      omega
    · simp [m0]
set_option maxHeartbeats 2000000 in
theorem w_l07_SubgraphClose (hw : K_l07_awake P F) (hf : K_l07_small P F) (hcp : K_r05_Copied P F) (hcl : K_slices_Clone_I P F) (h1 : K_subgraph_Close P F) (h2 : K_r07_Close P F) (hs : K_r07_Same P F) (hm : K_r07_Made P F) (hi : K_r07_In P F)
    (g : G) (p : Mo) (s : Int) (h : p.sm) : W P (c_l07_SubgraphClose F) (Done [.t 6] [] (.bool true) []) (init [gD g, mD p, .int .u64 s]) := by
  refine W_of ?_
  have r1 := FC.nils (a := [gD g, .nl 0]) (hf g [] (by simp) (by simp)) (by simp [NilW, pts])
  have e1 : smallL g [] = few g := by simp [smallL]
  rw [e1] at r1
  have hsm := h
  cases c : few g
  · rw [c] at r1
    simp only [gD, mD] at *
    simp (config := { maxSteps := 1000000 }) (disch := first | omega | (simp only [go_sem]; omega)) only [go_sem, ↓reduceIte]
    refine call_by hw ?_
    simp (config := { maxSteps := 1000000 }) (disch := first | omega | (simp only [go_sem]; omega)) only [go_sem, ↓reduceIte]
    refine call_by r1 ?_
    simp (config := { maxSteps := 1000000 }) (disch := first | omega | (simp only [go_sem]; omega)) only [go_sem, ↓reduceIte]
    refine call_by hw ?_
    simp (config := { maxSteps := 1000000 }) (disch := first | omega | (simp only [go_sem]; omega)) only [go_sem, ↓reduceIte]
  rw [c] at r1
  have c1 := few_len c
  by_cases d1 : 100 < p.n.length
  · have d1 : decide ((100 : Int) < p.n.length) = true := decide_eq_true (by omega)
    simp only [gD, mD] at *
    simp (config := { maxSteps := 1000000 }) (disch := first | omega | (simp only [go_sem]; omega)) only [go_sem, ↓reduceIte]
    refine call_by hw ?_
    simp (config := { maxSteps := 1000000 }) (disch := first | omega | (simp only [go_sem]; omega)) only [go_sem, ↓reduceIte]
    refine call_by r1 ?_
    simp (config := { maxSteps := 1000000 }) (disch := first | omega | (simp only [go_sem]; omega)) only [go_sem, ↓reduceIte, d1]
    refine call_by hw ?_
    simp (config := { maxSteps := 1000000 }) (disch := first | omega | (simp only [go_sem]; omega)) only [go_sem, ↓reduceIte]
  by_cases d2 : 100 < p.e.length
  · have d1 : decide ((100 : Int) < p.n.length) = false := decide_eq_false (by omega)
    have d2 : decide ((100 : Int) < p.e.length) = true := decide_eq_true (by omega)
    simp only [gD, mD] at *
    simp (config := { maxSteps := 1000000 }) (disch := first | omega | (simp only [go_sem]; omega)) only [go_sem, ↓reduceIte]
    refine call_by hw ?_
    simp (config := { maxSteps := 1000000 }) (disch := first | omega | (simp only [go_sem]; omega)) only [go_sem, ↓reduceIte]
    refine call_by r1 ?_
    simp (config := { maxSteps := 1000000 }) (disch := first | omega | (simp only [go_sem]; omega)) only [go_sem, ↓reduceIte, d1, d2]
    refine call_by hw ?_
    simp (config := { maxSteps := 1000000 }) (disch := first | omega | (simp only [go_sem]; omega)) only [go_sem, ↓reduceIte]
  have d1' : decide ((100 : Int) < p.n.length) = false := decide_eq_false (by omega)
  have d2' : decide ((100 : Int) < p.e.length) = false := decide_eq_false (by omega)
  have r2 := hcp g (by omega) (by omega)
  have r3 := hcl p.n (by omega)
  have r4 := hcl p.e (by omega)
  have r5 := h1 g p.n p.e (by omega) (by omega)
  have r6 := h2 g p.n p.e (by omega) (by omega)
  have l1 := closeR_len g p.n p.e
  have r7 := hs (closeR g p.n p.e).1 (closeR g p.n p.e).1 (by unfold maxL; omega) (by unfold maxL; omega)
  rw [decide_eq_true rfl] at r7
  by_cases e : (closeR g p.n p.e).2 = 0
  case neg =>
    clear l1
    generalize closeR g p.n p.e = R at *
    obtain ⟨⟨rn, re⟩, v⟩ := R
    simp only at e
    simp only [gD, gA, mD, mA] at *
    simp (config := { maxSteps := 1000000 }) (disch := first | omega | (simp only [go_sem]; omega)) only [go_sem, ↓reduceIte]
    refine call_by hw ?_
    simp (config := { maxSteps := 1000000 }) (disch := first | omega | (simp only [go_sem]; omega)) only [go_sem, ↓reduceIte]
    refine call_by r1 ?_
    simp (config := { maxSteps := 1000000 }) (disch := first | omega | (simp only [go_sem]; omega)) only [go_sem, ↓reduceIte, d1', d2']
    refine call_by r2 ?_
    simp (config := { maxSteps := 1000000 }) (disch := first | omega | (simp only [go_sem]; omega)) only [go_sem, ↓reduceIte]
    refine call_by r3 ?_
    simp (config := { maxSteps := 1000000 }) (disch := first | omega | (simp only [go_sem]; omega)) only [go_sem, ↓reduceIte]
    refine call_by r4 ?_
    simp (config := { maxSteps := 1000000 }) (disch := first | omega | (simp only [go_sem]; omega)) only [go_sem, ↓reduceIte]
    refine call_by r5 ?_
    simp (config := { maxSteps := 1000000 }) (disch := first | omega | (simp only [go_sem]; omega)) only [go_sem, ↓reduceIte]
    refine call_by r6 ?_
    simp (config := { maxSteps := 1000000 }) (disch := first | omega | (simp only [go_sem]; omega)) only [go_sem, ↓reduceIte]
    refine call_by r7 ?_
    simp (config := { maxSteps := 1000000 }) (disch := first | omega | (simp only [go_sem]; omega)) only [go_sem, ↓reduceIte, e]
    refine call_by r7 ?_
    simp (config := { maxSteps := 1000000 }) (disch := first | omega | (simp only [go_sem]; omega)) only [go_sem, ↓reduceIte]
    try simp
  obtain ⟨hv, hc⟩ := closeR_ok e
  have r8 := hm g s hv
  have hk := partP_ok (s := s) hv
  have r9 := hi p (partP g s) (by omega) (by omega) hk.sm
  have r10 := hi (closeR g p.n p.e).1 (partP g s) (by omega) (by omega) hk.sm
  have hin : inP p (partP g s) = true → inP (closeR g p.n p.e).1 (partP g s) = true := fun h => by
    rw [hc]
    exact close_in hk h
  clear l1 hc hk
  generalize closeR g p.n p.e = R at *
  generalize inP p (partP g s) = b1 at *
  generalize inP R.1 (partP g s) = b2 at *
  generalize partP g s = q at *
  obtain ⟨⟨rn, re⟩, v⟩ := R
  obtain ⟨qn, qe⟩ := q
  simp only at e
  subst e
  simp only [gD, gA, mD, mA] at *
  have key : (b1 = true → b2 = true) := hin
  simp (config := { maxSteps := 1000000 }) (disch := first | omega | (simp only [go_sem]; omega)) only [go_sem, ↓reduceIte]
  refine call_by hw ?_
  simp (config := { maxSteps := 1000000 }) (disch := first | omega | (simp only [go_sem]; omega)) only [go_sem, ↓reduceIte]
  refine call_by r1 ?_
  simp (config := { maxSteps := 1000000 }) (disch := first | omega | (simp only [go_sem]; omega)) only [go_sem, ↓reduceIte, d1', d2']
  refine call_by r2 ?_
  simp (config := { maxSteps := 1000000 }) (disch := first | omega | (simp only [go_sem]; omega)) only [go_sem, ↓reduceIte]
  refine call_by r3 ?_
  simp (config := { maxSteps := 1000000 }) (disch := first | omega | (simp only [go_sem]; omega)) only [go_sem, ↓reduceIte]
  refine call_by r4 ?_
  simp (config := { maxSteps := 1000000 }) (disch := first | omega | (simp only [go_sem]; omega)) only [go_sem, ↓reduceIte]
  refine call_by r5 ?_
  simp (config := { maxSteps := 1000000 }) (disch := first | omega | (simp only [go_sem]; omega)) only [go_sem, ↓reduceIte]
  refine call_by r6 ?_
  simp (config := { maxSteps := 1000000 }) (disch := first | omega | (simp only [go_sem]; omega)) only [go_sem, ↓reduceIte]
  refine call_by r7 ?_
  simp (config := { maxSteps := 1000000 }) (disch := first | omega | (simp only [go_sem]; omega)) only [go_sem, ↓reduceIte]
  refine call_by r8 ?_
  simp (config := { maxSteps := 1000000 }) (disch := first | omega | (simp only [go_sem]; omega)) only [go_sem, ↓reduceIte]
  refine call_by r9 ?_
  cases b1
  · simp (config := { maxSteps := 1000000 }) (disch := first | omega | (simp only [go_sem]; omega)) only [go_sem, ↓reduceIte]
    try simp
  · rw [key rfl] at r10
    simp (config := { maxSteps := 1000000 }) (disch := first | omega | (simp only [go_sem]; omega)) only [go_sem, ↓reduceIte]
    refine call_by r10 ?_
    simp (config := { maxSteps := 1000000 }) (disch := first | omega | (simp only [go_sem]; omega)) only [go_sem, ↓reduceIte]
    try simp
theorem x_l07_SubgraphClose (h : K_l07_SubgraphClose P F) (args : List D) (ha : HasEls [shG, shM, shU64] args) : FC P (F "l07.SubgraphClose") args (.bool true) [] := by
  simp only [HasEls] at ha
  obtain ⟨_, _, rfl, h1, _, _, rfl, h2, _, _, rfl, h3, rfl⟩ := ha
  obtain ⟨g, rfl⟩ := rd_graph h1
  obtain ⟨p, rfl, k⟩ := rd_morph h2
  obtain ⟨s, rfl⟩ := rd_u64 h3
  exact h g p s k
end
end Go.Am
