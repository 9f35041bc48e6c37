/- The graph package and its reference: parts. -/
/- The graph package and its reference: validity, comparison, what is left. -/
/- Drafts of graphs; what laws take. -/
/- Morphisms: validity, comparison, composition. -/
/- Lists of bools as data; ascending lists; parts of graphs, plain. -/
/- Parts of graphs: whether they are right; membership. -/
/- Closing of parts; Dangling, Identified, Of and Check of complements. -/
/- Graphs of parts. -/
/- Unions, intersections, images and preimages of parts: the walks. -/
/- Parts: graphs of parts, boundaries, what elements close to: the walks. -/
import Derived.Test.YtbpjoianghehmaaSpPa
import Derived.Test.YtbpjoianghehmaaSpPb
import Derived.Test.YtbpjoianghehmaaSpPc
import Derived.Test.YtbpjoianghehmaaAmZc
namespace Go.Am
open Go
set_option linter.unusedVariables false
set_option linter.unusedSimpArgs false
/- r05.Copied -/
def c_r05_Copied_r0 (F : String → Nat) : List LI := [⟨some 1, .bx (.t 0), none⟩,
  ⟨some 2, .alloc [.nl 1, .nl 3], none⟩]
def c_r05_Copied_r1 (F : String → Nat) : List LI := [⟨some 3, .buildSl 1 8 (.int .i64 (0)) 0 [], none⟩,
  ⟨some 4, .fad 0 (.t 1), none⟩,
  ⟨some 5, .load false 1 (.t 4), none⟩,
  ⟨some 6, .app 1 8 (.t 3) (.t 5), none⟩,
  ⟨some 7, .buildSl 3 24 (.agg [.int .i64 (0), .int .i64 (0), .int .i64 (0)]) 0 [], none⟩,
  ⟨some 8, .fad 1 (.t 1), none⟩,
  ⟨some 9, .load false 1 (.t 8), none⟩,
  ⟨some 10, .app 3 24 (.t 7) (.t 9), none⟩,
  ⟨some 11, .build [.nl 1, .nl 3] [(0, 1, .t 6), (1, 1, .t 10)], none⟩,
  ⟨none, .store 2 (.t 2) (.t 11), none⟩]
def c_r05_Copied (F : String → Nat) : LC := (.seq (.reg (c_r05_Copied_r0 F) [1, 2]) (.seq (.dreg [(2, (some 2), [], false), (3, none, [], true), (6, (some 32), [3], false)] (c_r05_Copied_r1 F) [2]) .ret))
def h_r05_Copied : Hints := ⟨[], fun _ => [], tab [(0, [1, 2]), (1, [2])], tab []⟩

attribute [go_sem] c_r05_Copied_r0 c_r05_Copied_r1 c_r05_Copied
section
variable (P : Program) (F : String → Nat)
def K_r05_Copied : Prop := ∀ g : G, g.n.length ≤ 1000000 → g.e.length ≤ 1000000 → FC P (F "r05.Copied") [gD g] (gA g) []
def K_r05_Same : Prop := ∀ a b : G, a.n.length ≤ maxL → a.e.length ≤ maxL → FC P (F "r05.Same") [gD a, gD b] (.bool (decide (a = b))) []
end
section
variable {P : Program} {F : String → Nat} {α : Type}
theorem w_r05_Copied (g : G) (h0 : g.n.length ≤ 1000000) (h1 : g.e.length ≤ 1000000) : W P (c_r05_Copied F) (Done [.c 2 true 2] [] (gA g) []) (init [gD g]) := by
  refine W_of ?_
  obtain ⟨ns, es⟩ := g
  simp only at h0 h1
  simp (config := { maxSteps := 1000000 }) (disch := first | omega | (simp only [go_sem]; omega)) only [go_sem, ↓reduceIte, gD, gA]
end
end Go.Am
namespace Go.Am
open Go
set_option linter.unusedVariables false
set_option linter.unusedSimpArgs false
/- r05.Same -/
def c_r05_Same_r0 (F : String → Nat) : List LI := [⟨some 2, .bx (.t 0), none⟩,
  ⟨some 3, .bx (.t 1), none⟩,
  ⟨some 4, .mov (.k (.bool false)), none⟩]
def c_r05_Same_r1 (F : String → Nat) : List LI := [⟨some 6, .fad 0 (.t 2), none⟩,
  ⟨some 7, .load false 1 (.t 6), none⟩,
  ⟨some 8, .fad 0 (.t 3), none⟩,
  ⟨some 9, .load false 1 (.t 8), none⟩,
  ⟨some 10, .call (F "r05.SameInts") [.t 7, .t 9] [], none⟩,
  ⟨some 11, .not (.t 10), none⟩,
  ⟨some 12, .mov (.t 11), none⟩,
  ⟨some 13, .fad 1 (.t 2), some (12, false)⟩,
  ⟨some 14, .load false 1 (.t 13), some (12, false)⟩,
  ⟨some 15, .len (.t 14), some (12, false)⟩,
  ⟨some 16, .fad 1 (.t 3), some (12, false)⟩,
  ⟨some 17, .load false 1 (.t 16), some (12, false)⟩,
  ⟨some 18, .len (.t 17), some (12, false)⟩,
  ⟨some 19, .bin .neq (.t 15) (.t 18), some (12, false)⟩,
  ⟨some 20, .pick (.t 12) (.k (.bool true)) (.t 19), none⟩]
def c_r05_Same_r2 (F : String → Nat) : List LI := [⟨some 4, .mov (.k (.bool false)), none⟩]
def c_r05_Same_r3 (F : String → Nat) : List LI := [⟨some 5, .mov (.k (.int .i64 (0))), none⟩]
def c_r05_Same_r4 (F : String → Nat) : List LI := [⟨some 21, .mov (.t 5), none⟩,
  ⟨some 22, .fad 1 (.t 2), none⟩,
  ⟨some 23, .load false 1 (.t 22), none⟩,
  ⟨some 24, .len (.t 23), none⟩,
  ⟨some 25, .bin .lss (.t 21) (.t 24), none⟩]
def c_r05_Same_r5 (F : String → Nat) : List LI := [⟨some 28, .fad 1 (.t 2), none⟩,
  ⟨some 29, .load false 1 (.t 28), none⟩,
  ⟨some 30, .mov (.t 5), none⟩,
  ⟨some 31, .iad 3 (.t 29) (.t 30), none⟩,
  ⟨some 32, .load true 3 (.t 31), none⟩,
  ⟨some 33, .fad 1 (.t 3), none⟩,
  ⟨some 34, .load false 1 (.t 33), none⟩,
  ⟨some 35, .mov (.t 5), none⟩,
  ⟨some 36, .iad 3 (.t 34) (.t 35), none⟩,
  ⟨some 37, .load true 3 (.t 36), none⟩,
  ⟨some 38, .eqA 3 true (.t 32) (.t 37), none⟩]
def c_r05_Same_r6 (F : String → Nat) : List LI := [⟨some 4, .mov (.k (.bool false)), none⟩]
def c_r05_Same_r7 (F : String → Nat) : List LI := [⟨some 26, .mov (.t 5), none⟩,
  ⟨some 27, .bin .add (.t 26) (.k (.int .i64 (1))), none⟩,
  ⟨some 5, .mov (.t 27), none⟩]
def c_r05_Same_b8 (F : String → Nat) : LC := (.seq (.seq (.reg (c_r05_Same_r4 F) [2, 3, 5, 25]) (.cond (.t 25) .skip (.exit 0))) (.seq (.block 1 (.seq (.dreg [] (c_r05_Same_r5 F) [2, 3, 5, 38]) (.cond (.t 38) (.seq (.reg (c_r05_Same_r6 F) [4]) .ret) .skip))) (.reg (c_r05_Same_r7 F) [2, 3, 5])))
def c_r05_Same_r9 (F : String → Nat) : List LI := [⟨some 4, .mov (.k (.bool true)), none⟩]
def c_r05_Same (F : String → Nat) : LC := (.seq (.reg (c_r05_Same_r0 F) [2, 3]) (.seq (.seq (.reg (c_r05_Same_r1 F) [2, 3, 20]) (.cond (.t 20) (.seq (.reg (c_r05_Same_r2 F) [4]) .ret) .skip)) (.seq (.seq (.reg (c_r05_Same_r3 F) [2, 3, 5]) (.block 0 (.loop [2, 3, 5] (c_r05_Same_b8 F)))) (.seq (.reg (c_r05_Same_r9 F) [4]) .ret))))
def h_r05_Same : Hints := ⟨[], fun _ => [], tab [(0, [2, 3]), (1, [2, 3, 20]), (2, [4]), (3, [2, 3, 5]), (4, [2, 3, 5, 25]), (5, [2, 3, 5]), (6, [2, 3, 5, 38]), (7, [4]), (8, [4])], tab [(4, [2, 3, 5])]⟩

attribute [go_sem] c_r05_Same_r0 c_r05_Same_r1 c_r05_Same_r2 c_r05_Same_r3 c_r05_Same_r4 c_r05_Same_r5 c_r05_Same_r6 c_r05_Same_r7 c_r05_Same_r9 c_r05_Same
section
variable {P : Program} {F : String → Nat} {α : Type}
theorem eqE (a b : E) : a = b ↔ a.t = b.t ∧ a.f = b.f ∧ a.o = b.o := by
  cases a; cases b; simp
theorem w_r05_Same (hs : K_r05_SameInts P F) (a b : G) (h1 : a.n.length ≤ maxL) (h2 : a.e.length ≤ maxL) : W P (c_r05_Same F) (Done [.t 4] [] (.bool (decide (a = b))) []) (init [gD a, gD b]) := by
  refine W_of ?_
  obtain ⟨an, ae⟩ := a
  obtain ⟨bn, be⟩ := b
  simp only at h1 h2
  simp (config := { maxSteps := 1000000 }) (disch := first | omega | (simp only [go_sem]; omega)) only [go_sem, ↓reduceIte, gD]
  refine call_by (hs _ _ h1) ?_
  simp (config := { maxSteps := 1000000 }) (disch := first | omega | (simp only [go_sem]; omega)) only [go_sem, ↓reduceIte]
  refine bran_ndec (fun c => ?_) (fun c => ?_)
  · simp (config := { maxSteps := 1000000 }) (disch := first | omega | (simp only [go_sem]; omega)) only [go_sem, ↓reduceIte, c]
    simp [c]
  · subst c
    simp (config := { maxSteps := 1000000 }) (disch := first | omega | (simp only [go_sem]; omega)) only [go_sem, ↓reduceIte]
    refine bran_ndec (fun d => ?_) (fun d => ?_)
    · simp (config := { maxSteps := 1000000 }) (disch := first | omega | (simp only [go_sem]; omega)) only [go_sem, ↓reduceIte]
      have : ae ≠ be := fun e => d (by rw [e])
      simp [this]
    · have d' : ae.length = be.length := by omega
      unfold maxL at h2
      simp (config := { maxSteps := 1000000 }) (disch := first | omega | (simp only [go_sem]; omega)) only [go_sem, ↓reduceIte]
      refine W_loop (fun i : Nat => ⟨[(2, .pt 0 0), (3, .pt 1 0), (5, .int .i64 i)], [(0, .box [.lst 1 (ints an), .lst 3 (eds ae)]), (1, .box [.lst 1 (ints an), .lst 3 (eds be)])], 2⟩) (fun i => i ≤ ae.length ∧ ae.take i = be.take i) (fun i => ae.length - i) 0 ?_ ?_ ?_
      · simp (config := { maxSteps := 1000000 }) (disch := first | omega | (simp only [go_sem]; omega)) only [go_sem, ↓reduceIte]
        rfl
      · simp
      · intro i hi
        simp (config := { maxSteps := 1000000 }) (disch := first | omega | (simp only [go_sem]; omega)) only [go_sem, ↓reduceIte, c_r05_Same_b8]
        refine bran_dec (fun f => ?_) (fun f => ?_)
        · have he : (decide ((gt ae i).t = (gt be i).t) && (decide ((gt ae i).f = (gt be i).f) && decide ((gt ae i).o = (gt be i).o))) = decide (gt ae i = gt be i) := by
            rw [Bool.eq_iff_iff]; simp [eqE]
          simp (config := { maxSteps := 1000000 }) (disch := first | omega | (simp only [go_sem]; omega)) only [go_sem, ↓reduceIte, he]
          refine bran_ndec (fun d2 => ?_) (fun d2 => ?_)
          · simp (config := { maxSteps := 1000000 }) (disch := first | omega | (simp only [go_sem]; omega)) only [go_sem, ↓reduceIte]
            have : ae ≠ be := fun e => d2 (by rw [e])
            simp [this]
          · simp (config := { maxSteps := 1000000 }) (disch := first | omega | (simp only [go_sem]; omega)) only [go_sem, ↓reduceIte]
            exact ⟨i + 1, by simp, ⟨by omega, by rw [take_gt (by omega), take_gt (by omega), hi.2, d2]⟩, by omega⟩
        · simp (config := { maxSteps := 1000000 }) (disch := first | omega | (simp only [go_sem]; omega)) only [go_sem, ↓reduceIte]
          obtain rfl : i = ae.length := by omega
          have := hi.2
          rw [List.take_length, List.take_of_length_le (by omega)] at this
          simp [this]
end
end Go.Am
namespace Go.Am
open Go
set_option linter.unusedVariables false
set_option linter.unusedSimpArgs false
section
variable (P : Program) (F : String → Nat)
end
def shI : Sh := .int .i64
def shIs : Sh := .slc 1 8 shI
def shE : Sh := .cat [shI, shI, shI]
def shG : Sh := .cat [shIs, .slc 3 24 shE]
theorem rd_int {x : D} (h : HasEl shI x) : ∃ n : Int, x = .int .i64 n ∧ IntKind.i64.min ≤ n ∧ n ≤ IntKind.i64.max := by
  simpa only [shI, HasEl] using h
theorem rd_intl : ∀ {xs : List D}, (∀ y ∈ xs, HasEl shI y) → ∃ l : List Int, xs = ints l
  | [], _ => ⟨[], rfl⟩
  | x :: xs, h => by
    obtain ⟨l, rfl⟩ := rd_intl (xs := xs) fun y hy => h y (by simp [hy])
    obtain ⟨n, rfl, _⟩ := rd_int (h x (by simp))
    exact ⟨n :: l, rfl⟩
theorem rd_ints {x : D} (h : HasEl shIs x) : ∃ l : List Int, x = .lst 1 (ints l) ∧ l.length ≤ 20000000000000 := by
  simp only [shIs, HasEl] at h
  obtain ⟨xs, rfl, h1, h2⟩ := h
  obtain ⟨l, rfl⟩ := rd_intl h2
  refine ⟨l, rfl, ?_⟩
  rw [ints_length] at h1
  unfold reachBytes at h1
  omega
theorem rd_edge {x : D} (h : HasEl shE x) : ∃ e : E, x = edD e := by
  simp only [shE, HasEl] at h
  obtain ⟨ds, rfl, h⟩ := h
  simp only [shI, HasShs, HasEl] at h
  obtain ⟨_, _, rfl, ⟨a, rfl, _⟩, _, _, rfl, ⟨b, rfl, _⟩, _, _, rfl, ⟨c, rfl, _⟩, rfl⟩ := h
  exact ⟨⟨a, b, c⟩, rfl⟩
theorem rd_edl : ∀ {xs : List D}, (∀ y ∈ xs, HasEl shE y) → ∃ l : List E, xs = eds l
  | [], _ => ⟨[], rfl⟩
  | x :: xs, h => by
    obtain ⟨l, rfl⟩ := rd_edl (xs := xs) fun y hy => h y (by simp [hy])
    obtain ⟨n, rfl⟩ := rd_edge (h x (by simp))
    exact ⟨n :: l, rfl⟩
theorem rd_graph {x : D} (h : HasEl shG x) : ∃ g : G, x = gD g := by
  simp only [shG, HasEl] at h
  obtain ⟨ds, rfl, h⟩ := h
  have h' : ∃ a b, ds = a :: b ∧ HasEl shIs a ∧ HasShs [.slc 3 24 shE] b := by simpa only [shIs, HasShs] using h
  obtain ⟨a, _, rfl, h1, h'⟩ := h'
  obtain ⟨l, rfl, _⟩ := rd_ints h1
  simp only [HasShs, HasEl] at h'
  obtain ⟨_, _, rfl, ⟨xs, rfl, _, h3⟩, rfl⟩ := h'
  obtain ⟨es, rfl⟩ := rd_edl h3
  exact ⟨⟨l, es⟩, rfl⟩
theorem hasShs_slc {z b : Nat} {e : Sh} {l : List Sh} {ds : List D} (h : HasShs (.slc z b e :: l) ds) : ∃ a b', ds = a :: b' ∧ HasEl (.slc z b e) a ∧ HasShs l b' := by simpa only [HasShs] using h
theorem hasShs_nil {ds : List D} (h : HasShs [] ds) : ds = [] := by simpa only [HasShs] using h
def moL (m : Mo) : List D := [.lst 1 (ints m.n), .lst 1 (ints m.e)]
def shM : Sh := .cat [shIs, shIs]
theorem rd_ml {ds : List D} (h : HasShs [shIs, shIs] ds) : ∃ m : Mo, ds = moL m ∧ m.sm := by
  obtain ⟨_, _, rfl, h1, h⟩ := hasShs_slc h
  obtain ⟨_, _, rfl, h2, h⟩ := hasShs_slc h
  obtain rfl := hasShs_nil h
  obtain ⟨n, rfl, l1⟩ := rd_ints h1
  obtain ⟨e, rfl, l2⟩ := rd_ints h2
  exact ⟨⟨n, e⟩, rfl, by simp only [maxL]; omega, by simp only [maxL]; omega⟩
theorem rd_morph {x : D} (h : HasEl shM x) : ∃ m : Mo, x = mD m ∧ m.sm := by
  simp only [shM, HasEl] at h
  obtain ⟨ds, rfl, h⟩ := h
  obtain ⟨m, rfl, h2⟩ := rd_ml h
  exact ⟨m, rfl, h2⟩
section
variable {P : Program} {F : String → Nat} {α : Type}
end
end Go.Am
namespace Go.Am
open Go
set_option linter.unusedVariables false
set_option linter.unusedSimpArgs false
/- r02.SameInts -/
def c_r02_SameInts_r0 (F : String → Nat) : List LI := [⟨some 4, .mov (.k (.bool false)), none⟩]
def c_r02_SameInts_r1 (F : String → Nat) : List LI := [⟨some 6, .mov (.t 0), none⟩,
  ⟨some 7, .len (.t 6), none⟩,
  ⟨some 8, .mov (.t 1), none⟩,
  ⟨some 9, .len (.t 8), none⟩,
  ⟨some 10, .bin .neq (.t 7) (.t 9), none⟩]
def c_r02_SameInts_r2 (F : String → Nat) : List LI := [⟨some 4, .mov (.k (.bool false)), none⟩]
def c_r02_SameInts_r3 (F : String → Nat) : List LI := [⟨some 5, .mov (.k (.int .i64 (0))), none⟩]
def c_r02_SameInts_r4 (F : String → Nat) : List LI := [⟨some 11, .mov (.t 5), none⟩,
  ⟨some 12, .mov (.t 0), none⟩,
  ⟨some 13, .len (.t 12), none⟩,
  ⟨some 14, .bin .lss (.t 11) (.t 13), none⟩]
def c_r02_SameInts_r5 (F : String → Nat) : List LI := [⟨some 17, .mov (.t 0), none⟩,
  ⟨some 18, .mov (.t 5), none⟩,
  ⟨some 19, .iad 1 (.t 17) (.t 18), none⟩,
  ⟨some 20, .load false 1 (.t 19), none⟩,
  ⟨some 21, .mov (.t 1), none⟩,
  ⟨some 22, .mov (.t 5), none⟩,
  ⟨some 23, .iad 1 (.t 21) (.t 22), none⟩,
  ⟨some 24, .load false 1 (.t 23), none⟩,
  ⟨some 25, .bin .neq (.t 20) (.t 24), none⟩]
def c_r02_SameInts_r6 (F : String → Nat) : List LI := [⟨some 4, .mov (.k (.bool false)), none⟩]
def c_r02_SameInts_r7 (F : String → Nat) : List LI := [⟨some 15, .mov (.t 5), none⟩,
  ⟨some 16, .bin .add (.t 15) (.k (.int .i64 (1))), none⟩,
  ⟨some 5, .mov (.t 16), none⟩]
def c_r02_SameInts_b8 (F : String → Nat) : LC := (.seq (.seq (.reg (c_r02_SameInts_r4 F) [0, 1, 5, 14]) (.cond (.t 14) .skip (.exit 0))) (.seq (.block 1 (.seq (.dreg [] (c_r02_SameInts_r5 F) [0, 1, 5, 25]) (.cond (.t 25) (.seq (.reg (c_r02_SameInts_r6 F) [4]) .ret) .skip))) (.reg (c_r02_SameInts_r7 F) [0, 1, 5])))
def c_r02_SameInts_r9 (F : String → Nat) : List LI := [⟨some 4, .mov (.k (.bool true)), none⟩]
def c_r02_SameInts (F : String → Nat) : LC := (.seq (.reg (c_r02_SameInts_r0 F) [0, 1]) (.seq (.seq (.reg (c_r02_SameInts_r1 F) [0, 1, 10]) (.cond (.t 10) (.seq (.reg (c_r02_SameInts_r2 F) [4]) .ret) .skip)) (.seq (.seq (.reg (c_r02_SameInts_r3 F) [0, 1, 5]) (.block 0 (.loop [0, 1, 5] (c_r02_SameInts_b8 F)))) (.seq (.reg (c_r02_SameInts_r9 F) [4]) .ret))))
def h_r02_SameInts : Hints := ⟨[], fun _ => [], tab [(0, [0, 1]), (1, [0, 1, 10]), (2, [4]), (3, [0, 1, 5]), (4, [0, 1, 5, 14]), (5, [0, 1, 5]), (6, [0, 1, 5, 25]), (7, [4]), (8, [4])], tab [(4, [0, 1, 5])]⟩

/- r06.Same -/
def c_r06_Same_r0 (F : String → Nat) : List LI := [⟨some 2, .bx (.t 0), none⟩,
  ⟨some 3, .bx (.t 1), none⟩,
  ⟨some 4, .mov (.k (.bool false)), none⟩]
def c_r06_Same_r1 (F : String → Nat) : List LI := [⟨some 5, .fad 0 (.t 2), none⟩,
  ⟨some 6, .load false 1 (.t 5), none⟩,
  ⟨some 7, .fad 0 (.t 3), none⟩,
  ⟨some 8, .load false 1 (.t 7), none⟩,
  ⟨some 9, .call (F "r02.SameInts") [.t 6, .t 8] [], none⟩,
  ⟨some 10, .mov (.t 9), none⟩,
  ⟨some 11, .fad 1 (.t 2), some (10, true)⟩,
  ⟨some 12, .load false 1 (.t 11), some (10, true)⟩,
  ⟨some 13, .fad 1 (.t 3), some (10, true)⟩,
  ⟨some 14, .load false 1 (.t 13), some (10, true)⟩,
  ⟨some 15, .call (F "r02.SameInts") [.t 12, .t 14] [], some (10, true)⟩,
  ⟨some 16, .pick (.t 10) (.t 15) (.k (.bool false)), none⟩,
  ⟨some 4, .mov (.t 16), none⟩]
def c_r06_Same (F : String → Nat) : LC := (.seq (.reg (c_r06_Same_r0 F) [2, 3]) (.seq (.reg (c_r06_Same_r1 F) [4]) .ret))
def h_r06_Same : Hints := ⟨[], fun _ => [], tab [(0, [2, 3]), (1, [4])], tab []⟩

attribute [go_sem] c_r02_SameInts_r0 c_r02_SameInts_r1 c_r02_SameInts_r2 c_r02_SameInts_r3 c_r02_SameInts_r4 c_r02_SameInts_r5 c_r02_SameInts_r6 c_r02_SameInts_r7 c_r02_SameInts_r9 c_r02_SameInts c_r06_Same_r0 c_r06_Same_r1 c_r06_Same
section
variable (P : Program) (F : String → Nat)
def K_r02_SameInts : Prop := ∀ a b : List Int, a.length ≤ maxL → FC P (F "r02.SameInts") [.lst 1 (ints a), .lst 1 (ints b)] (.bool (decide (a = b))) []
def K_r06_Same : Prop := ∀ a b : Mo, a.n.length ≤ maxL → a.e.length ≤ maxL → FC P (F "r06.Same") [mD a, mD b] (.bool (decide (a = b))) []
end
section
variable {P : Program} {F : String → Nat} {α : Type}
theorem w_r02_SameInts (a b : List Int) (hl : a.length ≤ maxL) : W P (c_r02_SameInts F) (Done [.t 4] [] (.bool (decide (a = b))) []) (init [.lst 1 (ints a), .lst 1 (ints b)]) := by
  refine W_of ?_
  unfold maxL at hl
  simp (config := { maxSteps := 1000000 }) (disch := first | omega | (simp only [go_sem]; omega)) only [go_sem, ↓reduceIte]
  refine bran_ndec (fun h => ?_) (fun h => ?_)
  · simp (config := { maxSteps := 1000000 }) (disch := first | omega | (simp only [go_sem]; omega)) only [go_sem, ↓reduceIte]
    have : a ≠ b := fun e => h (by rw [e])
    simp [this]
  · have h' : a.length = b.length := by omega
    simp (config := { maxSteps := 1000000 }) (disch := first | omega | (simp only [go_sem]; omega)) only [go_sem, ↓reduceIte]
    refine W_loop (fun i : Nat => ⟨[(0, .lst 1 (ints a)), (1, .lst 1 (ints b)), (5, .int .i64 i)], [], 0⟩) (fun i => i ≤ a.length ∧ a.take i = b.take i) (fun i => a.length - i) 0 ?_ ?_ ?_
    · simp (config := { maxSteps := 1000000 }) (disch := first | omega | (simp only [go_sem]; omega)) only [go_sem, ↓reduceIte]
      rfl
    · simp
    · intro i hi
      simp (config := { maxSteps := 1000000 }) (disch := first | omega | (simp only [go_sem]; omega)) only [go_sem, ↓reduceIte, c_r02_SameInts_b8]
      refine bran_dec (fun c => ?_) (fun c => ?_)
      · simp (config := { maxSteps := 1000000 }) (disch := first | omega | (simp only [go_sem]; omega)) only [go_sem, ↓reduceIte]
        refine bran_ndec (fun d => ?_) (fun d => ?_)
        · simp (config := { maxSteps := 1000000 }) (disch := first | omega | (simp only [go_sem]; omega)) only [go_sem, ↓reduceIte]
          have : a ≠ b := fun e => d (by rw [e])
          simp [this]
        · simp (config := { maxSteps := 1000000 }) (disch := first | omega | (simp only [go_sem]; omega)) only [go_sem, ↓reduceIte]
          exact ⟨i + 1, by simp, ⟨by omega, by rw [take_gt (by omega), take_gt (by omega), hi.2, d]⟩, by omega⟩
      · simp (config := { maxSteps := 1000000 }) (disch := first | omega | (simp only [go_sem]; omega)) only [go_sem, ↓reduceIte]
        obtain rfl : i = a.length := by omega
        have := hi.2
        rw [List.take_length, List.take_of_length_le (by omega)] at this
        simp [this]
theorem w_r06_Same (hs : K_r02_SameInts P F) (a b : Mo) (h1 : a.n.length ≤ maxL) (h2 : a.e.length ≤ maxL) : W P (c_r06_Same F) (Done [.t 4] [] (.bool (decide (a = b))) []) (init [mD a, mD b]) := by
  refine W_of ?_
  obtain ⟨an, ae⟩ := a
  obtain ⟨bn, be⟩ := b
  simp only at h1 h2
  simp (config := { maxSteps := 1000000 }) (disch := first | omega | (simp only [go_sem]; omega)) only [go_sem, ↓reduceIte, mD]
  refine call_by (hs _ _ h1) ?_
  simp (config := { maxSteps := 1000000 }) (disch := first | omega | (simp only [go_sem]; omega)) only [go_sem, ↓reduceIte]
  refine bran_dec (fun c => ?_) (fun c => ?_)
  · subst c
    simp (config := { maxSteps := 1000000 }) (disch := first | omega | (simp only [go_sem]; omega)) only [go_sem, ↓reduceIte]
    refine call_by (hs _ _ h2) ?_
    simp (config := { maxSteps := 1000000 }) (disch := first | omega | (simp only [go_sem]; omega)) only [go_sem, ↓reduceIte]
    simp
  · simp (config := { maxSteps := 1000000 }) (disch := first | omega | (simp only [go_sem]; omega)) only [go_sem, ↓reduceIte, c]
    simp [c]
theorem thr_step {l b : List Int} {i : Nat} (h : i < l.length) : thr (l.take (i + 1)) b = thr (l.take i) b ++ [gt b (gt l i)] := by
  rw [take_gt h]; simp [thr]
end
end Go.Am
namespace Go.Am
open Go
set_option linter.unusedVariables false
set_option linter.unusedSimpArgs false
section
theorem gt_setB {α : Type} [Inhabited α] {l : List α} {k i : Nat} {v : α} (hi : i < l.length) : gt (l.set k v) i = if k = i then v else gt l i := by
  rw [gt_nat (by simpa using hi), gt_nat hi, List.getElem_set]
end
end Go.Am
namespace Go.Am
open Go
set_option linter.unusedVariables false
set_option linter.unusedSimpArgs false
attribute [local irreducible] W
/- r07.has -/
def c_r07_has_r0 (F : String → Nat) : List LI := [⟨some 4, .mov (.k (.bool false)), none⟩]
def c_r07_has_r1 (F : String → Nat) : List LI := [⟨some 5, .mov (.k (.int .i64 (0))), none⟩]
def c_r07_has_r2 (F : String → Nat) : List LI := [⟨some 6, .mov (.t 5), none⟩,
  ⟨some 7, .mov (.t 0), none⟩,
  ⟨some 8, .len (.t 7), none⟩,
  ⟨some 9, .bin .lss (.t 6) (.t 8), none⟩]
def c_r07_has_r3 (F : String → Nat) : List LI := [⟨some 12, .mov (.t 0), none⟩,
  ⟨some 13, .mov (.t 5), none⟩,
  ⟨some 14, .iad 1 (.t 12) (.t 13), none⟩,
  ⟨some 15, .load false 1 (.t 14), none⟩,
  ⟨some 16, .mov (.t 1), none⟩,
  ⟨some 17, .bin .eql (.t 15) (.t 16), none⟩]
def c_r07_has_r4 (F : String → Nat) : List LI := [⟨some 4, .mov (.k (.bool true)), none⟩]
def c_r07_has_r5 (F : String → Nat) : List LI := [⟨some 10, .mov (.t 5), none⟩,
  ⟨some 11, .bin .add (.t 10) (.k (.int .i64 (1))), none⟩,
  ⟨some 5, .mov (.t 11), none⟩]
def c_r07_has_b6 (F : String → Nat) : LC := (.seq (.seq (.reg (c_r07_has_r2 F) [0, 1, 5, 9]) (.cond (.t 9) .skip (.exit 0))) (.seq (.block 1 (.seq (.reg (c_r07_has_r3 F) [0, 1, 5, 17]) (.cond (.t 17) (.seq (.reg (c_r07_has_r4 F) [4]) .ret) .skip))) (.reg (c_r07_has_r5 F) [0, 1, 5])))
def c_r07_has_r7 (F : String → Nat) : List LI := [⟨some 4, .mov (.k (.bool false)), none⟩]
def c_r07_has (F : String → Nat) : LC := (.seq (.reg (c_r07_has_r0 F) [0, 1]) (.seq (.seq (.reg (c_r07_has_r1 F) [0, 1, 5]) (.block 0 (.loop [0, 1, 5] (c_r07_has_b6 F)))) (.seq (.reg (c_r07_has_r7 F) [4]) .ret)))
def h_r07_has : Hints := ⟨[], fun _ => [], tab [(0, [0, 1]), (1, [0, 1, 5]), (2, [0, 1, 5, 9]), (3, [0, 1, 5]), (4, [0, 1, 5, 17]), (5, [4]), (6, [4])], tab [(2, [0, 1, 5])]⟩

/- r07.ascending -/
def c_r07_ascending_r0 (F : String → Nat) : List LI := [⟨some 4, .mov (.k (.int .i64 (0))), none⟩]
def c_r07_ascending_r1 (F : String → Nat) : List LI := [⟨some 5, .mov (.k (.int .i64 (0))), none⟩]
def c_r07_ascending_r2 (F : String → Nat) : List LI := [⟨some 6, .mov (.t 5), none⟩,
  ⟨some 7, .mov (.t 0), none⟩,
  ⟨some 8, .len (.t 7), none⟩,
  ⟨some 9, .bin .lss (.t 6) (.t 8), none⟩]
def c_r07_ascending_r3 (F : String → Nat) : List LI := [⟨some 12, .mov (.t 0), none⟩,
  ⟨some 13, .mov (.t 5), none⟩,
  ⟨some 14, .iad 1 (.t 12) (.t 13), none⟩,
  ⟨some 15, .load false 1 (.t 14), none⟩,
  ⟨some 16, .bin .lss (.t 15) (.k (.int .i64 (0))), none⟩,
  ⟨some 17, .mov (.t 16), none⟩,
  ⟨some 18, .mov (.t 0), some (17, false)⟩,
  ⟨some 19, .mov (.t 5), some (17, false)⟩,
  ⟨some 20, .iad 1 (.t 18) (.t 19), some (17, false)⟩,
  ⟨some 21, .load false 1 (.t 20), some (17, false)⟩,
  ⟨some 22, .mov (.t 1), some (17, false)⟩,
  ⟨some 23, .bin .geq (.t 21) (.t 22), some (17, false)⟩,
  ⟨some 24, .pick (.t 17) (.k (.bool true)) (.t 23), none⟩]
def c_r07_ascending_r4 (F : String → Nat) : List LI := [⟨some 4, .mov (.k (.int .i64 (6))), none⟩]
def c_r07_ascending_r5 (F : String → Nat) : List LI := [⟨some 25, .mov (.t 5), none⟩,
  ⟨some 26, .bin .gtr (.t 25) (.k (.int .i64 (0))), none⟩,
  ⟨some 27, .mov (.t 26), none⟩,
  ⟨some 28, .mov (.t 0), some (27, true)⟩,
  ⟨some 29, .mov (.t 5), some (27, true)⟩,
  ⟨some 30, .iad 1 (.t 28) (.t 29), some (27, true)⟩,
  ⟨some 31, .load false 1 (.t 30), some (27, true)⟩,
  ⟨some 32, .mov (.t 0), some (27, true)⟩,
  ⟨some 33, .mov (.t 5), some (27, true)⟩,
  ⟨some 34, .bin .sub (.t 33) (.k (.int .i64 (1))), some (27, true)⟩,
  ⟨some 35, .iad 1 (.t 32) (.t 34), some (27, true)⟩,
  ⟨some 36, .load false 1 (.t 35), some (27, true)⟩,
  ⟨some 37, .bin .leq (.t 31) (.t 36), some (27, true)⟩,
  ⟨some 38, .pick (.t 27) (.t 37) (.k (.bool false)), none⟩]
def c_r07_ascending_r6 (F : String → Nat) : List LI := [⟨some 4, .mov (.k (.int .i64 (12))), none⟩]
def c_r07_ascending_r7 (F : String → Nat) : List LI := [⟨some 10, .mov (.t 5), none⟩,
  ⟨some 11, .bin .add (.t 10) (.k (.int .i64 (1))), none⟩,
  ⟨some 5, .mov (.t 11), none⟩]
def c_r07_ascending_b8 (F : String → Nat) : LC := (.seq (.seq (.reg (c_r07_ascending_r2 F) [0, 1, 5, 9]) (.cond (.t 9) .skip (.exit 0))) (.seq (.block 1 (.seq (.seq (.reg (c_r07_ascending_r3 F) [0, 1, 5, 24]) (.cond (.t 24) (.seq (.reg (c_r07_ascending_r4 F) [4]) .ret) .skip)) (.seq (.dreg [] (c_r07_ascending_r5 F) [0, 1, 5, 38]) (.cond (.t 38) (.seq (.reg (c_r07_ascending_r6 F) [4]) .ret) .skip)))) (.reg (c_r07_ascending_r7 F) [0, 1, 5])))
def c_r07_ascending_r9 (F : String → Nat) : List LI := [⟨some 4, .mov (.k (.int .i64 (0))), none⟩]
def c_r07_ascending (F : String → Nat) : LC := (.seq (.reg (c_r07_ascending_r0 F) [0, 1]) (.seq (.seq (.reg (c_r07_ascending_r1 F) [0, 1, 5]) (.block 0 (.loop [0, 1, 5] (c_r07_ascending_b8 F)))) (.seq (.reg (c_r07_ascending_r9 F) [4]) .ret)))
def h_r07_ascending : Hints := ⟨[], fun _ => [], tab [(0, [0, 1]), (1, [0, 1, 5]), (2, [0, 1, 5, 9]), (3, [0, 1, 5]), (4, [0, 1, 5, 24]), (5, [4]), (6, [0, 1, 5, 38]), (7, [4]), (8, [4])], tab [(2, [0, 1, 5])]⟩

/- r07.Right -/
def c_r07_Right_r0 (F : String → Nat) : List LI := [⟨some 2, .bx (.t 0), none⟩,
  ⟨some 3, .bx (.t 1), none⟩,
  ⟨some 4, .mov (.k (.int .i64 (0))), none⟩]
def c_r07_Right_r1 (F : String → Nat) : List LI := [⟨some 9, .fad 0 (.t 3), none⟩,
  ⟨some 10, .load false 1 (.t 9), none⟩,
  ⟨some 11, .fad 0 (.t 2), none⟩,
  ⟨some 12, .load false 1 (.t 11), none⟩,
  ⟨some 13, .len (.t 12), none⟩,
  ⟨some 14, .call (F "r07.ascending") [.t 10, .t 13] [], none⟩,
  ⟨some 5, .mov (.t 14), none⟩]
def c_r07_Right_r2 (F : String → Nat) : List LI := [⟨some 15, .mov (.t 5), none⟩,
  ⟨some 16, .bin .neq (.t 15) (.k (.int .i64 (0))), none⟩]
def c_r07_Right_r3 (F : String → Nat) : List LI := [⟨some 17, .mov (.t 5), none⟩,
  ⟨some 4, .mov (.t 17), none⟩]
def c_r07_Right_r4 (F : String → Nat) : List LI := [⟨some 18, .fad 1 (.t 3), none⟩,
  ⟨some 19, .load false 1 (.t 18), none⟩,
  ⟨some 20, .fad 1 (.t 2), none⟩,
  ⟨some 21, .load false 1 (.t 20), none⟩,
  ⟨some 22, .len (.t 21), none⟩,
  ⟨some 23, .call (F "r07.ascending") [.t 19, .t 22] [], none⟩,
  ⟨some 6, .mov (.t 23), none⟩]
def c_r07_Right_r5 (F : String → Nat) : List LI := [⟨some 24, .mov (.t 6), none⟩,
  ⟨some 25, .bin .neq (.t 24) (.k (.int .i64 (0))), none⟩]
def c_r07_Right_r6 (F : String → Nat) : List LI := [⟨some 26, .mov (.t 6), none⟩,
  ⟨some 4, .mov (.t 26), none⟩]
def c_r07_Right_r7 (F : String → Nat) : List LI := [⟨some 7, .mov (.k (.int .i64 (0))), none⟩]
def c_r07_Right_r8 (F : String → Nat) : List LI := [⟨some 27, .mov (.t 7), none⟩,
  ⟨some 28, .fad 1 (.t 3), none⟩,
  ⟨some 29, .load false 1 (.t 28), none⟩,
  ⟨some 30, .len (.t 29), none⟩,
  ⟨some 31, .bin .lss (.t 27) (.t 30), none⟩]
def c_r07_Right_r9 (F : String → Nat) : List LI := [⟨some 34, .fad 1 (.t 2), none⟩,
  ⟨some 35, .load false 1 (.t 34), none⟩,
  ⟨some 36, .fad 1 (.t 3), none⟩,
  ⟨some 37, .load false 1 (.t 36), none⟩,
  ⟨some 38, .mov (.t 7), none⟩,
  ⟨some 39, .iad 1 (.t 37) (.t 38), none⟩,
  ⟨some 40, .load false 1 (.t 39), none⟩,
  ⟨some 41, .iad 3 (.t 35) (.t 40), none⟩,
  ⟨some 42, .load true 3 (.t 41), none⟩,
  ⟨some 8, .alloc [.int .i64 (0), .int .i64 (0), .int .i64 (0)], none⟩,
  ⟨none, .store 3 (.t 8) (.t 42), none⟩]
def c_r07_Right_r10 (F : String → Nat) : List LI := [⟨some 43, .fad 0 (.t 3), none⟩,
  ⟨some 44, .load false 1 (.t 43), none⟩,
  ⟨some 45, .fad 1 (.t 8), none⟩,
  ⟨some 46, .load false 1 (.t 45), none⟩,
  ⟨some 47, .call (F "r07.has") [.t 44, .t 46] [], none⟩,
  ⟨some 48, .not (.t 47), none⟩,
  ⟨some 49, .mov (.t 48), none⟩,
  ⟨some 50, .fad 0 (.t 3), some (49, false)⟩,
  ⟨some 51, .load false 1 (.t 50), some (49, false)⟩,
  ⟨some 52, .fad 2 (.t 8), some (49, false)⟩,
  ⟨some 53, .load false 1 (.t 52), some (49, false)⟩,
  ⟨some 54, .call (F "r07.has") [.t 51, .t 53] [], some (49, false)⟩,
  ⟨some 55, .not (.t 54), some (49, false)⟩,
  ⟨some 56, .pick (.t 49) (.k (.bool true)) (.t 55), none⟩]
def c_r07_Right_r11 (F : String → Nat) : List LI := [⟨some 4, .mov (.k (.int .i64 (14))), none⟩]
def c_r07_Right_r12 (F : String → Nat) : List LI := [⟨some 32, .mov (.t 7), none⟩,
  ⟨some 33, .bin .add (.t 32) (.k (.int .i64 (1))), none⟩,
  ⟨some 7, .mov (.t 33), none⟩]
def c_r07_Right_b13 (F : String → Nat) : LC := (.seq (.seq (.reg (c_r07_Right_r8 F) [2, 3, 7, 31]) (.cond (.t 31) .skip (.exit 0))) (.seq (.block 1 (.seq (.dreg [] (c_r07_Right_r9 F) [2, 3, 7, 8]) (.seq (.reg (c_r07_Right_r10 F) [2, 3, 7, 56]) (.cond (.t 56) (.seq (.reg (c_r07_Right_r11 F) [4]) .ret) .skip)))) (.reg (c_r07_Right_r12 F) [2, 3, 7])))
def c_r07_Right_r14 (F : String → Nat) : List LI := [⟨some 4, .mov (.k (.int .i64 (0))), none⟩]
def c_r07_Right (F : String → Nat) : LC := (.seq (.reg (c_r07_Right_r0 F) [2, 3]) (.seq (.seq (.reg (c_r07_Right_r1 F) [2, 3, 5]) (.seq (.reg (c_r07_Right_r2 F) [2, 3, 5, 16]) (.cond (.t 16) (.seq (.reg (c_r07_Right_r3 F) [4]) .ret) .skip))) (.seq (.seq (.reg (c_r07_Right_r4 F) [2, 3, 6]) (.seq (.reg (c_r07_Right_r5 F) [2, 3, 6, 25]) (.cond (.t 25) (.seq (.reg (c_r07_Right_r6 F) [4]) .ret) .skip))) (.seq (.seq (.reg (c_r07_Right_r7 F) [2, 3, 7]) (.block 0 (.loop [2, 3, 7] (c_r07_Right_b13 F)))) (.seq (.reg (c_r07_Right_r14 F) [4]) .ret)))))
def h_r07_Right : Hints := ⟨[], fun _ => [], tab [(0, [2, 3]), (1, [2, 3, 5]), (2, [2, 3, 5, 16]), (3, [4]), (4, [2, 3, 6]), (5, [2, 3, 6, 25]), (6, [4]), (7, [2, 3, 7]), (8, [2, 3, 7, 31]), (9, [2, 3, 7]), (10, [2, 3, 7, 8]), (11, [2, 3, 7, 56]), (12, [4]), (13, [4])], tab [(8, [2, 3, 7])]⟩

/- r07.Valid -/
def c_r07_Valid_r0 (F : String → Nat) : List LI := [⟨some 2, .bx (.t 0), none⟩,
  ⟨some 3, .bx (.t 1), none⟩,
  ⟨some 4, .mov (.k (.int .i64 (0))), none⟩]
def c_r07_Valid_r1 (F : String → Nat) : List LI := [⟨some 6, .load true 2 (.t 2), none⟩,
  ⟨some 7, .call (F "r05.Valid") [.t 6] [], none⟩,
  ⟨some 5, .mov (.t 7), none⟩]
def c_r07_Valid_r2 (F : String → Nat) : List LI := [⟨some 8, .mov (.t 5), none⟩,
  ⟨some 9, .bin .neq (.t 8) (.k (.int .i64 (0))), none⟩]
def c_r07_Valid_r3 (F : String → Nat) : List LI := [⟨some 10, .mov (.t 5), none⟩,
  ⟨some 4, .mov (.t 10), none⟩]
def c_r07_Valid_r4 (F : String → Nat) : List LI := [⟨some 11, .load true 2 (.t 2), none⟩,
  ⟨some 12, .load true 2 (.t 3), none⟩,
  ⟨some 13, .call (F "r07.Right") [.t 11, .t 12] [], none⟩,
  ⟨some 4, .mov (.t 13), none⟩]
def c_r07_Valid (F : String → Nat) : LC := (.seq (.reg (c_r07_Valid_r0 F) [2, 3]) (.seq (.seq (.reg (c_r07_Valid_r1 F) [2, 3, 5]) (.seq (.reg (c_r07_Valid_r2 F) [2, 3, 5, 9]) (.cond (.t 9) (.seq (.reg (c_r07_Valid_r3 F) [4]) .ret) .skip))) (.seq (.reg (c_r07_Valid_r4 F) [4]) .ret)))
def h_r07_Valid : Hints := ⟨[], fun _ => [], tab [(0, [2, 3]), (1, [2, 3, 5]), (2, [2, 3, 5, 9]), (3, [4]), (4, [4])], tab []⟩

/- r07.Few -/
def c_r07_Few_r0 (F : String → Nat) : List LI := [⟨some 2, .bx (.t 0), none⟩,
  ⟨some 4, .mov (.k (.bool false)), none⟩]
def c_r07_Few_r1 (F : String → Nat) : List LI := [⟨some 5, .fad 0 (.t 2), none⟩,
  ⟨some 6, .load false 1 (.t 5), none⟩,
  ⟨some 7, .len (.t 6), none⟩,
  ⟨some 8, .fad 1 (.t 2), none⟩,
  ⟨some 9, .load false 1 (.t 8), none⟩,
  ⟨some 10, .len (.t 9), none⟩,
  ⟨some 11, .bin .add (.t 7) (.t 10), none⟩,
  ⟨some 12, .mov (.t 1), none⟩,
  ⟨some 13, .bin .leq (.t 11) (.t 12), none⟩,
  ⟨some 4, .mov (.t 13), none⟩]
def c_r07_Few (F : String → Nat) : LC := (.seq (.reg (c_r07_Few_r0 F) [1, 2]) (.seq (.reg (c_r07_Few_r1 F) [4]) .ret))
def h_r07_Few : Hints := ⟨[], fun _ => [], tab [(0, [1, 2]), (1, [4])], tab []⟩

attribute [go_sem] c_r07_has_r0 c_r07_has_r1 c_r07_has_r2 c_r07_has_r3 c_r07_has_r4 c_r07_has_r5 c_r07_has_r7 c_r07_has c_r07_ascending_r0 c_r07_ascending_r1 c_r07_ascending_r2 c_r07_ascending_r3 c_r07_ascending_r4 c_r07_ascending_r5 c_r07_ascending_r6 c_r07_ascending_r7 c_r07_ascending_r9 c_r07_ascending c_r07_Right_r0 c_r07_Right_r1 c_r07_Right_r2 c_r07_Right_r3 c_r07_Right_r4 c_r07_Right_r5 c_r07_Right_r6 c_r07_Right_r7 c_r07_Right_r8 c_r07_Right_r9 c_r07_Right_r10 c_r07_Right_r11 c_r07_Right_r12 c_r07_Right_r14 c_r07_Right c_r07_Valid_r0 c_r07_Valid_r1 c_r07_Valid_r2 c_r07_Valid_r3 c_r07_Valid_r4 c_r07_Valid c_r07_Few_r0 c_r07_Few_r1 c_r07_Few
section
variable (P : Program) (F : String → Nat)
def K_r07_has : Prop := ∀ (l : List Int) (n : Int), l.length ≤ maxL → FC P (F "r07.has") [.lst 1 (ints l), .int .i64 n] (.bool (decide (n ∈ l))) []
def K_r07_ascending : Prop := ∀ (l : List Int) (n : Int), l.length ≤ maxL → 0 ≤ n → n ≤ 1000000 → FC P (F "r07.ascending") [.lst 1 (ints l), .int .i64 n] (.int .i64 (ascG n none l)) []
def K_r07_Right : Prop := ∀ (g : G) (p : Mo), validG g = 0 → p.n.length ≤ maxL → p.e.length ≤ maxL → FC P (F "r07.Right") [gD g, mD p] (.int .i64 (rightP g p)) []
def K_r07_Valid : Prop := ∀ (g : G) (p : Mo), p.n.length ≤ maxL → p.e.length ≤ maxL → FC P (F "r07.Valid") [gD g, mD p] (.int .i64 (validP g p)) []
def K_r07_Few : Prop := ∀ (m : Mo) (n : Int), m.n.length ≤ maxL → m.e.length ≤ maxL → FC P (F "r07.Few") [mD m, .int .i64 n] (.bool (fewM m n)) []
end
section
variable {P : Program} {F : String → Nat} {α : Type}
theorem mem_take {l : List Int} {n : Int} {i : Nat} (h : i < l.length) : n ∈ l.take (i + 1) ↔ n ∈ l.take i ∨ gt l i = n := by
  rw [take_gt h]; simp [eq_comm]
theorem w_r07_has (l : List Int) (n : Int) (hl : l.length ≤ maxL) : W P (c_r07_has F) (Done [.t 4] [] (.bool (decide (n ∈ l))) []) (init [.lst 1 (ints l), .int .i64 n]) := by
  refine W_of ?_
  unfold maxL at hl
  simp (config := { maxSteps := 1000000 }) (disch := first | omega | (simp only [go_sem]; omega)) only [go_sem, ↓reduceIte]
  refine W_loop (fun i : Nat => ⟨[(0, .lst 1 (ints l)), (1, .int .i64 n), (5, .int .i64 i)], [], 0⟩) (fun i => i ≤ l.length ∧ n ∉ l.take i) (fun i => l.length - i) 0 ?_ ?_ ?_
  · simp (config := { maxSteps := 1000000 }) (disch := first | omega | (simp only [go_sem]; omega)) only [go_sem, ↓reduceIte]
    rfl
  · simp
  · rintro i ⟨hi, hn⟩
    simp (config := { maxSteps := 1000000 }) (disch := first | omega | (simp only [go_sem]; omega)) only [go_sem, ↓reduceIte, c_r07_has_b6]
    refine bran_dec (fun c => ?_) (fun c => ?_)
    · have hm := mem_take (n := n) (l := l) (i := i) (by omega)
      simp (config := { maxSteps := 1000000 }) (disch := first | omega | (simp only [go_sem]; omega)) only [go_sem, ↓reduceIte]
      refine bran_dec (fun d => ?_) (fun d => ?_)
      · have : n ∈ l := by rw [← d]; exact gt_mem (by omega) (by omega)
        simp (config := { maxSteps := 1000000 }) (disch := first | omega | (simp only [go_sem]; omega)) only [go_sem, ↓reduceIte]
        simp [this]
      · simp (config := { maxSteps := 1000000 }) (disch := first | omega | (simp only [go_sem]; omega)) only [go_sem, ↓reduceIte]
        exact ⟨i + 1, by simp, ⟨by omega, fun h => by rcases hm.1 h with h | h; exact hn h; exact d h⟩, by omega⟩
    · obtain rfl : i = l.length := by omega
      rw [List.take_length] at hn
      simp (config := { maxSteps := 1000000 }) (disch := first | omega | (simp only [go_sem]; omega)) only [go_sem, ↓reduceIte]
      simp [hn]
theorem w_r07_ascending (l : List Int) (n : Int) (hl : l.length ≤ maxL) (h0 : 0 ≤ n) (h1 : n ≤ 1000000) : W P (c_r07_ascending F) (Done [.t 4] [] (.int .i64 (ascG n none l)) []) (init [.lst 1 (ints l), .int .i64 n]) := by
  refine W_of ?_
  unfold maxL at hl
  simp (config := { maxSteps := 1000000 }) (disch := first | omega | (simp only [go_sem]; omega)) only [go_sem, ↓reduceIte]
  refine W_loop (fun i : Nat => ⟨[(0, .lst 1 (ints l)), (1, .int .i64 n), (5, .int .i64 i)], [], 0⟩) (fun i => i ≤ l.length ∧ ascG n none l = ascG n (prevO l i) (l.drop i)) (fun i => l.length - i) 0 ?_ ?_ ?_
  · simp (config := { maxSteps := 1000000 }) (disch := first | omega | (simp only [go_sem]; omega)) only [go_sem, ↓reduceIte]
    rfl
  · simp [prevO]
  · intro i hi
    simp (config := { maxSteps := 1000000 }) (disch := first | omega | (simp only [go_sem]; omega)) only [go_sem, ↓reduceIte, c_r07_ascending_b8]
    refine bran_dec (fun a => ?_) (fun a => ?_)
    · have hs := asc_step n l i (by omega)
      simp (config := { maxSteps := 1000000 }) (disch := first | omega | (simp only [go_sem]; omega)) only [go_sem, ↓reduceIte]
      refine bran_dec (fun b => ?_) (fun b => ?_)
      · simp (config := { maxSteps := 1000000 }) (disch := first | omega | (simp only [go_sem]; omega)) only [go_sem, ↓reduceIte, b]
        rw [hi.2, hs, if_neg (by omega)]
      · simp (config := { maxSteps := 1000000 }) (disch := first | omega | (simp only [go_sem]; omega)) only [go_sem, ↓reduceIte, b]
        refine bran_dec (fun b2 => ?_) (fun b2 => ?_)
        · simp (config := { maxSteps := 1000000 }) (disch := first | omega | (simp only [go_sem]; omega)) only [go_sem, ↓reduceIte]
          rw [hi.2, hs, if_neg (by omega)]
        · rw [if_pos (by omega)] at hs
          simp (config := { maxSteps := 1000000 }) (disch := first | omega | (simp only [go_sem]; omega)) only [go_sem, ↓reduceIte]
          refine bran_dec (fun c => ?_) (fun c => ?_)
          · simp (config := { maxSteps := 1000000 }) (disch := first | omega | (simp only [go_sem]; omega)) only [go_sem, ↓reduceIte, c]
            refine bran_dec (fun d => ?_) (fun d => ?_)
            · simp (config := { maxSteps := 1000000 }) (disch := first | omega | (simp only [go_sem]; omega)) only [go_sem, ↓reduceIte]
              rw [hi.2, hs, if_pos ⟨by omega, d⟩]
            · simp (config := { maxSteps := 1000000 }) (disch := first | omega | (simp only [go_sem]; omega)) only [go_sem, ↓reduceIte]
              exact ⟨i + 1, by simp, ⟨by omega, by rw [hi.2, hs, if_neg (fun e => d e.2)]⟩, by omega⟩
          · simp (config := { maxSteps := 1000000 }) (disch := first | omega | (simp only [go_sem]; omega)) only [go_sem, ↓reduceIte, c]
            exact ⟨i + 1, by simp, ⟨by omega, by rw [hi.2, hs, if_neg (fun e => by omega)]⟩, by omega⟩
    · simp (config := { maxSteps := 1000000 }) (disch := first | omega | (simp only [go_sem]; omega)) only [go_sem, ↓reduceIte]
      rw [hi.2, List.drop_of_length_le (by omega)]
      rfl
theorem w_r07_Right (hl : K_r07_ascending P F) (hh : K_r07_has P F) (g : G) (p : Mo) (hv : validG g = 0) (h1 : p.n.length ≤ maxL) (h2 : p.e.length ≤ maxL) : W P (c_r07_Right F) (Done [.t 4] [] (.int .i64 (rightP g p)) []) (init [gD g, mD p]) := by
  refine W_of ?_
  have vs := valid_spec hv
  have r1 := hl p.n g.n.length h1 (by omega) (by omega)
  have r2 := hl p.e g.e.length h2 (by omega) (by omega)
  have hR : rightP g p = if ascG g.n.length none p.n ≠ 0 then ascG g.n.length none p.n else if ascG g.e.length none p.e ≠ 0 then ascG g.e.length none p.e else if dangP g p = true then 14 else 0 := rfl
  rw [hR]
  by_cases c1 : ascG g.n.length none p.n = 0
  case neg =>
    rw [if_pos c1]
    generalize ascG g.n.length none p.n = v at *
    simp only [gD, mD] at *
    simp (config := { maxSteps := 1000000 }) (disch := first | omega | (simp only [go_sem]; omega)) only [go_sem, ↓reduceIte]
    refine call_by r1 ?_
    simp (config := { maxSteps := 1000000 }) (disch := first | omega | (simp only [go_sem]; omega)) only [go_sem, ↓reduceIte, c1]
  rw [if_neg (by simp [c1])]
  by_cases c2 : ascG g.e.length none p.e = 0
  case neg =>
    rw [if_pos c2]
    rw [c1] at r1
    generalize ascG g.e.length none p.e = v at *
    simp only [gD, mD] at *
    simp (config := { maxSteps := 1000000 }) (disch := first | omega | (simp only [go_sem]; omega)) only [go_sem, ↓reduceIte]
    refine call_by r1 ?_
    simp (config := { maxSteps := 1000000 }) (disch := first | omega | (simp only [go_sem]; omega)) only [go_sem, ↓reduceIte]
    refine call_by r2 ?_
    simp (config := { maxSteps := 1000000 }) (disch := first | omega | (simp only [go_sem]; omega)) only [go_sem, ↓reduceIte, c2]
  rw [if_neg (by simp [c2])]
  have a1 := ascG_iff.1 c1
  have a2 := ascG_iff.1 c2
  have q1 := asc_len a1
  have q2 := asc_len a2
  rw [c1] at r1
  rw [c2] at r2
  have hD : dangP g p = p.e.any fun x => !(decide ((gt g.e x).f ∈ p.n) && decide ((gt g.e x).o ∈ p.n)) := rfl
  have hx := fun x => hh p.n x (by unfold maxL; omega)
  clear hR c1 c2
  obtain ⟨gn, ge⟩ := g
  obtain ⟨pn, pe⟩ := p
  simp only [gD, mD] at *
  simp (config := { maxSteps := 1000000 }) (disch := first | omega | (simp only [go_sem]; omega)) only [go_sem, ↓reduceIte]
  refine call_by r1 ?_
  simp (config := { maxSteps := 1000000 }) (disch := first | omega | (simp only [go_sem]; omega)) only [go_sem, ↓reduceIte]
  refine call_by r2 ?_
  simp (config := { maxSteps := 1000000 }) (disch := first | omega | (simp only [go_sem]; omega)) only [go_sem, ↓reduceIte]
  refine W_loop (fun i : Nat => ⟨[(2, .pt 0 0), (3, .pt 1 0), (7, .int .i64 i)], [(0, .box [.lst 1 (ints gn), .lst 3 (eds ge)]), (1, .box [.lst 1 (ints pn), .lst 1 (ints pe)])], 2⟩) (fun i => i ≤ pe.length ∧ ∀ k : Nat, k < i → (gt ge (gt pe k)).f ∈ pn ∧ (gt ge (gt pe k)).o ∈ pn) (fun i => pe.length - i) 0 ?_ ?_ ?_
  · simp (config := { maxSteps := 1000000 }) (disch := first | omega | (simp only [go_sem]; omega)) only [go_sem, ↓reduceIte]
    rfl
  · exact ⟨by omega, fun k hk => by omega⟩
  · rintro i ⟨hi, hk⟩
    by_cases c : i < pe.length
    · have g1 : decide ((i : Int) < pe.length) = true := decide_eq_true (by omega)
      have hb := a2.b _ (gt_mem (l := pe) (j := i) (by omega) (by omega))
      have x1 := hx (gt ge (gt pe i)).f
      have x2 := hx (gt ge (gt pe i)).o
      by_cases d1 : (gt ge (gt pe i)).f ∈ pn
      · rw [decide_eq_true d1] at x1
        by_cases d2 : (gt ge (gt pe i)).o ∈ pn
        · rw [decide_eq_true d2] at x2
          simp (config := { maxSteps := 1000000 }) (disch := first | omega | (simp only [go_sem]; omega)) only [go_sem, ↓reduceIte, c_r07_Right_b13, g1]
          refine call_by x1 ?_
          simp (config := { maxSteps := 1000000 }) (disch := first | omega | (simp only [go_sem]; omega)) only [go_sem, ↓reduceIte]
          refine call_by x2 ?_
          simp (config := { maxSteps := 1000000 }) (disch := first | omega | (simp only [go_sem]; omega)) only [go_sem, ↓reduceIte]
          refine ⟨i + 1, by simp, ⟨by omega, fun k h => ?_⟩, by omega⟩
          by_cases e : k = i
          · subst e; exact ⟨d1, d2⟩
          · exact hk k (by omega)
        · rw [decide_eq_false d2] at x2
          have hdt : dangP ⟨gn, ge⟩ ⟨pn, pe⟩ = true := by
            rw [hD, List.any_eq_true]
            exact ⟨_, gt_mem (l := pe) (j := i) (by omega) (by omega), by simp [d2]⟩
          rw [hdt]
          simp (config := { maxSteps := 1000000 }) (disch := first | omega | (simp only [go_sem]; omega)) only [go_sem, ↓reduceIte, c_r07_Right_b13, g1]
          refine call_by x1 ?_
          simp (config := { maxSteps := 1000000 }) (disch := first | omega | (simp only [go_sem]; omega)) only [go_sem, ↓reduceIte]
          refine call_by x2 ?_
          simp (config := { maxSteps := 1000000 }) (disch := first | omega | (simp only [go_sem]; omega)) only [go_sem, ↓reduceIte]
          try rfl
      · rw [decide_eq_false d1] at x1
        have hdt : dangP ⟨gn, ge⟩ ⟨pn, pe⟩ = true := by
          rw [hD, List.any_eq_true]
          exact ⟨_, gt_mem (l := pe) (j := i) (by omega) (by omega), by simp [d1]⟩
        rw [hdt]
        simp (config := { maxSteps := 1000000 }) (disch := first | omega | (simp only [go_sem]; omega)) only [go_sem, ↓reduceIte, c_r07_Right_b13, g1]
        refine call_by x1 ?_
        simp (config := { maxSteps := 1000000 }) (disch := first | omega | (simp only [go_sem]; omega)) only [go_sem, ↓reduceIte]
        try rfl
    · have g1 : decide ((i : Int) < pe.length) = false := decide_eq_false (by omega)
      obtain rfl : i = pe.length := by omega
      have hdt : dangP ⟨gn, ge⟩ ⟨pn, pe⟩ = false := by
        rw [hD, List.any_eq_false]
        intro x hx
        obtain ⟨k, k1, k2⟩ := mem_gt hx
        have := hk k k1
        rw [k2] at this
        simp [this]
      rw [hdt]
      simp (config := { maxSteps := 1000000 }) (disch := first | omega | (simp only [go_sem]; omega)) only [go_sem, ↓reduceIte, c_r07_Right_b13, g1]
      try rfl
theorem w_r07_Valid (hv : K_r05_Valid P F) (hp : K_r07_Right P F) (g : G) (p : Mo) (h1 : p.n.length ≤ maxL) (h2 : p.e.length ≤ maxL) : W P (c_r07_Valid F) (Done [.t 4] [] (.int .i64 (validP g p)) []) (init [gD g, mD p]) := by
  refine W_of ?_
  have r1 := hv g
  have hR : validP g p = if validG g ≠ 0 then validG g else rightP g p := rfl
  rw [hR]
  by_cases c : validG g = 0
  · have r2 := hp g p c h1 h2
    rw [if_neg (by simp [c])]
    rw [c] at r1
    generalize rightP g p = v at *
    simp only [gD, mD] at *
    simp (config := { maxSteps := 1000000 }) (disch := first | omega | (simp only [go_sem]; omega)) only [go_sem, ↓reduceIte]
    refine call_by r1 ?_
    simp (config := { maxSteps := 1000000 }) (disch := first | omega | (simp only [go_sem]; omega)) only [go_sem, ↓reduceIte]
    refine call_by r2 ?_
    simp (config := { maxSteps := 1000000 }) (disch := first | omega | (simp only [go_sem]; omega)) only [go_sem, ↓reduceIte]
  · rw [if_pos c]
    generalize validG g = v at *
    simp only [gD, mD] at *
    simp (config := { maxSteps := 1000000 }) (disch := first | omega | (simp only [go_sem]; omega)) only [go_sem, ↓reduceIte]
    refine call_by r1 ?_
    simp (config := { maxSteps := 1000000 }) (disch := first | omega | (simp only [go_sem]; omega)) only [go_sem, ↓reduceIte, c]
theorem w_r07_Few (m : Mo) (n : Int) (h1 : m.n.length ≤ maxL) (h2 : m.e.length ≤ maxL) : W P (c_r07_Few F) (Done [.t 4] [] (.bool (fewM m n)) []) (init [mD m, .int .i64 n]) := by
  refine W_of ?_
  obtain ⟨mn, me⟩ := m
  simp only [maxL] at h1 h2
  simp (config := { maxSteps := 1000000 }) (disch := first | omega | (simp only [go_sem]; omega)) only [go_sem, ↓reduceIte, mD, fewM]
end
end Go.Am
namespace Go.Am
open Go
set_option linter.unusedVariables false
set_option linter.unusedSimpArgs false
attribute [local irreducible] W
/- r07.marked -/
def c_r07_marked_r0 (F : String → Nat) : List LI := [⟨some 2, .mov (.k (.nl 1)), none⟩]
def c_r07_marked_r1 (F : String → Nat) : List LI := [⟨some 3, .mov (.k (.nl 1)), none⟩]
def c_r07_marked_r2 (F : String → Nat) : List LI := [⟨some 4, .mov (.k (.int .i64 (0))), none⟩]
def c_r07_marked_r3 (F : String → Nat) : List LI := [⟨some 5, .mov (.t 4), none⟩,
  ⟨some 6, .mov (.t 0), none⟩,
  ⟨some 7, .len (.t 6), none⟩,
  ⟨some 8, .bin .lss (.t 5) (.t 7), none⟩]
def c_r07_marked_r4 (F : String → Nat) : List LI := [⟨some 11, .mov (.t 0), none⟩,
  ⟨some 12, .mov (.t 4), none⟩,
  ⟨some 13, .iad 1 (.t 11) (.t 12), none⟩,
  ⟨some 14, .load false 1 (.t 13), none⟩]
def c_r07_marked_r5 (F : String → Nat) : List LI := [⟨some 15, .mov (.t 3), none⟩,
  ⟨some 16, .mov (.t 4), none⟩,
  ⟨some 17, .buildSl 1 8 (.int .i64 (0)) 1 [(0, .t 16)], none⟩,
  ⟨some 18, .app 1 8 (.t 15) (.t 17), none⟩,
  ⟨some 3, .mov (.t 18), none⟩]
def c_r07_marked_r6 (F : String → Nat) : List LI := [⟨some 9, .mov (.t 4), none⟩,
  ⟨some 10, .bin .add (.t 9) (.k (.int .i64 (1))), none⟩,
  ⟨some 4, .mov (.t 10), none⟩]
def c_r07_marked_b7 (F : String → Nat) : LC := (.seq (.seq (.reg (c_r07_marked_r3 F) [0, 3, 4, 8]) (.cond (.t 8) .skip (.exit 0))) (.seq (.block 1 (.seq (.reg (c_r07_marked_r4 F) [0, 3, 4, 14]) (.cond (.t 14) (.reg (c_r07_marked_r5 F) [0, 3, 4]) .skip))) (.reg (c_r07_marked_r6 F) [0, 3, 4])))
def c_r07_marked_r8 (F : String → Nat) : List LI := [⟨some 19, .mov (.t 3), none⟩,
  ⟨some 2, .mov (.t 19), none⟩]
def c_r07_marked (F : String → Nat) : LC := (.seq (.reg (c_r07_marked_r0 F) [0]) (.seq (.reg (c_r07_marked_r1 F) [0, 3]) (.seq (.seq (.reg (c_r07_marked_r2 F) [0, 3, 4]) (.block 0 (.loop [0, 3, 4] (c_r07_marked_b7 F)))) (.seq (.reg (c_r07_marked_r8 F) [2]) .ret))))
def h_r07_marked : Hints := ⟨[], fun _ => [], tab [(0, [0]), (1, [0, 3]), (2, [0, 3, 4]), (3, [0, 3, 4, 8]), (4, [0, 3, 4]), (5, [0, 3, 4, 14]), (6, [0, 3, 4]), (7, [2])], tab [(3, [0, 3, 4])]⟩

attribute [go_sem] c_r07_marked_r0 c_r07_marked_r1 c_r07_marked_r2 c_r07_marked_r3 c_r07_marked_r4 c_r07_marked_r5 c_r07_marked_r6 c_r07_marked_r8 c_r07_marked
section
variable (P : Program) (F : String → Nat)
def K_r07_marked : Prop := ∀ b : List Bool, b.length ≤ 1000 → FC P (F "r07.marked") [.lst 1 (bls b)] (.arr 1 (ints (markL b))) []
end
section
variable {P : Program} {F : String → Nat} {α : Type}
theorem w_r07_marked (b : List Bool) (hb : b.length ≤ 1000) : W P (c_r07_marked F) (Done [.t 2] [] (.arr 1 (ints (markL b))) []) (init [.lst 1 (bls b)]) := by
  refine W_of ?_
  have hM : markL b = sel (fun k : Nat => gt b k) b.length := rfl
  have sl := sel_len (fun k : Nat => gt b k)
  have ss := sel_succ (fun k : Nat => gt b k)
  have s0 := sel_zero (fun k : Nat => gt b k)
  rw [hM]
  clear hM
  generalize hS : sel (fun k : Nat => gt b k) = S at *
  simp (config := { maxSteps := 1000000 }) (disch := first | omega | (simp only [go_sem]; omega)) only [go_sem, ↓reduceIte]
  refine W_loop (fun i : Nat => ⟨[(0, .lst 1 (bls b)), (3, .sl 0 0 (S i).length), (4, .int .i64 i)], [(0, .arr 1 (ints (S i)))], 1⟩) (fun i => i ≤ b.length) (fun i => b.length - i) 0 ?_ ?_ ?_
  · simp (config := { maxSteps := 1000000 }) (disch := first | omega | (simp only [go_sem]; omega)) only [go_sem, ↓reduceIte, s0, ints_nil]
    rfl
  · simp
  · intro i hi
    have sli := sl i
    by_cases c : i < b.length
    · have g1 : decide ((i : Int) < b.length) = true := decide_eq_true (by omega)
      have hs := ss i
      generalize hb' : gt b i = t at *
      cases t
      · simp (config := { maxSteps := 1000000 }) (disch := first | omega | (simp only [go_sem]; omega)) only [go_sem, ↓reduceIte, c_r07_marked_b7, g1, hb']
        exact ⟨i + 1, by simp [hs], by omega, by omega⟩
      · simp (config := { maxSteps := 1000000 }) (disch := first | omega | (simp only [go_sem]; omega)) only [go_sem, ↓reduceIte, c_r07_marked_b7, g1, hb']
        exact ⟨i + 1, by simp [hs], by omega, by omega⟩
    · have g1 : decide ((i : Int) < b.length) = false := decide_eq_false (by omega)
      obtain rfl : i = b.length := by omega
      simp (config := { maxSteps := 1000000 }) (disch := first | omega | (simp only [go_sem]; omega)) only [go_sem, ↓reduceIte, c_r07_marked_b7, g1]
end
end Go.Am
namespace Go.Am
open Go
set_option linter.unusedVariables false
set_option linter.unusedSimpArgs false
attribute [local irreducible] W
/- subgraph.Extract -/
def c_subgraph_Extract_r0 (F : String → Nat) : List LI := [⟨some 2, .bx (.t 0), none⟩,
  ⟨some 3, .bx (.t 1), none⟩,
  ⟨some 4, .alloc [.nl 1, .nl 3], none⟩,
  ⟨some 5, .alloc [.nl 1, .nl 1], none⟩,
  ⟨some 6, .mov (.k (.int .i64 (0))), none⟩]
def c_subgraph_Extract_r1 (F : String → Nat) : List LI := [⟨some 14, .load true 2 (.t 2), none⟩,
  ⟨some 15, .load true 2 (.t 3), none⟩,
  ⟨some 16, .call (F "subgraph.Valid") [.t 14, .t 15] [], none⟩,
  ⟨some 7, .mov (.t 16), none⟩]
def c_subgraph_Extract_r2 (F : String → Nat) : List LI := [⟨some 17, .mov (.t 7), none⟩,
  ⟨some 18, .bin .neq (.t 17) (.k (.int .i64 (0))), none⟩]
def c_subgraph_Extract_r3 (F : String → Nat) : List LI := [⟨some 19, .build [.nl 1, .nl 3] [], none⟩,
  ⟨some 20, .build [.nl 1, .nl 1] [], none⟩,
  ⟨some 21, .mov (.t 7), none⟩,
  ⟨none, .store 2 (.t 4) (.t 19), none⟩,
  ⟨none, .store 2 (.t 5) (.t 20), none⟩,
  ⟨some 6, .mov (.t 21), none⟩]
def c_subgraph_Extract_r4 (F : String → Nat) : List LI := [⟨some 8, .alloc [.nl 1, .nl 3], none⟩]
def c_subgraph_Extract_r5 (F : String → Nat) : List LI := [⟨some 22, .fad 0 (.t 3), none⟩,
  ⟨some 23, .load false 1 (.t 22), none⟩,
  ⟨some 24, .len (.t 23), none⟩,
  ⟨some 25, .mov (.k (.int .i64 (0))), none⟩]
def c_subgraph_Extract_r6 (F : String → Nat) : List LI := [⟨some 26, .bin .lss (.t 25) (.t 24), none⟩]
def c_subgraph_Extract_r7 (F : String → Nat) : List LI := [⟨some 27, .iad 1 (.t 23) (.t 25), none⟩,
  ⟨some 28, .load false 1 (.t 27), none⟩,
  ⟨some 10, .mov (.t 28), none⟩]
def c_subgraph_Extract_r8 (F : String → Nat) : List LI := [⟨some 29, .fad 0 (.t 8), none⟩,
  ⟨some 30, .load false 1 (.t 29), none⟩,
  ⟨some 31, .fad 0 (.t 2), none⟩,
  ⟨some 32, .load false 1 (.t 31), none⟩,
  ⟨some 33, .mov (.t 10), none⟩,
  ⟨some 34, .iad 1 (.t 32) (.t 33), none⟩,
  ⟨some 35, .load false 1 (.t 34), none⟩,
  ⟨some 36, .buildSl 1 8 (.int .i64 (0)) 1 [(0, .t 35)], none⟩,
  ⟨some 37, .app 1 8 (.t 30) (.t 36), none⟩,
  ⟨some 38, .fad 0 (.t 8), none⟩,
  ⟨none, .store 1 (.t 38) (.t 37), none⟩]
def c_subgraph_Extract_r9 (F : String → Nat) : List LI := [⟨some 39, .bin .add (.t 25) (.k (.int .i64 (1))), none⟩,
  ⟨some 25, .mov (.t 39), none⟩]
def c_subgraph_Extract_b10 (F : String → Nat) : LC := (.seq (.reg (c_subgraph_Extract_r6 F) [2, 3, 4, 5, 8, 23, 24, 25, 26]) (.seq (.cond (.t 26) .skip (.exit 0)) (.seq (.block 1 (.seq (.reg (c_subgraph_Extract_r7 F) [2, 3, 4, 5, 8, 10, 23, 24, 25]) (.dreg [(1, none, [], true), (7, none, [1], false)] (c_subgraph_Extract_r8 F) [2, 3, 4, 5, 8, 23, 24, 25]))) (.reg (c_subgraph_Extract_r9 F) [2, 3, 4, 5, 8, 23, 24, 25]))))
def c_subgraph_Extract_r11 (F : String → Nat) : List LI := [⟨some 40, .fad 1 (.t 3), none⟩,
  ⟨some 41, .load false 1 (.t 40), none⟩,
  ⟨some 42, .len (.t 41), none⟩,
  ⟨some 43, .mov (.k (.int .i64 (0))), none⟩]
def c_subgraph_Extract_r12 (F : String → Nat) : List LI := [⟨some 44, .bin .lss (.t 43) (.t 42), none⟩]
def c_subgraph_Extract_r13 (F : String → Nat) : List LI := [⟨some 45, .iad 1 (.t 41) (.t 43), none⟩,
  ⟨some 46, .load false 1 (.t 45), none⟩,
  ⟨some 12, .mov (.t 46), none⟩]
def c_subgraph_Extract_r14 (F : String → Nat) : List LI := [⟨some 47, .fad 1 (.t 2), none⟩,
  ⟨some 48, .load false 1 (.t 47), none⟩,
  ⟨some 49, .mov (.t 12), none⟩,
  ⟨some 50, .iad 3 (.t 48) (.t 49), none⟩,
  ⟨some 51, .load true 3 (.t 50), none⟩,
  ⟨some 13, .alloc [.int .i64 (0), .int .i64 (0), .int .i64 (0)], none⟩,
  ⟨none, .store 3 (.t 13) (.t 51), none⟩]
def c_subgraph_Extract_r15 (F : String → Nat) : List LI := [⟨some 53, .fad 0 (.t 3), none⟩,
  ⟨some 54, .load false 1 (.t 53), none⟩,
  ⟨some 55, .fad 1 (.t 13), none⟩,
  ⟨some 56, .load false 1 (.t 55), none⟩,
  ⟨some 57, .call (F "slices.BinarySearch.I") [.t 54, .t 56] [], none⟩,
  ⟨some 52, .mov (.t 57), none⟩,
  ⟨some 58, .ext (.t 52) 0, none⟩,
  ⟨some 59, .ext (.t 52) 1, none⟩,
  ⟨some 60, .fad 1 (.t 13), none⟩,
  ⟨none, .store 1 (.t 60) (.t 58), none⟩]
def c_subgraph_Extract_r16 (F : String → Nat) : List LI := [⟨some 62, .fad 0 (.t 3), none⟩,
  ⟨some 63, .load false 1 (.t 62), none⟩,
  ⟨some 64, .fad 2 (.t 13), none⟩,
  ⟨some 65, .load false 1 (.t 64), none⟩,
  ⟨some 66, .call (F "slices.BinarySearch.I") [.t 63, .t 65] [], none⟩,
  ⟨some 61, .mov (.t 66), none⟩,
  ⟨some 67, .ext (.t 61) 0, none⟩,
  ⟨some 68, .ext (.t 61) 1, none⟩,
  ⟨some 69, .fad 2 (.t 13), none⟩,
  ⟨none, .store 1 (.t 69) (.t 67), none⟩]
def c_subgraph_Extract_r17 (F : String → Nat) : List LI := [⟨some 70, .fad 1 (.t 8), none⟩,
  ⟨some 71, .load false 1 (.t 70), none⟩,
  ⟨some 72, .load true 3 (.t 13), none⟩,
  ⟨some 73, .buildSl 3 24 (.agg [.int .i64 (0), .int .i64 (0), .int .i64 (0)]) 1 [(0, .t 72)], none⟩,
  ⟨some 74, .app 3 24 (.t 71) (.t 73), none⟩,
  ⟨some 75, .fad 1 (.t 8), none⟩,
  ⟨none, .store 1 (.t 75) (.t 74), none⟩]
def c_subgraph_Extract_r18 (F : String → Nat) : List LI := [⟨some 76, .bin .add (.t 43) (.k (.int .i64 (1))), none⟩,
  ⟨some 43, .mov (.t 76), none⟩]
def c_subgraph_Extract_b19 (F : String → Nat) : LC := (.seq (.reg (c_subgraph_Extract_r12 F) [2, 3, 4, 5, 8, 41, 42, 43, 44]) (.seq (.cond (.t 44) .skip (.exit 2)) (.seq (.block 3 (.seq (.reg (c_subgraph_Extract_r13 F) [2, 3, 4, 5, 8, 12, 41, 42, 43]) (.seq (.reg (c_subgraph_Extract_r14 F) [2, 3, 4, 5, 8, 13, 41, 42, 43]) (.seq (.reg (c_subgraph_Extract_r15 F) [2, 3, 4, 5, 8, 13, 41, 42, 43]) (.seq (.reg (c_subgraph_Extract_r16 F) [2, 3, 4, 5, 8, 13, 41, 42, 43]) (.reg (c_subgraph_Extract_r17 F) [2, 3, 4, 5, 8, 41, 42, 43])))))) (.reg (c_subgraph_Extract_r18 F) [2, 3, 4, 5, 8, 41, 42, 43]))))
def c_subgraph_Extract_r20 (F : String → Nat) : List LI := [⟨some 77, .load true 2 (.t 8), none⟩,
  ⟨some 78, .fad 0 (.t 3), none⟩,
  ⟨some 79, .load false 1 (.t 78), none⟩,
  ⟨some 80, .call (F "slices.Clone.I") [.t 79] [], none⟩,
  ⟨some 81, .fad 1 (.t 3), none⟩,
  ⟨some 82, .load false 1 (.t 81), none⟩,
  ⟨some 83, .call (F "slices.Clone.I") [.t 82] [], none⟩,
  ⟨some 84, .build [.nl 1, .nl 1] [(0, 1, .t 80), (1, 1, .t 83)], none⟩,
  ⟨none, .store 2 (.t 4) (.t 77), none⟩,
  ⟨none, .store 2 (.t 5) (.t 84), none⟩,
  ⟨some 6, .mov (.k (.int .i64 (0))), none⟩]
def c_subgraph_Extract (F : String → Nat) : LC := (.seq (.reg (c_subgraph_Extract_r0 F) [2, 3, 4, 5]) (.seq (.seq (.reg (c_subgraph_Extract_r1 F) [2, 3, 4, 5, 7]) (.seq (.reg (c_subgraph_Extract_r2 F) [2, 3, 4, 5, 7, 18]) (.cond (.t 18) (.seq (.reg (c_subgraph_Extract_r3 F) [4, 5, 6]) .ret) .skip))) (.seq (.reg (c_subgraph_Extract_r4 F) [2, 3, 4, 5, 8]) (.seq (.seq (.reg (c_subgraph_Extract_r5 F) [2, 3, 4, 5, 8, 23, 24, 25]) (.block 0 (.loop [2, 3, 4, 5, 8, 23, 24, 25] (c_subgraph_Extract_b10 F)))) (.seq (.seq (.reg (c_subgraph_Extract_r11 F) [2, 3, 4, 5, 8, 41, 42, 43]) (.block 2 (.loop [2, 3, 4, 5, 8, 41, 42, 43] (c_subgraph_Extract_b19 F)))) (.seq (.dreg [(0, none, [], true), (3, none, [0], true), (5, (some 16), [3], false), (6, none, [0], false)] (c_subgraph_Extract_r20 F) [4, 5, 6]) .ret))))))
def h_subgraph_Extract : Hints := ⟨[], fun _ => [], tab [(0, [2, 3, 4, 5]), (1, [2, 3, 4, 5, 7]), (2, [2, 3, 4, 5, 7, 18]), (3, [4, 5, 6]), (4, [2, 3, 4, 5, 8]), (5, [2, 3, 4, 5, 8, 23, 24, 25]), (6, [2, 3, 4, 5, 8, 23, 24, 25, 26]), (7, [2, 3, 4, 5, 8, 10, 23, 24, 25]), (8, [2, 3, 4, 5, 8, 23, 24, 25]), (9, [2, 3, 4, 5, 8, 23, 24, 25]), (10, [2, 3, 4, 5, 8, 41, 42, 43]), (11, [2, 3, 4, 5, 8, 41, 42, 43, 44]), (12, [2, 3, 4, 5, 8, 12, 41, 42, 43]), (13, [2, 3, 4, 5, 8, 13, 41, 42, 43]), (14, [2, 3, 4, 5, 8, 13, 41, 42, 43]), (15, [2, 3, 4, 5, 8, 13, 41, 42, 43]), (16, [2, 3, 4, 5, 8, 41, 42, 43]), (17, [2, 3, 4, 5, 8, 41, 42, 43]), (18, [4, 5, 6])], tab [(6, [2, 3, 4, 5, 8, 23, 24, 25]), (11, [2, 3, 4, 5, 8, 41, 42, 43])]⟩

attribute [go_sem] c_subgraph_Extract_r0 c_subgraph_Extract_r1 c_subgraph_Extract_r2 c_subgraph_Extract_r3 c_subgraph_Extract_r4 c_subgraph_Extract_r5 c_subgraph_Extract_r6 c_subgraph_Extract_r7 c_subgraph_Extract_r8 c_subgraph_Extract_r9 c_subgraph_Extract_r11 c_subgraph_Extract_r12 c_subgraph_Extract_r13 c_subgraph_Extract_r14 c_subgraph_Extract_r15 c_subgraph_Extract_r16 c_subgraph_Extract_r17 c_subgraph_Extract_r18 c_subgraph_Extract_r20 c_subgraph_Extract
/-- The edges of a part, over its own nodes. -/
def exL (g : G) (pn pe : List Int) : List E := pe.map fun k => ⟨(gt g.e k).t, (cntB pn (gt g.e k).f : Int), (cntB pn (gt g.e k).o : Int)⟩
/-- The graph of a part. -/
def ptG (g : G) (p : Mo) : G := ⟨thr p.n g.n, exL g p.n p.e⟩
def exR (g : G) (p : Mo) : G × Mo × Int := if validP g p ≠ 0 then (g0, m0, validP g p) else (ptG g p, p, 0)
section
variable (P : Program) (F : String → Nat)
def K_subgraph_Extract : Prop := ∀ (g : G) (p : Mo), p.sm → FC P (F "subgraph.Extract") [gD g, mD p] (.tup [gA (exR g p).1, mA (exR g p).2.1, .int .i64 (exR g p).2.2]) []
end
section
variable {P : Program} {F : String → Nat} {α : Type}
theorem exL_len (g : G) (pn pe : List Int) : (exL g pn pe).length = pe.length := by simp [exL]
theorem exL_step {g : G} {pn pe : List Int} {i : Nat} (h : i < pe.length) : exL g pn (pe.take (i + 1)) = exL g pn (pe.take i) ++ [⟨(gt g.e (gt pe i)).t, (cntB pn (gt g.e (gt pe i)).f : Int), (cntB pn (gt g.e (gt pe i)).o : Int)⟩] := by
  rw [take_gt h]; simp [exL]
theorem w_subgraph_Extract (hv : K_subgraph_Valid P F) (hb : K_slices_BinarySearch_I P F) (hc : K_slices_Clone_I P F) (g : G) (p : Mo) (h1 : p.sm) : W P (c_subgraph_Extract F) (Done [.c 4 true 2, .c 5 true 2, .t 6] [] (.tup [gA (exR g p).1, mA (exR g p).2.1, .int .i64 (exR g p).2.2]) []) (init [gD g, mD p]) := by
  refine W_of ?_
  have r1 := hv g p h1.1 h1.2
  have hR : exR g p = if validP g p ≠ 0 then (g0, m0, validP g p) else (ptG g p, p, 0) := rfl
  have h0 : validP g p = 0 → PK g p := fun h => validP_ok.1 h
  generalize validP g p = v at *
  rw [hR]
  clear hR
  obtain ⟨gn, ge⟩ := g
  obtain ⟨pn, pe⟩ := p
  simp only [gD, mD] at *
  simp (config := { maxSteps := 1000000 }) (disch := first | omega | (simp only [go_sem]; omega)) only [go_sem, ↓reduceIte]
  refine call_by r1 ?_
  simp (config := { maxSteps := 1000000 }) (disch := first | omega | (simp only [go_sem]; omega)) only [go_sem, ↓reduceIte]
  refine bran_ndec (fun c => ?_) (fun c => ?_)
  · simp (config := { maxSteps := 1000000 }) (disch := first | omega | (simp only [go_sem]; omega)) only [go_sem, ↓reduceIte]
    simp [c, mA, gA, m0, g0, ints, eds]
  have hk := h0 c
  have hl := hk.len
  have hs := valid_spec hk.v
  rw [if_neg (by simp [c])]
  clear h0 r1
  simp only [ptG, gA, mA] at *
  have rb := fun x => hb pn x hk.n.p (by omega)
  simp (config := { maxSteps := 1000000 }) (disch := first | omega | (simp only [go_sem]; omega)) only [go_sem, ↓reduceIte]
  refine W_loop (fun i : Nat => ⟨[(2, .pt 0 0), (3, .pt 1 0), (4, .pt 4 0), (5, .pt 7 0), (8, .pt 10 0), (23, .lst 1 (ints pn)), (24, .int .i64 pn.length), (25, .int .i64 i)],
    [(0, .box [.lst 1 (ints gn), .lst 3 (eds ge)]), (1, .box [.lst 1 (ints pn), .lst 1 (ints pe)]), (2, .arr 1 []), (3, .arr 3 []), (4, .box [.sl 2 0 0, .sl 3 0 0]), (5, .arr 1 []), (6, .arr 1 []), (7, .box [.sl 5 0 0, .sl 6 0 0]),
     (8, .arr 1 (ints (thr (pn.take i) gn))), (9, .arr 3 []), (10, .box [.sl 8 0 i, .sl 9 0 0])], 11⟩) (fun i => i ≤ pn.length) (fun i => pn.length - i) 0 ?_ ?_ ?_
  · simp (config := { maxSteps := 1000000 }) (disch := first | omega | (simp only [go_sem]; omega)) only [go_sem, ↓reduceIte]
    rfl
  · simp
  · intro i hi
    have tl : (thr (pn.take i) gn).length = i := by rw [thr_len, List.length_take]; omega
    by_cases e : i < pn.length
    · have d1 : decide ((i : Int) < pn.length) = true := decide_eq_true (by omega)
      have hb1 := hk.n.b _ (gt_mem (l := pn) (j := (i : Int)) (by omega) (by omega))
      simp only at hb1
      have hst := thr_step (b := gn) e
      simp (config := { maxSteps := 1000000 }) (disch := first | omega | (simp only [go_sem]; omega)) only [go_sem, ↓reduceIte, c_subgraph_Extract_b10, d1, tl]
      exact ⟨i + 1, by simp [hst], by omega, by omega⟩
    · have d1 : decide ((i : Int) < pn.length) = false := decide_eq_false (by omega)
      obtain rfl : i = pn.length := by omega
      rw [List.take_length] at tl
      simp (config := { maxSteps := 1000000 }) (disch := first | omega | (simp only [go_sem]; omega)) only [go_sem, ↓reduceIte, c_subgraph_Extract_b10, d1, tl]
      refine W_loop (fun i : Nat => ⟨[(2, .pt 0 0), (3, .pt 1 0), (4, .pt 4 0), (5, .pt 7 0), (8, .pt 10 0), (41, .lst 1 (ints pe)), (42, .int .i64 pe.length), (43, .int .i64 i)],
        [(0, .box [.lst 1 (ints gn), .lst 3 (eds ge)]), (1, .box [.lst 1 (ints pn), .lst 1 (ints pe)]), (2, .arr 1 []), (3, .arr 3 []), (4, .box [.sl 2 0 0, .sl 3 0 0]), (5, .arr 1 []), (6, .arr 1 []), (7, .box [.sl 5 0 0, .sl 6 0 0]),
         (8, .arr 1 (ints (thr pn gn))), (9, .arr 3 (eds (exL ⟨gn, ge⟩ pn (pe.take i)))), (10, .box [.sl 8 0 pn.length, .sl 9 0 i])], 11⟩) (fun i => i ≤ pe.length) (fun i => pe.length - i) 0 ?_ ?_ ?_
      · simp (config := { maxSteps := 1000000 }) (disch := first | omega | (simp only [go_sem]; omega)) only [go_sem, ↓reduceIte]
        rfl
      · simp
      · intro i hi
        have el : (exL ⟨gn, ge⟩ pn (pe.take i)).length = i := by rw [exL_len, List.length_take]; omega
        by_cases e : i < pe.length
        · have d1 : decide ((i : Int) < pe.length) = true := decide_eq_true (by omega)
          have hb1 := hk.e.b _ (gt_mem (l := pe) (j := (i : Int)) (by omega) (by omega))
          simp only at hb1
          have hst := exL_step (g := ⟨gn, ge⟩) (pn := pn) e
          simp only at hst
          have rf := rb (gt ge (gt pe i)).f
          have ro := rb (gt ge (gt pe i)).o
          simp (config := { maxSteps := 1000000 }) (disch := first | omega | (simp only [go_sem]; omega)) only [go_sem, ↓reduceIte, c_subgraph_Extract_b19, d1, el]
          refine call_by rf ?_
          simp (config := { maxSteps := 1000000 }) (disch := first | omega | (simp only [go_sem]; omega)) only [go_sem, ↓reduceIte]
          refine call_by ro ?_
          simp (config := { maxSteps := 1000000 }) (disch := first | omega | (simp only [go_sem]; omega)) only [go_sem, ↓reduceIte, el]
          exact ⟨i + 1, by simp [hst], by omega, by omega⟩
        · have d1 : decide ((i : Int) < pe.length) = false := decide_eq_false (by omega)
          obtain rfl : i = pe.length := by omega
          rw [List.take_length] at el
          have rc1 := hc pn (by omega)
          have rc2 := hc pe (by omega)
          simp (config := { maxSteps := 1000000 }) (disch := first | omega | (simp only [go_sem]; omega)) only [go_sem, ↓reduceIte, c_subgraph_Extract_b19, d1, tl, el]
          refine call_by rc1 ?_
          simp (config := { maxSteps := 1000000 }) (disch := first | omega | (simp only [go_sem]; omega)) only [go_sem, ↓reduceIte]
          refine call_by rc2 ?_
          simp (config := { maxSteps := 1000000 }) (disch := first | omega | (simp only [go_sem]; omega)) only [go_sem, ↓reduceIte, tl, el]
          rfl
theorem cntB_ix {l : List Int} (h : l.Pairwise (· < ·)) {i : Nat} (hi : i < l.length) : cntB l (gt l i) = i :=
  (cntB_eq h (Nat.le_of_lt hi) (fun k hk => pair_gt h hk hi) fun k hk hk2 => by
    by_cases e : i = k
    · rw [e]; omega
    · have := pair_gt h (i := i) (j := k) (by omega) hk2; omega).1
theorem idx_asc {l : List Int} (h : l.Pairwise (· < ·)) {x : Int} (hx : x ∈ l) : idx (fun y => decide (x = y)) l 0 = cntB l x := by
  have hne : idx (fun y => decide (x = y)) l 0 ≠ -1 := fun e => by
    have := idx_none _ l 0 (by omega) e x hx
    simp at this
  obtain ⟨k, h1, h2, h3, _⟩ := idx_some _ l 0 hne
  have hk : x = gt l k := by simpa using h3
  rw [h1, hk, cntB_ix h h2]
  omega
end
end Go.Am
namespace Go.Am
open Go
set_option linter.unusedVariables false
set_option linter.unusedSimpArgs false
attribute [local irreducible] W
/- r07.merged -/
def c_r07_merged_r0 (F : String → Nat) : List LI := [⟨some 8, .mov (.k (.nl 1)), none⟩]
def c_r07_merged_r1 (F : String → Nat) : List LI := [⟨some 9, .mov (.k (.nl 1)), none⟩]
def c_r07_merged_r2 (F : String → Nat) : List LI := [⟨some 10, .mov (.k (.int .i64 (0))), none⟩]
def c_r07_merged_r3 (F : String → Nat) : List LI := [⟨some 13, .mov (.t 10), none⟩,
  ⟨some 14, .mov (.t 0), none⟩,
  ⟨some 15, .bin .lss (.t 13) (.t 14), none⟩]
def c_r07_merged_r4 (F : String → Nat) : List LI := [⟨some 18, .mov (.t 1), none⟩,
  ⟨some 19, .mov (.t 10), none⟩,
  ⟨some 20, .call (F "r07.has") [.t 18, .t 19] [], none⟩,
  ⟨some 21, .mov (.t 2), none⟩,
  ⟨some 22, .mov (.t 10), none⟩,
  ⟨some 23, .call (F "r07.has") [.t 21, .t 22] [], none⟩,
  ⟨some 11, .mov (.t 20), none⟩,
  ⟨some 12, .mov (.t 23), none⟩]
def c_r07_merged_r5 (F : String → Nat) : List LI := [⟨some 24, .mov (.t 11), none⟩,
  ⟨some 25, .mov (.t 24), none⟩,
  ⟨some 26, .mov (.t 12), some (25, true)⟩,
  ⟨some 27, .pick (.t 25) (.t 26) (.k (.bool false)), none⟩,
  ⟨some 28, .mov (.t 27), none⟩,
  ⟨some 29, .mov (.t 3), some (28, false)⟩,
  ⟨some 30, .not (.t 29), some (28, false)⟩,
  ⟨some 31, .mov (.t 30), some (28, false)⟩,
  ⟨some 32, .mov (.t 11), some (31, true)⟩,
  ⟨some 33, .mov (.t 32), some (31, true)⟩,
  ⟨some 34, .mov (.t 12), some (33, false)⟩,
  ⟨some 35, .pick (.t 33) (.k (.bool true)) (.t 34), some (31, true)⟩,
  ⟨some 36, .pick (.t 31) (.t 35) (.k (.bool false)), some (28, false)⟩,
  ⟨some 37, .pick (.t 28) (.k (.bool true)) (.t 36), none⟩]
def c_r07_merged_r6 (F : String → Nat) : List LI := [⟨some 38, .mov (.t 9), none⟩,
  ⟨some 39, .mov (.t 10), none⟩,
  ⟨some 40, .buildSl 1 8 (.int .i64 (0)) 1 [(0, .t 39)], none⟩,
  ⟨some 41, .app 1 8 (.t 38) (.t 40), none⟩,
  ⟨some 9, .mov (.t 41), none⟩]
def c_r07_merged_r7 (F : String → Nat) : List LI := [⟨some 16, .mov (.t 10), none⟩,
  ⟨some 17, .bin .add (.t 16) (.k (.int .i64 (1))), none⟩,
  ⟨some 10, .mov (.t 17), none⟩]
def c_r07_merged_b8 (F : String → Nat) : LC := (.seq (.seq (.reg (c_r07_merged_r3 F) [0, 1, 2, 3, 9, 10, 15]) (.cond (.t 15) .skip (.exit 0))) (.seq (.block 1 (.seq (.reg (c_r07_merged_r4 F) [0, 1, 2, 3, 9, 10, 11, 12]) (.seq (.reg (c_r07_merged_r5 F) [0, 1, 2, 3, 9, 10, 37]) (.cond (.t 37) (.reg (c_r07_merged_r6 F) [0, 1, 2, 3, 9, 10]) .skip)))) (.reg (c_r07_merged_r7 F) [0, 1, 2, 3, 9, 10])))
def c_r07_merged_r9 (F : String → Nat) : List LI := [⟨some 42, .mov (.t 9), none⟩,
  ⟨some 8, .mov (.t 42), none⟩]
def c_r07_merged (F : String → Nat) : LC := (.seq (.reg (c_r07_merged_r0 F) [0, 1, 2, 3]) (.seq (.reg (c_r07_merged_r1 F) [0, 1, 2, 3, 9]) (.seq (.seq (.reg (c_r07_merged_r2 F) [0, 1, 2, 3, 9, 10]) (.block 0 (.loop [0, 1, 2, 3, 9, 10] (c_r07_merged_b8 F)))) (.seq (.reg (c_r07_merged_r9 F) [8]) .ret))))
def h_r07_merged : Hints := ⟨[], fun _ => [], tab [(0, [0, 1, 2, 3]), (1, [0, 1, 2, 3, 9]), (2, [0, 1, 2, 3, 9, 10]), (3, [0, 1, 2, 3, 9, 10, 15]), (4, [0, 1, 2, 3, 9, 10]), (5, [0, 1, 2, 3, 9, 10, 11, 12]), (6, [0, 1, 2, 3, 9, 10, 37]), (7, [0, 1, 2, 3, 9, 10]), (8, [8])], tab [(3, [0, 1, 2, 3, 9, 10])]⟩

attribute [go_sem] c_r07_merged_r0 c_r07_merged_r1 c_r07_merged_r2 c_r07_merged_r3 c_r07_merged_r4 c_r07_merged_r5 c_r07_merged_r6 c_r07_merged_r7 c_r07_merged_r9 c_r07_merged
section
variable (P : Program) (F : String → Nat)
def K_r07_merged : Prop := ∀ (n : Nat) (a b : List Int) (all : Bool), n ≤ 1000 → a.length ≤ maxL → b.length ≤ maxL → FC P (F "r07.merged") [.int .i64 n, .lst 1 (ints a), .lst 1 (ints b), .bool all] (.arr 1 (ints (mrgL n a b all))) []
end
section
variable {P : Program} {F : String → Nat} {α : Type}
theorem w_r07_merged (hh : K_r07_has P F) (n : Nat) (a b : List Int) (all : Bool) (hn : n ≤ 1000) (h1 : a.length ≤ maxL) (h2 : b.length ≤ maxL) : W P (c_r07_merged F) (Done [.t 8] [] (.arr 1 (ints (mrgL n a b all))) []) (init [.int .i64 n, .lst 1 (ints a), .lst 1 (ints b), .bool all]) := by
  refine W_of ?_
  have hM : mrgL n a b all = sel (fun i : Nat => (inL a i && inL b i) || (!all && (inL a i || inL b i))) n := rfl
  have ss := sel_succ (fun i : Nat => (inL a i && inL b i) || (!all && (inL a i || inL b i)))
  have s0 := sel_zero (fun i : Nat => (inL a i && inL b i) || (!all && (inL a i || inL b i)))
  have sl := sel_len (fun i : Nat => (inL a i && inL b i) || (!all && (inL a i || inL b i)))
  have ra := fun i : Nat => hh a (i : Int) h1
  have rb := fun i : Nat => hh b (i : Int) h2
  have ea : ∀ i : Nat, decide ((i : Int) ∈ a) = inL a i := fun i => rfl
  have eb : ∀ i : Nat, decide ((i : Int) ∈ b) = inL b i := fun i => rfl
  rw [hM]
  clear hM
  generalize sel (fun i : Nat => (inL a i && inL b i) || (!all && (inL a i || inL b i))) = S at *
  simp (config := { maxSteps := 1000000 }) (disch := first | omega | (simp only [go_sem]; omega)) only [go_sem, ↓reduceIte]
  refine W_loop (fun i : Nat => ⟨[(0, .int .i64 n), (1, .lst 1 (ints a)), (2, .lst 1 (ints b)), (3, .bool all), (9, .sl 0 0 (S i).length), (10, .int .i64 i)], [(0, .arr 1 (ints (S i)))], 1⟩) (fun i => i ≤ n) (fun i => n - i) 0 ?_ ?_ ?_
  · simp (config := { maxSteps := 1000000 }) (disch := first | omega | (simp only [go_sem]; omega)) only [go_sem, ↓reduceIte, s0]
    rfl
  · simp
  · intro i hi
    have hl := sl i
    by_cases c : i < n
    · have d1 : decide ((i : Int) < n) = true := decide_eq_true (by omega)
      have r1 := ra i
      have r2 := rb i
      have st := ss i
      rw [ea i] at r1
      rw [eb i] at r2
      generalize inL a i = u at *
      generalize inL b i = v at *
      simp (config := { maxSteps := 1000000 }) (disch := first | omega | (simp only [go_sem]; omega)) only [go_sem, ↓reduceIte, c_r07_merged_b8, d1]
      refine call_by r1 ?_
      simp (config := { maxSteps := 1000000 }) (disch := first | omega | (simp only [go_sem]; omega)) only [go_sem, ↓reduceIte]
      refine call_by r2 ?_
      cases all <;> cases u <;> cases v
      all_goals
        simp only [Bool.and_self, Bool.and_false, Bool.false_and, Bool.or_self, Bool.or_false, Bool.or_true, Bool.true_or, Bool.not_true, Bool.not_false, Bool.true_and, Bool.and_true, Bool.false_or, if_true, if_false, Bool.false_eq_true] at st
        simp (config := { maxSteps := 1000000 }) (disch := first | omega | (simp only [go_sem]; omega)) only [go_sem, ↓reduceIte]
        exact ⟨i + 1, by simp [st], by omega, by omega⟩
    · have d1 : decide ((i : Int) < n) = false := decide_eq_false (by omega)
      obtain rfl : i = n := by omega
      simp (config := { maxSteps := 1000000 }) (disch := first | omega | (simp only [go_sem]; omega)) only [go_sem, ↓reduceIte, c_r07_merged_b8, d1]
end
end Go.Am
namespace Go.Am
open Go
set_option linter.unusedVariables false
set_option linter.unusedSimpArgs false
attribute [local irreducible] W
/- r07.index -/
def c_r07_index_r0 (F : String → Nat) : List LI := [⟨some 4, .mov (.k (.int .i64 (0))), none⟩]
def c_r07_index_r1 (F : String → Nat) : List LI := [⟨some 5, .mov (.k (.int .i64 (0))), none⟩]
def c_r07_index_r2 (F : String → Nat) : List LI := [⟨some 6, .mov (.t 5), none⟩,
  ⟨some 7, .mov (.t 0), none⟩,
  ⟨some 8, .len (.t 7), none⟩,
  ⟨some 9, .bin .lss (.t 6) (.t 8), none⟩]
def c_r07_index_r3 (F : String → Nat) : List LI := [⟨some 12, .mov (.t 0), none⟩,
  ⟨some 13, .mov (.t 5), none⟩,
  ⟨some 14, .iad 1 (.t 12) (.t 13), none⟩,
  ⟨some 15, .load false 1 (.t 14), none⟩,
  ⟨some 16, .mov (.t 1), none⟩,
  ⟨some 17, .bin .eql (.t 15) (.t 16), none⟩]
def c_r07_index_r4 (F : String → Nat) : List LI := [⟨some 18, .mov (.t 5), none⟩,
  ⟨some 4, .mov (.t 18), none⟩]
def c_r07_index_r5 (F : String → Nat) : List LI := [⟨some 10, .mov (.t 5), none⟩,
  ⟨some 11, .bin .add (.t 10) (.k (.int .i64 (1))), none⟩,
  ⟨some 5, .mov (.t 11), none⟩]
def c_r07_index_b6 (F : String → Nat) : LC := (.seq (.seq (.reg (c_r07_index_r2 F) [0, 1, 5, 9]) (.cond (.t 9) .skip (.exit 0))) (.seq (.block 1 (.seq (.reg (c_r07_index_r3 F) [0, 1, 5, 17]) (.cond (.t 17) (.seq (.reg (c_r07_index_r4 F) [4]) .ret) .skip))) (.reg (c_r07_index_r5 F) [0, 1, 5])))
def c_r07_index_r7 (F : String → Nat) : List LI := [⟨some 4, .mov (.k (.int .i64 (-1))), none⟩]
def c_r07_index (F : String → Nat) : LC := (.seq (.reg (c_r07_index_r0 F) [0, 1]) (.seq (.seq (.reg (c_r07_index_r1 F) [0, 1, 5]) (.block 0 (.loop [0, 1, 5] (c_r07_index_b6 F)))) (.seq (.reg (c_r07_index_r7 F) [4]) .ret)))
def h_r07_index : Hints := ⟨[], fun _ => [], tab [(0, [0, 1]), (1, [0, 1, 5]), (2, [0, 1, 5, 9]), (3, [0, 1, 5]), (4, [0, 1, 5, 17]), (5, [4]), (6, [4])], tab [(2, [0, 1, 5])]⟩

/- r07.Extract -/
def c_r07_Extract_r0 (F : String → Nat) : List LI := [⟨some 2, .bx (.t 0), none⟩,
  ⟨some 3, .bx (.t 1), none⟩,
  ⟨some 4, .alloc [.nl 1, .nl 3], none⟩,
  ⟨some 5, .alloc [.nl 1, .nl 1], none⟩,
  ⟨some 6, .mov (.k (.int .i64 (0))), none⟩]
def c_r07_Extract_r1 (F : String → Nat) : List LI := [⟨some 12, .load true 2 (.t 2), none⟩,
  ⟨some 13, .load true 2 (.t 3), none⟩,
  ⟨some 14, .call (F "r07.Valid") [.t 12, .t 13] [], none⟩,
  ⟨some 7, .mov (.t 14), none⟩]
def c_r07_Extract_r2 (F : String → Nat) : List LI := [⟨some 15, .mov (.t 7), none⟩,
  ⟨some 16, .bin .neq (.t 15) (.k (.int .i64 (0))), none⟩]
def c_r07_Extract_r3 (F : String → Nat) : List LI := [⟨some 17, .build [.nl 1, .nl 3] [], none⟩,
  ⟨some 18, .build [.nl 1, .nl 1] [], none⟩,
  ⟨some 19, .mov (.t 7), none⟩,
  ⟨none, .store 2 (.t 4) (.t 17), none⟩,
  ⟨none, .store 2 (.t 5) (.t 18), none⟩,
  ⟨some 6, .mov (.t 19), none⟩]
def c_r07_Extract_r4 (F : String → Nat) : List LI := [⟨some 8, .alloc [.nl 1, .nl 3], none⟩]
def c_r07_Extract_r5 (F : String → Nat) : List LI := [⟨some 9, .mov (.k (.int .i64 (0))), none⟩]
def c_r07_Extract_r6 (F : String → Nat) : List LI := [⟨some 20, .mov (.t 9), none⟩,
  ⟨some 21, .fad 0 (.t 3), none⟩,
  ⟨some 22, .load false 1 (.t 21), none⟩,
  ⟨some 23, .len (.t 22), none⟩,
  ⟨some 24, .bin .lss (.t 20) (.t 23), none⟩]
def c_r07_Extract_r7 (F : String → Nat) : List LI := [⟨some 27, .fad 0 (.t 8), none⟩,
  ⟨some 28, .load false 1 (.t 27), none⟩,
  ⟨some 29, .fad 0 (.t 2), none⟩,
  ⟨some 30, .load false 1 (.t 29), none⟩,
  ⟨some 31, .fad 0 (.t 3), none⟩,
  ⟨some 32, .load false 1 (.t 31), none⟩,
  ⟨some 33, .mov (.t 9), none⟩,
  ⟨some 34, .iad 1 (.t 32) (.t 33), none⟩,
  ⟨some 35, .load false 1 (.t 34), none⟩,
  ⟨some 36, .iad 1 (.t 30) (.t 35), none⟩,
  ⟨some 37, .load false 1 (.t 36), none⟩,
  ⟨some 38, .buildSl 1 8 (.int .i64 (0)) 1 [(0, .t 37)], none⟩,
  ⟨some 39, .app 1 8 (.t 28) (.t 38), none⟩,
  ⟨some 40, .fad 0 (.t 8), none⟩,
  ⟨none, .store 1 (.t 40) (.t 39), none⟩]
def c_r07_Extract_r8 (F : String → Nat) : List LI := [⟨some 25, .mov (.t 9), none⟩,
  ⟨some 26, .bin .add (.t 25) (.k (.int .i64 (1))), none⟩,
  ⟨some 9, .mov (.t 26), none⟩]
def c_r07_Extract_b9 (F : String → Nat) : LC := (.seq (.seq (.reg (c_r07_Extract_r6 F) [2, 3, 4, 5, 8, 9, 24]) (.cond (.t 24) .skip (.exit 0))) (.seq (.block 1 (.dreg [(1, none, [], true), (11, none, [1], false)] (c_r07_Extract_r7 F) [2, 3, 4, 5, 8, 9])) (.reg (c_r07_Extract_r8 F) [2, 3, 4, 5, 8, 9])))
def c_r07_Extract_r10 (F : String → Nat) : List LI := [⟨some 10, .mov (.k (.int .i64 (0))), none⟩]
def c_r07_Extract_r11 (F : String → Nat) : List LI := [⟨some 41, .mov (.t 10), none⟩,
  ⟨some 42, .fad 1 (.t 3), none⟩,
  ⟨some 43, .load false 1 (.t 42), none⟩,
  ⟨some 44, .len (.t 43), none⟩,
  ⟨some 45, .bin .lss (.t 41) (.t 44), none⟩]
def c_r07_Extract_r12 (F : String → Nat) : List LI := [⟨some 48, .fad 1 (.t 2), none⟩,
  ⟨some 49, .load false 1 (.t 48), none⟩,
  ⟨some 50, .fad 1 (.t 3), none⟩,
  ⟨some 51, .load false 1 (.t 50), none⟩,
  ⟨some 52, .mov (.t 10), none⟩,
  ⟨some 53, .iad 1 (.t 51) (.t 52), none⟩,
  ⟨some 54, .load false 1 (.t 53), none⟩,
  ⟨some 55, .iad 3 (.t 49) (.t 54), none⟩,
  ⟨some 56, .load true 3 (.t 55), none⟩,
  ⟨some 11, .alloc [.int .i64 (0), .int .i64 (0), .int .i64 (0)], none⟩,
  ⟨none, .store 3 (.t 11) (.t 56), none⟩]
def c_r07_Extract_r13 (F : String → Nat) : List LI := [⟨some 57, .fad 1 (.t 8), none⟩,
  ⟨some 58, .load false 1 (.t 57), none⟩,
  ⟨some 59, .fad 0 (.t 11), none⟩,
  ⟨some 60, .load false 1 (.t 59), none⟩,
  ⟨some 61, .fad 0 (.t 3), none⟩,
  ⟨some 62, .load false 1 (.t 61), none⟩,
  ⟨some 63, .fad 1 (.t 11), none⟩,
  ⟨some 64, .load false 1 (.t 63), none⟩,
  ⟨some 65, .call (F "r07.index") [.t 62, .t 64] [], none⟩,
  ⟨some 66, .fad 0 (.t 3), none⟩,
  ⟨some 67, .load false 1 (.t 66), none⟩,
  ⟨some 68, .fad 2 (.t 11), none⟩,
  ⟨some 69, .load false 1 (.t 68), none⟩,
  ⟨some 70, .call (F "r07.index") [.t 67, .t 69] [], none⟩,
  ⟨some 71, .build [.int .i64 (0), .int .i64 (0), .int .i64 (0)] [(0, 1, .t 60), (1, 1, .t 65), (2, 1, .t 70)], none⟩,
  ⟨some 72, .buildSl 3 24 (.agg [.int .i64 (0), .int .i64 (0), .int .i64 (0)]) 1 [(0, .t 71)], none⟩,
  ⟨some 73, .app 3 24 (.t 58) (.t 72), none⟩,
  ⟨some 74, .fad 1 (.t 8), none⟩,
  ⟨none, .store 1 (.t 74) (.t 73), none⟩]
def c_r07_Extract_r14 (F : String → Nat) : List LI := [⟨some 46, .mov (.t 10), none⟩,
  ⟨some 47, .bin .add (.t 46) (.k (.int .i64 (1))), none⟩,
  ⟨some 10, .mov (.t 47), none⟩]
def c_r07_Extract_b15 (F : String → Nat) : LC := (.seq (.seq (.reg (c_r07_Extract_r11 F) [2, 3, 4, 5, 8, 10, 45]) (.cond (.t 45) .skip (.exit 2))) (.seq (.block 3 (.seq (.dreg [] (c_r07_Extract_r12 F) [2, 3, 4, 5, 8, 10, 11]) (.dreg [(1, none, [], true), (3, none, [], true), (8, none, [1, 3], true), (10, (some 512), [8], false), (12, (some 2048), [8], false), (13, none, [1, 3], false), (15, none, [1], false)] (c_r07_Extract_r13 F) [2, 3, 4, 5, 8, 10]))) (.reg (c_r07_Extract_r14 F) [2, 3, 4, 5, 8, 10])))
def c_r07_Extract_r16 (F : String → Nat) : List LI := [⟨some 75, .load true 2 (.t 8), none⟩,
  ⟨some 76, .buildSl 1 8 (.int .i64 (0)) 0 [], none⟩,
  ⟨some 77, .fad 0 (.t 3), none⟩,
  ⟨some 78, .load false 1 (.t 77), none⟩,
  ⟨some 79, .app 1 8 (.t 76) (.t 78), none⟩,
  ⟨some 80, .buildSl 1 8 (.int .i64 (0)) 0 [], none⟩,
  ⟨some 81, .fad 1 (.t 3), none⟩,
  ⟨some 82, .load false 1 (.t 81), none⟩,
  ⟨some 83, .app 1 8 (.t 80) (.t 82), none⟩,
  ⟨some 84, .build [.nl 1, .nl 1] [(0, 1, .t 79), (1, 1, .t 83)], none⟩,
  ⟨none, .store 2 (.t 4) (.t 75), none⟩,
  ⟨none, .store 2 (.t 5) (.t 84), none⟩,
  ⟨some 6, .mov (.k (.int .i64 (0))), none⟩]
def c_r07_Extract (F : String → Nat) : LC := (.seq (.reg (c_r07_Extract_r0 F) [2, 3, 4, 5]) (.seq (.seq (.reg (c_r07_Extract_r1 F) [2, 3, 4, 5, 7]) (.seq (.reg (c_r07_Extract_r2 F) [2, 3, 4, 5, 7, 16]) (.cond (.t 16) (.seq (.reg (c_r07_Extract_r3 F) [4, 5, 6]) .ret) .skip))) (.seq (.reg (c_r07_Extract_r4 F) [2, 3, 4, 5, 8]) (.seq (.seq (.reg (c_r07_Extract_r5 F) [2, 3, 4, 5, 8, 9]) (.block 0 (.loop [2, 3, 4, 5, 8, 9] (c_r07_Extract_b9 F)))) (.seq (.seq (.reg (c_r07_Extract_r10 F) [2, 3, 4, 5, 8, 10]) (.block 2 (.loop [2, 3, 4, 5, 8, 10] (c_r07_Extract_b15 F)))) (.seq (.dreg [(0, none, [], true), (3, (some 4), [], false), (4, none, [0], true), (7, (some 64), [4], false), (8, none, [0], false)] (c_r07_Extract_r16 F) [4, 5, 6]) .ret))))))
def h_r07_Extract : Hints := ⟨[], fun _ => [], tab [(0, [2, 3, 4, 5]), (1, [2, 3, 4, 5, 7]), (2, [2, 3, 4, 5, 7, 16]), (3, [4, 5, 6]), (4, [2, 3, 4, 5, 8]), (5, [2, 3, 4, 5, 8, 9]), (6, [2, 3, 4, 5, 8, 9, 24]), (7, [2, 3, 4, 5, 8, 9]), (8, [2, 3, 4, 5, 8, 9]), (9, [2, 3, 4, 5, 8, 10]), (10, [2, 3, 4, 5, 8, 10, 45]), (11, [2, 3, 4, 5, 8, 10]), (12, [2, 3, 4, 5, 8, 10, 11]), (13, [2, 3, 4, 5, 8, 10]), (14, [4, 5, 6])], tab [(6, [2, 3, 4, 5, 8, 9]), (10, [2, 3, 4, 5, 8, 10])]⟩

/- r07.Boundary -/
def c_r07_Boundary_r0 (F : String → Nat) : List LI := [⟨some 2, .bx (.t 0), none⟩,
  ⟨some 3, .bx (.t 1), none⟩,
  ⟨some 4, .mov (.k (.nl 1)), none⟩,
  ⟨some 5, .mov (.k (.int .i64 (0))), none⟩]
def c_r07_Boundary_r1 (F : String → Nat) : List LI := [⟨some 9, .load true 2 (.t 2), none⟩,
  ⟨some 10, .load true 2 (.t 3), none⟩,
  ⟨some 11, .call (F "r07.Valid") [.t 9, .t 10] [], none⟩,
  ⟨some 6, .mov (.t 11), none⟩]
def c_r07_Boundary_r2 (F : String → Nat) : List LI := [⟨some 12, .mov (.t 6), none⟩,
  ⟨some 13, .bin .neq (.t 12) (.k (.int .i64 (0))), none⟩]
def c_r07_Boundary_r3 (F : String → Nat) : List LI := [⟨some 14, .mov (.t 6), none⟩,
  ⟨some 4, .mov (.k (.nl 1)), none⟩,
  ⟨some 5, .mov (.t 14), none⟩]
def c_r07_Boundary_r4 (F : String → Nat) : List LI := [⟨some 15, .fad 0 (.t 2), none⟩,
  ⟨some 16, .load false 1 (.t 15), none⟩,
  ⟨some 17, .len (.t 16), none⟩,
  ⟨some 18, .makeSl 1 1 (.bool false) (.t 17), none⟩,
  ⟨some 7, .mov (.t 18), none⟩]
def c_r07_Boundary_r5 (F : String → Nat) : List LI := [⟨some 8, .mov (.k (.int .i64 (0))), none⟩]
def c_r07_Boundary_r6 (F : String → Nat) : List LI := [⟨some 19, .mov (.t 8), none⟩,
  ⟨some 20, .fad 1 (.t 2), none⟩,
  ⟨some 21, .load false 1 (.t 20), none⟩,
  ⟨some 22, .len (.t 21), none⟩,
  ⟨some 23, .bin .lss (.t 19) (.t 22), none⟩]
def c_r07_Boundary_r7 (F : String → Nat) : List LI := [⟨some 26, .fad 1 (.t 3), none⟩,
  ⟨some 27, .load false 1 (.t 26), none⟩,
  ⟨some 28, .mov (.t 8), none⟩,
  ⟨some 29, .call (F "r07.has") [.t 27, .t 28] [], none⟩,
  ⟨some 30, .not (.t 29), none⟩]
def c_r07_Boundary_r8 (F : String → Nat) : List LI := [⟨some 31, .mov (.t 7), none⟩,
  ⟨some 32, .fad 1 (.t 2), none⟩,
  ⟨some 33, .load false 1 (.t 32), none⟩,
  ⟨some 34, .mov (.t 8), none⟩,
  ⟨some 35, .iad 3 (.t 33) (.t 34), none⟩,
  ⟨some 36, .fad 1 (.t 35), none⟩,
  ⟨some 37, .load false 1 (.t 36), none⟩,
  ⟨some 38, .mov (.t 7), none⟩,
  ⟨some 39, .fad 1 (.t 2), none⟩,
  ⟨some 40, .load false 1 (.t 39), none⟩,
  ⟨some 41, .mov (.t 8), none⟩,
  ⟨some 42, .iad 3 (.t 40) (.t 41), none⟩,
  ⟨some 43, .fad 2 (.t 42), none⟩,
  ⟨some 44, .load false 1 (.t 43), none⟩,
  ⟨some 45, .iad 1 (.t 31) (.t 37), none⟩,
  ⟨none, .store 1 (.t 45) (.k (.bool true)), none⟩,
  ⟨some 46, .iad 1 (.t 38) (.t 44), none⟩,
  ⟨none, .store 1 (.t 46) (.k (.bool true)), none⟩]
def c_r07_Boundary_r9 (F : String → Nat) : List LI := [⟨some 24, .mov (.t 8), none⟩,
  ⟨some 25, .bin .add (.t 24) (.k (.int .i64 (1))), none⟩,
  ⟨some 8, .mov (.t 25), none⟩]
def c_r07_Boundary_b10 (F : String → Nat) : LC := (.seq (.seq (.reg (c_r07_Boundary_r6 F) [2, 3, 7, 8, 23]) (.cond (.t 23) .skip (.exit 0))) (.seq (.block 1 (.seq (.reg (c_r07_Boundary_r7 F) [2, 3, 7, 8, 30]) (.cond (.t 30) (.dreg [] (c_r07_Boundary_r8 F) [2, 3, 7, 8]) .skip))) (.reg (c_r07_Boundary_r9 F) [2, 3, 7, 8])))
def c_r07_Boundary_r11 (F : String → Nat) : List LI := [⟨some 47, .fad 0 (.t 2), none⟩,
  ⟨some 48, .load false 1 (.t 47), none⟩,
  ⟨some 49, .len (.t 48), none⟩,
  ⟨some 50, .fad 0 (.t 3), none⟩,
  ⟨some 51, .load false 1 (.t 50), none⟩,
  ⟨some 52, .mov (.t 7), none⟩,
  ⟨some 53, .call (F "r07.marked") [.t 52] [], none⟩,
  ⟨some 54, .call (F "r07.merged") [.t 49, .t 51, .t 53, .k (.bool true)] [], none⟩,
  ⟨some 4, .mov (.t 54), none⟩,
  ⟨some 5, .mov (.k (.int .i64 (0))), none⟩]
def c_r07_Boundary (F : String → Nat) : LC := (.seq (.reg (c_r07_Boundary_r0 F) [2, 3]) (.seq (.seq (.reg (c_r07_Boundary_r1 F) [2, 3, 6]) (.seq (.reg (c_r07_Boundary_r2 F) [2, 3, 6, 13]) (.cond (.t 13) (.seq (.reg (c_r07_Boundary_r3 F) [4, 5]) .ret) .skip))) (.seq (.reg (c_r07_Boundary_r4 F) [2, 3, 7]) (.seq (.seq (.reg (c_r07_Boundary_r5 F) [2, 3, 7, 8]) (.block 0 (.loop [2, 3, 7, 8] (c_r07_Boundary_b10 F)))) (.seq (.dreg [(1, none, [], true), (4, none, [], true), (6, none, [1, 4], false)] (c_r07_Boundary_r11 F) [4, 5]) .ret)))))
def h_r07_Boundary : Hints := ⟨[], fun _ => [], tab [(0, [2, 3]), (1, [2, 3, 6]), (2, [2, 3, 6, 13]), (3, [4, 5]), (4, [2, 3, 7]), (5, [2, 3, 7, 8]), (6, [2, 3, 7, 8, 23]), (7, [2, 3, 7, 8]), (8, [2, 3, 7, 8, 30]), (9, [2, 3, 7, 8]), (10, [4, 5])], tab [(6, [2, 3, 7, 8])]⟩

attribute [go_sem] c_r07_index_r0 c_r07_index_r1 c_r07_index_r2 c_r07_index_r3 c_r07_index_r4 c_r07_index_r5 c_r07_index_r7 c_r07_index c_r07_Extract_r0 c_r07_Extract_r1 c_r07_Extract_r2 c_r07_Extract_r3 c_r07_Extract_r4 c_r07_Extract_r5 c_r07_Extract_r6 c_r07_Extract_r7 c_r07_Extract_r8 c_r07_Extract_r10 c_r07_Extract_r11 c_r07_Extract_r12 c_r07_Extract_r13 c_r07_Extract_r14 c_r07_Extract_r16 c_r07_Extract c_r07_Boundary_r0 c_r07_Boundary_r1 c_r07_Boundary_r2 c_r07_Boundary_r3 c_r07_Boundary_r4 c_r07_Boundary_r5 c_r07_Boundary_r6 c_r07_Boundary_r7 c_r07_Boundary_r8 c_r07_Boundary_r9 c_r07_Boundary_r11 c_r07_Boundary
section
variable (P : Program) (F : String → Nat)
def K_r07_index : Prop := ∀ (l : List Int) (x : Int), l.length ≤ maxL → FC P (F "r07.index") [.lst 1 (ints l), .int .i64 x] (.int .i64 (idx (fun y => decide (x = y)) l 0)) []
def K_r07_Extract : Prop := ∀ (g : G) (p : Mo), p.sm → FC P (F "r07.Extract") [gD g, mD p] (.tup [gA (exR g p).1, mA (exR g p).2.1, .int .i64 (exR g p).2.2]) []
def K_r07_Boundary : Prop := ∀ (g : G) (p : Mo), p.sm → FC P (F "r07.Boundary") [gD g, mD p] (.tup [.arr 1 (ints (bdR g p).1), .int .i64 (bdR g p).2]) []
end
section
variable {P : Program} {F : String → Nat} {α : Type}
theorem w_r07_index (l : List Int) (x : Int) (hl : l.length ≤ maxL) : W P (c_r07_index F) (Done [.t 4] [] (.int .i64 (idx (fun y => decide (x = y)) l 0)) []) (init [.lst 1 (ints l), .int .i64 x]) := by
  refine W_of ?_
  unfold maxL at hl
  simp (config := { maxSteps := 1000000 }) (disch := first | omega | (simp only [go_sem]; omega)) only [go_sem, ↓reduceIte]
  refine W_loop (fun i : Nat => ⟨[(0, .lst 1 (ints l)), (1, .int .i64 x), (5, .int .i64 i)], [], 0⟩) (fun i => i ≤ l.length ∧ idx (fun y => decide (x = y)) l 0 = idx (fun y => decide (x = y)) (l.drop i) i) (fun i => l.length - i) 0 ?_ ?_ ?_
  · simp (config := { maxSteps := 1000000 }) (disch := first | omega | (simp only [go_sem]; omega)) only [go_sem, ↓reduceIte]
    rfl
  · simp
  · intro i hi
    by_cases c : i < l.length
    · have d1 : decide ((i : Int) < l.length) = true := decide_eq_true (by omega)
      have hd := idx_drop (fun y => decide (x = y)) l i c
      by_cases e : gt l i = x
      · have d2 : decide (gt l i = x) = true := decide_eq_true e
        simp (config := { maxSteps := 1000000 }) (disch := first | omega | (simp only [go_sem]; omega)) only [go_sem, ↓reduceIte, c_r07_index_b6, d1, d2]
        rw [hi.2, hd, if_pos (by simp [e])]
      · have d2 : decide (gt l i = x) = false := decide_eq_false e
        simp (config := { maxSteps := 1000000 }) (disch := first | omega | (simp only [go_sem]; omega)) only [go_sem, ↓reduceIte, c_r07_index_b6, d1, d2]
        exact ⟨i + 1, by simp, ⟨by omega, by rw [hi.2, hd, if_neg (by simpa using fun h => e h.symm)]⟩, by omega⟩
    · have d1 : decide ((i : Int) < l.length) = false := decide_eq_false (by omega)
      simp (config := { maxSteps := 1000000 }) (disch := first | omega | (simp only [go_sem]; omega)) only [go_sem, ↓reduceIte, c_r07_index_b6, d1]
      rw [hi.2, List.drop_of_length_le (by omega)]
      rfl
theorem w_r07_Extract (hv : K_r07_Valid P F) (hb : K_r07_index P F) (g : G) (p : Mo) (h1 : p.sm) : W P (c_r07_Extract F) (Done [.c 4 true 2, .c 5 true 2, .t 6] [] (.tup [gA (exR g p).1, mA (exR g p).2.1, .int .i64 (exR g p).2.2]) []) (init [gD g, mD p]) := by
  refine W_of ?_
  have r1 := hv g p h1.1 h1.2
  have hR : exR g p = if validP g p ≠ 0 then (g0, m0, validP g p) else (ptG g p, p, 0) := rfl
  have h0 : validP g p = 0 → PK g p := fun h => validP_ok.1 h
  generalize validP g p = v at *
  rw [hR]
  clear hR
  obtain ⟨gn, ge⟩ := g
  obtain ⟨pn, pe⟩ := p
  simp only [gD, mD] at *
  simp (config := { maxSteps := 1000000 }) (disch := first | omega | (simp only [go_sem]; omega)) only [go_sem, ↓reduceIte]
  refine call_by r1 ?_
  simp (config := { maxSteps := 1000000 }) (disch := first | omega | (simp only [go_sem]; omega)) only [go_sem, ↓reduceIte]
  refine bran_ndec (fun c => ?_) (fun c => ?_)
  · simp (config := { maxSteps := 1000000 }) (disch := first | omega | (simp only [go_sem]; omega)) only [go_sem, ↓reduceIte]
    simp [c, mA, gA, m0, g0, ints, eds]
  have hk := h0 c
  have hl := hk.len
  have hs := valid_spec hk.v
  rw [if_neg (by simp [c])]
  clear h0 r1
  simp only [ptG, gA, mA] at *
  have rb := fun (x : Int) (hx : x ∈ pn) => hb pn x (by unfold maxL; omega)
  have rb : ∀ x ∈ pn, FC P (F "r07.index") [.lst 1 (ints pn), .int .i64 x] (.int .i64 (cntB pn x)) [] := fun x hx => by rw [← idx_asc hk.n.p hx]; exact rb x hx
  simp (config := { maxSteps := 1000000 }) (disch := first | omega | (simp only [go_sem]; omega)) only [go_sem, ↓reduceIte]
  refine W_loop (fun i : Nat => ⟨[(2, .pt 0 0), (3, .pt 1 0), (4, .pt 4 0), (5, .pt 7 0), (8, .pt 10 0), (9, .int .i64 i)],
    [(0, .box [.lst 1 (ints gn), .lst 3 (eds ge)]), (1, .box [.lst 1 (ints pn), .lst 1 (ints pe)]), (2, .arr 1 []), (3, .arr 3 []), (4, .box [.sl 2 0 0, .sl 3 0 0]), (5, .arr 1 []), (6, .arr 1 []), (7, .box [.sl 5 0 0, .sl 6 0 0]),
     (8, .arr 1 (ints (thr (pn.take i) gn))), (9, .arr 3 []), (10, .box [.sl 8 0 i, .sl 9 0 0])], 11⟩) (fun i => i ≤ pn.length) (fun i => pn.length - i) 0 ?_ ?_ ?_
  · simp (config := { maxSteps := 1000000 }) (disch := first | omega | (simp only [go_sem]; omega)) only [go_sem, ↓reduceIte]
    rfl
  · simp
  · intro i hi
    have tl : (thr (pn.take i) gn).length = i := by rw [thr_len, List.length_take]; omega
    by_cases e : i < pn.length
    · have d1 : decide ((i : Int) < pn.length) = true := decide_eq_true (by omega)
      have hb1 := hk.n.b _ (gt_mem (l := pn) (j := (i : Int)) (by omega) (by omega))
      simp only at hb1
      have hst := thr_step (b := gn) e
      simp (config := { maxSteps := 1000000 }) (disch := first | omega | (simp only [go_sem]; omega)) only [go_sem, ↓reduceIte, c_r07_Extract_b9, d1, tl]
      exact ⟨i + 1, by simp [hst], by omega, by omega⟩
    · have d1 : decide ((i : Int) < pn.length) = false := decide_eq_false (by omega)
      obtain rfl : i = pn.length := by omega
      rw [List.take_length] at tl
      simp (config := { maxSteps := 1000000 }) (disch := first | omega | (simp only [go_sem]; omega)) only [go_sem, ↓reduceIte, c_r07_Extract_b9, d1, tl]
      refine W_loop (fun i : Nat => ⟨[(2, .pt 0 0), (3, .pt 1 0), (4, .pt 4 0), (5, .pt 7 0), (8, .pt 10 0), (10, .int .i64 i)],
        [(0, .box [.lst 1 (ints gn), .lst 3 (eds ge)]), (1, .box [.lst 1 (ints pn), .lst 1 (ints pe)]), (2, .arr 1 []), (3, .arr 3 []), (4, .box [.sl 2 0 0, .sl 3 0 0]), (5, .arr 1 []), (6, .arr 1 []), (7, .box [.sl 5 0 0, .sl 6 0 0]),
         (8, .arr 1 (ints (thr pn gn))), (9, .arr 3 (eds (exL ⟨gn, ge⟩ pn (pe.take i)))), (10, .box [.sl 8 0 pn.length, .sl 9 0 i])], 11⟩) (fun i => i ≤ pe.length) (fun i => pe.length - i) 0 ?_ ?_ ?_
      · simp (config := { maxSteps := 1000000 }) (disch := first | omega | (simp only [go_sem]; omega)) only [go_sem, ↓reduceIte]
        rfl
      · simp
      · intro i hi
        have el : (exL ⟨gn, ge⟩ pn (pe.take i)).length = i := by rw [exL_len, List.length_take]; omega
        by_cases e : i < pe.length
        · have d1 : decide ((i : Int) < pe.length) = true := decide_eq_true (by omega)
          have hm := gt_mem (l := pe) (j := (i : Int)) (by omega) (by omega)
          have hb1 := hk.e.b _ hm
          have hb2 := hk.d _ hm
          simp only at hb1 hb2
          have hst := exL_step (g := ⟨gn, ge⟩) (pn := pn) e
          simp only at hst
          have rf := rb (gt ge (gt pe i)).f hb2.1
          have ro := rb (gt ge (gt pe i)).o hb2.2
          simp (config := { maxSteps := 1000000 }) (disch := first | omega | (simp only [go_sem]; omega)) only [go_sem, ↓reduceIte, c_r07_Extract_b15, d1, el]
          refine call_by rf ?_
          simp (config := { maxSteps := 1000000 }) (disch := first | omega | (simp only [go_sem]; omega)) only [go_sem, ↓reduceIte]
          refine call_by ro ?_
          simp (config := { maxSteps := 1000000 }) (disch := first | omega | (simp only [go_sem]; omega)) only [go_sem, ↓reduceIte, el]
          exact ⟨i + 1, by simp [hst], by omega, by omega⟩
        · have d1 : decide ((i : Int) < pe.length) = false := decide_eq_false (by omega)
          obtain rfl : i = pe.length := by omega
          rw [List.take_length] at el
          simp (config := { maxSteps := 1000000 }) (disch := first | omega | (simp only [go_sem]; omega)) only [go_sem, ↓reduceIte, c_r07_Extract_b15, d1, tl, el]
          try rfl
theorem w_r07_Boundary (hv : K_r07_Valid P F) (hh : K_r07_has P F) (hm : K_r07_marked P F) (hg : K_r07_merged P F) (g : G) (p : Mo) (h1 : p.sm) : W P (c_r07_Boundary F) (Done [.t 4, .t 5] [] (.tup [.arr 1 (ints (bdR g p).1), .int .i64 (bdR g p).2]) []) (init [gD g, mD p]) := by
  refine W_of ?_
  have r1 := hv g p h1.1 h1.2
  have hR : bdR g p = if validP g p ≠ 0 then ([], validP g p) else (bdL g p, 0) := rfl
  have h0 : validP g p = 0 → PK g p := fun h => validP_ok.1 h
  have hM := fun hp : PK g p => @bd_mrg g p hp
  have oz : ∀ x : Int, ¬ x ∈ outE g p.e 0 := fun x h => by simp [outE] at h
  have os : ∀ (i : Nat) (x : Int), x ∈ outE g p.e (i + 1) ↔ x ∈ outE g p.e i ∨ ¬ (i : Int) ∈ p.e ∧ ((gt g.e i).f = x ∨ (gt g.e i).o = x) := fun i x => by
    rw [outE]
    split
    · rename_i h; simp [h]
    · rename_i h; simp only [List.mem_append, List.mem_cons, List.not_mem_nil, or_false, h, not_false_eq_true, true_and]
      exact or_congr_right ⟨fun h => h.imp Eq.symm Eq.symm, fun h => h.imp Eq.symm Eq.symm⟩
  have he : validP g p = 0 → ∀ i : Nat, i < g.e.length → (0 ≤ (gt g.e i).f ∧ (gt g.e i).f < g.n.length) ∧ (0 ≤ (gt g.e i).o ∧ (gt g.e i).o < g.n.length) := fun h i hi => (edge_fits (h0 h).v (i := (i : Int)) (by omega)).2
  generalize validP g p = v at *
  generalize bdL g p = bd at *
  generalize outE g p.e = O at *
  rw [hR]
  clear hR
  obtain ⟨gn, ge⟩ := g
  obtain ⟨pn, pe⟩ := p
  simp only [gD, mD] at *
  simp (config := { maxSteps := 1000000 }) (disch := first | omega | (simp only [go_sem]; omega)) only [go_sem, ↓reduceIte]
  refine call_by r1 ?_
  simp (config := { maxSteps := 1000000 }) (disch := first | omega | (simp only [go_sem]; omega)) only [go_sem, ↓reduceIte]
  refine bran_ndec (fun c => ?_) (fun c => ?_)
  · simp (config := { maxSteps := 1000000 }) (disch := first | omega | (simp only [go_sem]; omega)) only [go_sem, ↓reduceIte]
    simp [c, ints]
  have hk := h0 c
  have hM := @hM hk
  have hl := hk.len
  have hv := valid_spec hk.v
  have he := he c
  simp only at hl hv
  rw [if_neg (by simp [c])]
  have rh := fun x => hh pe x (by unfold maxL; omega)
  clear h0 r1 hh
  simp (config := { maxSteps := 1000000 }) (disch := first | omega | (simp only [go_sem]; omega)) only [go_sem, ↓reduceIte]
  refine W_loop (fun s : Nat × List Bool => ⟨[(2, .pt 0 0), (3, .pt 1 0), (7, .sl 2 0 gn.length), (8, .int .i64 s.1)], [(0, .box [.lst 1 (ints gn), .lst 3 (eds ge)]), (1, .box [.lst 1 (ints pn), .lst 1 (ints pe)]), (2, .arr 1 (bls s.2))], 3⟩)
    (fun s => s.1 ≤ ge.length ∧ s.2.length = gn.length ∧ ∀ k : Nat, k < gn.length → gt s.2 k = decide ((k : Int) ∈ O s.1)) (fun s => ge.length - s.1) (0, List.replicate gn.length false) ?_ ?_ ?_
  · simp (config := { maxSteps := 1000000 }) (disch := first | omega | (simp only [go_sem]; omega)) only [go_sem, ↓reduceIte]
    rfl
  · refine ⟨by simp, by simp, fun k hk => ?_⟩
    rw [gt_nat (by simpa using hk), decide_eq_false (oz _)]
    simp
  · rintro ⟨i, z⟩ ⟨i1, i2, i3⟩
    simp only at i1 i2 i3
    by_cases e : i < ge.length
    · have d1 : decide ((i : Int) < ge.length) = true := decide_eq_true (by omega)
      have r2 := rh i
      have st := os i
      by_cases c2 : (i : Int) ∈ pe
      · rw [decide_eq_true c2] at r2
        simp (config := { maxSteps := 1000000 }) (disch := first | omega | (simp only [go_sem]; omega)) only [go_sem, ↓reduceIte, c_r07_Boundary_b10, d1]
        refine call_by r2 ?_
        simp (config := { maxSteps := 1000000 }) (disch := first | omega | (simp only [go_sem]; omega)) only [go_sem, ↓reduceIte]
        refine ⟨(i + 1, z), by simp, ⟨by simp only; omega, i2, fun k hk => ?_⟩, by simp only; omega⟩
        rw [i3 k hk]
        simp only
        rw [decide_eq_decide, st k]
        simp [c2]
      · rw [decide_eq_false c2] at r2
        obtain ⟨⟨f1, f2⟩, o1, o2⟩ := he i e
        simp (config := { maxSteps := 1000000 }) (disch := first | omega | (simp only [go_sem]; omega)) only [go_sem, ↓reduceIte, c_r07_Boundary_b10, d1]
        refine call_by r2 ?_
        simp (config := { maxSteps := 1000000 }) (disch := first | omega | (simp only [go_sem]; omega)) only [go_sem, ↓reduceIte, i2]
        refine ⟨(i + 1, (z.set (gt ge i).f.toNat true).set (gt ge i).o.toNat true), by simp, ⟨by simp only; omega, by simp [i2], fun k hk => ?_⟩, by simp only; omega⟩
        simp only
        rw [gt_setB (by simp; omega), gt_setB (by omega), i3 k hk]
        have hdec : decide ((k : Int) ∈ O (i + 1)) = (decide ((k : Int) ∈ O i) || (decide ((gt ge i).f = (k : Int)) || decide ((gt ge i).o = (k : Int)))) := by
          rw [Bool.eq_iff_iff]
          simp only [decide_eq_true_eq, Bool.or_eq_true]
          rw [st k]
          simp [c2]
        rw [hdec]
        by_cases e1 : (gt ge i).o.toNat = k
        · have : (gt ge i).o = (k : Int) := by omega
          simp [e1, this]
        · by_cases e2 : (gt ge i).f.toNat = k
          · have : (gt ge i).f = (k : Int) := by omega
            simp [e1, e2, this]
          · have q1 : ¬ (gt ge i).o = (k : Int) := by omega
            have q2 : ¬ (gt ge i).f = (k : Int) := by omega
            simp [e1, e2, q1, q2]
    · have d1 : decide ((i : Int) < ge.length) = false := decide_eq_false (by omega)
      obtain rfl : i = ge.length := by omega
      have r2 := hm z (by omega)
      have ml : (markL z).length ≤ z.length := sel_len _ _
      have r3 := hg gn.length pn (markL z) true (by omega) (by unfold maxL; omega) (by unfold maxL; omega)
      rw [hM i2 i3] at r3
      generalize markL z = y1 at *
      simp (config := { maxSteps := 1000000 }) (disch := first | omega | (simp only [go_sem]; omega)) only [go_sem, ↓reduceIte, c_r07_Boundary_b10, d1]
      refine call_by r2 ?_
      simp (config := { maxSteps := 1000000 }) (disch := first | omega | (simp only [go_sem]; omega)) only [go_sem, ↓reduceIte]
      refine call_by r3 ?_
      simp (config := { maxSteps := 1000000 }) (disch := first | omega | (simp only [go_sem]; omega)) only [go_sem, ↓reduceIte]
      try rfl
end
end Go.Am
