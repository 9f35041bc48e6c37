/- Drafts of graphs; what laws take. -/
/- slices.Clone. -/
/- Squares: validity, composition, comparison. -/
/- Squares: equality, kinds, pasting, lifting: the walks. -/
/- Chapter 14: the example; the law Kind. -/
/- Squares: pasting: the walks; the law Paste. -/
import Derived.Test.YtelmgaflhmcihaaGreatSpPa
import Derived.Test.YtelmgaflhmcihaaGreatSpPb
import Derived.Test.YtelmgaflhmcihaaGreatSpPc
import Derived.Test.YtelmgaflhmcihaaGreatSpPd
import Derived.Test.YtelmgaflhmcihaaGreatSpPe
import Derived.Test.YtelmgaflhmcihaaGreatSpPf
import Derived.Test.YtelmgaflhmcihaaGreatSpPg
namespace Go.Am
open Go
set_option linter.unusedVariables false
set_option linter.unusedSimpArgs false
section
variable (P : Program) (F : String → Nat)
end
def shI : Sh := .int .i64
def shIs : Sh := .slc 1 8 shI
def shE : Sh := .cat [shI, shI, shI]
def shG : Sh := .cat [shIs, .slc 3 24 shE]
theorem rd_int {x : D} (h : HasEl shI x) : ∃ n : Int, x = .int .i64 n ∧ IntKind.i64.min ≤ n ∧ n ≤ IntKind.i64.max := by
  simpa only [shI, HasEl] using h
theorem rd_intl : ∀ {xs : List D}, (∀ y ∈ xs, HasEl shI y) → ∃ l : List Int, xs = ints l
  | [], _ => ⟨[], rfl⟩
  | x :: xs, h => by
    obtain ⟨l, rfl⟩ := rd_intl (xs := xs) fun y hy => h y (by simp [hy])
    obtain ⟨n, rfl, _⟩ := rd_int (h x (by simp))
    exact ⟨n :: l, rfl⟩
theorem rd_ints {x : D} (h : HasEl shIs x) : ∃ l : List Int, x = .lst 1 (ints l) ∧ l.length ≤ 20000000000000 := by
  simp only [shIs, HasEl] at h
  obtain ⟨xs, rfl, h1, h2⟩ := h
  obtain ⟨l, rfl⟩ := rd_intl h2
  refine ⟨l, rfl, ?_⟩
  rw [ints_length] at h1
  unfold reachBytes at h1
  omega
theorem rd_edge {x : D} (h : HasEl shE x) : ∃ e : E, x = edD e := by
  simp only [shE, HasEl] at h
  obtain ⟨ds, rfl, h⟩ := h
  simp only [shI, HasShs, HasEl] at h
  obtain ⟨_, _, rfl, ⟨a, rfl, _⟩, _, _, rfl, ⟨b, rfl, _⟩, _, _, rfl, ⟨c, rfl, _⟩, rfl⟩ := h
  exact ⟨⟨a, b, c⟩, rfl⟩
theorem rd_edl : ∀ {xs : List D}, (∀ y ∈ xs, HasEl shE y) → ∃ l : List E, xs = eds l
  | [], _ => ⟨[], rfl⟩
  | x :: xs, h => by
    obtain ⟨l, rfl⟩ := rd_edl (xs := xs) fun y hy => h y (by simp [hy])
    obtain ⟨n, rfl⟩ := rd_edge (h x (by simp))
    exact ⟨n :: l, rfl⟩
def shEs : Sh := .slc 3 24 shE
theorem rd_edges {x : D} (h : HasEl shEs x) : ∃ l : List E, x = .lst 3 (eds l) := by
  simp only [shEs, HasEl] at h
  obtain ⟨xs, rfl, _, h3⟩ := h
  obtain ⟨es, rfl⟩ := rd_edl h3
  exact ⟨es, rfl⟩
theorem hasShs_slc {z b : Nat} {e : Sh} {l : List Sh} {ds : List D} (h : HasShs (.slc z b e :: l) ds) : ∃ a b', ds = a :: b' ∧ HasEl (.slc z b e) a ∧ HasShs l b' := by simpa only [HasShs] using h
theorem hasShs_cat {l' : List Sh} {l : List Sh} {ds : List D} (h : HasShs (.cat l' :: l) ds) : ∃ a b, ds = a ++ b ∧ HasShs l' a ∧ HasShs l b := by simpa only [HasShs] using h
theorem hasShs_nil {ds : List D} (h : HasShs [] ds) : ds = [] := by simpa only [HasShs] using h
def gL (g : G) : List D := [.lst 1 (ints g.n), .lst 3 (eds g.e)]
def moL (m : Mo) : List D := [.lst 1 (ints m.n), .lst 1 (ints m.e)]
def shM : Sh := .cat [shIs, shIs]
theorem rd_gl {ds : List D} (h : HasShs [shIs, .slc 3 24 shE] ds) : ∃ g : G, ds = gL g := by
  obtain ⟨_, _, rfl, h1, h⟩ := hasShs_slc h
  obtain ⟨_, _, rfl, h2, h⟩ := hasShs_slc h
  obtain rfl := hasShs_nil h
  obtain ⟨n, rfl, _⟩ := rd_ints h1
  obtain ⟨e, rfl⟩ := rd_edges h2
  exact ⟨⟨n, e⟩, rfl⟩
theorem rd_ml {ds : List D} (h : HasShs [shIs, shIs] ds) : ∃ m : Mo, ds = moL m ∧ m.sm := by
  obtain ⟨_, _, rfl, h1, h⟩ := hasShs_slc h
  obtain ⟨_, _, rfl, h2, h⟩ := hasShs_slc h
  obtain rfl := hasShs_nil h
  obtain ⟨n, rfl, l1⟩ := rd_ints h1
  obtain ⟨e, rfl, l2⟩ := rd_ints h2
  exact ⟨⟨n, e⟩, rfl, by simp only [maxL]; omega, by simp only [maxL]; omega⟩
section
variable {P : Program} {F : String → Nat} {α : Type}
end
end Go.Am
namespace Go.Am
open Go
set_option linter.unusedVariables false
set_option linter.unusedSimpArgs false
/- slices.Equal.E -/
def c_slices_Equal_E_r0 (F : String → Nat) : List LI := [⟨some 4, .mov (.k (.bool false)), none⟩]
def c_slices_Equal_E_r1 (F : String → Nat) : List LI := [⟨some 6, .mov (.t 0), none⟩,
  ⟨some 7, .len (.t 6), none⟩,
  ⟨some 8, .mov (.t 1), none⟩,
  ⟨some 9, .len (.t 8), none⟩,
  ⟨some 10, .bin .neq (.t 7) (.t 9), none⟩]
def c_slices_Equal_E_r2 (F : String → Nat) : List LI := [⟨some 4, .mov (.k (.bool false)), none⟩]
def c_slices_Equal_E_r3 (F : String → Nat) : List LI := [⟨some 11, .mov (.t 0), none⟩,
  ⟨some 12, .len (.t 11), none⟩,
  ⟨some 13, .mov (.k (.int .i64 (0))), none⟩]
def c_slices_Equal_E_r4 (F : String → Nat) : List LI := [⟨some 14, .bin .lss (.t 13) (.t 12), none⟩]
def c_slices_Equal_E_r5 (F : String → Nat) : List LI := [⟨some 15, .mov (.t 13), none⟩,
  ⟨some 5, .mov (.t 15), none⟩]
def c_slices_Equal_E_r6 (F : String → Nat) : List LI := [⟨some 16, .mov (.t 0), none⟩,
  ⟨some 17, .mov (.t 5), none⟩,
  ⟨some 18, .iad 3 (.t 16) (.t 17), none⟩,
  ⟨some 19, .load true 3 (.t 18), none⟩,
  ⟨some 20, .mov (.t 1), none⟩,
  ⟨some 21, .mov (.t 5), none⟩,
  ⟨some 22, .iad 3 (.t 20) (.t 21), none⟩,
  ⟨some 23, .load true 3 (.t 22), none⟩,
  ⟨some 24, .eqA 3 true (.t 19) (.t 23), none⟩]
def c_slices_Equal_E_r7 (F : String → Nat) : List LI := [⟨some 4, .mov (.k (.bool false)), none⟩]
def c_slices_Equal_E_r8 (F : String → Nat) : List LI := [⟨some 25, .bin .add (.t 13) (.k (.int .i64 (1))), none⟩,
  ⟨some 13, .mov (.t 25), none⟩]
def c_slices_Equal_E_b9 (F : String → Nat) : LC := (.seq (.reg (c_slices_Equal_E_r4 F) [0, 1, 12, 13, 14]) (.seq (.cond (.t 14) .skip (.exit 0)) (.seq (.block 1 (.seq (.reg (c_slices_Equal_E_r5 F) [0, 1, 5, 12, 13]) (.seq (.dreg [] (c_slices_Equal_E_r6 F) [0, 1, 12, 13, 24]) (.cond (.t 24) (.seq (.reg (c_slices_Equal_E_r7 F) [4]) .ret) .skip)))) (.reg (c_slices_Equal_E_r8 F) [0, 1, 12, 13]))))
def c_slices_Equal_E_r10 (F : String → Nat) : List LI := [⟨some 4, .mov (.k (.bool true)), none⟩]
def c_slices_Equal_E (F : String → Nat) : LC := (.seq (.reg (c_slices_Equal_E_r0 F) [0, 1]) (.seq (.seq (.reg (c_slices_Equal_E_r1 F) [0, 1, 10]) (.cond (.t 10) (.seq (.reg (c_slices_Equal_E_r2 F) [4]) .ret) .skip)) (.seq (.seq (.reg (c_slices_Equal_E_r3 F) [0, 1, 12, 13]) (.block 0 (.loop [0, 1, 12, 13] (c_slices_Equal_E_b9 F)))) (.seq (.reg (c_slices_Equal_E_r10 F) [4]) .ret))))
def h_slices_Equal_E : Hints := ⟨[], fun _ => [], tab [(0, [0, 1]), (1, [0, 1, 10]), (2, [4]), (3, [0, 1, 12, 13]), (4, [0, 1, 12, 13, 14]), (5, [0, 1, 5, 12, 13]), (6, [0, 1, 12, 13, 24]), (7, [4]), (8, [0, 1, 12, 13]), (9, [4])], tab [(4, [0, 1, 12, 13])]⟩

attribute [go_sem] c_slices_Equal_E_r0 c_slices_Equal_E_r1 c_slices_Equal_E_r2 c_slices_Equal_E_r3 c_slices_Equal_E_r4 c_slices_Equal_E_r5 c_slices_Equal_E_r6 c_slices_Equal_E_r7 c_slices_Equal_E_r8 c_slices_Equal_E_r10 c_slices_Equal_E
section
variable (P : Program) (F : String → Nat)
def K_slices_Equal_E : Prop := ∀ a b : List E, a.length ≤ maxL → FC P (F "slices.Equal.E") [.lst 3 (eds a), .lst 3 (eds b)] (.bool (decide (a = b))) []
end
section
variable {P : Program} {F : String → Nat} {α : Type}
theorem w_slices_Equal_E (a b : List E) (hl : a.length ≤ maxL) : W P (c_slices_Equal_E F) (Done [.t 4] [] (.bool (decide (a = b))) []) (init [.lst 3 (eds a), .lst 3 (eds b)]) := by
  refine W_of ?_
  unfold maxL at hl
  simp (config := { maxSteps := 1000000 }) (disch := first | omega | (simp only [go_sem]; omega)) only [go_sem, ↓reduceIte]
  refine bran_ndec (fun h => ?_) (fun h => ?_)
  · simp (config := { maxSteps := 1000000 }) (disch := first | omega | (simp only [go_sem]; omega)) only [go_sem, ↓reduceIte]
    have : a ≠ b := fun e => h (by rw [e])
    simp [this]
  · have h' : a.length = b.length := by omega
    simp (config := { maxSteps := 1000000 }) (disch := first | omega | (simp only [go_sem]; omega)) only [go_sem, ↓reduceIte]
    refine W_loop (fun i : Nat => ⟨[(0, .lst 3 (eds a)), (1, .lst 3 (eds b)), (12, .int .i64 a.length), (13, .int .i64 i)], [], 0⟩) (fun i => i ≤ a.length ∧ a.take i = b.take i) (fun i => a.length - i) 0 ?_ ?_ ?_
    · simp (config := { maxSteps := 1000000 }) (disch := first | omega | (simp only [go_sem]; omega)) only [go_sem, ↓reduceIte]
      rfl
    · simp
    · intro i hi
      simp (config := { maxSteps := 1000000 }) (disch := first | omega | (simp only [go_sem]; omega)) only [go_sem, ↓reduceIte, c_slices_Equal_E_b9]
      refine bran_dec (fun c => ?_) (fun c => ?_)
      · have he : (decide ((gt a i).t = (gt b i).t) && (decide ((gt a i).f = (gt b i).f) && decide ((gt a i).o = (gt b i).o))) = decide (gt a i = gt b i) := by
          rw [Bool.eq_iff_iff]; simp [eqE]
        simp (config := { maxSteps := 1000000 }) (disch := first | omega | (simp only [go_sem]; omega)) only [go_sem, ↓reduceIte, he]
        refine bran_ndec (fun d => ?_) (fun d => ?_)
        · simp (config := { maxSteps := 1000000 }) (disch := first | omega | (simp only [go_sem]; omega)) only [go_sem, ↓reduceIte]
          have : a ≠ b := fun e => d (by rw [e])
          simp [this]
        · simp (config := { maxSteps := 1000000 }) (disch := first | omega | (simp only [go_sem]; omega)) only [go_sem, ↓reduceIte]
          exact ⟨i + 1, by simp, ⟨by omega, by rw [take_gt (by omega), take_gt (by omega), hi.2, d]⟩, by omega⟩
      · simp (config := { maxSteps := 1000000 }) (disch := first | omega | (simp only [go_sem]; omega)) only [go_sem, ↓reduceIte]
        obtain rfl : i = a.length := by omega
        have := hi.2
        rw [List.take_length, List.take_of_length_le (by omega)] at this
        simp [this]
end
end Go.Am
namespace Go.Am
open Go
set_option linter.unusedVariables false
set_option linter.unusedSimpArgs false
attribute [local irreducible] W
/- square.same -/
def c_square_same_r0 (F : String → Nat) : List LI := [⟨some 2, .bx (.t 0), none⟩,
  ⟨some 3, .bx (.t 1), none⟩,
  ⟨some 4, .mov (.k (.bool false)), none⟩]
def c_square_same_r1 (F : String → Nat) : List LI := [⟨some 5, .fad 0 (.t 2), none⟩,
  ⟨some 6, .load false 1 (.t 5), none⟩,
  ⟨some 7, .fad 0 (.t 3), none⟩,
  ⟨some 8, .load false 1 (.t 7), none⟩,
  ⟨some 9, .call (F "slices.Equal.I") [.t 6, .t 8] [], none⟩,
  ⟨some 10, .mov (.t 9), none⟩,
  ⟨some 11, .fad 1 (.t 2), some (10, true)⟩,
  ⟨some 12, .load false 1 (.t 11), some (10, true)⟩,
  ⟨some 13, .fad 1 (.t 3), some (10, true)⟩,
  ⟨some 14, .load false 1 (.t 13), some (10, true)⟩,
  ⟨some 15, .call (F "slices.Equal.E") [.t 12, .t 14] [], some (10, true)⟩,
  ⟨some 16, .pick (.t 10) (.t 15) (.k (.bool false)), none⟩,
  ⟨some 4, .mov (.t 16), none⟩]
def c_square_same (F : String → Nat) : LC := (.seq (.reg (c_square_same_r0 F) [2, 3]) (.seq (.reg (c_square_same_r1 F) [4]) .ret))
def h_square_same : Hints := ⟨[], fun _ => [], tab [(0, [2, 3]), (1, [4])], tab []⟩

/- r14.Same -/
def c_r14_Same_r0 (F : String → Nat) : List LI := [⟨some 2, .bx (.t 0), none⟩,
  ⟨some 3, .bx (.t 1), none⟩,
  ⟨some 4, .mov (.k (.bool false)), none⟩]
def c_r14_Same_r1 (F : String → Nat) : List LI := [⟨some 6, .fad 0 (.t 2), none⟩,
  ⟨some 7, .load true 2 (.t 6), none⟩,
  ⟨some 8, .fad 0 (.t 3), none⟩,
  ⟨some 9, .load true 2 (.t 8), none⟩,
  ⟨some 10, .call (F "r05.Same") [.t 7, .t 9] [], none⟩,
  ⟨some 11, .mov (.t 10), none⟩,
  ⟨some 12, .fad 2 (.t 2), some (11, true)⟩,
  ⟨some 13, .load true 2 (.t 12), some (11, true)⟩,
  ⟨some 14, .fad 2 (.t 3), some (11, true)⟩,
  ⟨some 15, .load true 2 (.t 14), some (11, true)⟩,
  ⟨some 16, .call (F "r05.Same") [.t 13, .t 15] [], some (11, true)⟩,
  ⟨some 17, .pick (.t 11) (.t 16) (.k (.bool false)), none⟩,
  ⟨some 18, .mov (.t 17), none⟩,
  ⟨some 19, .fad 4 (.t 2), some (18, true)⟩,
  ⟨some 20, .load true 2 (.t 19), some (18, true)⟩,
  ⟨some 21, .fad 4 (.t 3), some (18, true)⟩,
  ⟨some 22, .load true 2 (.t 21), some (18, true)⟩,
  ⟨some 23, .call (F "r05.Same") [.t 20, .t 22] [], some (18, true)⟩,
  ⟨some 24, .pick (.t 18) (.t 23) (.k (.bool false)), none⟩,
  ⟨some 25, .mov (.t 24), none⟩,
  ⟨some 26, .fad 6 (.t 2), some (25, true)⟩,
  ⟨some 27, .load true 2 (.t 26), some (25, true)⟩,
  ⟨some 28, .fad 6 (.t 3), some (25, true)⟩,
  ⟨some 29, .load true 2 (.t 28), some (25, true)⟩,
  ⟨some 30, .call (F "r05.Same") [.t 27, .t 29] [], some (25, true)⟩,
  ⟨some 31, .pick (.t 25) (.t 30) (.k (.bool false)), none⟩,
  ⟨some 5, .mov (.t 31), none⟩]
def c_r14_Same_r2 (F : String → Nat) : List LI := [⟨some 32, .mov (.t 5), none⟩,
  ⟨some 33, .mov (.t 32), none⟩,
  ⟨some 34, .fad 8 (.t 2), some (33, true)⟩,
  ⟨some 35, .load true 2 (.t 34), some (33, true)⟩,
  ⟨some 36, .fad 8 (.t 3), some (33, true)⟩,
  ⟨some 37, .load true 2 (.t 36), some (33, true)⟩,
  ⟨some 38, .call (F "r06.Same") [.t 35, .t 37] [], some (33, true)⟩,
  ⟨some 39, .pick (.t 33) (.t 38) (.k (.bool false)), none⟩,
  ⟨some 40, .mov (.t 39), none⟩,
  ⟨some 41, .fad 10 (.t 2), some (40, true)⟩,
  ⟨some 42, .load true 2 (.t 41), some (40, true)⟩,
  ⟨some 43, .fad 10 (.t 3), some (40, true)⟩,
  ⟨some 44, .load true 2 (.t 43), some (40, true)⟩,
  ⟨some 45, .call (F "r06.Same") [.t 42, .t 44] [], some (40, true)⟩,
  ⟨some 46, .pick (.t 40) (.t 45) (.k (.bool false)), none⟩,
  ⟨some 47, .mov (.t 46), none⟩,
  ⟨some 48, .fad 12 (.t 2), some (47, true)⟩,
  ⟨some 49, .load true 2 (.t 48), some (47, true)⟩,
  ⟨some 50, .fad 12 (.t 3), some (47, true)⟩,
  ⟨some 51, .load true 2 (.t 50), some (47, true)⟩,
  ⟨some 52, .call (F "r06.Same") [.t 49, .t 51] [], some (47, true)⟩,
  ⟨some 53, .pick (.t 47) (.t 52) (.k (.bool false)), none⟩,
  ⟨some 54, .mov (.t 53), none⟩,
  ⟨some 55, .fad 14 (.t 2), some (54, true)⟩,
  ⟨some 56, .load true 2 (.t 55), some (54, true)⟩,
  ⟨some 57, .fad 14 (.t 3), some (54, true)⟩,
  ⟨some 58, .load true 2 (.t 57), some (54, true)⟩,
  ⟨some 59, .call (F "r06.Same") [.t 56, .t 58] [], some (54, true)⟩,
  ⟨some 60, .pick (.t 54) (.t 59) (.k (.bool false)), none⟩,
  ⟨some 4, .mov (.t 60), none⟩]
def c_r14_Same (F : String → Nat) : LC := (.seq (.reg (c_r14_Same_r0 F) [2, 3]) (.seq (.reg (c_r14_Same_r1 F) [2, 3, 5]) (.seq (.reg (c_r14_Same_r2 F) [4]) .ret)))
def h_r14_Same : Hints := ⟨[], fun _ => [], tab [(0, [2, 3]), (1, [2, 3, 5]), (2, [4])], tab []⟩

attribute [go_sem] c_square_same_r0 c_square_same_r1 c_square_same c_r14_Same_r0 c_r14_Same_r1 c_r14_Same_r2 c_r14_Same
section
variable (P : Program) (F : String → Nat)
def K_square_same : Prop := ∀ a b : G, a.n.length ≤ maxL → a.e.length ≤ maxL → FC P (F "square.same") [gD a, gD b] (.bool (decide (a = b))) []
def SqBd (s : Sq) : Prop := (s.a.n.length ≤ maxL ∧ s.a.e.length ≤ maxL) ∧ (s.b.n.length ≤ maxL ∧ s.b.e.length ≤ maxL) ∧ (s.c.n.length ≤ maxL ∧ s.c.e.length ≤ maxL) ∧ (s.d.n.length ≤ maxL ∧ s.d.e.length ≤ maxL) ∧ s.sm
def K_r14_Same : Prop := ∀ s t : Sq, SqBd s → FC P (F "r14.Same") [sqD s, sqD t] (.bool (decide (s = t))) []
end
section
variable {P : Program} {F : String → Nat} {α : Type}
theorem eqG (a b : G) : a = b ↔ a.n = b.n ∧ a.e = b.e := by cases a; cases b; simp
theorem w_square_same (h1 : K_slices_Equal_I P F) (h2 : K_slices_Equal_E P F) (a b : G) (l1 : a.n.length ≤ maxL) (l2 : a.e.length ≤ maxL) : W P (c_square_same F) (Done [.t 4] [] (.bool (decide (a = b))) []) (init [gD a, gD b]) := by
  refine W_of ?_
  have r1 := h1 a.n b.n l1
  have r2 := h2 a.e b.e l2
  have e := eqG a b
  simp only [gD]
  by_cases c : a.n = b.n
  · rw [decide_eq_true c] at r1
    have : decide (a = b) = decide (a.e = b.e) := by rw [decide_eq_decide, e]; simp [c]
    rw [this]
    generalize decide (a.e = b.e) = z at *
    simp (config := { maxSteps := 1000000 }) (disch := first | omega | (simp only [go_sem]; omega)) only [go_sem, ↓reduceIte]
    refine call_by r1 ?_
    simp (config := { maxSteps := 1000000 }) (disch := first | omega | (simp only [go_sem]; omega)) only [go_sem, ↓reduceIte]
    refine call_by r2 ?_
    simp (config := { maxSteps := 1000000 }) (disch := first | omega | (simp only [go_sem]; omega)) only [go_sem, ↓reduceIte]
    try simp
  · rw [decide_eq_false c] at r1
    have : decide (a = b) = false := decide_eq_false (by rw [e]; simp [c])
    rw [this]
    simp (config := { maxSteps := 1000000 }) (disch := first | omega | (simp only [go_sem]; omega)) only [go_sem, ↓reduceIte]
    refine call_by r1 ?_
    simp (config := { maxSteps := 1000000 }) (disch := first | omega | (simp only [go_sem]; omega)) only [go_sem, ↓reduceIte]
    try simp
end
end Go.Am
namespace Go.Am
open Go
set_option linter.unusedVariables false
set_option linter.unusedSimpArgs false
attribute [local irreducible] W
def pastE (s t : Sq) : Int := if sqE s ≠ 0 then sqE s else if sqE t ≠ 0 then sqE t else if t.a = s.b ∧ t.c = s.d ∧ t.g = s.h then 0 else 11
def pastR (s t : Sq) : Sq × Int := if pastE s t = 0 then (pasS s t, 0) else (sq0, pastE s t)
section
variable (P : Program) (F : String → Nat)
def K_square_Paste : Prop := ∀ s t : Sq, s.sm → t.sm → FC P (F "square.Paste") [sqD s, sqD t] (.tup [sqA (pastR s t).1, .int .i64 (pastR s t).2]) []
end
section
variable {P : Program} {F : String → Nat} {α : Type}
theorem eqSq (s t : Sq) : s = t ↔ (s.a = t.a ∧ s.b = t.b ∧ s.c = t.c ∧ s.d = t.d) ∧ (s.f = t.f ∧ s.g = t.g ∧ s.h = t.h ∧ s.k = t.k) := by
  cases s; cases t; simp [and_assoc]
set_option maxHeartbeats 1000000 in
theorem w_r14_Same (hg : K_r05_Same P F) (hm : K_r06_Same P F) (s t : Sq) (h : SqBd s) : W P (c_r14_Same F) (Done [.t 4] [] (.bool (decide (s = t))) []) (init [sqD s, sqD t]) := by
  refine W_of ?_
  obtain ⟨⟨a1, a2⟩, ⟨b1, b2⟩, ⟨c1, c2⟩, ⟨d1, d2⟩, f, g, hh, k⟩ := h
  have ra := hg s.a t.a a1 a2
  have rb := hg s.b t.b b1 b2
  have rc := hg s.c t.c c1 c2
  have rd := hg s.d t.d d1 d2
  have rf := hm s.f t.f f.1 f.2
  have rg := hm s.g t.g g.1 g.2
  have rh := hm s.h t.h hh.1 hh.2
  have rk := hm s.k t.k k.1 k.2
  have e : decide (s = t) = ((decide (s.a = t.a) && (decide (s.b = t.b) && (decide (s.c = t.c) && decide (s.d = t.d)))) && (decide (s.f = t.f) && (decide (s.g = t.g) && (decide (s.h = t.h) && decide (s.k = t.k))))) := by
    rw [Bool.eq_iff_iff]; simp [eqSq]
  rw [e]
  clear e
  generalize decide (s.a = t.a) = za at *
  generalize decide (s.b = t.b) = zb at *
  generalize decide (s.c = t.c) = zc at *
  generalize decide (s.d = t.d) = zd at *
  generalize decide (s.f = t.f) = zf at *
  generalize decide (s.g = t.g) = zg at *
  generalize decide (s.h = t.h) = zh at *
  generalize decide (s.k = t.k) = zk at *
  simp only [gD, mD, sqD] at *
  cases za
  · simp (config := { maxSteps := 1000000 }) (disch := first | omega | (simp only [go_sem]; omega)) only [go_sem, ↓reduceIte]
    refine call_by ra ?_
    simp (config := { maxSteps := 1000000 }) (disch := first | omega | (simp only [go_sem]; omega)) only [go_sem, ↓reduceIte]
    try simp
  cases zb
  · simp (config := { maxSteps := 1000000 }) (disch := first | omega | (simp only [go_sem]; omega)) only [go_sem, ↓reduceIte]
    refine call_by ra ?_
    simp (config := { maxSteps := 1000000 }) (disch := first | omega | (simp only [go_sem]; omega)) only [go_sem, ↓reduceIte]
    refine call_by rb ?_
    simp (config := { maxSteps := 1000000 }) (disch := first | omega | (simp only [go_sem]; omega)) only [go_sem, ↓reduceIte]
    try simp
  cases zc
  · simp (config := { maxSteps := 1000000 }) (disch := first | omega | (simp only [go_sem]; omega)) only [go_sem, ↓reduceIte]
    refine call_by ra ?_
    simp (config := { maxSteps := 1000000 }) (disch := first | omega | (simp only [go_sem]; omega)) only [go_sem, ↓reduceIte]
    refine call_by rb ?_
    simp (config := { maxSteps := 1000000 }) (disch := first | omega | (simp only [go_sem]; omega)) only [go_sem, ↓reduceIte]
    refine call_by rc ?_
    simp (config := { maxSteps := 1000000 }) (disch := first | omega | (simp only [go_sem]; omega)) only [go_sem, ↓reduceIte]
    try simp
  cases zd
  · simp (config := { maxSteps := 1000000 }) (disch := first | omega | (simp only [go_sem]; omega)) only [go_sem, ↓reduceIte]
    refine call_by ra ?_
    simp (config := { maxSteps := 1000000 }) (disch := first | omega | (simp only [go_sem]; omega)) only [go_sem, ↓reduceIte]
    refine call_by rb ?_
    simp (config := { maxSteps := 1000000 }) (disch := first | omega | (simp only [go_sem]; omega)) only [go_sem, ↓reduceIte]
    refine call_by rc ?_
    simp (config := { maxSteps := 1000000 }) (disch := first | omega | (simp only [go_sem]; omega)) only [go_sem, ↓reduceIte]
    refine call_by rd ?_
    simp (config := { maxSteps := 1000000 }) (disch := first | omega | (simp only [go_sem]; omega)) only [go_sem, ↓reduceIte]
    try simp
  cases zf
  · simp (config := { maxSteps := 1000000 }) (disch := first | omega | (simp only [go_sem]; omega)) only [go_sem, ↓reduceIte]
    refine call_by ra ?_
    simp (config := { maxSteps := 1000000 }) (disch := first | omega | (simp only [go_sem]; omega)) only [go_sem, ↓reduceIte]
    refine call_by rb ?_
    simp (config := { maxSteps := 1000000 }) (disch := first | omega | (simp only [go_sem]; omega)) only [go_sem, ↓reduceIte]
    refine call_by rc ?_
    simp (config := { maxSteps := 1000000 }) (disch := first | omega | (simp only [go_sem]; omega)) only [go_sem, ↓reduceIte]
    refine call_by rd ?_
    simp (config := { maxSteps := 1000000 }) (disch := first | omega | (simp only [go_sem]; omega)) only [go_sem, ↓reduceIte]
    refine call_by rf ?_
    simp (config := { maxSteps := 1000000 }) (disch := first | omega | (simp only [go_sem]; omega)) only [go_sem, ↓reduceIte]
    try simp
  cases zg
  · simp (config := { maxSteps := 1000000 }) (disch := first | omega | (simp only [go_sem]; omega)) only [go_sem, ↓reduceIte]
    refine call_by ra ?_
    simp (config := { maxSteps := 1000000 }) (disch := first | omega | (simp only [go_sem]; omega)) only [go_sem, ↓reduceIte]
    refine call_by rb ?_
    simp (config := { maxSteps := 1000000 }) (disch := first | omega | (simp only [go_sem]; omega)) only [go_sem, ↓reduceIte]
    refine call_by rc ?_
    simp (config := { maxSteps := 1000000 }) (disch := first | omega | (simp only [go_sem]; omega)) only [go_sem, ↓reduceIte]
    refine call_by rd ?_
    simp (config := { maxSteps := 1000000 }) (disch := first | omega | (simp only [go_sem]; omega)) only [go_sem, ↓reduceIte]
    refine call_by rf ?_
    simp (config := { maxSteps := 1000000 }) (disch := first | omega | (simp only [go_sem]; omega)) only [go_sem, ↓reduceIte]
    refine call_by rg ?_
    simp (config := { maxSteps := 1000000 }) (disch := first | omega | (simp only [go_sem]; omega)) only [go_sem, ↓reduceIte]
    try simp
  cases zh
  · simp (config := { maxSteps := 1000000 }) (disch := first | omega | (simp only [go_sem]; omega)) only [go_sem, ↓reduceIte]
    refine call_by ra ?_
    simp (config := { maxSteps := 1000000 }) (disch := first | omega | (simp only [go_sem]; omega)) only [go_sem, ↓reduceIte]
    refine call_by rb ?_
    simp (config := { maxSteps := 1000000 }) (disch := first | omega | (simp only [go_sem]; omega)) only [go_sem, ↓reduceIte]
    refine call_by rc ?_
    simp (config := { maxSteps := 1000000 }) (disch := first | omega | (simp only [go_sem]; omega)) only [go_sem, ↓reduceIte]
    refine call_by rd ?_
    simp (config := { maxSteps := 1000000 }) (disch := first | omega | (simp only [go_sem]; omega)) only [go_sem, ↓reduceIte]
    refine call_by rf ?_
    simp (config := { maxSteps := 1000000 }) (disch := first | omega | (simp only [go_sem]; omega)) only [go_sem, ↓reduceIte]
    refine call_by rg ?_
    simp (config := { maxSteps := 1000000 }) (disch := first | omega | (simp only [go_sem]; omega)) only [go_sem, ↓reduceIte]
    refine call_by rh ?_
    simp (config := { maxSteps := 1000000 }) (disch := first | omega | (simp only [go_sem]; omega)) only [go_sem, ↓reduceIte]
    try simp
  cases zk
  · simp (config := { maxSteps := 1000000 }) (disch := first | omega | (simp only [go_sem]; omega)) only [go_sem, ↓reduceIte]
    refine call_by ra ?_
    simp (config := { maxSteps := 1000000 }) (disch := first | omega | (simp only [go_sem]; omega)) only [go_sem, ↓reduceIte]
    refine call_by rb ?_
    simp (config := { maxSteps := 1000000 }) (disch := first | omega | (simp only [go_sem]; omega)) only [go_sem, ↓reduceIte]
    refine call_by rc ?_
    simp (config := { maxSteps := 1000000 }) (disch := first | omega | (simp only [go_sem]; omega)) only [go_sem, ↓reduceIte]
    refine call_by rd ?_
    simp (config := { maxSteps := 1000000 }) (disch := first | omega | (simp only [go_sem]; omega)) only [go_sem, ↓reduceIte]
    refine call_by rf ?_
    simp (config := { maxSteps := 1000000 }) (disch := first | omega | (simp only [go_sem]; omega)) only [go_sem, ↓reduceIte]
    refine call_by rg ?_
    simp (config := { maxSteps := 1000000 }) (disch := first | omega | (simp only [go_sem]; omega)) only [go_sem, ↓reduceIte]
    refine call_by rh ?_
    simp (config := { maxSteps := 1000000 }) (disch := first | omega | (simp only [go_sem]; omega)) only [go_sem, ↓reduceIte]
    refine call_by rk ?_
    simp (config := { maxSteps := 1000000 }) (disch := first | omega | (simp only [go_sem]; omega)) only [go_sem, ↓reduceIte]
    try simp
  · simp (config := { maxSteps := 1000000 }) (disch := first | omega | (simp only [go_sem]; omega)) only [go_sem, ↓reduceIte]
    refine call_by ra ?_
    simp (config := { maxSteps := 1000000 }) (disch := first | omega | (simp only [go_sem]; omega)) only [go_sem, ↓reduceIte]
    refine call_by rb ?_
    simp (config := { maxSteps := 1000000 }) (disch := first | omega | (simp only [go_sem]; omega)) only [go_sem, ↓reduceIte]
    refine call_by rc ?_
    simp (config := { maxSteps := 1000000 }) (disch := first | omega | (simp only [go_sem]; omega)) only [go_sem, ↓reduceIte]
    refine call_by rd ?_
    simp (config := { maxSteps := 1000000 }) (disch := first | omega | (simp only [go_sem]; omega)) only [go_sem, ↓reduceIte]
    refine call_by rf ?_
    simp (config := { maxSteps := 1000000 }) (disch := first | omega | (simp only [go_sem]; omega)) only [go_sem, ↓reduceIte]
    refine call_by rg ?_
    simp (config := { maxSteps := 1000000 }) (disch := first | omega | (simp only [go_sem]; omega)) only [go_sem, ↓reduceIte]
    refine call_by rh ?_
    simp (config := { maxSteps := 1000000 }) (disch := first | omega | (simp only [go_sem]; omega)) only [go_sem, ↓reduceIte]
    refine call_by rk ?_
    simp (config := { maxSteps := 1000000 }) (disch := first | omega | (simp only [go_sem]; omega)) only [go_sem, ↓reduceIte]
    try simp
end
end Go.Am
namespace Go.Am
open Go
set_option linter.unusedVariables false
set_option linter.unusedSimpArgs false
attribute [local irreducible] W
section
variable (P : Program) (F : String → Nat)
end
section
variable {P : Program} {F : String → Nat} {α : Type}
def shSq : Sh := .cat [shG, shG, shG, shG, shM, shM, shM, shM]
theorem rd_sq {x : D} (h : HasEl shSq x) : ∃ s : Sq, x = sqD s ∧ s.sm := by
  simp only [shSq, HasEl] at h
  obtain ⟨ds, rfl, h⟩ := h
  obtain ⟨_, _, rfl, h1, h⟩ := hasShs_cat h
  obtain ⟨_, _, rfl, h2, h⟩ := hasShs_cat h
  obtain ⟨_, _, rfl, h3, h⟩ := hasShs_cat h
  obtain ⟨_, _, rfl, h4, h⟩ := hasShs_cat h
  obtain ⟨_, _, rfl, h5, h⟩ := hasShs_cat h
  obtain ⟨_, _, rfl, h6, h⟩ := hasShs_cat h
  obtain ⟨_, _, rfl, h7, h⟩ := hasShs_cat h
  obtain ⟨_, _, rfl, h8, h⟩ := hasShs_cat h
  obtain rfl := hasShs_nil h
  obtain ⟨a, rfl⟩ := rd_gl h1
  obtain ⟨b, rfl⟩ := rd_gl h2
  obtain ⟨c, rfl⟩ := rd_gl h3
  obtain ⟨d, rfl⟩ := rd_gl h4
  obtain ⟨f, rfl, k1⟩ := rd_ml h5
  obtain ⟨g, rfl, k2⟩ := rd_ml h6
  obtain ⟨hh, rfl, k3⟩ := rd_ml h7
  obtain ⟨k, rfl, k4⟩ := rd_ml h8
  exact ⟨⟨a, b, c, d, f, g, hh, k⟩, rfl, k1, k2, k3, k4⟩
end
end Go.Am
namespace Go.Am
open Go
set_option linter.unusedVariables false
set_option linter.unusedSimpArgs false
attribute [local irreducible] W
/- square.Paste -/
def c_square_Paste_r0 (F : String → Nat) : List LI := [⟨some 2, .bx (.t 0), none⟩,
  ⟨some 3, .bx (.t 1), none⟩,
  ⟨some 4, .alloc [.nl 1, .nl 3, .nl 1, .nl 3, .nl 1, .nl 3, .nl 1, .nl 3, .nl 1, .nl 1, .nl 1, .nl 1, .nl 1, .nl 1, .nl 1, .nl 1], none⟩,
  ⟨some 5, .mov (.k (.int .i64 (0))), none⟩]
def c_square_Paste_r1 (F : String → Nat) : List LI := [⟨some 8, .load true 16 (.t 2), none⟩,
  ⟨some 9, .call (F "square.valid") [.t 8] [], none⟩,
  ⟨some 6, .mov (.t 9), none⟩]
def c_square_Paste_r2 (F : String → Nat) : List LI := [⟨some 10, .mov (.t 6), none⟩,
  ⟨some 11, .bin .neq (.t 10) (.k (.int .i64 (0))), none⟩]
def c_square_Paste_r3 (F : String → Nat) : List LI := [⟨some 12, .build [.nl 1, .nl 3, .nl 1, .nl 3, .nl 1, .nl 3, .nl 1, .nl 3, .nl 1, .nl 1, .nl 1, .nl 1, .nl 1, .nl 1, .nl 1, .nl 1] [], none⟩,
  ⟨some 13, .mov (.t 6), none⟩,
  ⟨none, .store 16 (.t 4) (.t 12), none⟩,
  ⟨some 5, .mov (.t 13), none⟩]
def c_square_Paste_r4 (F : String → Nat) : List LI := [⟨some 14, .load true 16 (.t 3), none⟩,
  ⟨some 15, .call (F "square.valid") [.t 14] [], none⟩,
  ⟨some 7, .mov (.t 15), none⟩]
def c_square_Paste_r5 (F : String → Nat) : List LI := [⟨some 16, .mov (.t 7), none⟩,
  ⟨some 17, .bin .neq (.t 16) (.k (.int .i64 (0))), none⟩]
def c_square_Paste_r6 (F : String → Nat) : List LI := [⟨some 18, .build [.nl 1, .nl 3, .nl 1, .nl 3, .nl 1, .nl 3, .nl 1, .nl 3, .nl 1, .nl 1, .nl 1, .nl 1, .nl 1, .nl 1, .nl 1, .nl 1] [], none⟩,
  ⟨some 19, .mov (.t 7), none⟩,
  ⟨none, .store 16 (.t 4) (.t 18), none⟩,
  ⟨some 5, .mov (.t 19), none⟩]
def c_square_Paste_r7 (F : String → Nat) : List LI := [⟨some 20, .fad 0 (.t 3), none⟩,
  ⟨some 21, .load true 2 (.t 20), none⟩,
  ⟨some 22, .fad 2 (.t 2), none⟩,
  ⟨some 23, .load true 2 (.t 22), none⟩,
  ⟨some 24, .call (F "square.same") [.t 21, .t 23] [], none⟩,
  ⟨some 25, .not (.t 24), none⟩,
  ⟨some 26, .mov (.t 25), none⟩,
  ⟨some 27, .fad 4 (.t 3), some (26, false)⟩,
  ⟨some 28, .load true 2 (.t 27), some (26, false)⟩,
  ⟨some 29, .fad 6 (.t 2), some (26, false)⟩,
  ⟨some 30, .load true 2 (.t 29), some (26, false)⟩,
  ⟨some 31, .call (F "square.same") [.t 28, .t 30] [], some (26, false)⟩,
  ⟨some 32, .not (.t 31), some (26, false)⟩,
  ⟨some 33, .pick (.t 26) (.k (.bool true)) (.t 32), none⟩,
  ⟨some 34, .mov (.t 33), none⟩,
  ⟨some 35, .fad 10 (.t 3), some (34, false)⟩,
  ⟨some 36, .load true 2 (.t 35), some (34, false)⟩,
  ⟨some 37, .fad 12 (.t 2), some (34, false)⟩,
  ⟨some 38, .load true 2 (.t 37), some (34, false)⟩,
  ⟨some 39, .call (F "morphism.Same") [.t 36, .t 38] [], some (34, false)⟩,
  ⟨some 40, .not (.t 39), some (34, false)⟩,
  ⟨some 41, .pick (.t 34) (.k (.bool true)) (.t 40), none⟩]
def c_square_Paste_r8 (F : String → Nat) : List LI := [⟨some 42, .build [.nl 1, .nl 3, .nl 1, .nl 3, .nl 1, .nl 3, .nl 1, .nl 3, .nl 1, .nl 1, .nl 1, .nl 1, .nl 1, .nl 1, .nl 1, .nl 1] [], none⟩,
  ⟨none, .store 16 (.t 4) (.t 42), none⟩,
  ⟨some 5, .mov (.k (.int .i64 (11))), none⟩]
def c_square_Paste_r9 (F : String → Nat) : List LI := [⟨some 43, .fad 0 (.t 2), none⟩,
  ⟨some 44, .load true 2 (.t 43), none⟩,
  ⟨some 45, .call (F "square.copied") [.t 44] [], none⟩,
  ⟨some 46, .fad 2 (.t 3), none⟩,
  ⟨some 47, .load true 2 (.t 46), none⟩,
  ⟨some 48, .call (F "square.copied") [.t 47] [], none⟩,
  ⟨some 49, .fad 4 (.t 2), none⟩,
  ⟨some 50, .load true 2 (.t 49), none⟩,
  ⟨some 51, .call (F "square.copied") [.t 50] [], none⟩,
  ⟨some 52, .fad 6 (.t 3), none⟩,
  ⟨some 53, .load true 2 (.t 52), none⟩,
  ⟨some 54, .call (F "square.copied") [.t 53] [], none⟩,
  ⟨some 55, .fad 8 (.t 2), none⟩,
  ⟨some 56, .load true 2 (.t 55), none⟩,
  ⟨some 57, .fad 8 (.t 3), none⟩,
  ⟨some 58, .load true 2 (.t 57), none⟩,
  ⟨some 59, .call (F "square.then") [.t 56, .t 58] [], none⟩,
  ⟨some 60, .fad 10 (.t 2), none⟩,
  ⟨some 61, .load true 2 (.t 60), none⟩,
  ⟨some 62, .call (F "square.arrow") [.t 61] [], none⟩,
  ⟨some 63, .fad 12 (.t 3), none⟩,
  ⟨some 64, .load true 2 (.t 63), none⟩,
  ⟨some 65, .call (F "square.arrow") [.t 64] [], none⟩,
  ⟨some 66, .fad 14 (.t 2), none⟩,
  ⟨some 67, .load true 2 (.t 66), none⟩,
  ⟨some 68, .fad 14 (.t 3), none⟩,
  ⟨some 69, .load true 2 (.t 68), none⟩,
  ⟨some 70, .call (F "square.then") [.t 67, .t 69] [], none⟩,
  ⟨some 71, .build [.nl 1, .nl 3, .nl 1, .nl 3, .nl 1, .nl 3, .nl 1, .nl 3, .nl 1, .nl 1, .nl 1, .nl 1, .nl 1, .nl 1, .nl 1, .nl 1] [(0, 2, .t 45), (2, 2, .t 48), (4, 2, .t 51), (6, 2, .t 54), (8, 2, .t 59), (10, 2, .t 62), (12, 2, .t 65), (14, 2, .t 70)], none⟩,
  ⟨none, .store 16 (.t 4) (.t 71), none⟩,
  ⟨some 5, .mov (.k (.int .i64 (0))), none⟩]
def c_square_Paste (F : String → Nat) : LC := (.seq (.reg (c_square_Paste_r0 F) [2, 3, 4]) (.seq (.seq (.reg (c_square_Paste_r1 F) [2, 3, 4, 6]) (.seq (.reg (c_square_Paste_r2 F) [2, 3, 4, 6, 11]) (.cond (.t 11) (.seq (.reg (c_square_Paste_r3 F) [4, 5]) .ret) .skip))) (.seq (.seq (.reg (c_square_Paste_r4 F) [2, 3, 4, 7]) (.seq (.reg (c_square_Paste_r5 F) [2, 3, 4, 7, 17]) (.cond (.t 17) (.seq (.reg (c_square_Paste_r6 F) [4, 5]) .ret) .skip))) (.seq (.seq (.reg (c_square_Paste_r7 F) [2, 3, 4, 41]) (.cond (.t 41) (.seq (.reg (c_square_Paste_r8 F) [4, 5]) .ret) .skip)) (.seq (.dreg [(2, none, [], true), (4, (some 8), [2], false), (5, none, [], true), (7, (some 64), [2, 5], false), (8, none, [], true), (10, (some 512), [2, 5, 8], false), (11, none, [], true), (13, (some 4096), [2, 5, 8, 11], false), (15, (some 16384), [2, 5, 8, 11], false), (16, none, [], true), (18, (some 131072), [2, 5, 8, 11, 16], false), (19, none, [], true), (21, (some 1048576), [2, 5, 8, 11, 16, 19], false), (22, none, [], true), (24, (some 8388608), [2, 5, 8, 11, 16, 19, 22], false), (26, (some 33554432), [2, 5, 8, 11, 16, 19, 22], false)] (c_square_Paste_r9 F) [4, 5]) .ret)))))
def h_square_Paste : Hints := ⟨[], fun _ => [], tab [(0, [2, 3, 4]), (1, [2, 3, 4, 6]), (2, [2, 3, 4, 6, 11]), (3, [4, 5]), (4, [2, 3, 4, 7]), (5, [2, 3, 4, 7, 17]), (6, [4, 5]), (7, [2, 3, 4, 41]), (8, [4, 5]), (9, [4, 5])], tab []⟩

/- r14.Paste -/
def c_r14_Paste_r0 (F : String → Nat) : List LI := [⟨some 2, .bx (.t 0), none⟩,
  ⟨some 3, .bx (.t 1), none⟩,
  ⟨some 4, .alloc [.nl 1, .nl 3, .nl 1, .nl 3, .nl 1, .nl 3, .nl 1, .nl 3, .nl 1, .nl 1, .nl 1, .nl 1, .nl 1, .nl 1, .nl 1, .nl 1], none⟩,
  ⟨some 5, .mov (.k (.int .i64 (0))), none⟩]
def c_r14_Paste_r1 (F : String → Nat) : List LI := [⟨some 8, .load true 16 (.t 2), none⟩,
  ⟨some 9, .call (F "r14.Valid") [.t 8] [], none⟩,
  ⟨some 6, .mov (.t 9), none⟩]
def c_r14_Paste_r2 (F : String → Nat) : List LI := [⟨some 10, .mov (.t 6), none⟩,
  ⟨some 11, .bin .neq (.t 10) (.k (.int .i64 (0))), none⟩]
def c_r14_Paste_r3 (F : String → Nat) : List LI := [⟨some 12, .build [.nl 1, .nl 3, .nl 1, .nl 3, .nl 1, .nl 3, .nl 1, .nl 3, .nl 1, .nl 1, .nl 1, .nl 1, .nl 1, .nl 1, .nl 1, .nl 1] [], none⟩,
  ⟨some 13, .mov (.t 6), none⟩,
  ⟨none, .store 16 (.t 4) (.t 12), none⟩,
  ⟨some 5, .mov (.t 13), none⟩]
def c_r14_Paste_r4 (F : String → Nat) : List LI := [⟨some 14, .load true 16 (.t 3), none⟩,
  ⟨some 15, .call (F "r14.Valid") [.t 14] [], none⟩,
  ⟨some 7, .mov (.t 15), none⟩]
def c_r14_Paste_r5 (F : String → Nat) : List LI := [⟨some 16, .mov (.t 7), none⟩,
  ⟨some 17, .bin .neq (.t 16) (.k (.int .i64 (0))), none⟩]
def c_r14_Paste_r6 (F : String → Nat) : List LI := [⟨some 18, .build [.nl 1, .nl 3, .nl 1, .nl 3, .nl 1, .nl 3, .nl 1, .nl 3, .nl 1, .nl 1, .nl 1, .nl 1, .nl 1, .nl 1, .nl 1, .nl 1] [], none⟩,
  ⟨some 19, .mov (.t 7), none⟩,
  ⟨none, .store 16 (.t 4) (.t 18), none⟩,
  ⟨some 5, .mov (.t 19), none⟩]
def c_r14_Paste_r7 (F : String → Nat) : List LI := [⟨some 20, .fad 0 (.t 3), none⟩,
  ⟨some 21, .load true 2 (.t 20), none⟩,
  ⟨some 22, .fad 2 (.t 2), none⟩,
  ⟨some 23, .load true 2 (.t 22), none⟩,
  ⟨some 24, .call (F "r05.Same") [.t 21, .t 23] [], none⟩,
  ⟨some 25, .not (.t 24), none⟩,
  ⟨some 26, .mov (.t 25), none⟩,
  ⟨some 27, .fad 4 (.t 3), some (26, false)⟩,
  ⟨some 28, .load true 2 (.t 27), some (26, false)⟩,
  ⟨some 29, .fad 6 (.t 2), some (26, false)⟩,
  ⟨some 30, .load true 2 (.t 29), some (26, false)⟩,
  ⟨some 31, .call (F "r05.Same") [.t 28, .t 30] [], some (26, false)⟩,
  ⟨some 32, .not (.t 31), some (26, false)⟩,
  ⟨some 33, .pick (.t 26) (.k (.bool true)) (.t 32), none⟩,
  ⟨some 34, .mov (.t 33), none⟩,
  ⟨some 35, .fad 10 (.t 3), some (34, false)⟩,
  ⟨some 36, .load true 2 (.t 35), some (34, false)⟩,
  ⟨some 37, .fad 12 (.t 2), some (34, false)⟩,
  ⟨some 38, .load true 2 (.t 37), some (34, false)⟩,
  ⟨some 39, .call (F "r06.Same") [.t 36, .t 38] [], some (34, false)⟩,
  ⟨some 40, .not (.t 39), some (34, false)⟩,
  ⟨some 41, .pick (.t 34) (.k (.bool true)) (.t 40), none⟩]
def c_r14_Paste_r8 (F : String → Nat) : List LI := [⟨some 42, .build [.nl 1, .nl 3, .nl 1, .nl 3, .nl 1, .nl 3, .nl 1, .nl 3, .nl 1, .nl 1, .nl 1, .nl 1, .nl 1, .nl 1, .nl 1, .nl 1] [], none⟩,
  ⟨none, .store 16 (.t 4) (.t 42), none⟩,
  ⟨some 5, .mov (.k (.int .i64 (11))), none⟩]
def c_r14_Paste_r9 (F : String → Nat) : List LI := [⟨some 43, .fad 0 (.t 2), none⟩,
  ⟨some 44, .load true 2 (.t 43), none⟩,
  ⟨some 45, .fad 2 (.t 3), none⟩,
  ⟨some 46, .load true 2 (.t 45), none⟩,
  ⟨some 47, .fad 4 (.t 2), none⟩,
  ⟨some 48, .load true 2 (.t 47), none⟩,
  ⟨some 49, .fad 6 (.t 3), none⟩,
  ⟨some 50, .load true 2 (.t 49), none⟩,
  ⟨some 51, .fad 8 (.t 2), none⟩,
  ⟨some 52, .load true 2 (.t 51), none⟩,
  ⟨some 53, .fad 8 (.t 3), none⟩,
  ⟨some 54, .load true 2 (.t 53), none⟩,
  ⟨some 55, .call (F "r06.Then") [.t 52, .t 54] [], none⟩,
  ⟨some 56, .fad 10 (.t 2), none⟩,
  ⟨some 57, .load true 2 (.t 56), none⟩,
  ⟨some 58, .fad 12 (.t 3), none⟩,
  ⟨some 59, .load true 2 (.t 58), none⟩,
  ⟨some 60, .fad 14 (.t 2), none⟩,
  ⟨some 61, .load true 2 (.t 60), none⟩,
  ⟨some 62, .fad 14 (.t 3), none⟩,
  ⟨some 63, .load true 2 (.t 62), none⟩,
  ⟨some 64, .call (F "r06.Then") [.t 61, .t 63] [], none⟩,
  ⟨some 65, .build [.nl 1, .nl 3, .nl 1, .nl 3, .nl 1, .nl 3, .nl 1, .nl 3, .nl 1, .nl 1, .nl 1, .nl 1, .nl 1, .nl 1, .nl 1, .nl 1] [(0, 2, .t 44), (2, 2, .t 46), (4, 2, .t 48), (6, 2, .t 50), (8, 2, .t 55), (10, 2, .t 57), (12, 2, .t 59), (14, 2, .t 64)], none⟩,
  ⟨none, .store 16 (.t 4) (.t 65), none⟩,
  ⟨some 5, .mov (.k (.int .i64 (0))), none⟩]
def c_r14_Paste (F : String → Nat) : LC := (.seq (.reg (c_r14_Paste_r0 F) [2, 3, 4]) (.seq (.seq (.reg (c_r14_Paste_r1 F) [2, 3, 4, 6]) (.seq (.reg (c_r14_Paste_r2 F) [2, 3, 4, 6, 11]) (.cond (.t 11) (.seq (.reg (c_r14_Paste_r3 F) [4, 5]) .ret) .skip))) (.seq (.seq (.reg (c_r14_Paste_r4 F) [2, 3, 4, 7]) (.seq (.reg (c_r14_Paste_r5 F) [2, 3, 4, 7, 17]) (.cond (.t 17) (.seq (.reg (c_r14_Paste_r6 F) [4, 5]) .ret) .skip))) (.seq (.seq (.reg (c_r14_Paste_r7 F) [2, 3, 4, 41]) (.cond (.t 41) (.seq (.reg (c_r14_Paste_r8 F) [4, 5]) .ret) .skip)) (.seq (.dreg [(1, none, [], true), (3, none, [], true), (5, none, [], true), (7, none, [], true), (12, none, [1, 3, 5, 7], true), (14, (some 8192), [12], true), (16, (some 32768), [12], true), (18, (some 131072), [12], false), (20, (some 524288), [12], false), (21, none, [1, 3, 5, 7, 14, 16], false)] (c_r14_Paste_r9 F) [4, 5]) .ret)))))
def h_r14_Paste : Hints := ⟨[], fun _ => [], tab [(0, [2, 3, 4]), (1, [2, 3, 4, 6]), (2, [2, 3, 4, 6, 11]), (3, [4, 5]), (4, [2, 3, 4, 7]), (5, [2, 3, 4, 7, 17]), (6, [4, 5]), (7, [2, 3, 4, 41]), (8, [4, 5]), (9, [4, 5])], tab []⟩

/- l14.SquarePaste -/
def c_l14_SquarePaste_r0 (F : String → Nat) : List LI := [⟨some 2, .bx (.t 0), none⟩,
  ⟨some 3, .bx (.t 1), none⟩,
  ⟨some 4, .mov (.k (.bool false)), none⟩]
def c_l14_SquarePaste_r1 (F : String → Nat) : List LI := [⟨some 9, .call (F "l14.awake") [] [], none⟩,
  ⟨some 10, .not (.t 9), none⟩,
  ⟨some 11, .mov (.t 10), none⟩,
  ⟨some 12, .load true 16 (.t 2), some (11, false)⟩,
  ⟨some 13, .call (F "r14.Few") [.t 12] [], some (11, false)⟩,
  ⟨some 14, .not (.t 13), some (11, false)⟩,
  ⟨some 15, .pick (.t 11) (.k (.bool true)) (.t 14), none⟩,
  ⟨some 16, .mov (.t 15), none⟩,
  ⟨some 17, .load true 16 (.t 3), some (16, false)⟩,
  ⟨some 18, .call (F "r14.Few") [.t 17] [], some (16, false)⟩,
  ⟨some 19, .not (.t 18), some (16, false)⟩,
  ⟨some 20, .pick (.t 16) (.k (.bool true)) (.t 19), none⟩]
def c_l14_SquarePaste_r2 (F : String → Nat) : List LI := [⟨some 21, .call (F "l14.awake") [] [], none⟩,
  ⟨some 4, .mov (.t 21), none⟩]
def c_l14_SquarePaste_r3 (F : String → Nat) : List LI := [⟨some 23, .load true 16 (.t 2), none⟩,
  ⟨some 24, .load true 16 (.t 3), none⟩,
  ⟨some 25, .call (F "square.Paste") [.t 23, .t 24] [], none⟩,
  ⟨some 22, .mov (.t 25), none⟩,
  ⟨some 26, .ext (.t 22) 0, none⟩,
  ⟨some 27, .ext (.t 22) 1, none⟩,
  ⟨some 5, .alloc [.nl 1, .nl 3, .nl 1, .nl 3, .nl 1, .nl 3, .nl 1, .nl 3, .nl 1, .nl 1, .nl 1, .nl 1, .nl 1, .nl 1, .nl 1, .nl 1], none⟩,
  ⟨none, .store 16 (.t 5) (.t 26), none⟩,
  ⟨some 6, .mov (.t 27), none⟩]
def c_l14_SquarePaste_r4 (F : String → Nat) : List LI := [⟨some 29, .load true 16 (.t 2), none⟩,
  ⟨some 30, .load true 16 (.t 3), none⟩,
  ⟨some 31, .call (F "r14.Paste") [.t 29, .t 30] [], none⟩,
  ⟨some 28, .mov (.t 31), none⟩,
  ⟨some 32, .ext (.t 28) 0, none⟩,
  ⟨some 33, .ext (.t 28) 1, none⟩,
  ⟨some 7, .alloc [.nl 1, .nl 3, .nl 1, .nl 3, .nl 1, .nl 3, .nl 1, .nl 3, .nl 1, .nl 1, .nl 1, .nl 1, .nl 1, .nl 1, .nl 1, .nl 1], none⟩,
  ⟨none, .store 16 (.t 7) (.t 32), none⟩,
  ⟨some 8, .mov (.t 33), none⟩]
def c_l14_SquarePaste_r5 (F : String → Nat) : List LI := [⟨some 34, .mov (.t 6), none⟩,
  ⟨some 35, .mov (.t 8), none⟩,
  ⟨some 36, .bin .eql (.t 34) (.t 35), none⟩,
  ⟨some 37, .mov (.t 36), none⟩,
  ⟨some 38, .load true 16 (.t 5), some (37, true)⟩,
  ⟨some 39, .load true 16 (.t 7), some (37, true)⟩,
  ⟨some 40, .call (F "r14.Same") [.t 38, .t 39] [], some (37, true)⟩,
  ⟨some 41, .pick (.t 37) (.t 40) (.k (.bool false)), none⟩,
  ⟨some 4, .mov (.t 41), none⟩]
def c_l14_SquarePaste (F : String → Nat) : LC := (.seq (.reg (c_l14_SquarePaste_r0 F) [2, 3]) (.seq (.seq (.reg (c_l14_SquarePaste_r1 F) [2, 3, 20]) (.cond (.t 20) (.seq (.reg (c_l14_SquarePaste_r2 F) [4]) .ret) .skip)) (.seq (.reg (c_l14_SquarePaste_r3 F) [2, 3, 5, 6]) (.seq (.reg (c_l14_SquarePaste_r4 F) [5, 6, 7, 8]) (.seq (.reg (c_l14_SquarePaste_r5 F) [4]) .ret)))))
def h_l14_SquarePaste : Hints := ⟨[], fun _ => [], tab [(0, [2, 3]), (1, [2, 3, 20]), (2, [4]), (3, [2, 3, 5, 6]), (4, [5, 6, 7, 8]), (5, [4])], tab []⟩

attribute [go_sem] c_square_Paste_r0 c_square_Paste_r1 c_square_Paste_r2 c_square_Paste_r3 c_square_Paste_r4 c_square_Paste_r5 c_square_Paste_r6 c_square_Paste_r7 c_square_Paste_r8 c_square_Paste_r9 c_square_Paste c_r14_Paste_r0 c_r14_Paste_r1 c_r14_Paste_r2 c_r14_Paste_r3 c_r14_Paste_r4 c_r14_Paste_r5 c_r14_Paste_r6 c_r14_Paste_r7 c_r14_Paste_r8 c_r14_Paste_r9 c_r14_Paste c_l14_SquarePaste_r0 c_l14_SquarePaste_r1 c_l14_SquarePaste_r2 c_l14_SquarePaste_r3 c_l14_SquarePaste_r4 c_l14_SquarePaste_r5 c_l14_SquarePaste
/-- The pasted square, in which what came in may be shared. -/
def pasD (s t : Sq) : D := .agg [.lst 1 (ints s.a.n), .lst 3 (eds s.a.e), .lst 1 (ints t.b.n), .lst 3 (eds t.b.e), .lst 1 (ints s.c.n), .lst 3 (eds s.c.e), .lst 1 (ints t.d.n), .lst 3 (eds t.d.e),
  .arr 1 (ints (thenM s.f t.f).n), .arr 1 (ints (thenM s.f t.f).e), .lst 1 (ints s.g.n), .lst 1 (ints s.g.e), .lst 1 (ints t.h.n), .lst 1 (ints t.h.e), .arr 1 (ints (thenM s.k t.k).n), .arr 1 (ints (thenM s.k t.k).e)]
section
variable (P : Program) (F : String → Nat)
def K_r14_Paste : Prop := ∀ s t : Sq, FC P (F "r14.Paste") [sqD s, sqD t] (.tup [if pastE s t = 0 then pasD s t else sqA sq0, .int .i64 (pastR s t).2]) []
def K_l14_SquarePaste : Prop := ∀ s t : Sq, s.sm → t.sm → FC P (F "l14.SquarePaste") [sqD s, sqD t] (.bool true) []
end
section
variable {P : Program} {F : String → Nat} {α : Type}
theorem pastR_bad {s t : Sq} (h : pastE s t ≠ 0) : pastR s t = (sq0, pastE s t) := by unfold pastR; rw [if_neg h]
theorem pastR_ok {s t : Sq} (h : pastE s t = 0) : pastR s t = (pasS s t, 0) := by unfold pastR; rw [if_pos h]
theorem pastE_ok {s t : Sq} : pastE s t = 0 ↔ PsOk s t := by
  unfold pastE
  constructor
  · intro h
    split at h
    · rename_i c; exact absurd h c
    · rename_i c1
      split at h
      · rename_i c; exact absurd h c
      · rename_i c2
        split at h
        · rename_i c3
          exact ⟨sqE_ok.1 (Decidable.not_not.1 c1), sqE_ok.1 (Decidable.not_not.1 c2), c3.1, c3.2.1, c3.2.2⟩
        · cases h
  · intro h
    rw [if_neg (by simp [sqE_ok.2 h.qs]), if_neg (by simp [sqE_ok.2 h.qt]), if_pos ⟨h.a, h.c, h.g⟩]
theorem QOk.bd {s : Sq} (h : QOk s) : SqBd s := by
  have a := valid_spec h.f.va
  have b := valid_spec h.f.vb
  have c := valid_spec h.g.vb
  have d := valid_spec h.h.vb
  have f := h.f.fit h.h
  have g := h.g.fit h.k
  have l1 := h.h.ln
  have l2 := h.h.le
  have l3 := h.k.ln
  have l4 := h.k.le
  refine ⟨⟨?_, ?_⟩, ⟨?_, ?_⟩, ⟨?_, ?_⟩, ⟨?_, ?_⟩, ⟨?_, ?_⟩, ⟨?_, ?_⟩, ⟨?_, ?_⟩, ?_, ?_⟩ <;> unfold maxL <;> omega
theorem sq0_bd : SqBd sq0 := by
  refine ⟨⟨?_, ?_⟩, ⟨?_, ?_⟩, ⟨?_, ?_⟩, ⟨?_, ?_⟩, ⟨?_, ?_⟩, ⟨?_, ?_⟩, ⟨?_, ?_⟩, ?_, ?_⟩ <;> simp [sq0, g0, m0]
theorem pastR_bd (s t : Sq) : SqBd (pastR s t).1 := by
  by_cases h : pastE s t = 0
  · rw [pastR_ok h]; exact (pastE_ok.1 h).ok.bd
  · rw [pastR_bad h]; exact sq0_bd
set_option maxHeartbeats 2000000 in
theorem w_square_Paste (hv : K_square_valid P F) (hsg : K_square_same P F) (hsm : K_morphism_Same P F) (ht : K_square_then P F) (hcp : K_square_copied P F) (har : K_square_arrow P F) (s t : Sq) (hs : s.sm) (ht2 : t.sm) : W P (c_square_Paste F) (Done [.c 4 true 16, .t 5] [] (.tup [sqA (pastR s t).1, .int .i64 (pastR s t).2]) []) (init [sqD s, sqD t]) := by
  refine W_of ?_
  have r1 := hv s
  have r2 := hv t
  by_cases c1 : sqE s = 0
  case neg =>
    have hz : pastE s t = sqE s := by unfold pastE; rw [if_pos c1]
    have hn : pastE s t ≠ 0 := by rw [hz]; exact c1
    rw [pastR_bad hn]
    rw [hz]
    clear hz hn
    generalize sqE s = v at *
    simp only [sqD] at *
    simp (config := { maxSteps := 1000000 }) (disch := first | omega | (simp only [go_sem]; omega)) only [go_sem, ↓reduceIte]
    refine call_by r1 ?_
    simp (config := { maxSteps := 1000000 }) (disch := first | omega | (simp only [go_sem]; omega)) only [go_sem, ↓reduceIte]
    refine bran_ndec (fun c => ?_) (fun c => absurd c c1)
    simp (config := { maxSteps := 1000000 }) (disch := first | omega | (simp only [go_sem]; omega)) only [go_sem, ↓reduceIte]
    simp [sqA, sq0, g0, m0, ints, eds]
  rw [c1] at r1
  by_cases c2 : sqE t = 0
  case neg =>
    have hz : pastE s t = sqE t := by unfold pastE; rw [if_neg (by simp [c1]), if_pos c2]
    have hn : pastE s t ≠ 0 := by rw [hz]; exact c2
    rw [pastR_bad hn]
    rw [hz]
    clear hz hn
    generalize sqE t = v at *
    simp only [sqD] at *
    simp (config := { maxSteps := 1000000 }) (disch := first | omega | (simp only [go_sem]; omega)) only [go_sem, ↓reduceIte]
    refine call_by r1 ?_
    simp (config := { maxSteps := 1000000 }) (disch := first | omega | (simp only [go_sem]; omega)) only [go_sem, ↓reduceIte]
    refine call_by r2 ?_
    simp (config := { maxSteps := 1000000 }) (disch := first | omega | (simp only [go_sem]; omega)) only [go_sem, ↓reduceIte]
    refine bran_ndec (fun c => ?_) (fun c => absurd c c2)
    simp (config := { maxSteps := 1000000 }) (disch := first | omega | (simp only [go_sem]; omega)) only [go_sem, ↓reduceIte]
    simp [sqA, sq0, g0, m0, ints, eds]
  rw [c2] at r2
  have qs := sqE_ok.1 c1
  have qt := sqE_ok.1 c2
  have bs := qs.bd
  have bt := qt.bd
  have r3 := hsg t.a s.b bt.1.1 bt.1.2
  have r4 := hsg t.c s.d bt.2.2.1.1 bt.2.2.1.2
  have r5 := hsm t.g s.h bt.2.2.2.2.2.1.1 bt.2.2.2.2.2.1.2
  have hE : pastE s t = if t.a = s.b ∧ t.c = s.d ∧ t.g = s.h then 0 else 11 := by unfold pastE; rw [if_neg (by simp [c1]), if_neg (by simp [c2])]
  by_cases d0 : t.a = s.b
  case neg =>
    have hz : pastE s t = 11 := by rw [hE, if_neg (by simp [d0])]
    have hn : pastE s t ≠ 0 := by rw [hz]; decide
    rw [pastR_bad hn]
    rw [hz]
    clear hz hn hE bs bt qs qt
    rw [decide_eq_false d0] at r3
    simp only [sqD, gD, mD] at *
    simp (config := { maxSteps := 1000000 }) (disch := first | omega | (simp only [go_sem]; omega)) only [go_sem, ↓reduceIte]
    refine call_by r1 ?_
    simp (config := { maxSteps := 1000000 }) (disch := first | omega | (simp only [go_sem]; omega)) only [go_sem, ↓reduceIte]
    refine call_by r2 ?_
    simp (config := { maxSteps := 1000000 }) (disch := first | omega | (simp only [go_sem]; omega)) only [go_sem, ↓reduceIte]
    refine call_by r3 ?_
    simp (config := { maxSteps := 1000000 }) (disch := first | omega | (simp only [go_sem]; omega)) only [go_sem, ↓reduceIte]
    simp [sqA, sq0, g0, m0, ints, eds]
  rw [decide_eq_true d0] at r3
  by_cases d1 : t.c = s.d
  case neg =>
    have hz : pastE s t = 11 := by rw [hE, if_neg (by simp [d1])]
    have hn : pastE s t ≠ 0 := by rw [hz]; decide
    rw [pastR_bad hn]
    rw [hz]
    clear hz hn hE bs bt qs qt
    rw [decide_eq_false d1] at r4
    simp only [sqD, gD, mD] at *
    simp (config := { maxSteps := 1000000 }) (disch := first | omega | (simp only [go_sem]; omega)) only [go_sem, ↓reduceIte]
    refine call_by r1 ?_
    simp (config := { maxSteps := 1000000 }) (disch := first | omega | (simp only [go_sem]; omega)) only [go_sem, ↓reduceIte]
    refine call_by r2 ?_
    simp (config := { maxSteps := 1000000 }) (disch := first | omega | (simp only [go_sem]; omega)) only [go_sem, ↓reduceIte]
    refine call_by r3 ?_
    simp (config := { maxSteps := 1000000 }) (disch := first | omega | (simp only [go_sem]; omega)) only [go_sem, ↓reduceIte]
    refine call_by r4 ?_
    simp (config := { maxSteps := 1000000 }) (disch := first | omega | (simp only [go_sem]; omega)) only [go_sem, ↓reduceIte]
    simp [sqA, sq0, g0, m0, ints, eds]
  rw [decide_eq_true d1] at r4
  by_cases d2 : t.g = s.h
  case neg =>
    have hz : pastE s t = 11 := by rw [hE, if_neg (by simp [d2])]
    have hn : pastE s t ≠ 0 := by rw [hz]; decide
    rw [pastR_bad hn]
    rw [hz]
    clear hz hn hE bs bt qs qt
    rw [decide_eq_false d2] at r5
    simp only [sqD, gD, mD] at *
    simp (config := { maxSteps := 1000000 }) (disch := first | omega | (simp only [go_sem]; omega)) only [go_sem, ↓reduceIte]
    refine call_by r1 ?_
    simp (config := { maxSteps := 1000000 }) (disch := first | omega | (simp only [go_sem]; omega)) only [go_sem, ↓reduceIte]
    refine call_by r2 ?_
    simp (config := { maxSteps := 1000000 }) (disch := first | omega | (simp only [go_sem]; omega)) only [go_sem, ↓reduceIte]
    refine call_by r3 ?_
    simp (config := { maxSteps := 1000000 }) (disch := first | omega | (simp only [go_sem]; omega)) only [go_sem, ↓reduceIte]
    refine call_by r4 ?_
    simp (config := { maxSteps := 1000000 }) (disch := first | omega | (simp only [go_sem]; omega)) only [go_sem, ↓reduceIte]
    refine call_by r5 ?_
    simp (config := { maxSteps := 1000000 }) (disch := first | omega | (simp only [go_sem]; omega)) only [go_sem, ↓reduceIte]
    simp [sqA, sq0, g0, m0, ints, eds]
  rw [decide_eq_true d2] at r5
  have hok : PsOk s t := ⟨qs, qt, d0, d1, d2⟩
  have hz := pastE_ok.2 hok
  rw [pastR_ok hz]
  have f1 : MOk s.b t.b t.f := by have := qt.f; rw [d0] at this; exact this
  have f2 : MOk s.d t.d t.k := by have := qt.k; rw [d1] at this; exact this
  have g1 := qs.f.fit f1
  have g2 := qs.k.fit f2
  have r6 := ht s.f t.f (by omega) (by omega) g1.2.1 g1.2.2
  have r7 := ht s.k t.k (by omega) (by omega) g2.2.1 g2.2.2
  have va := valid_spec qs.f.va
  have vb := valid_spec qt.f.vb
  have vc := valid_spec qs.g.vb
  have vd := valid_spec qt.h.vb
  have hg1 := qs.g.fit qs.k
  have hh1 := qt.h.ln
  have hh2 := qt.h.le
  have k1 := hcp s.a (by omega) (by omega)
  have k2 := hcp t.b (by omega) (by omega)
  have k3 := hcp s.c (by omega) (by omega)
  have k4 := hcp t.d (by omega) (by omega)
  have k5 := har s.g (by omega) (by omega)
  have k6 := har t.h (by omega) (by omega)
  clear va vb vc vd hg1 hh1 hh2
  clear hE hok hz f1 f2 g1 g2 bs bt qs qt d0 d1 d2
  simp only [sqD, sqA, gD, mD, gA, mA] at *
  simp (config := { maxSteps := 1000000 }) (disch := first | omega | (simp only [go_sem]; omega)) only [go_sem, ↓reduceIte]
  refine call_by r1 ?_
  simp (config := { maxSteps := 1000000 }) (disch := first | omega | (simp only [go_sem]; omega)) only [go_sem, ↓reduceIte]
  refine call_by r2 ?_
  simp (config := { maxSteps := 1000000 }) (disch := first | omega | (simp only [go_sem]; omega)) only [go_sem, ↓reduceIte]
  refine call_by r3 ?_
  simp (config := { maxSteps := 1000000 }) (disch := first | omega | (simp only [go_sem]; omega)) only [go_sem, ↓reduceIte]
  refine call_by r4 ?_
  simp (config := { maxSteps := 1000000 }) (disch := first | omega | (simp only [go_sem]; omega)) only [go_sem, ↓reduceIte]
  refine call_by r5 ?_
  simp (config := { maxSteps := 1000000 }) (disch := first | omega | (simp only [go_sem]; omega)) only [go_sem, ↓reduceIte]
  refine call_by k1 ?_
  simp (config := { maxSteps := 1000000 }) (disch := first | omega | (simp only [go_sem]; omega)) only [go_sem, ↓reduceIte]
  refine call_by k2 ?_
  simp (config := { maxSteps := 1000000 }) (disch := first | omega | (simp only [go_sem]; omega)) only [go_sem, ↓reduceIte]
  refine call_by k3 ?_
  simp (config := { maxSteps := 1000000 }) (disch := first | omega | (simp only [go_sem]; omega)) only [go_sem, ↓reduceIte]
  refine call_by k4 ?_
  simp (config := { maxSteps := 1000000 }) (disch := first | omega | (simp only [go_sem]; omega)) only [go_sem, ↓reduceIte]
  refine call_by r6 ?_
  simp (config := { maxSteps := 1000000 }) (disch := first | omega | (simp only [go_sem]; omega)) only [go_sem, ↓reduceIte]
  refine call_by k5 ?_
  simp (config := { maxSteps := 1000000 }) (disch := first | omega | (simp only [go_sem]; omega)) only [go_sem, ↓reduceIte]
  refine call_by k6 ?_
  simp (config := { maxSteps := 1000000 }) (disch := first | omega | (simp only [go_sem]; omega)) only [go_sem, ↓reduceIte]
  refine call_by r7 ?_
  simp (config := { maxSteps := 1000000 }) (disch := first | omega | (simp only [go_sem]; omega)) only [go_sem, ↓reduceIte]
  try rfl
set_option maxHeartbeats 2000000 in
theorem w_r14_Paste (hv : K_r14_Valid P F) (hsg : K_r05_Same P F) (hsm : K_r06_Same P F) (ht : K_r06_Then P F) (s t : Sq) : W P (c_r14_Paste F) (Done [.c 4 true 16, .t 5] [] (.tup [if pastE s t = 0 then pasD s t else sqA sq0, .int .i64 (pastR s t).2]) []) (init [sqD s, sqD t]) := by
  refine W_of ?_
  have r1 := hv s
  have r2 := hv t
  by_cases c1 : sqE s = 0
  case neg =>
    have hz : pastE s t = sqE s := by unfold pastE; rw [if_pos c1]
    have hn : pastE s t ≠ 0 := by rw [hz]; exact c1
    rw [pastR_bad hn, if_neg hn]
    rw [hz]
    clear hz hn
    generalize sqE s = v at *
    simp only [sqD] at *
    simp (config := { maxSteps := 1000000 }) (disch := first | omega | (simp only [go_sem]; omega)) only [go_sem, ↓reduceIte]
    refine call_by r1 ?_
    simp (config := { maxSteps := 1000000 }) (disch := first | omega | (simp only [go_sem]; omega)) only [go_sem, ↓reduceIte]
    refine bran_ndec (fun c => ?_) (fun c => absurd c c1)
    simp (config := { maxSteps := 1000000 }) (disch := first | omega | (simp only [go_sem]; omega)) only [go_sem, ↓reduceIte]
    simp [sqA, sq0, g0, m0, ints, eds]
  rw [c1] at r1
  by_cases c2 : sqE t = 0
  case neg =>
    have hz : pastE s t = sqE t := by unfold pastE; rw [if_neg (by simp [c1]), if_pos c2]
    have hn : pastE s t ≠ 0 := by rw [hz]; exact c2
    rw [pastR_bad hn, if_neg hn]
    rw [hz]
    clear hz hn
    generalize sqE t = v at *
    simp only [sqD] at *
    simp (config := { maxSteps := 1000000 }) (disch := first | omega | (simp only [go_sem]; omega)) only [go_sem, ↓reduceIte]
    refine call_by r1 ?_
    simp (config := { maxSteps := 1000000 }) (disch := first | omega | (simp only [go_sem]; omega)) only [go_sem, ↓reduceIte]
    refine call_by r2 ?_
    simp (config := { maxSteps := 1000000 }) (disch := first | omega | (simp only [go_sem]; omega)) only [go_sem, ↓reduceIte]
    refine bran_ndec (fun c => ?_) (fun c => absurd c c2)
    simp (config := { maxSteps := 1000000 }) (disch := first | omega | (simp only [go_sem]; omega)) only [go_sem, ↓reduceIte]
    simp [sqA, sq0, g0, m0, ints, eds]
  rw [c2] at r2
  have qs := sqE_ok.1 c1
  have qt := sqE_ok.1 c2
  have bs := qs.bd
  have bt := qt.bd
  have r3 := hsg t.a s.b bt.1.1 bt.1.2
  have r4 := hsg t.c s.d bt.2.2.1.1 bt.2.2.1.2
  have r5 := hsm t.g s.h bt.2.2.2.2.2.1.1 bt.2.2.2.2.2.1.2
  have hE : pastE s t = if t.a = s.b ∧ t.c = s.d ∧ t.g = s.h then 0 else 11 := by unfold pastE; rw [if_neg (by simp [c1]), if_neg (by simp [c2])]
  by_cases d0 : t.a = s.b
  case neg =>
    have hz : pastE s t = 11 := by rw [hE, if_neg (by simp [d0])]
    have hn : pastE s t ≠ 0 := by rw [hz]; decide
    rw [pastR_bad hn, if_neg hn]
    rw [hz]
    clear hz hn hE bs bt qs qt
    rw [decide_eq_false d0] at r3
    simp only [sqD, gD, mD] at *
    simp (config := { maxSteps := 1000000 }) (disch := first | omega | (simp only [go_sem]; omega)) only [go_sem, ↓reduceIte]
    refine call_by r1 ?_
    simp (config := { maxSteps := 1000000 }) (disch := first | omega | (simp only [go_sem]; omega)) only [go_sem, ↓reduceIte]
    refine call_by r2 ?_
    simp (config := { maxSteps := 1000000 }) (disch := first | omega | (simp only [go_sem]; omega)) only [go_sem, ↓reduceIte]
    refine call_by r3 ?_
    simp (config := { maxSteps := 1000000 }) (disch := first | omega | (simp only [go_sem]; omega)) only [go_sem, ↓reduceIte]
    simp [sqA, sq0, g0, m0, ints, eds]
  rw [decide_eq_true d0] at r3
  by_cases d1 : t.c = s.d
  case neg =>
    have hz : pastE s t = 11 := by rw [hE, if_neg (by simp [d1])]
    have hn : pastE s t ≠ 0 := by rw [hz]; decide
    rw [pastR_bad hn, if_neg hn]
    rw [hz]
    clear hz hn hE bs bt qs qt
    rw [decide_eq_false d1] at r4
    simp only [sqD, gD, mD] at *
    simp (config := { maxSteps := 1000000 }) (disch := first | omega | (simp only [go_sem]; omega)) only [go_sem, ↓reduceIte]
    refine call_by r1 ?_
    simp (config := { maxSteps := 1000000 }) (disch := first | omega | (simp only [go_sem]; omega)) only [go_sem, ↓reduceIte]
    refine call_by r2 ?_
    simp (config := { maxSteps := 1000000 }) (disch := first | omega | (simp only [go_sem]; omega)) only [go_sem, ↓reduceIte]
    refine call_by r3 ?_
    simp (config := { maxSteps := 1000000 }) (disch := first | omega | (simp only [go_sem]; omega)) only [go_sem, ↓reduceIte]
    refine call_by r4 ?_
    simp (config := { maxSteps := 1000000 }) (disch := first | omega | (simp only [go_sem]; omega)) only [go_sem, ↓reduceIte]
    simp [sqA, sq0, g0, m0, ints, eds]
  rw [decide_eq_true d1] at r4
  by_cases d2 : t.g = s.h
  case neg =>
    have hz : pastE s t = 11 := by rw [hE, if_neg (by simp [d2])]
    have hn : pastE s t ≠ 0 := by rw [hz]; decide
    rw [pastR_bad hn, if_neg hn]
    rw [hz]
    clear hz hn hE bs bt qs qt
    rw [decide_eq_false d2] at r5
    simp only [sqD, gD, mD] at *
    simp (config := { maxSteps := 1000000 }) (disch := first | omega | (simp only [go_sem]; omega)) only [go_sem, ↓reduceIte]
    refine call_by r1 ?_
    simp (config := { maxSteps := 1000000 }) (disch := first | omega | (simp only [go_sem]; omega)) only [go_sem, ↓reduceIte]
    refine call_by r2 ?_
    simp (config := { maxSteps := 1000000 }) (disch := first | omega | (simp only [go_sem]; omega)) only [go_sem, ↓reduceIte]
    refine call_by r3 ?_
    simp (config := { maxSteps := 1000000 }) (disch := first | omega | (simp only [go_sem]; omega)) only [go_sem, ↓reduceIte]
    refine call_by r4 ?_
    simp (config := { maxSteps := 1000000 }) (disch := first | omega | (simp only [go_sem]; omega)) only [go_sem, ↓reduceIte]
    refine call_by r5 ?_
    simp (config := { maxSteps := 1000000 }) (disch := first | omega | (simp only [go_sem]; omega)) only [go_sem, ↓reduceIte]
    simp [sqA, sq0, g0, m0, ints, eds]
  rw [decide_eq_true d2] at r5
  have hok : PsOk s t := ⟨qs, qt, d0, d1, d2⟩
  have hz := pastE_ok.2 hok
  rw [pastR_ok hz, if_pos hz]
  have f1 : MOk s.b t.b t.f := by have := qt.f; rw [d0] at this; exact this
  have f2 : MOk s.d t.d t.k := by have := qt.k; rw [d1] at this; exact this
  have g1 := qs.f.fit f1
  have g2 := qs.k.fit f2
  have r6 := ht s.f t.f (by omega) (by omega) g1.2.1 g1.2.2
  have r7 := ht s.k t.k (by omega) (by omega) g2.2.1 g2.2.2
  clear hE hok hz f1 f2 g1 g2 bs bt qs qt d0 d1 d2
  simp only [sqD, sqA, gD, mD, gA, mA] at *
  simp (config := { maxSteps := 1000000 }) (disch := first | omega | (simp only [go_sem]; omega)) only [go_sem, ↓reduceIte]
  refine call_by r1 ?_
  simp (config := { maxSteps := 1000000 }) (disch := first | omega | (simp only [go_sem]; omega)) only [go_sem, ↓reduceIte]
  refine call_by r2 ?_
  simp (config := { maxSteps := 1000000 }) (disch := first | omega | (simp only [go_sem]; omega)) only [go_sem, ↓reduceIte]
  refine call_by r3 ?_
  simp (config := { maxSteps := 1000000 }) (disch := first | omega | (simp only [go_sem]; omega)) only [go_sem, ↓reduceIte]
  refine call_by r4 ?_
  simp (config := { maxSteps := 1000000 }) (disch := first | omega | (simp only [go_sem]; omega)) only [go_sem, ↓reduceIte]
  refine call_by r5 ?_
  simp (config := { maxSteps := 1000000 }) (disch := first | omega | (simp only [go_sem]; omega)) only [go_sem, ↓reduceIte]
  refine call_by r6 ?_
  simp (config := { maxSteps := 1000000 }) (disch := first | omega | (simp only [go_sem]; omega)) only [go_sem, ↓reduceIte]
  refine call_by r7 ?_
  simp (config := { maxSteps := 1000000 }) (disch := first | omega | (simp only [go_sem]; omega)) only [go_sem, ↓reduceIte]
  try rfl
set_option maxHeartbeats 1000000 in
theorem w_l14_SquarePaste (hw : K_l14_awake P F) (hf : K_r14_Few P F) (h1 : K_square_Paste P F) (h2 : K_r14_Paste P F) (h3 : K_r14_Same P F) (s t : Sq) (hs : s.sm) (ht : t.sm) : W P (c_l14_SquarePaste F) (Done [.t 4] [] (.bool true) []) (init [sqD s, sqD t]) := by
  refine W_of ?_
  have r1 := hf s hs
  have r2 := hf t ht
  have r3 := h1 s t hs ht
  have r4 := h2 s t
  have r5 := h3 (pastR s t).1 (pastR s t).1 (pastR_bd s t)
  rw [decide_eq_true rfl] at r5
  cases c : fewSq s
  · rw [c] at r1
    simp only [sqD] at *
    simp (config := { maxSteps := 1000000 }) (disch := first | omega | (simp only [go_sem]; omega)) only [go_sem, ↓reduceIte]
    refine call_by hw ?_
    simp (config := { maxSteps := 1000000 }) (disch := first | omega | (simp only [go_sem]; omega)) only [go_sem, ↓reduceIte]
    refine call_by r1 ?_
    simp (config := { maxSteps := 1000000 }) (disch := first | omega | (simp only [go_sem]; omega)) only [go_sem, ↓reduceIte]
    refine call_by hw ?_
    simp (config := { maxSteps := 1000000 }) (disch := first | omega | (simp only [go_sem]; omega)) only [go_sem, ↓reduceIte]
  rw [c] at r1
  cases c2 : fewSq t
  · rw [c2] at r2
    simp only [sqD] at *
    simp (config := { maxSteps := 1000000 }) (disch := first | omega | (simp only [go_sem]; omega)) only [go_sem, ↓reduceIte]
    refine call_by hw ?_
    simp (config := { maxSteps := 1000000 }) (disch := first | omega | (simp only [go_sem]; omega)) only [go_sem, ↓reduceIte]
    refine call_by r1 ?_
    simp (config := { maxSteps := 1000000 }) (disch := first | omega | (simp only [go_sem]; omega)) only [go_sem, ↓reduceIte]
    refine call_by r2 ?_
    simp (config := { maxSteps := 1000000 }) (disch := first | omega | (simp only [go_sem]; omega)) only [go_sem, ↓reduceIte]
    refine call_by hw ?_
    simp (config := { maxSteps := 1000000 }) (disch := first | omega | (simp only [go_sem]; omega)) only [go_sem, ↓reduceIte]
  rw [c2] at r2
  by_cases e : pastE s t = 0
  · rw [if_pos e] at r4
    rw [pastR_ok e] at r3 r4 r5
    simp only [pasD, pasS] at *
    generalize thenM s.f t.f = x at *
    generalize thenM s.k t.k = y at *
    obtain ⟨xn, xe⟩ := x
    obtain ⟨yn, ye⟩ := y
    simp only [sqD, sqA] at *
    simp (config := { maxSteps := 1000000 }) (disch := first | omega | (simp only [go_sem]; omega)) only [go_sem, ↓reduceIte]
    refine call_by hw ?_
    simp (config := { maxSteps := 1000000 }) (disch := first | omega | (simp only [go_sem]; omega)) only [go_sem, ↓reduceIte]
    refine call_by r1 ?_
    simp (config := { maxSteps := 1000000 }) (disch := first | omega | (simp only [go_sem]; omega)) only [go_sem, ↓reduceIte]
    refine call_by r2 ?_
    simp (config := { maxSteps := 1000000 }) (disch := first | omega | (simp only [go_sem]; omega)) only [go_sem, ↓reduceIte]
    refine call_by r3 ?_
    simp (config := { maxSteps := 1000000 }) (disch := first | omega | (simp only [go_sem]; omega)) only [go_sem, ↓reduceIte]
    refine call_by r4 ?_
    simp (config := { maxSteps := 1000000 }) (disch := first | omega | (simp only [go_sem]; omega)) only [go_sem, ↓reduceIte]
    refine call_by r5 ?_
    simp (config := { maxSteps := 1000000 }) (disch := first | omega | (simp only [go_sem]; omega)) only [go_sem, ↓reduceIte]
  · rw [if_neg e] at r4
    rw [pastR_bad e] at r3 r4 r5
    generalize pastE s t = v at *
    simp only [sqD, sqA, sq0, g0, m0] at *
    simp (config := { maxSteps := 1000000 }) (disch := first | omega | (simp only [go_sem]; omega)) only [go_sem, ↓reduceIte]
    refine call_by hw ?_
    simp (config := { maxSteps := 1000000 }) (disch := first | omega | (simp only [go_sem]; omega)) only [go_sem, ↓reduceIte]
    refine call_by r1 ?_
    simp (config := { maxSteps := 1000000 }) (disch := first | omega | (simp only [go_sem]; omega)) only [go_sem, ↓reduceIte]
    refine call_by r2 ?_
    simp (config := { maxSteps := 1000000 }) (disch := first | omega | (simp only [go_sem]; omega)) only [go_sem, ↓reduceIte]
    refine call_by r3 ?_
    simp (config := { maxSteps := 1000000 }) (disch := first | omega | (simp only [go_sem]; omega)) only [go_sem, ↓reduceIte]
    refine call_by r4 ?_
    simp (config := { maxSteps := 1000000 }) (disch := first | omega | (simp only [go_sem]; omega)) only [go_sem, ↓reduceIte]
    refine call_by r5 ?_
    simp (config := { maxSteps := 1000000 }) (disch := first | omega | (simp only [go_sem]; omega)) only [go_sem, ↓reduceIte]
theorem x_l14_SquarePaste (h : K_l14_SquarePaste P F) (args : List D) (ha : HasEls [shSq, shSq] args) : FC P (F "l14.SquarePaste") args (.bool true) [] := by
  simp only [HasEls] at ha
  obtain ⟨_, _, rfl, h1, _, _, rfl, h2, rfl⟩ := ha
  obtain ⟨s, rfl, k⟩ := rd_sq h1
  obtain ⟨t, rfl, k2⟩ := rd_sq h2
  exact h s t k k2
end
end Go.Am
