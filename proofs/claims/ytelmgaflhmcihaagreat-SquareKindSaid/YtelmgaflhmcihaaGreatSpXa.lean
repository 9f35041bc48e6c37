/- The graph package and its reference: parts. -/
import Derived.Test.YtelmgaflhmcihaaGreatSpPa
import Derived.Test.YtelmgaflhmcihaaGreatSpPb
import Derived.Test.YtelmgaflhmcihaaGreatSpPc
import Derived.Test.YtelmgaflhmcihaaGreatSpPd
import Derived.Test.YtelmgaflhmcihaaGreatSpPe
namespace Go.Am
open Go
set_option linter.unusedVariables false
set_option linter.unusedSimpArgs false
@[go_sem] def c_r05_Few_r0 : LL := [qB 1 0,qb 2 false]
@[go_sem] def c_r05_Few_r1 : LL := [qf 3 0 1,ql 4 1 3,qz 5 4,qk .leq 6 5 45,qm 7 6,qg 7 true (qf 8 1 1),qg 7 true (ql 9 1 8),qg 7 true (qz 10 9),qg 7 true (qk .leq 11 10 90),qP 12 7 11,qm 2 12]
@[go_sem] def c_r05_Few (F : Fn) : LC := (.seq (.reg c_r05_Few_r0 [1]) (.seq (.reg c_r05_Few_r1 [2]) .ret))
def h_r05_Few : Hints := hOf [] (c_r05_Few fun _ => 0)
@[go_sem] def c_r05_Numbers_r0 : LL := [qn 4 1]
@[go_sem] def c_r05_Numbers_r1 : LL := [qn 5 1]
@[go_sem] def c_r05_Numbers_r2 : LL := [qi 6 0]
@[go_sem] def c_r05_Numbers_r3 : LL := [qm 7 6,qm 8 1,qo .lss 9 7 8]
@[go_sem] def c_r05_Numbers_r4 : LL := [qm 12 5,qm 13 0,qm 14 6,qo .add 15 13 14,⟨some 16,.buildSl 1 8 (.int .i64 (0)) 1 [(0,.t 15)],none⟩,qp 17 1 8 12 16,qm 5 17]
@[go_sem] def c_r05_Numbers_r5 : LL := [qm 10 6,qk .add 11 10 1,qm 6 11]
def c_r05_Numbers_b6 : LC := (.seq (.seq (.reg c_r05_Numbers_r3 [0,1,5,6,9]) (.cond (.t 9) .skip (.exit 0))) (.seq (.block 1 (.reg c_r05_Numbers_r4 [0,1,5,6])) (.reg c_r05_Numbers_r5 [0,1,5,6])))
@[go_sem] def c_r05_Numbers_r7 : LL := [qm 18 5,qm 4 18]
@[go_sem] def c_r05_Numbers (F : Fn) : LC := (.seq (.reg c_r05_Numbers_r0 [0,1]) (.seq (.reg c_r05_Numbers_r1 [0,1,5]) (.seq (.seq (.reg c_r05_Numbers_r2 [0,1,5,6]) (.block 0 (.loop [0,1,5,6] c_r05_Numbers_b6))) (.seq (.reg c_r05_Numbers_r7 [4]) .ret))))
def h_r05_Numbers : Hints := hOf [] (c_r05_Numbers fun _ => 0)
def few (g : G) : Bool := decide (g.n.length ≤ 45) && decide (g.e.length ≤ 90)
section
variable (P : Program) (F : String → Nat)
def K_r05_Numbers : Prop := ∀ (f : Int) (n : Nat), 0 ≤ f → f ≤ 1000000 → n ≤ 1000000 → FC P (F "r05.Numbers") [.int .i64 f, .int .i64 n] (.arr 1 (ints (nums f n))) []
def K_r05_Few : Prop := ∀ g : G, FC P (F "r05.Few") [gD g] (.bool (few g)) []
end
section
variable {P : Program} {F : String → Nat} {α : Type}
theorem w_r05_Numbers (f : Int) (n : Nat) (h0 : 0 ≤ f) (h1 : f ≤ 1000000) (h2 : n ≤ 1000000) : W P (c_r05_Numbers F) (Done [.t 4] [] (.arr 1 (ints (nums f n))) []) (init [.int .i64 f, .int .i64 n]) := by
 refine W_of ?_
 simp (disch := omega) only [go_sem, ↓reduceIte]
 refine W_loop (fun i : Nat => ⟨[(0, .int .i64 f), (1, .int .i64 n), (5, .sl 0 0 i), (6, .int .i64 i)], [(0, .arr 1 (ints (nums f i)))], 1⟩) (fun i => i ≤ n) (fun i => n - i) 0 ?_ ?_ ?_
 ·simp (disch := omega) only [go_sem, ↓reduceIte, nums_zero, ints_nil]
  rfl
 ·omega
 ·intro i hi
  have e1 := nums_len f i
  simp (disch := omega) only [go_sem, ↓reduceIte, c_r05_Numbers_b6]
  refine bran_dec (fun a => ?_) (fun a => ?_)
  ·simp (disch := omega) only [go_sem, ↓reduceIte, e1]
   exact ⟨i + 1, by simp [nums_succ], by omega, by omega⟩
  ·obtain rfl : i = n := by omega
   simp (disch := omega) only [go_sem, ↓reduceIte, e1]
theorem w_r05_Few (g : G) : W P (c_r05_Few F) (Done [.t 2] [] (.bool (few g)) []) (init [gD g]) := by
 refine W_of ?_
 obtain ⟨ns, es⟩ := g
 simp (disch := omega) only [go_sem, ↓reduceIte, gD]
 refine bran_dec (fun a => ?_) (fun a => ?_)
 ·simp (disch := omega) only [go_sem, ↓reduceIte, a]
  have : ns.length ≤ 45 := by omega
  simp [few, this]
  omega
 ·simp (disch := omega) only [go_sem, ↓reduceIte, a]
  have : ¬ ns.length ≤ 45 := by omega
  simp [few, this]
end
section
variable (P : Program) (F : String → Nat)
end
def shI : Sh := .int .i64
def shIs : Sh := .slc 1 8 shI
def shE : Sh := .cat [shI, shI, shI]
def shG : Sh := .cat [shIs, .slc 3 24 shE]
theorem rd_int {x : D} (h : HasEl shI x) : ∃ n : Int, x = .int .i64 n ∧ IntKind.i64.min ≤ n ∧ n ≤ IntKind.i64.max := by
 simpa only [shI, HasEl] using h
theorem rd_intl : ∀ {xs : List D}, (∀ y ∈ xs, HasEl shI y) → ∃ l : List Int, xs = ints l
 | [], _ => ⟨[], rfl⟩
 | x :: xs, h => by
  obtain ⟨l, rfl⟩ := rd_intl (xs := xs) fun y hy => h y (by simp [hy])
  obtain ⟨n, rfl, _⟩ := rd_int (h x (by simp))
  exact ⟨n :: l, rfl⟩
theorem rd_ints {x : D} (h : HasEl shIs x) : ∃ l : List Int, x = .lst 1 (ints l) ∧ l.length ≤ 20000000000000 := by
 simp only [shIs, HasEl] at h
 obtain ⟨xs, rfl, h1, h2⟩ := h
 obtain ⟨l, rfl⟩ := rd_intl h2
 refine ⟨l, rfl, ?_⟩
 rw [ints_length] at h1
 unfold reachBytes at h1
 omega
theorem rd_edge {x : D} (h : HasEl shE x) : ∃ e : E, x = edD e := by
 simp only [shE, HasEl] at h
 obtain ⟨ds, rfl, h⟩ := h
 simp only [shI, HasShs, HasEl] at h
 obtain ⟨_, _, rfl, ⟨a, rfl, _⟩, _, _, rfl, ⟨b, rfl, _⟩, _, _, rfl, ⟨c, rfl, _⟩, rfl⟩ := h
 exact ⟨⟨a, b, c⟩, rfl⟩
theorem rd_edl : ∀ {xs : List D}, (∀ y ∈ xs, HasEl shE y) → ∃ l : List E, xs = eds l
 | [], _ => ⟨[], rfl⟩
 | x :: xs, h => by
  obtain ⟨l, rfl⟩ := rd_edl (xs := xs) fun y hy => h y (by simp [hy])
  obtain ⟨n, rfl⟩ := rd_edge (h x (by simp))
  exact ⟨n :: l, rfl⟩
def shEs : Sh := .slc 3 24 shE
theorem rd_edges {x : D} (h : HasEl shEs x) : ∃ l : List E, x = .lst 3 (eds l) := by
 simp only [shEs, HasEl] at h
 obtain ⟨xs, rfl, _, h3⟩ := h
 obtain ⟨es, rfl⟩ := rd_edl h3
 exact ⟨es, rfl⟩
theorem hasShs_slc {z b : Nat} {e : Sh} {l : List Sh} {ds : List D} (h : HasShs (.slc z b e :: l) ds) : ∃ a b', ds = a :: b' ∧ HasEl (.slc z b e) a ∧ HasShs l b' := by simpa only [HasShs] using h
theorem hasShs_cat {l' : List Sh} {l : List Sh} {ds : List D} (h : HasShs (.cat l' :: l) ds) : ∃ a b, ds = a ++ b ∧ HasShs l' a ∧ HasShs l b := by simpa only [HasShs] using h
theorem hasShs_nil {ds : List D} (h : HasShs [] ds) : ds = [] := by simpa only [HasShs] using h
def gL (g : G) : List D := [.lst 1 (ints g.n), .lst 3 (eds g.e)]
def moL (m : Mo) : List D := [.lst 1 (ints m.n), .lst 1 (ints m.e)]
def shM : Sh := .cat [shIs, shIs]
theorem rd_gl {ds : List D} (h : HasShs [shIs, .slc 3 24 shE] ds) : ∃ g : G, ds = gL g := by
 obtain ⟨_, _, rfl, h1, h⟩ := hasShs_slc h
 obtain ⟨_, _, rfl, h2, h⟩ := hasShs_slc h
 obtain rfl := hasShs_nil h
 obtain ⟨n, rfl, _⟩ := rd_ints h1
 obtain ⟨e, rfl⟩ := rd_edges h2
 exact ⟨⟨n, e⟩, rfl⟩
theorem rd_ml {ds : List D} (h : HasShs [shIs, shIs] ds) : ∃ m : Mo, ds = moL m ∧ m.sm := by
 obtain ⟨_, _, rfl, h1, h⟩ := hasShs_slc h
 obtain ⟨_, _, rfl, h2, h⟩ := hasShs_slc h
 obtain rfl := hasShs_nil h
 obtain ⟨n, rfl, l1⟩ := rd_ints h1
 obtain ⟨e, rfl, l2⟩ := rd_ints h2
 exact ⟨⟨n, e⟩, rfl, by simp only [maxL]; omega, by simp only [maxL]; omega⟩
section
variable {P : Program} {F : String → Nat} {α : Type}
end
@[go_sem] def c_r02_SameInts_r0 : LL := [qb 4 false]
@[go_sem] def c_r02_SameInts_r1 : LL := [qm 6 0,qz 7 6,qm 8 1,qz 9 8,qo .neq 10 7 9]
@[go_sem] def c_r02_SameInts_r2 : LL := [qb 4 false]
@[go_sem] def c_r02_SameInts_r3 : LL := [qi 5 0]
@[go_sem] def c_r02_SameInts_r4 : LL := [qm 11 5,qm 12 0,qz 13 12,qo .lss 14 11 13]
@[go_sem] def c_r02_SameInts_r5 : LL := [qm 17 0,qm 18 5,qd 19 1 17 18,ql 20 1 19,qm 21 1,qm 22 5,qd 23 1 21 22,ql 24 1 23,qo .neq 25 20 24]
@[go_sem] def c_r02_SameInts_r6 : LL := [qb 4 false]
@[go_sem] def c_r02_SameInts_r7 : LL := [qm 15 5,qk .add 16 15 1,qm 5 16]
def c_r02_SameInts_b8 : LC := (.seq (.seq (.reg c_r02_SameInts_r4 [0,1,5,14]) (.cond (.t 14) .skip (.exit 0))) (.seq (.block 1 (.seq (.dreg [] c_r02_SameInts_r5 [0,1,5,25]) (.cond (.t 25) (.seq (.reg c_r02_SameInts_r6 [4]) .ret) .skip))) (.reg c_r02_SameInts_r7 [0,1,5])))
@[go_sem] def c_r02_SameInts_r9 : LL := [qb 4 true]
@[go_sem] def c_r02_SameInts (F : Fn) : LC := (.seq (.reg c_r02_SameInts_r0 [0,1]) (.seq (.seq (.reg c_r02_SameInts_r1 [0,1,10]) (.cond (.t 10) (.seq (.reg c_r02_SameInts_r2 [4]) .ret) .skip)) (.seq (.seq (.reg c_r02_SameInts_r3 [0,1,5]) (.block 0 (.loop [0,1,5] c_r02_SameInts_b8))) (.seq (.reg c_r02_SameInts_r9 [4]) .ret))))
def h_r02_SameInts : Hints := hn [] [(0,[0,1]),(1,[0,1,10]),(2,[4]),(3,[0,1,5]),(4,[0,1,5,14]),(5,[0,1,5]),(6,[0,1,5,25]),(7,[4]),(8,[4])] [(4,[0,1,5])]
@[go_sem] def c_r06_Same_r0 : LL := [qB 2 0,qB 3 1,qb 4 false]
@[go_sem] def c_r06_Same_r1 (F : Fn) : LL := [qf 5 0 2,ql 6 1 5,qf 7 0 3,ql 8 1 7,qc 9 (F "r02.SameInts") [.t 6,.t 8],qm 10 9,qg 10 true (qf 11 1 2),qg 10 true (ql 12 1 11),qg 10 true (qf 13 1 3),qg 10 true (ql 14 1 13),
 qg 10 true (qc 15 (F "r02.SameInts") [.t 12,.t 14]),qP 16 10 15,qm 4 16]
@[go_sem] def c_r06_Same (F : Fn) : LC := (.seq (.reg c_r06_Same_r0 [2,3]) (.seq (.reg (c_r06_Same_r1 F) [4]) .ret))
def h_r06_Same : Hints := hOf [] (c_r06_Same fun _ => 0)
@[go_sem] def c_r06_Few_r0 : LL := [qB 2 0,qb 4 false]
@[go_sem] def c_r06_Few_r1 : LL := [qf 5 0 2,ql 6 1 5,qz 7 6,qf 8 1 2,ql 9 1 8,qz 10 9,qo .add 11 7 10,qm 12 1,qo .leq 13 11 12,qm 4 13]
@[go_sem] def c_r06_Few (F : Fn) : LC := (.seq (.reg c_r06_Few_r0 [1,2]) (.seq (.reg c_r06_Few_r1 [4]) .ret))
def h_r06_Few : Hints := hOf [] (c_r06_Few fun _ => 0)
def fewM (m : Mo) (n : Int) : Bool := decide ((m.n.length : Int) + m.e.length ≤ n)
section
variable (P : Program) (F : String → Nat)
def K_r02_SameInts : Prop := ∀ a b : List Int, a.length ≤ maxL → FC P (F "r02.SameInts") [.lst 1 (ints a), .lst 1 (ints b)] (.bool (decide (a = b))) []
def K_r06_Same : Prop := ∀ a b : Mo, a.n.length ≤ maxL → a.e.length ≤ maxL → FC P (F "r06.Same") [mD a, mD b] (.bool (decide (a = b))) []
def K_r06_Few : Prop := ∀ (m : Mo) (n : Int), m.n.length ≤ maxL → m.e.length ≤ maxL → FC P (F "r06.Few") [mD m, .int .i64 n] (.bool (fewM m n)) []
end
section
variable {P : Program} {F : String → Nat} {α : Type}
theorem w_r02_SameInts (a b : List Int) (hl : a.length ≤ maxL) : W P (c_r02_SameInts F) (Done [.t 4] [] (.bool (decide (a = b))) []) (init [.lst 1 (ints a), .lst 1 (ints b)]) := by
 refine W_of ?_
 unfold maxL at hl
 simp (disch := omega) only [go_sem, ↓reduceIte]
 refine bran_ndec (fun h => ?_) (fun h => ?_)
 ·simp (disch := omega) only [go_sem, ↓reduceIte]
  have : a ≠ b := fun e => h (by rw [e])
  simp [this]
 ·have h' : a.length = b.length := by omega
  simp (disch := omega) only [go_sem, ↓reduceIte]
  refine W_loop (fun i : Nat => ⟨[(0, .lst 1 (ints a)), (1, .lst 1 (ints b)), (5, .int .i64 i)], [], 0⟩) (fun i => i ≤ a.length ∧ a.take i = b.take i) (fun i => a.length - i) 0 ?_ ?_ ?_
  ·simp (disch := omega) only [go_sem, ↓reduceIte]
   rfl
  ·simp
  ·intro i hi
   simp (disch := omega) only [go_sem, ↓reduceIte, c_r02_SameInts_b8]
   refine bran_dec (fun c => ?_) (fun c => ?_)
   ·simp (disch := omega) only [go_sem, ↓reduceIte]
    refine bran_ndec (fun d => ?_) (fun d => ?_)
    ·simp (disch := omega) only [go_sem, ↓reduceIte]
     have : a ≠ b := fun e => d (by rw [e])
     simp [this]
    ·simp (disch := omega) only [go_sem, ↓reduceIte]
     exact ⟨i + 1, by simp, ⟨by omega, by rw [take_gt (by omega), take_gt (by omega), hi.2, d]⟩, by omega⟩
   ·simp (disch := omega) only [go_sem, ↓reduceIte]
    obtain rfl : i = a.length := by omega
    have := hi.2
    rw [List.take_length, List.take_of_length_le (by omega)] at this
    simp [this]
theorem w_r06_Same (hs : K_r02_SameInts P F) (a b : Mo) (h1 : a.n.length ≤ maxL) (h2 : a.e.length ≤ maxL) : W P (c_r06_Same F) (Done [.t 4] [] (.bool (decide (a = b))) []) (init [mD a, mD b]) := by
 refine W_of ?_
 obtain ⟨an, ae⟩ := a
 obtain ⟨bn, be⟩ := b
 simp only at h1 h2
 simp (disch := omega) only [go_sem, ↓reduceIte, mD]
 refine call_by (hs _ _ h1) ?_
 simp (disch := omega) only [go_sem, ↓reduceIte]
 refine bran_dec (fun c => ?_) (fun c => ?_)
 ·subst c
  simp (disch := omega) only [go_sem, ↓reduceIte]
  refine call_by (hs _ _ h2) ?_
  simp (disch := omega) only [go_sem, ↓reduceIte]
  simp
 ·simp (disch := omega) only [go_sem, ↓reduceIte, c]
  simp [c]
theorem w_r06_Few (m : Mo) (n : Int) (h1 : m.n.length ≤ maxL) (h2 : m.e.length ≤ maxL) : W P (c_r06_Few F) (Done [.t 4] [] (.bool (fewM m n)) []) (init [mD m, .int .i64 n]) := by
 refine W_of ?_
 obtain ⟨mn, me⟩ := m
 simp only [maxL] at h1 h2
 simp (disch := omega) only [go_sem, ↓reduceIte, mD, fewM]
end
@[go_sem] def c_r06_Distinct_r0 : LL := [qb 2 false]
@[go_sem] def c_r06_Distinct_r1 : LL := [qi 3 0]
@[go_sem] def c_r06_Distinct_r2 : LL := [qm 5 3,qm 6 0,qz 7 6,qo .lss 8 5 7]
@[go_sem] def c_r06_Distinct_r3 : LL := [qi 4 0]
@[go_sem] def c_r06_Distinct_r4 : LL := [qm 11 4,qm 12 3,qo .lss 13 11 12]
@[go_sem] def c_r06_Distinct_r5 : LL := [qm 16 0,qm 17 3,qd 18 1 16 17,ql 19 1 18,qm 20 0,qm 21 4,qd 22 1 20 21,ql 23 1 22,qo .eql 24 19 23]
@[go_sem] def c_r06_Distinct_r6 : LL := [qb 2 false]
@[go_sem] def c_r06_Distinct_r7 : LL := [qm 14 4,qk .add 15 14 1,qm 4 15]
def c_r06_Distinct_b8 : LC := (.seq (.seq (.reg c_r06_Distinct_r4 [0,3,4,13]) (.cond (.t 13) .skip (.exit 2))) (.seq (.block 3 (.seq (.dreg [] c_r06_Distinct_r5 [0,3,4,24]) (.cond (.t 24) (.seq (.reg c_r06_Distinct_r6 [2]) .ret) .skip))) (.reg c_r06_Distinct_r7 [0,3,4])))
@[go_sem] def c_r06_Distinct_r9 : LL := [qm 9 3,qk .add 10 9 1,qm 3 10]
def c_r06_Distinct_b10 : LC := (.seq (.seq (.reg c_r06_Distinct_r2 [0,3,8]) (.cond (.t 8) .skip (.exit 0))) (.seq (.block 1 (.seq (.reg c_r06_Distinct_r3 [0,3,4]) (.block 2 (.loop [0,3,4] c_r06_Distinct_b8)))) (.reg c_r06_Distinct_r9 [0,3])))
@[go_sem] def c_r06_Distinct_r11 : LL := [qb 2 true]
@[go_sem] def c_r06_Distinct (F : Fn) : LC := (.seq (.reg c_r06_Distinct_r0 [0]) (.seq (.seq (.reg c_r06_Distinct_r1 [0,3]) (.block 0 (.loop [0,3] c_r06_Distinct_b10))) (.seq (.reg c_r06_Distinct_r11 [2]) .ret)))
def h_r06_Distinct : Hints := hn [] [(0,[0]),(1,[0,3]),(2,[0,3,8]),(3,[0,3]),(4,[0,3,4]),(5,[0,3,4,13]),(6,[0,3,4]),(7,[0,3,4,24]),(8,[2]),(9,[2])] [(2,[0,3]),(5,[0,3,4])]
@[go_sem] def c_r06_Injective_r0 : LL := [qB 3 0,qB 4 1,qB 5 2,qb 6 false]
@[go_sem] def c_r06_Injective_r1 (F : Fn) : LL := [qL 7 2 3,qL 8 2 4,qL 9 2 5,qc 10 (F "r06.Valid") [.t 7,.t 8,.t 9],qk .eql 11 10 0,qm 12 11,qg 12 true (qf 13 0 5),qg 12 true (ql 14 1 13),qg 12 true (qc 15 (F "r06.Distinct") [.t 14]),qP 16 12 15,
 qm 17 16,qg 17 true (qf 18 1 5),qg 17 true (ql 19 1 18),qg 17 true (qc 20 (F "r06.Distinct") [.t 19]),qP 21 17 20,qm 6 21]
@[go_sem] def c_r06_Injective (F : Fn) : LC := (.seq (.reg c_r06_Injective_r0 [3,4,5]) (.seq (.reg (c_r06_Injective_r1 F) [6]) .ret))
def h_r06_Injective : Hints := hOf [] (c_r06_Injective fun _ => 0)
section
variable (P : Program) (F : String → Nat)
def K_r06_Distinct : Prop := ∀ l : List Int, l.length ≤ maxL → FC P (F "r06.Distinct") [.lst 1 (ints l)] (.bool (distinct l)) []
def K_r06_Injective : Prop := ∀ (a b : G) (m : Mo), m.n.length ≤ maxL → m.e.length ≤ maxL → FC P (F "r06.Injective") [gD a, gD b, mD m] (.bool (injM a b m)) []
end
section
variable {P : Program} {F : String → Nat} {α : Type}
theorem nodup_take {l : List Int} {i : Nat} (h : i < l.length) : (l.take (i + 1)).Nodup ↔ (l.take i).Nodup ∧ ∀ k : Nat, k < i → gt l i ≠ gt l k := by
 rw [take_gt h, List.nodup_append]
 simp only [List.nodup_cons, List.not_mem_nil, not_false_eq_true, List.nodup_nil, and_self, true_and, List.mem_cons, or_false, forall_eq, ne_eq]
 refine and_congr_right fun _ => ⟨fun hh k hk e => ?_, fun hh x hx e => ?_⟩
 ·refine hh (gt l k) ?_ e.symm
  rw [gt_nat (by omega)]
  exact List.mem_take_iff_getElem.2 ⟨k, by omega, rfl⟩
 ·obtain ⟨k, hk, rfl⟩ := List.mem_take_iff_getElem.1 hx
  refine hh k (by omega) ?_
  rw [gt_nat (l := l) (i := k) (by omega)]
  exact e.symm
theorem w_r06_Distinct (l : List Int) (hl : l.length ≤ maxL) : W P (c_r06_Distinct F) (Done [.t 2] [] (.bool (distinct l)) []) (init [.lst 1 (ints l)]) := by
 refine W_of ?_
 unfold maxL at hl
 simp (disch := omega) only [go_sem, ↓reduceIte]
 refine W_loop (fun i : Nat => ⟨[(0, .lst 1 (ints l)), (3, .int .i64 i)], [], 0⟩) (fun i => i ≤ l.length ∧ (l.take i).Nodup) (fun i => l.length - i) 0 ?_ ?_ ?_
 ·simp (disch := omega) only [go_sem, ↓reduceIte]
  rfl
 ·simp
 ·rintro i ⟨hi, hn⟩
  simp (disch := omega) only [go_sem, ↓reduceIte, c_r06_Distinct_b10]
  refine bran_dec (fun c => ?_) (fun c => ?_)
  ·have ht := nodup_take (l := l) (i := i) (by omega)
   simp (disch := omega) only [go_sem, ↓reduceIte]
   refine W_loop (fun k : Nat => ⟨[(0, .lst 1 (ints l)), (3, .int .i64 i), (4, .int .i64 k)], [], 0⟩) (fun k => k ≤ i ∧ ∀ j : Nat, j < k → gt l i ≠ gt l j) (fun k => i - k) 0 ?_ ?_ ?_
   ·simp (disch := omega) only [go_sem, ↓reduceIte]
    rfl
   ·simp
   ·rintro k ⟨hk, hd⟩
    simp (disch := omega) only [go_sem, ↓reduceIte, c_r06_Distinct_b8]
    refine bran_dec (fun d => ?_) (fun d => ?_)
    ·simp (disch := omega) only [go_sem, ↓reduceIte]
     refine bran_dec (fun e => ?_) (fun e => ?_)
     ·simp (disch := omega) only [go_sem, ↓reduceIte]
      have : ¬ l.Nodup := fun h => by
       have h2 := ht.1 (h.sublist (List.take_sublist _ _))
       exact h2.2 k (by omega) e
      simp [distinct, this]
     ·simp (disch := omega) only [go_sem, ↓reduceIte]
      refine ⟨k + 1, by simp, ⟨by omega, fun j hj => ?_⟩, by omega⟩
      by_cases hjk : j = k
      ·subst hjk; exact e
      ·exact hd j (by omega)
    ·simp (disch := omega) only [go_sem, ↓reduceIte]
     exact ⟨i + 1, by simp, ⟨by omega, ht.2 ⟨hn, fun j hj => hd j (by omega)⟩⟩, by omega⟩
  ·simp (disch := omega) only [go_sem, ↓reduceIte]
   rw [List.take_of_length_le (by omega)] at hn
   simp [distinct, hn]
theorem w_r06_Injective (hv : K_r06_Valid P F) (hd : K_r06_Distinct P F) (a b : G) (m : Mo) (h1 : m.n.length ≤ maxL) (h2 : m.e.length ≤ maxL) : W P (c_r06_Injective F) (Done [.t 6] [] (.bool (injM a b m)) []) (init [gD a, gD b, mD m]) := by
 refine W_of ?_
 have rv := hv a b m
 have hi : injM a b m = (decide (validM a b m = 0) && (distinct m.n && distinct m.e)) := rfl
 rw [hi]
 generalize validM a b m = v at *
 have r1 := hd m.n h1
 have r2 := hd m.e h2
 obtain ⟨an, ae⟩ := a
 obtain ⟨bn, be⟩ := b
 obtain ⟨mn, me⟩ := m
 simp only [gD, mD] at rv r1 r2 ⊢
 simp (disch := omega) only [go_sem, ↓reduceIte]
 refine call_by rv ?_
 simp (disch := omega) only [go_sem, ↓reduceIte]
 refine bran_dec (fun c => ?_) (fun c => ?_)
 ·simp (disch := omega) only [go_sem, ↓reduceIte, c]
  refine call_by r1 ?_
  simp (disch := omega) only [go_sem, ↓reduceIte]
  refine bran_by (fun d => ?_) (fun d => ?_)
  ·simp (disch := omega) only [go_sem, ↓reduceIte, c, d]
   refine call_by r2 ?_
   simp (disch := omega) only [go_sem, ↓reduceIte, c, d]
  ·simp (disch := omega) only [go_sem, ↓reduceIte, c, d]
 ·simp (disch := omega) only [go_sem, ↓reduceIte, c]
end
@[go_sem] def c_r06_Surjective_r0 : LL := [qB 3 0,qB 4 1,qB 5 2,qb 6 false]
@[go_sem] def c_r06_Surjective_r1 (F : Fn) : LL := [qL 7 2 3,qL 8 2 4,qL 9 2 5,qc 10 (F "r06.Valid") [.t 7,.t 8,.t 9],qk .eql 11 10 0,qm 12 11,qg 12 true (qf 13 0 5),qg 12 true (ql 14 1 13),qg 12 true (qf 15 0 4),qg 12 true (ql 16 1 15),
 qg 12 true (qz 17 16),qg 12 true (qc 18 (F "r06.Covers") [.t 14,.t 17]),qP 19 12 18,qm 20 19,qg 20 true (qf 21 1 5),qg 20 true (ql 22 1 21),qg 20 true (qf 23 1 4),qg 20 true (ql 24 1 23),
 qg 20 true (qz 25 24),qg 20 true (qc 26 (F "r06.Covers") [.t 22,.t 25]),qP 27 20 26,qm 6 27]
@[go_sem] def c_r06_Surjective (F : Fn) : LC := (.seq (.reg c_r06_Surjective_r0 [3,4,5]) (.seq (.reg (c_r06_Surjective_r1 F) [6]) .ret))
def h_r06_Surjective : Hints := hOf [] (c_r06_Surjective fun _ => 0)
@[go_sem] def c_r06_Covers_r0 : LL := [qb 4 false]
@[go_sem] def c_r06_Covers_r1 : LL := [qi 5 0]
@[go_sem] def c_r06_Covers_r2 : LL := [qm 8 5,qm 9 1,qo .lss 10 8 9]
@[go_sem] def c_r06_Covers_r3 : LL := [qb 6 false]
@[go_sem] def c_r06_Covers_r4 : LL := [qi 7 0]
@[go_sem] def c_r06_Covers_r5 : LL := [qm 13 7,qm 14 0,qz 15 14,qo .lss 16 13 15]
@[go_sem] def c_r06_Covers_r6 : LL := [qm 19 6,qm 20 19,qg 20 false (qm 21 0),qg 20 false (qm 22 7),qg 20 false (qd 23 1 21 22),qg 20 false (ql 24 1 23),qg 20 false (qm 25 5),qg 20 false (qo .eql 26 24 25),qQ 27 20 26,
 qm 6 27]
@[go_sem] def c_r06_Covers_r7 : LL := [qm 17 7,qk .add 18 17 1,qm 7 18]
def c_r06_Covers_b8 : LC := (.seq (.seq (.reg c_r06_Covers_r5 [0,1,5,6,7,16]) (.cond (.t 16) .skip (.exit 2))) (.seq (.block 3 (.reg c_r06_Covers_r6 [0,1,5,6,7])) (.reg c_r06_Covers_r7 [0,1,5,6,7])))
@[go_sem] def c_r06_Covers_r9 : LL := [qm 28 6,qv 29 28]
@[go_sem] def c_r06_Covers_r10 : LL := [qb 4 false]
@[go_sem] def c_r06_Covers_r11 : LL := [qm 11 5,qk .add 12 11 1,qm 5 12]
def c_r06_Covers_b12 : LC := (.seq (.seq (.reg c_r06_Covers_r2 [0,1,5,10]) (.cond (.t 10) .skip (.exit 0))) (.seq (.block 1 (.seq (.reg c_r06_Covers_r3 [0,1,5,6]) (.seq (.seq (.reg c_r06_Covers_r4 [0,1,5,6,7]) (.block 2 (.loop [0,1,5,6,7] c_r06_Covers_b8))) (.seq (.reg c_r06_Covers_r9 [0,1,5,29]) (.cond (.t 29) (.seq (.reg c_r06_Covers_r10 [4]) .ret) .skip))))) (.reg c_r06_Covers_r11 [0,1,5])))
@[go_sem] def c_r06_Covers_r13 : LL := [qb 4 true]
@[go_sem] def c_r06_Covers (F : Fn) : LC := (.seq (.reg c_r06_Covers_r0 [0,1]) (.seq (.seq (.reg c_r06_Covers_r1 [0,1,5]) (.block 0 (.loop [0,1,5] c_r06_Covers_b12))) (.seq (.reg c_r06_Covers_r13 [4]) .ret)))
def h_r06_Covers : Hints := hn [] [(0,[0,1]),(1,[0,1,5]),(2,[0,1,5,10]),(3,[0,1,5]),(4,[0,1,5,6]),(5,[0,1,5,6,7]),(6,[0,1,5,6,7,16]),(7,[0,1,5,6,7]),(8,[0,1,5,6,7]),(9,[0,1,5,29]),(10,[4]),(11,[4])] [(2,[0,1,5]),(6,[0,1,5,6,7])]
section
variable (P : Program) (F : String → Nat)
def K_r06_Covers : Prop := ∀ (l : List Int) (n : Nat), l.length ≤ maxL → n ≤ 1000000 → FC P (F "r06.Covers") [.lst 1 (ints l), .int .i64 n] (.bool (covers l n)) []
def K_r06_Surjective : Prop := ∀ (a b : G) (m : Mo), FC P (F "r06.Surjective") [gD a, gD b, mD m] (.bool (surM a b m)) []
end
section
variable {P : Program} {F : String → Nat} {α : Type}
end
section
variable {P : Program} {F : String → Nat} {α : Type}
theorem w_r06_Covers (l : List Int) (n : Nat) (hl : l.length ≤ maxL) (hn : n ≤ 1000000) : W P (c_r06_Covers F) (Done [.t 4] [] (.bool (covers l n)) []) (init [.lst 1 (ints l), .int .i64 n]) := by
 refine W_of ?_
 unfold maxL at hl
 simp (disch := omega) only [go_sem, ↓reduceIte]
 refine W_loop (fun k : Nat => ⟨[(0, .lst 1 (ints l)), (1, .int .i64 n), (5, .int .i64 k)], [], 0⟩) (fun k => k ≤ n ∧ ∀ j : Nat, j < k → (j : Int) ∈ l) (fun k => n - k) 0 ?_ ?_ ?_
 ·simp (disch := omega) only [go_sem, ↓reduceIte]
  rfl
 ·simp
 ·rintro k ⟨hk, ha⟩
  simp (disch := omega) only [go_sem, ↓reduceIte, c_r06_Covers_b12]
  refine bran_dec (fun c => ?_) (fun c => ?_)
  ·simp (disch := omega) only [go_sem, ↓reduceIte]
   refine W_loop (fun i : Nat => ⟨[(0, .lst 1 (ints l)), (1, .int .i64 n), (5, .int .i64 k), (6, .bool (decide ((k : Int) ∈ l.take i))), (7, .int .i64 i)], [], 0⟩) (fun i => i ≤ l.length) (fun i => l.length - i) 0 ?_ ?_ ?_
   ·simp (disch := omega) only [go_sem, ↓reduceIte]
    simp
   ·simp
   ·intro i hi
    simp (disch := omega) only [go_sem, ↓reduceIte, c_r06_Covers_b8]
    refine bran_dec (fun d => ?_) (fun d => ?_)
    ·have ht := take_gt (l := l) (i := i) (by omega)
     have hm : decide ((k : Int) ∈ l.take (i + 1)) = (decide ((k : Int) ∈ l.take i) || decide (gt l i = k)) := by
      rw [Bool.eq_iff_iff, ht, Bool.or_eq_true, decide_eq_true_eq, decide_eq_true_eq, decide_eq_true_eq, List.mem_append, List.mem_singleton, eq_comm (a := gt l i)]
     simp (disch := omega) only [go_sem, ↓reduceIte]
     refine bran_dec (fun e => ?_) (fun e => ?_)
     ·simp (disch := omega) only [go_sem, ↓reduceIte, e]
      exact ⟨i + 1, by simp [hm, e], by omega, by omega⟩
     ·simp (disch := omega) only [go_sem, ↓reduceIte, e]
      exact ⟨i + 1, by simp [hm, e], by omega, by omega⟩
    ·have hz : l.take i = l := List.take_of_length_le (by omega)
     simp (disch := omega) only [go_sem, ↓reduceIte, hz]
     refine bran_ndec (fun e => ?_) (fun e => ?_)
     ·simp (disch := omega) only [go_sem, ↓reduceIte]
      have : covers l n = false := by
       rw [← Bool.not_eq_true, covers, List.all_eq_true]
       intro h
       have := h k (by simp; omega)
       simp at this
       exact e this
      rw [this]
     ·simp (disch := omega) only [go_sem, ↓reduceIte]
      refine ⟨k + 1, by simp, ⟨by omega, fun j hj => ?_⟩, by omega⟩
      by_cases hjk : j = k
      ·subst hjk; exact e
      ·exact ha j (by omega)
  ·simp (disch := omega) only [go_sem, ↓reduceIte]
   have : covers l n = true := by
    rw [covers, List.all_eq_true]
    intro j hj
    simpa using ha j (by simp at hj; omega)
   rw [this]
theorem w_r06_Surjective (hv : K_r06_Valid P F) (hc : K_r06_Covers P F) (a b : G) (m : Mo) : W P (c_r06_Surjective F) (Done [.t 6] [] (.bool (surM a b m)) []) (init [gD a, gD b, mD m]) := by
 refine W_of ?_
 have rv := hv a b m
 have hl := @validM_len a b m
 have hd : surM a b m = (decide (validM a b m = 0) && (covers m.n b.n.length && covers m.e b.e.length)) := rfl
 rw [hd]
 generalize validM a b m = v at *
 obtain ⟨an, ae⟩ := a
 obtain ⟨bn, be⟩ := b
 obtain ⟨mn, me⟩ := m
 simp only [gD, mD] at rv ⊢
 simp (disch := omega) only [go_sem, ↓reduceIte]
 refine call_by rv ?_
 simp (disch := omega) only [go_sem, ↓reduceIte]
 refine bran_dec (fun c => ?_) (fun c => ?_)
 ·subst c
  obtain ⟨l1, l2, _, _, l3, l4⟩ := hl rfl
  simp only at l1 l2 l3 l4
  have r1 := hc mn bn.length (by unfold maxL; omega) (by omega)
  have r2 := hc me be.length (by unfold maxL; omega) (by omega)
  generalize covers mn bn.length = o1 at *
  generalize covers me be.length = o2 at *
  simp (disch := omega) only [go_sem, ↓reduceIte]
  refine call_by r1 ?_
  cases o1
  ·simp (disch := omega) only [go_sem, ↓reduceIte]
   try simp
  ·simp (disch := omega) only [go_sem, ↓reduceIte]
   refine call_by r2 ?_
   simp (disch := omega) only [go_sem, ↓reduceIte]
   try simp
 ·simp (disch := omega) only [go_sem, ↓reduceIte, c]
  try simp
end
attribute [local irreducible] W
@[go_sem] def c_r02_Merge_r0 : LL := [qn 6 1]
@[go_sem] def c_r02_Merge_r1 : LL := [qm 12 0,qm 13 1,qd 14 1 12 13,ql 15 1 14,qm 16 0,qm 17 2,qd 18 1 16 17,ql 19 1 18,⟨some 20,.mn [.t 15,.t 19],none⟩,qm 21 0,qm 22 1,qd 23 1 21 22,ql 24 1 23,qm 25 0,qm 26 2,
 qd 27 1 25 26,ql 28 1 27,⟨some 29,.mx [.t 24,.t 28],none⟩,qm 7 20,qm 8 29]
@[go_sem] def c_r02_Merge_r2 : LL := [qn 9 1]
@[go_sem] def c_r02_Merge_r3 : LL := [qi 10 0]
@[go_sem] def c_r02_Merge_r4 : LL := [qm 30 10,qm 31 0,qz 32 31,qo .lss 33 30 32]
@[go_sem] def c_r02_Merge_r5 : LL := [qm 36 0,qm 37 10,qd 38 1 36 37,ql 39 1 38,qm 11 39]
@[go_sem] def c_r02_Merge_r6 : LL := [qm 40 11,qm 41 8,qo .eql 42 40 41]
@[go_sem] def c_r02_Merge_r7 : LL := [qm 43 7,qm 11 43]
@[go_sem] def c_r02_Merge_r8 : LL := [qm 44 9,qm 45 11,⟨some 46,.buildSl 1 8 (.int .i64 (0)) 1 [(0,.t 45)],none⟩,qp 47 1 8 44 46,qm 9 47]
@[go_sem] def c_r02_Merge_r9 : LL := [qm 34 10,qk .add 35 34 1,qm 10 35]
def c_r02_Merge_b10 : LC := (.seq (.seq (.reg c_r02_Merge_r4 [0,7,8,9,10,33]) (.cond (.t 33) .skip (.exit 0))) (.seq (.block 1 (.seq (.reg c_r02_Merge_r5 [0,7,8,9,10,11]) (.seq (.seq (.reg c_r02_Merge_r6 [0,7,8,9,10,11,42]) (.cond (.t 42) (.reg c_r02_Merge_r7 [0,7,8,9,10,11]) .skip)) (.reg c_r02_Merge_r8 [0,7,8,9,10])))) (.reg c_r02_Merge_r9 [0,7,8,9,10])))
@[go_sem] def c_r02_Merge_r11 : LL := [qm 48 9,qm 6 48]
@[go_sem] def c_r02_Merge (F : Fn) : LC := (.seq (.reg c_r02_Merge_r0 [0,1,2]) (.seq (.dreg [] c_r02_Merge_r1 [0,7,8]) (.seq (.reg c_r02_Merge_r2 [0,7,8,9]) (.seq (.seq (.reg c_r02_Merge_r3 [0,7,8,9,10]) (.block 0 (.loop [0,7,8,9,10] c_r02_Merge_b10))) (.seq (.reg c_r02_Merge_r11 [6]) .ret)))))
def h_r02_Merge : Hints := hn [] [(0,[0,1,2]),(1,[0,7,8]),(2,[0,7,8,9]),(3,[0,7,8,9,10]),(4,[0,7,8,9,10,33]),(5,[0,7,8,9,10]),(6,[0,7,8,9,10,11]),(7,[0,7,8,9,10,11,42]),(8,[0,7,8,9,10,11]),(9,[0,7,8,9,10]),(10,[6])] [(4,[0,7,8,9,10])]
@[go_sem] def c_r02_Valid_r0 : LL := [qb 2 false]
@[go_sem] def c_r02_Valid_r1 : LL := [qm 4 0,qz 5 4,qk .gtr 6 5 80]
@[go_sem] def c_r02_Valid_r2 : LL := [qb 2 false]
@[go_sem] def c_r02_Valid_r3 : LL := [qi 3 0]
@[go_sem] def c_r02_Valid_r4 : LL := [qm 7 3,qm 8 0,qz 9 8,qo .lss 10 7 9]
@[go_sem] def c_r02_Valid_r5 : LL := [qm 13 0,qm 14 3,qd 15 1 13 14,ql 16 1 15,qk .lss 17 16 0,qm 18 17,qg 18 false (qm 19 0),qg 18 false (qm 20 3),qg 18 false (qd 21 1 19 20),qg 18 false (ql 22 1 21),
 qg 18 false (qm 23 3),qg 18 false (qo .gtr 24 22 23),qQ 25 18 24,qm 26 25,qg 26 false (qm 27 0),qg 26 false (qm 28 0),qg 26 false (qm 29 3),qg 26 false (qd 30 1 28 29),
 qg 26 false (ql 31 1 30),qg 26 false (qd 32 1 27 31),qg 26 false (ql 33 1 32),qg 26 false (qm 34 0),qg 26 false (qm 35 3),qg 26 false (qd 36 1 34 35),qg 26 false (ql 37 1 36),
 qg 26 false (qo .neq 38 33 37),qQ 39 26 38]
@[go_sem] def c_r02_Valid_r6 : LL := [qb 2 false]
@[go_sem] def c_r02_Valid_r7 : LL := [qm 11 3,qk .add 12 11 1,qm 3 12]
def c_r02_Valid_b8 : LC := (.seq (.seq (.reg c_r02_Valid_r4 [0,3,10]) (.cond (.t 10) .skip (.exit 0))) (.seq (.block 1 (.seq (.dreg [] c_r02_Valid_r5 [0,3,39]) (.cond (.t 39) (.seq (.reg c_r02_Valid_r6 [2]) .ret) .skip))) (.reg c_r02_Valid_r7 [0,3])))
@[go_sem] def c_r02_Valid_r9 : LL := [qb 2 true]
@[go_sem] def c_r02_Valid (F : Fn) : LC := (.seq (.reg c_r02_Valid_r0 [0]) (.seq (.seq (.reg c_r02_Valid_r1 [0,6]) (.cond (.t 6) (.seq (.reg c_r02_Valid_r2 [2]) .ret) .skip)) (.seq (.seq (.reg c_r02_Valid_r3 [0,3]) (.block 0 (.loop [0,3] c_r02_Valid_b8))) (.seq (.reg c_r02_Valid_r9 [2]) .ret))))
def h_r02_Valid : Hints := hn [] [(0,[0]),(1,[0,6]),(2,[2]),(3,[0,3]),(4,[0,3,10]),(5,[0,3]),(6,[0,3,39]),(7,[2]),(8,[2])] [(4,[0,3])]
@[go_sem] def c_r02_one_r0 : LL := [qi 2 0]
@[go_sem] def c_r02_one_r1 : LL := [qm 3 0,qz 4 3,qk .gtr 5 4 80]
@[go_sem] def c_r02_one_r2 : LL := [qi 2 3]
@[go_sem] def c_r02_one_r3 (F : Fn) : LL := [qm 6 0,qc 7 (F "r02.Valid") [.t 6],qv 8 7]
@[go_sem] def c_r02_one_r4 : LL := [qi 2 1]
@[go_sem] def c_r02_one_r5 : LL := [qi 2 0]
@[go_sem] def c_r02_one (F : Fn) : LC := (.seq (.reg c_r02_one_r0 [0]) (.seq (.seq (.reg c_r02_one_r1 [0,5]) (.cond (.t 5) (.seq (.reg c_r02_one_r2 [2]) .ret) .skip)) (.seq (.seq (.reg (c_r02_one_r3 F) [8]) (.cond (.t 8) (.seq (.reg c_r02_one_r4 [2]) .ret) .skip)) (.seq (.reg c_r02_one_r5 [2]) .ret))))
def h_r02_one : Hints := hOf [] (c_r02_one fun _ => 0)
@[go_sem] def c_r02_Quotient_r0 : LL := [qn 2 1,qi 3 0,qi 4 0]
@[go_sem] def c_r02_Quotient_r1 (F : Fn) : LL := [qm 9 0,qc 10 (F "r02.one") [.t 9],qm 5 10]
@[go_sem] def c_r02_Quotient_r2 : LL := [qm 11 5,qk .neq 12 11 0]
@[go_sem] def c_r02_Quotient_r3 : LL := [qm 13 5,qn 2 1,qi 3 0,qm 4 13]
@[go_sem] def c_r02_Quotient_r4 : LL := [qn 6 1]
@[go_sem] def c_r02_Quotient_r5 : LL := [qi 7 0]
@[go_sem] def c_r02_Quotient_r6 : LL := [qi 8 0]
@[go_sem] def c_r02_Quotient_r7 : LL := [qm 14 8,qm 15 0,qz 16 15,qo .lss 17 14 16]
@[go_sem] def c_r02_Quotient_r8 : LL := [qm 20 0,qm 21 8,qd 22 1 20 21,ql 23 1 22,qm 24 8,qo .eql 25 23 24]
@[go_sem] def c_r02_Quotient_r9 : LL := [qm 26 6,qm 27 7,⟨some 28,.buildSl 1 8 (.int .i64 (0)) 1 [(0,.t 27)],none⟩,qp 29 1 8 26 28,qm 6 29]
@[go_sem] def c_r02_Quotient_r10 : LL := [qm 30 7,qk .add 31 30 1,qm 7 31]
@[go_sem] def c_r02_Quotient_r11 : LL := [qm 32 6,qm 33 6,qm 34 0,qm 35 8,qd 36 1 34 35,ql 37 1 36,qd 38 1 33 37,ql 39 1 38,⟨some 40,.buildSl 1 8 (.int .i64 (0)) 1 [(0,.t 39)],none⟩,qp 41 1 8 32 40,qm 6 41]
@[go_sem] def c_r02_Quotient_r12 : LL := [qm 18 8,qk .add 19 18 1,qm 8 19]
def c_r02_Quotient_b13 : LC := (.seq (.seq (.reg c_r02_Quotient_r7 [0,6,7,8,17]) (.cond (.t 17) .skip (.exit 0))) (.seq (.block 1 (.seq (.reg c_r02_Quotient_r8 [0,6,7,8,25]) (.cond (.t 25) (.seq (.reg c_r02_Quotient_r9 [0,6,7,8]) (.reg c_r02_Quotient_r10 [0,6,7,8])) (.reg c_r02_Quotient_r11 [0,6,7,8])))) (.reg c_r02_Quotient_r12 [0,6,7,8])))
@[go_sem] def c_r02_Quotient_r14 : LL := [qm 42 6,qm 43 7,qm 2 42,qm 3 43,qi 4 0]
@[go_sem] def c_r02_Quotient (F : Fn) : LC := (.seq (.reg c_r02_Quotient_r0 [0]) (.seq (.seq (.reg (c_r02_Quotient_r1 F) [0,5]) (.seq (.reg c_r02_Quotient_r2 [0,5,12]) (.cond (.t 12) (.seq (.reg c_r02_Quotient_r3 [2,3,4]) .ret) .skip))) (.seq (.reg c_r02_Quotient_r4 [0,6]) (.seq (.reg c_r02_Quotient_r5 [0,6,7]) (.seq (.seq (.reg c_r02_Quotient_r6 [0,6,7,8]) (.block 0 (.loop [0,6,7,8] c_r02_Quotient_b13))) (.seq (.reg c_r02_Quotient_r14 [2,3,4]) .ret))))))
def h_r02_Quotient : Hints := hn [] [(0,[0]),(1,[0,5]),(2,[0,5,12]),(3,[2,3,4]),(4,[0,6]),(5,[0,6,7]),(6,[0,6,7,8]),(7,[0,6,7,8,17]),(8,[0,6,7,8]),(9,[0,6,7,8,25]),(10,[0,6,7,8]),(11,[0,6,7,8]),(12,[0,6,7,8]),(13,[2,3,4])] [(7,[0,6,7,8])]
structure Pv (p : List Int) : Prop where
 l : p.length ≤ 80
 h : ∀ i : Nat, i < p.length → (0 ≤ gt p i ∧ gt p i ≤ i) ∧ gt p (gt p i) = gt p i
section
variable (P : Program) (F : String → Nat)
def K_r02_Merge : Prop := ∀ (p : List Int) (a b : Nat), p.length ≤ 1000 → a < p.length → b < p.length → FC P (F "r02.Merge") [.lst 1 (ints p), .int .i64 a, .int .i64 b] (.arr 1 (ints (mergeL p a b))) []
def K_r02_Valid : Prop := ∀ p : List Int, Pv p → FC P (F "r02.Valid") [.lst 1 (ints p)] (.bool true) []
def K_r02_one : Prop := ∀ p : List Int, Pv p → FC P (F "r02.one") [.lst 1 (ints p)] (.int .i64 0) []
def K_r02_Quotient : Prop := ∀ p : List Int, Pv p → FC P (F "r02.Quotient") [.lst 1 (ints p)] (.tup [.arr 1 (ints (quo p p.length).1), .int .i64 (quo p p.length).2, .int .i64 0]) []
end
section
variable {P : Program} {F : String → Nat} {α : Type}
theorem w_r02_Merge (p : List Int) (a b : Nat) (hl : p.length ≤ 1000) (ha : a < p.length) (hb : b < p.length) : W P (c_r02_Merge F) (Done [.t 6] [] (.arr 1 (ints (mergeL p a b))) []) (init [.lst 1 (ints p), .int .i64 a, .int .i64 b]) := by
 refine W_of ?_
 have ht : ∀ i : Nat, i < p.length → mergeL (p.take (i + 1)) (0 : Int) 0 = mergeL (p.take (i + 1)) 0 0 := fun i hi => rfl
 have hE : mergeL p a b = p.map fun k => if k = max (gt p a) (gt p b) then min (gt p a) (gt p b) else k := rfl
 have hlo : min (gt p a) (gt p b) = if gt p b < gt p a then gt p b else gt p a := by rw [Int.min_def]; split <;> split <;> omega
 have hhi : max (gt p a) (gt p b) = if gt p a < gt p b then gt p b else gt p a := by rw [Int.max_def]; split <;> split <;> omega
 rw [hE, hlo, hhi]
 clear hE ht hlo hhi
 simp (disch := omega) only [go_sem, ↓reduceIte]
 generalize (if gt p (b : Int) < gt p (a : Int) then gt p (b : Int) else gt p (a : Int)) = lo
 generalize (if gt p (a : Int) < gt p (b : Int) then gt p (b : Int) else gt p (a : Int)) = hi
 refine W_loop (fun i : Nat => ⟨[(0, .lst 1 (ints p)), (7, .int .i64 lo), (8, .int .i64 hi), (9, .sl 0 0 i), (10, .int .i64 i)], [(0, .arr 1 (ints ((p.take i).map fun k => if k = hi then lo else k)))], 1⟩) (fun i => i ≤ p.length) (fun i => p.length - i) 0 ?_ ?_ ?_
 ·simp (disch := omega) only [go_sem, ↓reduceIte, ints_nil]
  rfl
 ·simp
 ·intro i hi'
  have e1 : ((p.take i).map fun k => if k = hi then lo else k).length = i := by simp; omega
  simp (disch := omega) only [go_sem, ↓reduceIte, c_r02_Merge_b10]
  refine bran_dec (fun c => ?_) (fun c => ?_)
  ·simp (disch := omega) only [go_sem, ↓reduceIte]
   refine bran_dec (fun d => ?_) (fun d => ?_)
   ·simp (disch := omega) only [go_sem, ↓reduceIte, e1]
    exact ⟨i + 1, by rw [take_gt (by omega)]; simp [d], by omega, by omega⟩
   ·simp (disch := omega) only [go_sem, ↓reduceIte, e1]
    exact ⟨i + 1, by rw [take_gt (by omega)]; simp [d], by omega, by omega⟩
  ·obtain rfl : i = p.length := by omega
   rw [List.take_length] at e1
   simp (disch := omega) only [go_sem, ↓reduceIte, e1]
theorem w_r02_Valid (p : List Int) (hp : Pv p) : W P (c_r02_Valid F) (Done [.t 2] [] (.bool true) []) (init [.lst 1 (ints p)]) := by
 refine W_of ?_
 obtain ⟨hl, h⟩ := hp
 have g0 : decide ((80 : Int) < p.length) = false := decide_eq_false (by omega)
 simp (disch := omega) only [go_sem, ↓reduceIte, g0]
 refine W_loop (fun i : Nat => ⟨[(0, .lst 1 (ints p)), (3, .int .i64 i)], [], 0⟩) (fun i => i ≤ p.length) (fun i => p.length - i) 0 ?_ ?_ ?_
 ·simp (disch := omega) only [go_sem, ↓reduceIte]
  rfl
 ·simp
 ·intro i hi
  by_cases c : i < p.length
  ·obtain ⟨⟨h1, h2⟩, h3⟩ := h i c
   have g1 : decide ((i : Int) < p.length) = true := decide_eq_true (by omega)
   have g2 : decide (gt p i < 0) = false := decide_eq_false (by omega)
   have g3 : decide ((i : Int) < gt p i) = false := decide_eq_false (by omega)
   have g4 : decide (gt p (gt p i) = gt p i) = true := decide_eq_true h3
   simp (disch := omega) only [go_sem, ↓reduceIte, c_r02_Valid_b8, g1, g2, g3, g4]
   exact ⟨i + 1, by simp, by omega, by omega⟩
  ·have g1 : decide ((i : Int) < p.length) = false := decide_eq_false (by omega)
   simp (disch := omega) only [go_sem, ↓reduceIte, c_r02_Valid_b8, g1]
theorem w_r02_one (hv : K_r02_Valid P F) (p : List Int) (hp : Pv p) : W P (c_r02_one F) (Done [.t 2] [] (.int .i64 0) []) (init [.lst 1 (ints p)]) := by
 refine W_of ?_
 have r := hv p hp
 obtain ⟨hl, h⟩ := hp
 have g0 : decide ((80 : Int) < p.length) = false := decide_eq_false (by omega)
 simp (disch := omega) only [go_sem, ↓reduceIte, g0]
 refine call_by r ?_
 simp (disch := omega) only [go_sem, ↓reduceIte]
theorem w_r02_Quotient (ho : K_r02_one P F) (p : List Int) (hp : Pv p) : W P (c_r02_Quotient F) (Done [.t 2, .t 3, .t 4] [] (.tup [.arr 1 (ints (quo p p.length).1), .int .i64 (quo p p.length).2, .int .i64 0]) []) (init [.lst 1 (ints p)]) := by
 refine W_of ?_
 have r := ho p hp
 obtain ⟨hl, h⟩ := hp
 have ql : ∀ i : Nat, (quo p i).1.length = i ∧ (quo p i).2 ≤ i := fun i => by
  induction i with
  | zero => simp [quo]
  | succ i ih =>
   rw [quo]
   split <;> simp [ih.1] <;> omega
 simp (disch := omega) only [go_sem, ↓reduceIte]
 refine call_by r ?_
 simp (disch := omega) only [go_sem, ↓reduceIte]
 refine W_loop (fun i : Nat => ⟨[(0, .lst 1 (ints p)), (6, .sl 0 0 i), (7, .int .i64 (quo p i).2), (8, .int .i64 i)], [(0, .arr 1 (ints (quo p i).1))], 1⟩) (fun i => i ≤ p.length) (fun i => p.length - i) 0 ?_ ?_ ?_
 ·simp (disch := omega) only [go_sem, ↓reduceIte, ints_nil, quo]
  rfl
 ·simp
 ·intro i hi
  obtain ⟨e1, e2⟩ := ql i
  have hs : quo p (i + 1) = if gt p i = i then ((quo p i).1 ++ [((quo p i).2 : Int)], (quo p i).2 + 1) else ((quo p i).1 ++ [gt (quo p i).1 (gt p i)], (quo p i).2) := rfl
  simp (disch := omega) only [go_sem, ↓reduceIte, c_r02_Quotient_b13]
  refine bran_dec (fun c => ?_) (fun c => ?_)
  ·obtain ⟨⟨h1, h2⟩, h3⟩ := h i (by omega)
   simp (disch := omega) only [go_sem, ↓reduceIte]
   refine bran_dec (fun d => ?_) (fun d => ?_)
   ·rw [if_pos d] at hs
    simp (disch := omega) only [go_sem, ↓reduceIte, e1]
    exact ⟨i + 1, by simp [hs], by omega, by omega⟩
   ·rw [if_neg d] at hs
    simp (disch := omega) only [go_sem, ↓reduceIte, e1]
    exact ⟨i + 1, by simp [hs], by omega, by omega⟩
  ·obtain rfl : i = p.length := by omega
   simp (disch := omega) only [go_sem, ↓reduceIte, e1]
end
@[go_sem] def c_r02_Finest_r0 : LL := [qn 2 1]
@[go_sem] def c_r02_Finest_r1 : LL := [qn 3 1]
@[go_sem] def c_r02_Finest_r2 : LL := [qi 4 0]
@[go_sem] def c_r02_Finest_r3 : LL := [qm 5 4,qm 6 0,qo .lss 7 5 6]
@[go_sem] def c_r02_Finest_r4 : LL := [qm 10 3,qm 11 4,⟨some 12,.buildSl 1 8 (.int .i64 (0)) 1 [(0,.t 11)],none⟩,qp 13 1 8 10 12,qm 3 13]
@[go_sem] def c_r02_Finest_r5 : LL := [qm 8 4,qk .add 9 8 1,qm 4 9]
def c_r02_Finest_b6 : LC := (.seq (.seq (.reg c_r02_Finest_r3 [0,3,4,7]) (.cond (.t 7) .skip (.exit 0))) (.seq (.block 1 (.reg c_r02_Finest_r4 [0,3,4])) (.reg c_r02_Finest_r5 [0,3,4])))
@[go_sem] def c_r02_Finest_r7 : LL := [qm 14 3,qm 2 14]
@[go_sem] def c_r02_Finest (F : Fn) : LC := (.seq (.reg c_r02_Finest_r0 [0]) (.seq (.reg c_r02_Finest_r1 [0,3]) (.seq (.seq (.reg c_r02_Finest_r2 [0,3,4]) (.block 0 (.loop [0,3,4] c_r02_Finest_b6))) (.seq (.reg c_r02_Finest_r7 [2]) .ret))))
def h_r02_Finest : Hints := hOf [] (c_r02_Finest fun _ => 0)
@[go_sem] def c_r06_Back_r0 : LL := [qn 4 1]
@[go_sem] def c_r06_Back_r1 : LL := [qn 5 1]
@[go_sem] def c_r06_Back_r2 : LL := [qi 6 0]
@[go_sem] def c_r06_Back_r3 : LL := [qm 8 6,qm 9 1,qo .lss 10 8 9]
@[go_sem] def c_r06_Back_r4 : LL := [qm 13 5,⟨some 14,.buildSl 1 8 (.int .i64 (0)) 1 [(0,.k (.int .i64 (-1)))],none⟩,qp 15 1 8 13 14,qm 5 15]
@[go_sem] def c_r06_Back_r5 : LL := [qi 7 0]
@[go_sem] def c_r06_Back_r6 : LL := [qm 16 7,qm 17 0,qz 18 17,qo .lss 19 16 18]
@[go_sem] def c_r06_Back_r7 : LL := [qm 22 0,qm 23 7,qd 24 1 22 23,ql 25 1 24,qm 26 6,qo .eql 27 25 26]
@[go_sem] def c_r06_Back_r8 : LL := [qm 28 5,qm 29 6,qm 30 7,qd 31 1 28 29,qs 1 31 30]
@[go_sem] def c_r06_Back_r9 : LL := [qm 20 7,qk .add 21 20 1,qm 7 21]
def c_r06_Back_b10 : LC := (.seq (.seq (.reg c_r06_Back_r6 [0,1,5,6,7,19]) (.cond (.t 19) .skip (.exit 2))) (.seq (.block 3 (.seq (.reg c_r06_Back_r7 [0,1,5,6,7,27]) (.cond (.t 27) (.reg c_r06_Back_r8 [0,1,5,6,7]) .skip))) (.reg c_r06_Back_r9 [0,1,5,6,7])))
@[go_sem] def c_r06_Back_r11 : LL := [qm 11 6,qk .add 12 11 1,qm 6 12]
def c_r06_Back_b12 : LC := (.seq (.seq (.reg c_r06_Back_r3 [0,1,5,6,10]) (.cond (.t 10) .skip (.exit 0))) (.seq (.block 1 (.seq (.reg c_r06_Back_r4 [0,1,5,6]) (.seq (.reg c_r06_Back_r5 [0,1,5,6,7]) (.block 2 (.loop [0,1,5,6,7] c_r06_Back_b10))))) (.reg c_r06_Back_r11 [0,1,5,6])))
@[go_sem] def c_r06_Back_r13 : LL := [qm 32 5,qm 4 32]
@[go_sem] def c_r06_Back (F : Fn) : LC := (.seq (.reg c_r06_Back_r0 [0,1]) (.seq (.reg c_r06_Back_r1 [0,1,5]) (.seq (.seq (.reg c_r06_Back_r2 [0,1,5,6]) (.block 0 (.loop [0,1,5,6] c_r06_Back_b12))) (.seq (.reg c_r06_Back_r13 [4]) .ret))))
def h_r06_Back : Hints := hn [] [(0,[0,1]),(1,[0,1,5]),(2,[0,1,5,6]),(3,[0,1,5,6,10]),(4,[0,1,5,6]),(5,[0,1,5,6]),(6,[0,1,5,6,7]),(7,[0,1,5,6,7,19]),(8,[0,1,5,6,7]),(9,[0,1,5,6,7,27]),(10,[0,1,5,6,7]),(11,[4])] [(3,[0,1,5,6]),(7,[0,1,5,6,7])]
@[go_sem] def c_r06_Inverse_r0 : LL := [qB 3 0,qB 4 1,qB 5 2,qa 6 [.nl 1,.nl 1],qi 7 0]
@[go_sem] def c_r06_Inverse_r1 (F : Fn) : LL := [qL 9 2 3,qL 10 2 4,qL 11 2 5,qc 12 (F "r06.Valid") [.t 9,.t 10,.t 11],qm 8 12]
@[go_sem] def c_r06_Inverse_r2 : LL := [qm 13 8,qk .neq 14 13 0]
@[go_sem] def c_r06_Inverse_r3 : LL := [qu 15 [.nl 1,.nl 1] [],qm 16 8,qs 2 6 15,qm 7 16]
@[go_sem] def c_r06_Inverse_r4 (F : Fn) : LL := [qL 17 2 3,qL 18 2 4,qL 19 2 5,qc 20 (F "r06.Injective") [.t 17,.t 18,.t 19],qv 21 20,qm 22 21,qg 22 false (qL 23 2 3),qg 22 false (qL 24 2 4),qg 22 false (qL 25 2 5),
 qg 22 false (qc 26 (F "r06.Surjective") [.t 23,.t 24,.t 25]),qg 22 false (qv 27 26),qQ 28 22 27]
@[go_sem] def c_r06_Inverse_r5 : LL := [qu 29 [.nl 1,.nl 1] [],qs 2 6 29,qi 7 10]
@[go_sem] def c_r06_Inverse_r6 (F : Fn) : LL := [qf 30 0 5,ql 31 1 30,qf 32 0 4,ql 33 1 32,qz 34 33,qc 35 (F "r06.Back") [.t 31,.t 34],qf 36 1 5,ql 37 1 36,qf 38 1 4,ql 39 1 38,qz 40 39,qc 41 (F "r06.Back") [.t 37,.t 40],
 qu 42 [.nl 1,.nl 1] [(0,1,.t 35),(1,1,.t 41)],qs 2 6 42,qi 7 0]
@[go_sem] def c_r06_Inverse (F : Fn) : LC := (.seq (.reg c_r06_Inverse_r0 [3,4,5,6]) (.seq (.seq (.reg (c_r06_Inverse_r1 F) [3,4,5,6,8]) (.seq (.reg c_r06_Inverse_r2 [3,4,5,6,8,14]) (.cond (.t 14) (.seq (.reg c_r06_Inverse_r3 [6,7]) .ret) .skip))) (.seq (.seq (.reg (c_r06_Inverse_r4 F) [4,5,6,28]) (.cond (.t 28) (.seq (.reg c_r06_Inverse_r5 [6,7]) .ret) .skip)) (.seq (.dreg [(5,none,[],true),(7,(some 64),[5],false),(9,(some 256),[5],false)] (c_r06_Inverse_r6 F) [6,7]) .ret))))
def h_r06_Inverse : Hints := hOf [] (c_r06_Inverse fun _ => 0)
def lastI (l : List Int) (k : Int) : Nat → Int
 | 0 => -1
 | i + 1 => if gt l i = k then i else lastI l k i
def backL (l : List Int) (n : Nat) : List Int := (List.range n).map fun k : Nat => lastI l k l.length
def invM (a b : G) (m : Mo) : Mo × Int := if validM a b m ≠ 0 then (m0, validM a b m) else if injM a b m = true ∧ surM a b m = true then (⟨backL m.n m.n.length, backL m.e m.e.length⟩, 0) else (m0, 10)
section
variable (P : Program) (F : String → Nat)
def K_r06_Back : Prop := ∀ (l : List Int) (n : Nat), l.length ≤ 1000000 → n ≤ 1000000 → FC P (F "r06.Back") [.lst 1 (ints l), .int .i64 n] (.arr 1 (ints (backL l n))) []
def K_r06_Inverse : Prop := ∀ (a b : G) (m : Mo), FC P (F "r06.Inverse") [gD a, gD b, mD m] (.tup [mA (invM a b m).1, .int .i64 (invM a b m).2]) []
def K_r02_Finest : Prop := ∀ n : Nat, n ≤ 1000000 → FC P (F "r02.Finest") [.int .i64 n] (.arr 1 (ints (nums 0 n))) []
end
section
variable {P : Program} {F : String → Nat} {α : Type}
theorem w_r02_Finest (n : Nat) (h2 : n ≤ 1000000) : W P (c_r02_Finest F) (Done [.t 2] [] (.arr 1 (ints (nums 0 n))) []) (init [.int .i64 n]) := by
 refine W_of ?_
 simp (disch := omega) only [go_sem, ↓reduceIte]
 refine W_loop (fun i : Nat => ⟨[(0, .int .i64 n), (3, .sl 0 0 i), (4, .int .i64 i)], [(0, .arr 1 (ints (nums 0 i)))], 1⟩) (fun i => i ≤ n) (fun i => n - i) 0 ?_ ?_ ?_
 ·simp (disch := omega) only [go_sem, ↓reduceIte, nums_zero, ints_nil]
  rfl
 ·omega
 ·intro i hi
  have e1 := nums_len 0 i
  simp (disch := omega) only [go_sem, ↓reduceIte, c_r02_Finest_b6]
  refine bran_dec (fun a => ?_) (fun a => ?_)
  ·simp (disch := omega) only [go_sem, ↓reduceIte, e1]
   exact ⟨i + 1, by simp [nums_succ], by omega, by omega⟩
  ·obtain rfl : i = n := by omega
   simp (disch := omega) only [go_sem, ↓reduceIte, e1]
theorem w_r06_Back (l : List Int) (n : Nat) (hl : l.length ≤ 1000000) (hn : n ≤ 1000000) : W P (c_r06_Back F) (Done [.t 4] [] (.arr 1 (ints (backL l n))) []) (init [.lst 1 (ints l), .int .i64 n]) := by
 refine W_of ?_
 have hbl : ∀ k, ((List.range k).map fun k : Nat => lastI l k l.length).length = k := fun k => by simp
 have hbs : ∀ k, ((List.range (k + 1)).map fun k : Nat => lastI l k l.length) = ((List.range k).map fun k : Nat => lastI l k l.length) ++ [lastI l k l.length] := fun k => by simp [List.range_succ]
 have hbE : backL l n = (List.range n).map fun k : Nat => lastI l k l.length := rfl
 rw [hbE]
 generalize hB : (fun k : Nat => (List.range k).map fun k : Nat => lastI l k l.length) = B
 have hB' : ∀ k, ((List.range k).map fun k : Nat => lastI l k l.length) = B k := fun k => by rw [← hB]
 have hB0 : B 0 = [] := by rw [← hB]; rfl
 rw [hB']
 simp only [hB'] at hbl hbs
 clear hB hB'
 simp (config := { maxSteps := 1000000 }) (disch := first | omega | (simp only [go_sem]; omega)) only [go_sem, ↓reduceIte]
 refine W_loop (fun k : Nat => ⟨[(0, .lst 1 (ints l)), (1, .int .i64 n), (5, .sl 0 0 k), (6, .int .i64 k)], [(0, .arr 1 (ints (B k)))], 1⟩) (fun k => k ≤ n) (fun k => n - k) 0 ?_ ?_ ?_
 ·simp (config := { maxSteps := 1000000 }) (disch := first | omega | (simp only [go_sem]; omega)) only [go_sem, ↓reduceIte, hB0, ints_nil]
  rfl
 ·simp
 ·intro k hk
  have e1 := hbl k
  have e2 := hbs k
  simp (config := { maxSteps := 1000000 }) (disch := first | omega | (simp only [go_sem]; omega)) only [go_sem, ↓reduceIte, c_r06_Back_b12]
  refine bran_dec (fun c => ?_) (fun c => ?_)
  ·simp (config := { maxSteps := 1000000 }) (disch := first | omega | (simp only [go_sem]; omega)) only [go_sem, ↓reduceIte, e1]
   refine W_loop (fun i : Nat => ⟨[(0, .lst 1 (ints l)), (1, .int .i64 n), (5, .sl 0 0 (k + 1)), (6, .int .i64 k), (7, .int .i64 i)], [(0, .arr 1 (ints (B k ++ [lastI l k i])))], 1⟩) (fun i => i ≤ l.length) (fun i => l.length - i) 0 ?_ ?_ ?_
   ·simp (config := { maxSteps := 1000000 }) (disch := first | omega | (simp only [go_sem]; omega)) only [go_sem, ↓reduceIte, e1, lastI]
    rfl
   ·simp
   ·intro i hi
    have hset : ∀ x y : Int, (B k ++ [x]).set k y = B k ++ [y] := fun x y => by rw [List.set_append_right _ _ (by omega), e1]; simp
    have hla : lastI l k (i + 1) = if gt l i = k then (i : Int) else lastI l k i := rfl
    simp (config := { maxSteps := 1000000 }) (disch := first | omega | (simp only [go_sem]; omega)) only [go_sem, ↓reduceIte, c_r06_Back_b10, e1]
    refine bran_dec (fun d => ?_) (fun d => ?_)
    ·simp (config := { maxSteps := 1000000 }) (disch := first | omega | (simp only [go_sem]; omega)) only [go_sem, ↓reduceIte, e1]
     refine bran_dec (fun e => ?_) (fun e => ?_)
     ·rw [if_pos e] at hla
      simp (config := { maxSteps := 1000000 }) (disch := first | omega | (simp only [go_sem]; omega)) only [go_sem, ↓reduceIte, e1, hset]
      exact ⟨i + 1, by simp [hla], by omega, by omega⟩
     ·rw [if_neg e] at hla
      simp (config := { maxSteps := 1000000 }) (disch := first | omega | (simp only [go_sem]; omega)) only [go_sem, ↓reduceIte, e1]
      exact ⟨i + 1, by simp [hla], by omega, by omega⟩
    ·obtain rfl : i = l.length := by omega
     simp (config := { maxSteps := 1000000 }) (disch := first | omega | (simp only [go_sem]; omega)) only [go_sem, ↓reduceIte, e1]
     exact ⟨k + 1, by simp [e2], by omega, by omega⟩
  ·obtain rfl : k = n := by omega
   simp (config := { maxSteps := 1000000 }) (disch := first | omega | (simp only [go_sem]; omega)) only [go_sem, ↓reduceIte, e1]
end
section
theorem setL_eq {α : Type} [Inhabited α] {l : List α} {q : List Int} {z w : List α} {n : Nat} (hz : z.length = w.length) (h : ∀ i : Nat, i < n → 0 ≤ gt q i ∧ gt w (gt q i) = gt l i) (hc : ∀ k : Nat, k < w.length → ∃ i : Nat, i < n ∧ gt q i = k) : setL l q z n = w := by
 refine list_ext_gt (by rw [setL_len, hz]) fun k hk => ?_
 rw [setL_len] at hk
 rcases setL_gt h k hk with e | ⟨_, e⟩
 ·exact e
 ·obtain ⟨i, hi, hi2⟩ := hc k (by omega)
  exact absurd hi2 (e i hi)
end
@[go_sem] def c_r02_Generate_r0 : LL := [qn 4 1,qi 5 0]
@[go_sem] def c_r02_Generate_r1 : LL := [qm 9 0,qk .gtr 10 9 80]
@[go_sem] def c_r02_Generate_r2 : LL := [qn 4 1,qi 5 3]
@[go_sem] def c_r02_Generate_r3 : LL := [qm 11 0,qk .lss 12 11 0]
@[go_sem] def c_r02_Generate_r4 : LL := [qn 4 1,qi 5 6]
@[go_sem] def c_r02_Generate_r5 : LL := [qi 6 0]
@[go_sem] def c_r02_Generate_r6 : LL := [qm 13 6,qm 14 1,qz 15 14,qo .lss 16 13 15]
@[go_sem] def c_r02_Generate_r7 : LL := [qm 19 1,qm 20 6,qd 21 2 19 20,qf 22 0 21,ql 23 1 22,qk .lss 24 23 0,qm 25 24,qg 25 false (qm 26 1),qg 25 false (qm 27 6),qg 25 false (qd 28 2 26 27),qg 25 false (qf 29 0 28),
 qg 25 false (ql 30 1 29),qg 25 false (qm 31 0),qg 25 false (qo .geq 32 30 31),qQ 33 25 32,qm 34 33,qg 34 false (qm 35 1),qg 34 false (qm 36 6),qg 34 false (qd 37 2 35 36),
 qg 34 false (qf 38 1 37),qg 34 false (ql 39 1 38),qg 34 false (qk .lss 40 39 0),qQ 41 34 40,qm 42 41,qg 42 false (qm 43 1),qg 42 false (qm 44 6),qg 42 false (qd 45 2 43 44),
 qg 42 false (qf 46 1 45),qg 42 false (ql 47 1 46),qg 42 false (qm 48 0),qg 42 false (qo .geq 49 47 48),qQ 50 42 49]
@[go_sem] def c_r02_Generate_r8 : LL := [qn 4 1,qi 5 6]
@[go_sem] def c_r02_Generate_r9 : LL := [qm 17 6,qk .add 18 17 1,qm 6 18]
def c_r02_Generate_b10 : LC := (.seq (.seq (.reg c_r02_Generate_r6 [0,1,6,16]) (.cond (.t 16) .skip (.exit 0))) (.seq (.block 1 (.seq (.reg c_r02_Generate_r7 [0,1,6,50]) (.cond (.t 50) (.seq (.reg c_r02_Generate_r8 [4,5]) .ret) .skip))) (.reg c_r02_Generate_r9 [0,1,6])))
@[go_sem] def c_r02_Generate_r11 (F : Fn) : LL := [qm 51 0,qc 52 (F "r02.Finest") [.t 51],qm 7 52]
@[go_sem] def c_r02_Generate_r12 : LL := [qi 8 0]
@[go_sem] def c_r02_Generate_r13 : LL := [qm 53 8,qm 54 1,qz 55 54,qo .lss 56 53 55]
@[go_sem] def c_r02_Generate_r14 (F : Fn) : LL := [qm 59 7,qm 60 1,qm 61 8,qd 62 2 60 61,qf 63 0 62,ql 64 1 63,qm 65 1,qm 66 8,qd 67 2 65 66,qf 68 1 67,ql 69 1 68,qc 70 (F "r02.Merge") [.t 59,.t 64,.t 69],qm 7 70]
@[go_sem] def c_r02_Generate_r15 : LL := [qm 57 8,qk .add 58 57 1,qm 8 58]
def c_r02_Generate_b16 (F : Fn) : LC := (.seq (.seq (.reg c_r02_Generate_r13 [1,7,8,56]) (.cond (.t 56) .skip (.exit 2))) (.seq (.block 3 (.dreg [] (c_r02_Generate_r14 F) [1,7,8])) (.reg c_r02_Generate_r15 [1,7,8])))
@[go_sem] def c_r02_Generate_r17 : LL := [qm 71 7,qm 4 71,qi 5 0]
@[go_sem] def c_r02_Generate (F : Fn) : LC := (.seq (.reg c_r02_Generate_r0 [0,1]) (.seq (.seq (.reg c_r02_Generate_r1 [0,1,10]) (.cond (.t 10) (.seq (.reg c_r02_Generate_r2 [4,5]) .ret) .skip)) (.seq (.seq (.reg c_r02_Generate_r3 [0,1,12]) (.cond (.t 12) (.seq (.reg c_r02_Generate_r4 [4,5]) .ret) .skip)) (.seq (.seq (.reg c_r02_Generate_r5 [0,1,6]) (.block 0 (.loop [0,1,6] c_r02_Generate_b10))) (.seq (.reg (c_r02_Generate_r11 F) [1,7]) (.seq (.seq (.reg c_r02_Generate_r12 [1,7,8]) (.block 2 (.loop [1,7,8] (c_r02_Generate_b16 F)))) (.seq (.reg c_r02_Generate_r17 [4,5]) .ret)))))))
def h_r02_Generate : Hints := hn [] [(0,[0,1]),(1,[0,1,10]),(2,[4,5]),(3,[0,1,12]),(4,[4,5]),(5,[0,1,6]),(6,[0,1,6,16]),(7,[0,1,6]),(8,[0,1,6,50]),(9,[4,5]),(10,[1,7]),(11,[1,7,8]),(12,[1,7,8,56]),(13,[1,7,8]),(14,[1,7,8]),(15,[4,5])] [(6,[0,1,6]),(12,[1,7,8])]
section
variable (P : Program) (F : String → Nat)
def K_r02_Generate : Prop := ∀ (n : Nat) (l : List Pr), n ≤ 80 → l.length ≤ 1000 → PrIn n l → FC P (F "r02.Generate") [.int .i64 n, .lst 2 (prs l)] (.tup [.arr 1 (ints (genL n l)), .int .i64 0]) []
end
section
variable {P : Program} {F : String → Nat} {α : Type}
theorem w_r02_Generate (hf : K_r02_Finest P F) (hm : K_r02_Merge P F) (n : Nat) (l : List Pr) (hn : n ≤ 80) (hl : l.length ≤ 1000) (hp : PrIn n l) :
  W P (c_r02_Generate F) (Done [.t 4, .t 5] [] (.tup [.arr 1 (ints (genL n l)), .int .i64 0]) []) (init [.int .i64 n, .lst 2 (prs l)]) := by
 refine W_of ?_
 have d1 : decide ((80 : Int) < n) = false := decide_eq_false (by omega)
 have d2 : decide ((n : Int) < 0) = false := decide_eq_false (by omega)
 have r1 := hf n (by omega)
 have nl := nums_len 0 n
 have gl := gen_len (n := n) (l := l)
 simp (disch := omega) only [go_sem, ↓reduceIte, d1, d2]
 refine W_loop (fun i : Nat => ⟨[(0, .int .i64 n), (1, .lst 2 (prs l)), (6, .int .i64 i)], [], 0⟩) (fun i => i ≤ l.length) (fun i => l.length - i) 0 ?_ ?_ ?_
 ·simp (disch := omega) only [go_sem, ↓reduceIte]
  rfl
 ·simp
 ·intro i hi
  by_cases c : i < l.length
  ·have g1 : decide ((i : Int) < l.length) = true := decide_eq_true (by omega)
   obtain ⟨⟨a1, a2⟩, b1, b2⟩ := hp i c
   have e1 : decide ((gt l i).a < 0) = false := decide_eq_false (by omega)
   have e2 : decide ((n : Int) ≤ (gt l i).a) = false := decide_eq_false (by omega)
   have e3 : decide ((gt l i).b < 0) = false := decide_eq_false (by omega)
   have e4 : decide ((n : Int) ≤ (gt l i).b) = false := decide_eq_false (by omega)
   simp (disch := omega) only [go_sem, ↓reduceIte, c_r02_Generate_b10, g1, e1, e2, e3, e4]
   exact ⟨i + 1, by simp, by omega, by omega⟩
  ·have g1 : decide ((i : Int) < l.length) = false := decide_eq_false (by omega)
   simp (disch := omega) only [go_sem, ↓reduceIte, c_r02_Generate_b10, g1]
   refine call_by r1 ?_
   simp (disch := omega) only [go_sem, ↓reduceIte, nl]
   refine W_loop (fun i : Nat => ⟨[(1, .lst 2 (prs l)), (7, .sl 0 0 n), (8, .int .i64 i)], [(0, .arr 1 (ints (genI n l i)))], 1⟩) (fun i => i ≤ l.length) (fun i => l.length - i) 0 ?_ ?_ ?_
   ·simp (disch := omega) only [go_sem, ↓reduceIte, genI, nl]
    rfl
   ·simp
   ·intro i hi
    have gli := gl i
    by_cases c : i < l.length
    ·have g1 : decide ((i : Int) < l.length) = true := decide_eq_true (by omega)
     obtain ⟨⟨a1, a2⟩, b1, b2⟩ := hp i c
     have hs : genI n l (i + 1) = mergeL (genI n l i) (gt l i).a (gt l i).b := rfl
     obtain ⟨a, ha⟩ := natI a1
     obtain ⟨b, hb⟩ := natI b1
     rw [ha, hb] at hs
     rw [ha] at a1 a2
     rw [hb] at b1 b2
     have r2 := hm (genI n l i) a b (by omega) (by omega) (by omega)
     rw [← hs] at r2
     have gls := gl (i + 1)
     clear hs
     simp (disch := omega) only [go_sem, ↓reduceIte, c_r02_Generate_b16, g1, ha, hb, gli]
     refine call_by r2 ?_
     simp (disch := omega) only [go_sem, ↓reduceIte, gls]
     exact ⟨i + 1, by simp, by omega, by omega⟩
    ·have g1 : decide ((i : Int) < l.length) = false := decide_eq_false (by omega)
     obtain rfl : i = l.length := by omega
     have hE : genL n l = genI n l l.length := rfl
     rw [hE]
     simp (disch := omega) only [go_sem, ↓reduceIte, c_r02_Generate_b16, g1, gli]
end
@[go_sem] def c_r10_pairs_r0 : LL := [qn 4 2]
@[go_sem] def c_r10_pairs_r1 : LL := [qn 5 2]
@[go_sem] def c_r10_pairs_r2 : LL := [qi 6 0]
@[go_sem] def c_r10_pairs_r3 : LL := [qm 7 6,qm 8 0,qz 9 8,qo .lss 10 7 9]
@[go_sem] def c_r10_pairs_r4 : LL := [qm 13 5,qm 14 0,qm 15 6,qd 16 1 14 15,ql 17 1 16,qm 18 1,qm 19 6,qd 20 1 18 19,ql 21 1 20,qu 22 [.int .i64 (0),.int .i64 (0)] [(0,1,.t 17),(1,1,.t 21)],
 ⟨some 23,.buildSl 2 16 (.agg [.int .i64 (0),.int .i64 (0)]) 1 [(0,.t 22)],none⟩,qp 24 2 16 13 23,qm 5 24]
@[go_sem] def c_r10_pairs_r5 : LL := [qm 11 6,qk .add 12 11 1,qm 6 12]
def c_r10_pairs_b6 : LC := (.seq (.seq (.reg c_r10_pairs_r3 [0,1,5,6,10]) (.cond (.t 10) .skip (.exit 0))) (.seq (.block 1 (.dreg [] c_r10_pairs_r4 [0,1,5,6])) (.reg c_r10_pairs_r5 [0,1,5,6])))
@[go_sem] def c_r10_pairs_r7 : LL := [qm 25 5,qm 4 25]
@[go_sem] def c_r10_pairs (F : Fn) : LC := (.seq (.reg c_r10_pairs_r0 [0,1]) (.seq (.reg c_r10_pairs_r1 [0,1,5]) (.seq (.seq (.reg c_r10_pairs_r2 [0,1,5,6]) (.block 0 (.loop [0,1,5,6] c_r10_pairs_b6))) (.seq (.reg c_r10_pairs_r7 [4]) .ret))))
def h_r10_pairs : Hints := hOf [] (c_r10_pairs fun _ => 0)
@[go_sem] def c_r10_Quotient_r0 : LL := [qB 3 0,qa 6 [.nl 1,.nl 3],qa 7 [.nl 1,.nl 1]]
@[go_sem] def c_r10_Quotient_r1 (F : Fn) : LL := [qm 18 1,qc 19 (F "r02.Quotient") [.t 18],qm 17 19,qx 20 17 0,qx 21 17 1,qx 22 17 2,qm 8 20,qm 9 21,qm 10 22]
@[go_sem] def c_r10_Quotient_r2 (F : Fn) : LL := [qm 24 2,qc 25 (F "r02.Quotient") [.t 24],qm 23 25,qx 26 23 0,qx 27 23 1,qx 28 23 2,qm 11 26,qm 12 27,qm 13 28]
@[go_sem] def c_r10_Quotient_r3 : LL := [qm 29 9,⟨some 30,.makeSl 1 8 (.int .i64 (0)) (.t 29),none⟩,qm 31 12,⟨some 32,.makeSl 3 24 (.agg [.int .i64 (0),.int .i64 (0),.int .i64 (0)]) (.t 31),none⟩,
 qu 33 [.nl 1,.nl 3] [(0,1,.t 30),(1,1,.t 32)],qa 14 [.nl 1,.nl 3],qs 2 14 33]
@[go_sem] def c_r10_Quotient_r4 : LL := [qi 15 0]
@[go_sem] def c_r10_Quotient_r5 : LL := [qm 34 15,qf 35 0 3,ql 36 1 35,qz 37 36,qo .lss 38 34 37]
@[go_sem] def c_r10_Quotient_r6 : LL := [qf 41 0 14,ql 42 1 41,qm 43 8,qm 44 15,qd 45 1 43 44,ql 46 1 45,qf 47 0 3,ql 48 1 47,qm 49 15,qd 50 1 48 49,ql 51 1 50,qd 52 1 42 46,qs 1 52 51]
@[go_sem] def c_r10_Quotient_r7 : LL := [qm 39 15,qk .add 40 39 1,qm 15 40]
def c_r10_Quotient_b8 : LC := (.seq (.seq (.reg c_r10_Quotient_r5 [3,6,7,8,11,14,15,38]) (.cond (.t 38) .skip (.exit 0))) (.seq (.block 1 (.dreg [] c_r10_Quotient_r6 [3,6,7,8,11,14,15])) (.reg c_r10_Quotient_r7 [3,6,7,8,11,14,15])))
@[go_sem] def c_r10_Quotient_r9 : LL := [qi 16 0]
@[go_sem] def c_r10_Quotient_r10 : LL := [qm 53 16,qf 54 1 3,ql 55 1 54,qz 56 55,qo .lss 57 53 56]
@[go_sem] def c_r10_Quotient_r11 : LL := [qf 60 1 14,ql 61 1 60,qm 62 11,qm 63 16,qd 64 1 62 63,ql 65 1 64,qf 66 1 3,ql 67 1 66,qm 68 16,qd 69 3 67 68,qf 70 0 69,ql 71 1 70,qm 72 8,qf 73 1 3,ql 74 1 73,qm 75 16,
 qd 76 3 74 75,qf 77 1 76,ql 78 1 77,qd 79 1 72 78,ql 80 1 79,qm 81 8,qf 82 1 3,ql 83 1 82,qm 84 16,qd 85 3 83 84,qf 86 2 85,ql 87 1 86,qd 88 1 81 87,ql 89 1 88,
 qu 90 [.int .i64 (0),.int .i64 (0),.int .i64 (0)] [(0,1,.t 71),(1,1,.t 80),(2,1,.t 89)],qd 91 3 61 65,qs 3 91 90]
@[go_sem] def c_r10_Quotient_r12 : LL := [qm 58 16,qk .add 59 58 1,qm 16 59]
def c_r10_Quotient_b13 : LC := (.seq (.seq (.reg c_r10_Quotient_r10 [3,6,7,8,11,14,16,57]) (.cond (.t 57) .skip (.exit 2))) (.seq (.block 3 (.dreg [] c_r10_Quotient_r11 [3,6,7,8,11,14,16])) (.reg c_r10_Quotient_r12 [3,6,7,8,11,14,16])))
@[go_sem] def c_r10_Quotient_r14 : LL := [qL 92 2 14,qm 93 8,qm 94 11,qu 95 [.nl 1,.nl 1] [(0,1,.t 93),(1,1,.t 94)],qs 2 6 92,qs 2 7 95]
@[go_sem] def c_r10_Quotient (F : Fn) : LC := (.seq (.reg c_r10_Quotient_r0 [1,2,3,6,7]) (.seq (.reg (c_r10_Quotient_r1 F) [2,3,6,7,8,9]) (.seq (.reg (c_r10_Quotient_r2 F) [3,6,7,8,9,11,12]) (.seq (.dreg [] c_r10_Quotient_r3 [3,6,7,8,11,14]) (.seq (.seq (.reg c_r10_Quotient_r4 [3,6,7,8,11,14,15]) (.block 0 (.loop [3,6,7,8,11,14,15] c_r10_Quotient_b8))) (.seq (.seq (.reg c_r10_Quotient_r9 [3,6,7,8,11,14,16]) (.block 2 (.loop [3,6,7,8,11,14,16] c_r10_Quotient_b13))) (.seq (.reg c_r10_Quotient_r14 [6,7]) .ret)))))))
def h_r10_Quotient : Hints := hOf [] (c_r10_Quotient fun _ => 0)
@[go_sem] def c_r10_glue_r0 : LL := [qB 3 0,qB 4 1,qB 5 2,qa 6 [.nl 1,.nl 3],qa 7 [.nl 1,.nl 1]]
@[go_sem] def c_r10_glue_r1 (F : Fn) : LL := [qf 13 0 3,ql 14 1 13,qz 15 14,qf 16 0 4,ql 17 1 16,qf 18 0 5,ql 19 1 18,qc 20 (F "r10.pairs") [.t 17,.t 19],qc 21 (F "r02.Generate") [.t 15,.t 20],qm 12 21,qx 22 12 0,qx 23 12 1,qm 8 22,qm 9 23]
@[go_sem] def c_r10_glue_r2 (F : Fn) : LL := [qf 25 1 3,ql 26 1 25,qz 27 26,qf 28 1 4,ql 29 1 28,qf 30 1 5,ql 31 1 30,qc 32 (F "r10.pairs") [.t 29,.t 31],qc 33 (F "r02.Generate") [.t 27,.t 32],qm 24 33,qx 34 24 0,qx 35 24 1,qm 10 34,qm 11 35]
@[go_sem] def c_r10_glue_r3 (F : Fn) : LL := [qL 36 2 3,qm 37 8,qm 38 10,qc 39 (F "r10.Quotient") [.t 36,.t 37,.t 38],qx 40 39 0,qx 41 39 1,qs 2 6 40,qs 2 7 41]
@[go_sem] def c_r10_glue (F : Fn) : LC := (.seq (.reg c_r10_glue_r0 [3,4,5,6,7]) (.seq (.dreg [(1,none,[],true),(7,none,[1],false)] (c_r10_glue_r1 F) [3,4,5,6,7,8]) (.seq (.dreg [(1,none,[],true),(7,none,[1],false)] (c_r10_glue_r2 F) [3,6,7,8,10]) (.seq (.reg (c_r10_glue_r3 F) [6,7]) .ret))))
def h_r10_glue : Hints := hOf [] (c_r10_glue fun _ => 0)
section
variable (P : Program) (F : String → Nat)
def K_r10_pairs : Prop := ∀ (f g : List Int), f.length ≤ 1000 → g.length = f.length → FC P (F "r10.pairs") [.lst 1 (ints f), .lst 1 (ints g)] (.arr 2 (prs (prL f g f.length))) []
def K_r10_Quotient : Prop := ∀ (g : G) (p r : List Int), validG g = 0 → Cong g p r → FC P (F "r10.Quotient") [gD g, .lst 1 (ints p), .lst 1 (ints r)] (.tup [gA (quoG g p r), mA (quoM p r)]) []
def K_r10_glue : Prop := ∀ (a g : G) (f h : Mo), MOk a g f → MOk a g h → FC P (F "r10.glue") [gD g, mD f, mD h] (.tup [gA (gluG g f h), mA (gluM g f h)]) []
end
section
variable {P : Program} {F : String → Nat} {α : Type}
theorem w_r10_pairs (f g : List Int) (hf : f.length ≤ 1000) (hg : g.length = f.length) : W P (c_r10_pairs F) (Done [.t 4] [] (.arr 2 (prs (prL f g f.length))) []) (init [.lst 1 (ints f), .lst 1 (ints g)]) := by
 refine W_of ?_
 have e1 := prL_len f g
 have e0 : prL f g 0 = [] := rfl
 have e2 := prL_succ f g
 generalize prL f g = pl at *
 simp (disch := omega) only [go_sem, ↓reduceIte]
 refine W_loop (fun i : Nat => ⟨[(0, .lst 1 (ints f)), (1, .lst 1 (ints g)), (5, .sl 0 0 i), (6, .int .i64 i)], [(0, .arr 2 (prs (pl i)))], 1⟩) (fun i => i ≤ f.length) (fun i => f.length - i) 0 ?_ ?_ ?_
 ·simp (disch := omega) only [go_sem, ↓reduceIte, e0]
  rfl
 ·simp
 ·intro i hi
  have e1i := e1 i
  by_cases c : i < f.length
  ·have g1 : decide ((i : Int) < f.length) = true := decide_eq_true (by omega)
   simp (disch := omega) only [go_sem, ↓reduceIte, c_r10_pairs_b6, g1, hg, e1i]
   exact ⟨i + 1, by simp [e2 i], by omega, by omega⟩
  ·have g1 : decide ((i : Int) < f.length) = false := decide_eq_false (by omega)
   obtain rfl : i = f.length := by omega
   simp (disch := omega) only [go_sem, ↓reduceIte, c_r10_pairs_b6, g1, e1i]
set_option maxRecDepth 100000 in
set_option maxHeartbeats 4000000 in
theorem w_r10_Quotient (hq : K_r02_Quotient P F) (g : G) (p r : List Int) (hv : validG g = 0) (hc : Cong g p r) :
  W P (c_r10_Quotient F) (Done [.c 6 true 2, .c 7 true 2] [] (.tup [gA (quoG g p r), mA (quoM p r)]) []) (init [gD g, .lst 1 (ints p), .lst 1 (ints r)]) := by
 refine W_of ?_
 have vs := valid_spec hv
 have hpl := hc.pl
 have hrl := hc.rl
 have r3 := hq p ⟨by omega, hc.ph⟩
 have r4 := hq r ⟨by omega, hc.rh⟩
 have q1 := quo_QS hc.ph _ (Nat.le_refl _)
 have q2 := quo_QS hc.rh _ (Nat.le_refl _)
 have eN : setL g.n (quo p p.length).1 (List.replicate (quo p p.length).2 0) g.n.length = qN g.n p p.length := by
  refine setL_eq (by simp [qN_len]) (fun i hi => ⟨(q1.b i (by omega)).1, qN_all hc.ph (Nat.le_refl _) hc.pt (by omega)⟩) fun k hk => ?_
  rw [qN_len] at hk
  obtain ⟨i, h1, _, h3⟩ := q1.s k hk
  exact ⟨i, by omega, h3⟩
 have eE : setL (reE (quo p p.length).1 g.e) (quo r r.length).1 (List.replicate (quo r r.length).2 ⟨0, 0, 0⟩) g.e.length = qN (reE (quo p p.length).1 g.e) r r.length := by
  refine setL_eq (by simp [qN_len]) (fun i hi => ⟨(q2.b i (by omega)).1, qN_all hc.rh (Nat.le_refl _) hc.rt (by omega)⟩) fun k hk => ?_
  rw [qN_len] at hk
  obtain ⟨i, h1, _, h3⟩ := q2.s k hk
  exact ⟨i, by omega, h3⟩
 unfold quoG quoM
 rw [← eN, ← eE]
 clear eN eE
 have hb1 := q1.b
 have hl1 := q1.l
 have hc1 := q1.c
 have hb2 := q2.b
 have hl2 := q2.l
 have hc2 := q2.c
 clear q1 q2
 rw [hpl] at r3 hb1 hl1 hc1 ⊢
 rw [hrl] at r4 hb2 hl2 hc2 ⊢
 generalize (quo p g.n.length).1 = q at *
 generalize (quo p g.n.length).2 = qc at *
 generalize (quo r g.e.length).1 = qe at *
 generalize (quo r g.e.length).2 = qec at *
 have hef : ∀ i : Nat, i < g.e.length → (0 ≤ (gt g.e i).f ∧ (gt g.e i).f < g.n.length) ∧ (0 ≤ (gt g.e i).o ∧ (gt g.e i).o < g.n.length) := fun i hi => (edge_fits hv (i := i) (by omega)).2
 have hr : ∀ i : Nat, i < g.e.length → gt (reE q g.e) i = ⟨(gt g.e i).t, gt q (gt g.e i).f, gt q (gt g.e i).o⟩ := fun i hi => reE_gt hi
 clear hc
 generalize reE q g.e = re at *
 obtain ⟨gn, ge⟩ := g
 simp only [gD, gA, mA] at *
 have lN : ∀ i, (setL gn q (List.replicate qc 0) i).length = qc := fun i => by rw [setL_len]; simp
 have lE : ∀ i, (setL re qe (List.replicate qec ⟨0, 0, 0⟩) i).length = qec := fun i => by rw [setL_len]; simp
 simp (disch := omega) only [go_sem, ↓reduceIte]
 refine call_by r3 ?_
 simp (disch := omega) only [go_sem, ↓reduceIte, hl1]
 refine call_by r4 ?_
 simp (disch := omega) only [go_sem, ↓reduceIte, hl1, hl2]
 refine W_loop (fun i : Nat => ⟨[(3, .pt 0 0), (6, .pt 3 0), (7, .pt 6 0), (8, .sl 7 0 gn.length), (11, .sl 8 0 ge.length), (14, .pt 11 0), (15, .int .i64 i)],
  [(0, .box [.lst 1 (ints gn), .lst 3 (eds ge)]), (1, .arr 1 []), (2, .arr 3 []), (3, .box [.sl 1 0 0, .sl 2 0 0]), (4, .arr 1 []), (5, .arr 1 []), (6, .box [.sl 4 0 0, .sl 5 0 0]), (7, .arr 1 (ints q)), (8, .arr 1 (ints qe)),
   (9, .arr 1 (ints (setL gn q (List.replicate qc 0) i))), (10, .arr 3 (eds (List.replicate qec ⟨0, 0, 0⟩))), (11, .box [.sl 9 0 qc, .sl 10 0 qec])], 12⟩) (fun i => i ≤ gn.length) (fun i => gn.length - i) 0 ?_ ?_ ?_
 ·simp (disch := omega) only [go_sem, ↓reduceIte, setL, hl1, hl2]
  rfl
 ·simp
 ·intro i hi
  have lNi := lN i
  by_cases c : i < gn.length
  ·have g1 : decide ((i : Int) < gn.length) = true := decide_eq_true (by omega)
   have hs : setL gn q (List.replicate qc 0) (i + 1) = (setL gn q (List.replicate qc 0) i).set (gt q i).toNat (gt gn i) := rfl
   obtain ⟨b1, b2⟩ := hb1 i c
   generalize setL gn q (List.replicate qc 0) i = sn at *
   simp (disch := omega) only [go_sem, ↓reduceIte, c_r10_Quotient_b8, g1, hl1, lNi]
   exact ⟨i + 1, by simp [hs], by omega, by omega⟩
  ·have g1 : decide ((i : Int) < gn.length) = false := decide_eq_false (by omega)
   obtain rfl : i = gn.length := by omega
   simp (disch := omega) only [go_sem, ↓reduceIte, c_r10_Quotient_b8, g1, hl1, hl2, lNi]
   generalize setL gn q (List.replicate qc 0) gn.length = on at *
   refine W_loop (fun i : Nat => ⟨[(3, .pt 0 0), (6, .pt 3 0), (7, .pt 6 0), (8, .sl 7 0 gn.length), (11, .sl 8 0 ge.length), (14, .pt 11 0), (16, .int .i64 i)],
    [(0, .box [.lst 1 (ints gn), .lst 3 (eds ge)]), (1, .arr 1 []), (2, .arr 3 []), (3, .box [.sl 1 0 0, .sl 2 0 0]), (4, .arr 1 []), (5, .arr 1 []), (6, .box [.sl 4 0 0, .sl 5 0 0]), (7, .arr 1 (ints q)), (8, .arr 1 (ints qe)),
     (9, .arr 1 (ints on)), (10, .arr 3 (eds (setL re qe (List.replicate qec ⟨0, 0, 0⟩) i))), (11, .box [.sl 9 0 qc, .sl 10 0 qec])], 12⟩) (fun i => i ≤ ge.length) (fun i => ge.length - i) 0 ?_ ?_ ?_
   ·simp (disch := omega) only [go_sem, ↓reduceIte, setL, hl1, hl2]
    rfl
   ·simp
   ·intro i hi
    have lEi := lE i
    by_cases c : i < ge.length
    ·have g1 : decide ((i : Int) < ge.length) = true := decide_eq_true (by omega)
     have hs : setL re qe (List.replicate qec ⟨0, 0, 0⟩) (i + 1) = (setL re qe (List.replicate qec ⟨0, 0, 0⟩) i).set (gt qe i).toNat (gt re i) := rfl
     rw [hr i c] at hs
     obtain ⟨⟨f1, f2⟩, o1, o2⟩ := hef i c
     obtain ⟨b1, b2⟩ := hb2 i c
     generalize setL re qe (List.replicate qec ⟨0, 0, 0⟩) i = se at *
     simp (disch := omega) only [go_sem, ↓reduceIte, c_r10_Quotient_b13, g1, hl1, hl2, lEi]
     exact ⟨i + 1, by simp [hs], by omega, by omega⟩
    ·have g1 : decide ((i : Int) < ge.length) = false := decide_eq_false (by omega)
     obtain rfl : i = ge.length := by omega
     simp (disch := omega) only [go_sem, ↓reduceIte, c_r10_Quotient_b13, g1, hl1, hl2, lNi, lEi]
     try rfl
theorem w_r10_glue (hp : K_r10_pairs P F) (hg : K_r02_Generate P F) (hq : K_r10_Quotient P F) (a g : G) (f h : Mo) (hf : MOk a g f) (hh : MOk a g h) :
  W P (c_r10_glue F) (Done [.c 6 true 2, .c 7 true 2] [] (.tup [gA (gluG g f h), mA (gluM g f h)]) []) (init [gD g, mD f, mD h]) := by
 refine W_of ?_
 have hc := glu_cong hf hh
 have va := valid_spec hf.va
 have vs := valid_spec hf.vb
 have f1 := hf.ln
 have f2 := hf.le
 have h1 := hh.ln
 have h2 := hh.le
 have p1 := hp f.n h.n (by omega) (by omega)
 have p2 := hp f.e h.e (by omega) (by omega)
 have g1 := hg g.n.length (prL f.n h.n f.n.length) (by omega) (by rw [prL_len]; omega) (glu_prN hf hh)
 have g2 := hg g.e.length (prL f.e h.e f.e.length) (by omega) (by rw [prL_len]; omega) (glu_prE hf hh)
 have r := hq g _ _ hf.vb hc
 have l1 : (gluN g f h).length = g.n.length := gluN_len
 have l2 : (gluE g f h).length = g.e.length := gluE_len
 rw [show genL g.n.length (prL f.n h.n f.n.length) = gluN g f h from rfl] at g1
 rw [show genL g.e.length (prL f.e h.e f.e.length) = gluE g f h from rfl] at g2
 rw [show quoG g (gluN g f h) (gluE g f h) = gluG g f h from rfl, show quoM (gluN g f h) (gluE g f h) = gluM g f h from rfl] at r
 have pl1 := prL_len f.n h.n f.n.length
 have pl2 := prL_len f.e h.e f.e.length
 generalize prL f.n h.n f.n.length = q1 at *
 generalize prL f.e h.e f.e.length = q2 at *
 generalize gluN g f h = gn' at *
 generalize gluE g f h = ge' at *
 generalize gluG g f h = gg at *
 generalize gluM g f h = gm at *
 clear hc vs va hf hh
 obtain ⟨gn, ge⟩ := g
 obtain ⟨fn, fe⟩ := f
 obtain ⟨hn, he⟩ := h
 obtain ⟨ggn, gge⟩ := gg
 obtain ⟨gmn, gme⟩ := gm
 simp only [gD, gA, mD, mA] at *
 simp (disch := omega) only [go_sem, ↓reduceIte]
 refine call_by p1 ?_
 simp (disch := omega) only [go_sem, ↓reduceIte, pl1, prs_length]
 refine call_by g1 ?_
 simp (disch := omega) only [go_sem, ↓reduceIte, l1]
 refine call_by p2 ?_
 simp (disch := omega) only [go_sem, ↓reduceIte, pl2, l1, prs_length]
 refine call_by g2 ?_
 simp (disch := omega) only [go_sem, ↓reduceIte, l1, l2]
 refine call_by r ?_
 simp (disch := omega) only [go_sem, ↓reduceIte]
 rfl
end
@[go_sem] def c_r05_Union_r0 : LL := [qB 2 0,qB 3 1,qa 4 [.nl 1,.nl 3],qa 5 [.nl 1,.nl 1],qa 6 [.nl 1,.nl 1],qi 7 0]
@[go_sem] def c_r05_Union_r1 (F : Fn) : LL := [qL 15 2 2,qc 16 (F "r05.Valid") [.t 15],qm 8 16]
@[go_sem] def c_r05_Union_r2 : LL := [qm 17 8,qk .neq 18 17 0]
@[go_sem] def c_r05_Union_r3 : LL := [qu 19 [.nl 1,.nl 3] [],qu 20 [.nl 1,.nl 1] [],qu 21 [.nl 1,.nl 1] [],qm 22 8,qs 2 4 19,qs 2 5 20,qs 2 6 21,qm 7 22]
@[go_sem] def c_r05_Union_r4 (F : Fn) : LL := [qL 23 2 3,qc 24 (F "r05.Valid") [.t 23],qm 9 24]
@[go_sem] def c_r05_Union_r5 : LL := [qm 25 9,qk .neq 26 25 0]
@[go_sem] def c_r05_Union_r6 : LL := [qu 27 [.nl 1,.nl 3] [],qu 28 [.nl 1,.nl 1] [],qu 29 [.nl 1,.nl 1] [],qm 30 9,qs 2 4 27,qs 2 5 28,qs 2 6 29,qm 7 30]
@[go_sem] def c_r05_Union_r7 : LL := [qf 31 0 2,ql 32 1 31,qz 33 32,qf 34 1 2,ql 35 1 34,qz 36 35,qm 10 33,qm 11 36]
@[go_sem] def c_r05_Union_r8 : LL := [qm 37 10,qf 38 0 3,ql 39 1 38,qz 40 39,qo .add 41 37 40,qk .gtr 42 41 40,qm 43 42,qg 43 false (qm 44 11),qg 43 false (qf 45 1 3),qg 43 false (ql 46 1 45),qg 43 false (qz 47 46),
 qg 43 false (qo .add 48 44 47),qg 43 false (qk .gtr 49 48 80),qQ 50 43 49]
@[go_sem] def c_r05_Union_r9 : LL := [qu 51 [.nl 1,.nl 3] [],qu 52 [.nl 1,.nl 1] [],qu 53 [.nl 1,.nl 1] [],qs 2 4 51,qs 2 5 52,qs 2 6 53,qi 7 3]
@[go_sem] def c_r05_Union_r10 (F : Fn) : LL := [qL 54 2 2,qc 55 (F "r05.Copied") [.t 54],qa 12 [.nl 1,.nl 3],qs 2 12 55]
@[go_sem] def c_r05_Union_r11 : LL := [qf 56 0 12,ql 57 1 56,qf 58 0 3,ql 59 1 58,qp 60 1 8 57 59,qf 61 0 12,qs 1 61 60]
@[go_sem] def c_r05_Union_r12 : LL := [qi 13 0]
@[go_sem] def c_r05_Union_r13 : LL := [qm 62 13,qf 63 1 3,ql 64 1 63,qz 65 64,qo .lss 66 62 65]
@[go_sem] def c_r05_Union_r14 : LL := [qf 69 1 3,ql 70 1 69,qm 71 13,qd 72 3 70 71,qL 73 3 72,qa 14 [.int .i64 (0),.int .i64 (0),.int .i64 (0)],qs 3 14 73]
@[go_sem] def c_r05_Union_r15 : LL := [qf 74 1 12,ql 75 1 74,qf 76 0 14,ql 77 1 76,qf 78 1 14,ql 79 1 78,qm 80 10,qo .add 81 79 80,qf 82 2 14,ql 83 1 82,qm 84 10,qo .add 85 83 84,
 qu 86 [.int .i64 (0),.int .i64 (0),.int .i64 (0)] [(0,1,.t 77),(1,1,.t 81),(2,1,.t 85)],
 ⟨some 87,.buildSl 3 24 (.agg [.int .i64 (0),.int .i64 (0),.int .i64 (0)]) 1 [(0,.t 86)],none⟩,qp 88 3 24 75 87,qf 89 1 12,qs 1 89 88]
@[go_sem] def c_r05_Union_r16 : LL := [qm 67 13,qk .add 68 67 1,qm 13 68]
def c_r05_Union_b17 : LC := (.seq (.seq (.reg c_r05_Union_r13 [3,4,5,6,10,11,12,13,66]) (.cond (.t 66) .skip (.exit 0))) (.seq (.block 1 (.seq (.reg c_r05_Union_r14 [3,4,5,6,10,11,12,13,14]) (.reg c_r05_Union_r15 [3,4,5,6,10,11,12,13]))) (.reg c_r05_Union_r16 [3,4,5,6,10,11,12,13])))
@[go_sem] def c_r05_Union_r18 (F : Fn) : LL := [qL 90 2 12,qm 91 10,qc 92 (F "r05.Numbers") [.k (.int .i64 (0)),.t 91],qm 93 11,qc 94 (F "r05.Numbers") [.k (.int .i64 (0)),.t 93],qu 95 [.nl 1,.nl 1] [(0,1,.t 92),(1,1,.t 94)],qm 96 10,qf 97 0 3,
 ql 98 1 97,qz 99 98,qc 100 (F "r05.Numbers") [.t 96,.t 99],qm 101 11,qf 102 1 3,ql 103 1 102,qz 104 103,qc 105 (F "r05.Numbers") [.t 101,.t 104],qu 106 [.nl 1,.nl 1] [(0,1,.t 100),(1,1,.t 105)],
 qs 2 4 90,qs 2 5 95,qs 2 6 106,qi 7 0]
@[go_sem] def c_r05_Union (F : Fn) : LC := (.seq (.reg c_r05_Union_r0 [2,3,4,5,6]) (.seq (.seq (.reg (c_r05_Union_r1 F) [2,3,4,5,6,8]) (.seq (.reg c_r05_Union_r2 [2,3,4,5,6,8,18]) (.cond (.t 18) (.seq (.reg c_r05_Union_r3 [4,5,6,7]) .ret) .skip))) (.seq (.seq (.reg (c_r05_Union_r4 F) [2,3,4,5,6,9]) (.seq (.reg c_r05_Union_r5 [2,3,4,5,6,9,26]) (.cond (.t 26) (.seq (.reg c_r05_Union_r6 [4,5,6,7]) .ret) .skip))) (.seq (.dreg [] c_r05_Union_r7 [2,3,4,5,6,10,11]) (.seq (.seq (.reg c_r05_Union_r8 [2,3,4,5,6,10,11,50]) (.cond (.t 50) (.seq (.reg c_r05_Union_r9 [4,5,6,7]) .ret) .skip)) (.seq (.reg (c_r05_Union_r10 F) [3,4,5,6,10,11,12]) (.seq (.reg c_r05_Union_r11 [3,4,5,6,10,11,12]) (.seq (.seq (.reg c_r05_Union_r12 [3,4,5,6,10,11,12,13]) (.block 0 (.loop [3,4,5,6,10,11,12,13] c_r05_Union_b17))) (.seq (.dreg [(0,none,[],true),(2,none,[0],true),(4,none,[0],true),(8,(some 128),[2,4],false),(10,none,[0],true),(13,(some 4096),[2,4,10],false),(15,none,[0],false)] (c_r05_Union_r18 F) [4,5,6,7]) .ret)))))))))
def h_r05_Union : Hints := hn [] [(0,[2,3,4,5,6]),(1,[2,3,4,5,6,8]),(2,[2,3,4,5,6,8,18]),(3,[4,5,6,7]),(4,[2,3,4,5,6,9]),(5,[2,3,4,5,6,9,26]),(6,[4,5,6,7]),(7,[2,3,4,5,6,10,11]),(8,[2,3,4,5,6,10,11,50]),(9,[4,5,6,7]),(10,[3,4,5,6,10,11,12]),(11,[3,4,5,6,10,11,12]),(12,[3,4,5,6,10,11,12,13]),(13,[3,4,5,6,10,11,12,13,66]),(14,[3,4,5,6,10,11,12,13]),(15,[3,4,5,6,10,11,12,13,14]),(16,[3,4,5,6,10,11,12,13]),(17,[4,5,6,7])] [(13,[3,4,5,6,10,11,12,13])]
section
variable (P : Program) (F : String → Nat)
def K_r05_Union : Prop := ∀ a b : G, FC P (F "r05.Union") [gD a, gD b] (uniD (uniG a b)) []
end
section
variable {P : Program} {F : String → Nat} {α : Type}
theorem w_r05_Union (hv : K_r05_Valid P F) (hcp : K_r05_Copied P F) (hn : K_r05_Numbers P F) (a b : G) : W P (c_r05_Union F) (Done [.c 4 true 2, .c 5 true 2, .c 6 true 2, .t 7] [] (uniD (uniG a b)) []) (init [gD a, gD b]) := by
 refine W_of ?_
 obtain ⟨an, ae⟩ := a
 obtain ⟨bn, be⟩ := b
 simp (disch := omega) only [go_sem, ↓reduceIte, gD]
 refine call_by (hv ⟨an, ae⟩) ?_
 simp (disch := omega) only [go_sem, ↓reduceIte]
 refine bran_ndec (fun c1 => ?_) (fun c1 => ?_)
 ·simp (disch := omega) only [go_sem, ↓reduceIte]
  simp [uniG, c1, uniD, gA, mA, ints, eds]
 ·obtain ⟨v1, v2, v3, v4⟩ := valid_spec c1
  simp only at v1 v2 v3 v4
  simp (disch := omega) only [go_sem, ↓reduceIte]
  refine call_by (hv ⟨bn, be⟩) ?_
  simp (disch := omega) only [go_sem, ↓reduceIte]
  refine bran_ndec (fun c2 => ?_) (fun c2 => ?_)
  ·simp (disch := omega) only [go_sem, ↓reduceIte]
   simp [uniG, c1, c2, uniD, gA, mA, ints, eds]
  ·obtain ⟨u1, u2, u3, u4⟩ := valid_spec c2
   simp only at u1 u2 u3 u4
   simp (disch := omega) only [go_sem, ↓reduceIte]
   have big : 40 < an.length + bn.length ∨ 80 < ae.length + be.length → uniG ⟨an, ae⟩ ⟨bn, be⟩ = (⟨[], []⟩, ⟨[], []⟩, ⟨[], []⟩, 3) := fun h => by
    simp only [uniG, c1, c2, ne_eq, not_true_eq_false, if_false, if_pos h]
   refine bran_dec (fun c3 => ?_) (fun c3 => ?_)
   ·simp (disch := omega) only [go_sem, ↓reduceIte, c3]
    rw [big (by omega)]
    simp [uniD, gA, mA, ints, eds]
   ·simp (disch := omega) only [go_sem, ↓reduceIte, c3]
    refine bran_dec (fun c4 => ?_) (fun c4 => ?_)
    ·simp (disch := omega) only [go_sem, ↓reduceIte]
     rw [big (by omega)]
     simp [uniD, gA, mA, ints, eds]
    ·have hg : uniG ⟨an, ae⟩ ⟨bn, be⟩ = (⟨an ++ bn, ae ++ be.map (shE1 an.length)⟩, ⟨nums 0 an.length, nums 0 ae.length⟩, ⟨nums an.length bn.length, nums ae.length be.length⟩, 0) := by
      simp only [uniG, c1, c2, ne_eq, not_true_eq_false, if_false]
      rw [if_neg (by omega)]
     have r := hcp ⟨an, ae⟩ (by simp only; omega) (by simp only; omega)
     simp only [gA, gD] at r
     simp (disch := omega) only [go_sem, ↓reduceIte]
     refine call_by r ?_
     simp (disch := omega) only [go_sem, ↓reduceIte]
     refine W_loop (fun i : Nat => ⟨[(3, D.pt 0 0), (4, D.pt 3 0), (5, D.pt 6 0), (6, D.pt 9 0), (10, D.int IntKind.i64 an.length),
       (11, D.int IntKind.i64 ae.length), (12, D.pt 12 0), (13, D.int IntKind.i64 i)],
      [(0, Ent.box [D.lst 1 (ints bn), D.lst 3 (eds be)]), (1, Ent.arr 1 []), (2, Ent.arr 3 []), (3, Ent.box [D.sl 1 0 0, D.sl 2 0 0]), (4, Ent.arr 1 []), (5, Ent.arr 1 []), (6, Ent.box [D.sl 4 0 0, D.sl 5 0 0]),
       (7, Ent.arr 1 []), (8, Ent.arr 1 []), (9, Ent.box [D.sl 7 0 0, D.sl 8 0 0]), (10, Ent.arr 1 (ints (an ++ bn))), (11, Ent.arr 3 (eds (ae ++ (be.take i).map (shE1 an.length)))),
       (12, Ent.box [D.sl 10 0 (an.length + bn.length), D.sl 11 0 (ae.length + i)])], 13⟩) (fun i => i ≤ be.length) (fun i => be.length - i) 0 ?_ ?_ ?_
     ·simp (disch := omega) only [go_sem, ↓reduceIte]
      simp
     ·omega
     ·intro i hi
      have el : (ae ++ (be.take i).map (shE1 an.length)).length = ae.length + i := by simp; omega
      simp (disch := omega) only [go_sem, ↓reduceIte, c_r05_Union_b17]
      refine bran_dec (fun c => ?_) (fun c => ?_)
      ·have hf := fits_spec (u4 _ (gt_mem (by omega) c))
       simp (disch := omega) only [go_sem, ↓reduceIte, el]
       exact ⟨i + 1, by rw [take_gt (by omega)]; simp [shE1, Nat.add_assoc], by omega, by omega⟩
      ·obtain rfl : i = be.length := by omega
       simp (disch := omega) only [go_sem, ↓reduceIte, el]
       refine call_by (hn _ _ (by omega) (by omega) (by omega)) ?_
       simp (disch := omega) only [go_sem, ↓reduceIte, nums_len]
       refine call_by (hn _ _ (by omega) (by omega) (by omega)) ?_
       simp (disch := omega) only [go_sem, ↓reduceIte, nums_len]
       refine call_by (hn _ _ (by omega) (by omega) (by omega)) ?_
       simp (disch := omega) only [go_sem, ↓reduceIte, nums_len]
       refine call_by (hn _ _ (by omega) (by omega) (by omega)) ?_
       simp (disch := omega) only [go_sem, ↓reduceIte, nums_len, List.length_map]
       rw [hg]
       simp [uniD, gA, mA]
end
section
section
variable {s : Sp}
theorem medU_ok {x : G} {h k : Mo} (e : cocE s x h k = 0) : MOk (poG s) x (Am.medU s h k) ∧ thenM (poP s) (Am.medU s h k) = h ∧ thenM (poK s) (Am.medU s h k) = k := by
 obtain ⟨h1, h2, h3, h4⟩ := cocE_ok.1 e
 obtain ⟨u, hu, hp, hk⟩ := h1.med h2 h3 h4
 have := h1.medU hu
 rw [hp, hk] at this
 rw [this]
 exact ⟨hu, hp, hk⟩
end
end
section
variable {P : Program} {F : String → Nat} {α : Type}
theorem bij_len {l : List Int} {n : Nat} (hd : distinct l = true) (hc : covers l n = true) (hb : ∀ x ∈ l, 0 ≤ x ∧ x < n) : l.length = n := by
 have h1 := imgs_inj.2 (show l.Nodup by simpa [distinct] using hd)
 have h2 := sur_imgs hb
 rw [hc, decide_eq_true_eq] at h2
 omega
theorem bijM {a b : G} {m : Mo} (h1 : injM a b m = true) (h2 : surM a b m = true) : (m.n.Nodup ∧ m.e.Nodup) ∧ m.n.length = b.n.length ∧ m.e.length = b.e.length ∧ (∀ x ∈ m.n, 0 ≤ x ∧ x < m.n.length) ∧ (∀ x ∈ m.e, 0 ≤ x ∧ x < m.e.length) := by
 unfold injM at h1
 unfold surM at h2
 simp only [Bool.and_eq_true, decide_eq_true_eq] at h1 h2
 obtain ⟨hv, h3, h4⟩ := h1
 obtain ⟨_, h5, h6⟩ := h2
 obtain ⟨b1, b2⟩ := validM_bd hv
 have e1 := bij_len h3 h5 b1
 have e2 := bij_len h4 h6 b2
 rw [← e1] at b1
 rw [← e2] at b2
 exact ⟨⟨by simpa [distinct] using h3, by simpa [distinct] using h4⟩, e1, e2, b1, b2⟩
theorem w_r06_Inverse (hv : K_r06_Valid P F) (hi : K_r06_Injective P F) (hj : K_r06_Surjective P F) (hb : K_r06_Back P F) (a b : G) (m : Mo) :
  W P (c_r06_Inverse F) (Done [.c 6 true 2, .t 7] [] (.tup [mA (invM a b m).1, .int .i64 (invM a b m).2]) []) (init [gD a, gD b, mD m]) := by
 refine W_of ?_
 have r1 := hv a b m
 have r2 := hi a b m
 have r3 := hj a b m
 have hl := @validM_len a b m
 have hbj := @bijM a b m
 have hE : invM a b m = if validM a b m ≠ 0 then (m0, validM a b m) else if injM a b m = true ∧ surM a b m = true then (⟨backL m.n m.n.length, backL m.e m.e.length⟩, 0) else (m0, 10) := rfl
 generalize invM a b m = q at *
 generalize validM a b m = v at *
 generalize injM a b m = b1 at *
 generalize surM a b m = b2 at *
 by_cases c : v = 0
 ·subst c
  rw [if_neg (by simp)] at hE
  obtain ⟨l1, l2, _, _, l3, l4⟩ := hl rfl
  have r2 := r2 (by unfold maxL; omega) (by unfold maxL; omega)
  cases b1
  ·rw [if_neg (by simp)] at hE
   subst hE
   simp only [gD, mD] at *
   simp (disch := omega) only [go_sem, ↓reduceIte]
   refine call_by r1 ?_
   simp (disch := omega) only [go_sem, ↓reduceIte]
   refine call_by r2 ?_
   simp (disch := omega) only [go_sem, ↓reduceIte]
   simp [m0, mA, ints]
  ·cases b2
   ·rw [if_neg (by simp)] at hE
    subst hE
    simp only [gD, mD] at *
    simp (disch := omega) only [go_sem, ↓reduceIte]
    refine call_by r1 ?_
    simp (disch := omega) only [go_sem, ↓reduceIte]
    refine call_by r2 ?_
    simp (disch := omega) only [go_sem, ↓reduceIte]
    refine call_by r3 ?_
    simp (disch := omega) only [go_sem, ↓reduceIte]
    simp [m0, mA, ints]
   ·rw [if_pos (by simp)] at hE
    subst hE
    obtain ⟨⟨n1, n2⟩, e1, e2, n3, n4⟩ := hbj rfl rfl
    have t1 := hb m.n b.n.length (by omega) (by omega)
    have t2 := hb m.e b.e.length (by omega) (by omega)
    rw [e1, e2]
    generalize backL m.n b.n.length = bn at *
    generalize backL m.e b.e.length = be at *
    simp only [gD, mD] at *
    simp (disch := omega) only [go_sem, ↓reduceIte]
    refine call_by r1 ?_
    simp (disch := omega) only [go_sem, ↓reduceIte]
    refine call_by r2 ?_
    simp (disch := omega) only [go_sem, ↓reduceIte]
    refine call_by r3 ?_
    simp (disch := omega) only [go_sem, ↓reduceIte]
    refine call_by t1 ?_
    simp (disch := omega) only [go_sem, ↓reduceIte]
    refine call_by t2 ?_
    simp (disch := omega) only [go_sem, ↓reduceIte]
    simp [mA]
 ·rw [if_pos c] at hE
  subst hE
  simp only [gD, mD] at *
  simp (disch := omega) only [go_sem, ↓reduceIte]
  refine call_by r1 ?_
  simp (disch := omega) only [go_sem, ↓reduceIte, c]
  simp [m0, mA, ints]
end
@[go_sem] def c_r10_Span_r0 : LL := [qB 1 0,qi 2 0]
@[go_sem] def c_r10_Span_r1 (F : Fn) : LL := [qf 4 0 1,qL 5 2 4,qf 6 2 1,qL 7 2 6,qf 8 6 1,qL 9 2 8,qc 10 (F "r06.Valid") [.t 5,.t 7,.t 9],qm 3 10]
@[go_sem] def c_r10_Span_r2 : LL := [qm 11 3,qk .neq 12 11 0]
@[go_sem] def c_r10_Span_r3 : LL := [qm 13 3,qm 2 13]
@[go_sem] def c_r10_Span_r4 (F : Fn) : LL := [qf 14 0 1,qL 15 2 14,qf 16 4 1,qL 17 2 16,qf 18 8 1,qL 19 2 18,qc 20 (F "r06.Valid") [.t 15,.t 17,.t 19],qm 2 20]
@[go_sem] def c_r10_Span (F : Fn) : LC := (.seq (.reg c_r10_Span_r0 [1]) (.seq (.seq (.reg (c_r10_Span_r1 F) [1,3]) (.seq (.reg c_r10_Span_r2 [1,3,12]) (.cond (.t 12) (.seq (.reg c_r10_Span_r3 [2]) .ret) .skip))) (.seq (.reg (c_r10_Span_r4 F) [2]) .ret)))
def h_r10_Span : Hints := hOf [] (c_r10_Span fun _ => 0)
@[go_sem] def c_r10_Of_r0 : LL := [qB 1 0,qa 2 [.nl 1,.nl 3],qa 3 [.nl 1,.nl 1],qa 4 [.nl 1,.nl 1],qi 5 0]
@[go_sem] def c_r10_Of_r1 (F : Fn) : LL := [qL 13 10 1,qc 14 (F "r10.Span") [.t 13],qm 6 14]
@[go_sem] def c_r10_Of_r2 : LL := [qm 15 6,qk .neq 16 15 0]
@[go_sem] def c_r10_Of_r3 : LL := [qu 17 [.nl 1,.nl 3] [],qu 18 [.nl 1,.nl 1] [],qu 19 [.nl 1,.nl 1] [],qm 20 6,qs 2 2 17,qs 2 3 18,qs 2 4 19,qm 5 20]
@[go_sem] def c_r10_Of_r4 (F : Fn) : LL := [qf 22 2 1,qL 23 2 22,qf 24 4 1,qL 25 2 24,qc 26 (F "r05.Union") [.t 23,.t 25],qm 21 26,qx 27 21 0,qx 28 21 1,qx 29 21 2,qx 30 21 3,qa 7 [.nl 1,.nl 3],qa 8 [.nl 1,.nl 1],qa 9 [.nl 1,.nl 1],
 qs 2 7 27,qs 2 8 28,qs 2 9 29,qm 10 30]
@[go_sem] def c_r10_Of_r5 : LL := [qm 31 10,qk .neq 32 31 0]
@[go_sem] def c_r10_Of_r6 : LL := [qu 33 [.nl 1,.nl 3] [],qu 34 [.nl 1,.nl 1] [],qu 35 [.nl 1,.nl 1] [],qm 36 10,qs 2 2 33,qs 2 3 34,qs 2 4 35,qm 5 36]
@[go_sem] def c_r10_Of_r7 (F : Fn) : LL := [qL 38 2 7,qf 39 6 1,qL 40 2 39,qL 41 2 8,qc 42 (F "r06.Then") [.t 40,.t 41],qf 43 8 1,qL 44 2 43,qL 45 2 9,qc 46 (F "r06.Then") [.t 44,.t 45],qc 47 (F "r10.glue") [.t 38,.t 42,.t 46],qm 37 47,qx 48 37 0,
 qx 49 37 1,qa 11 [.nl 1,.nl 3],qa 12 [.nl 1,.nl 1],qs 2 11 48,qs 2 12 49]
@[go_sem] def c_r10_Of_r8 (F : Fn) : LL := [qL 50 2 11,qL 51 2 8,qL 52 2 12,qc 53 (F "r06.Then") [.t 51,.t 52],qL 54 2 9,qL 55 2 12,qc 56 (F "r06.Then") [.t 54,.t 55],qs 2 2 50,qs 2 3 53,qs 2 4 56,qi 5 0]
@[go_sem] def c_r10_Of (F : Fn) : LC := (.seq (.reg c_r10_Of_r0 [1,2,3,4]) (.seq (.seq (.reg (c_r10_Of_r1 F) [1,2,3,4,6]) (.seq (.reg c_r10_Of_r2 [1,2,3,4,6,16]) (.cond (.t 16) (.seq (.reg c_r10_Of_r3 [2,3,4,5]) .ret) .skip))) (.seq (.reg (c_r10_Of_r4 F) [1,2,3,4,7,8,9,10]) (.seq (.seq (.reg c_r10_Of_r5 [1,2,3,4,7,8,9,10,32]) (.cond (.t 32) (.seq (.reg c_r10_Of_r6 [2,3,4,5]) .ret) .skip)) (.seq (.dreg [(0,none,[],true),(4,none,[0],true),(6,(some 32),[4],false),(7,(some 0),[4],false),(8,none,[0],false)] (c_r10_Of_r7 F) [2,3,4,8,9,11,12]) (.seq (.dreg [(0,none,[],true),(3,none,[0],true),(4,(some 0),[3],false),(5,(some 0),[3],false),(6,none,[0],false)] (c_r10_Of_r8 F) [2,3,4,5]) .ret))))))
def h_r10_Of : Hints := hOf [] (c_r10_Of fun _ => 0)
@[go_sem] def c_r10_Cocone_r0 : LL := [qB 4 0,qB 5 1,qB 6 2,qB 7 3,qi 8 0]
@[go_sem] def c_r10_Cocone_r1 (F : Fn) : LL := [qL 16 10 4,qc 17 (F "r10.Span") [.t 16],qm 9 17]
@[go_sem] def c_r10_Cocone_r2 : LL := [qm 18 9,qk .neq 19 18 0]
@[go_sem] def c_r10_Cocone_r3 : LL := [qm 20 9,qm 8 20]
@[go_sem] def c_r10_Cocone_r4 (F : Fn) : LL := [qf 21 2 4,qL 22 2 21,qL 23 2 5,qL 24 2 6,qc 25 (F "r06.Valid") [.t 22,.t 23,.t 24],qm 10 25]
@[go_sem] def c_r10_Cocone_r5 : LL := [qm 26 10,qk .neq 27 26 0]
@[go_sem] def c_r10_Cocone_r6 : LL := [qm 28 10,qm 8 28]
@[go_sem] def c_r10_Cocone_r7 (F : Fn) : LL := [qf 29 4 4,qL 30 2 29,qL 31 2 5,qL 32 2 7,qc 33 (F "r06.Valid") [.t 30,.t 31,.t 32],qm 11 33]
@[go_sem] def c_r10_Cocone_r8 : LL := [qm 34 11,qk .neq 35 34 0]
@[go_sem] def c_r10_Cocone_r9 : LL := [qm 36 11,qm 8 36]
@[go_sem] def c_r10_Cocone_r10 (F : Fn) : LL := [qf 38 2 4,qL 39 2 38,qf 40 4 4,qL 41 2 40,qc 42 (F "r05.Union") [.t 39,.t 41],qm 37 42,qx 43 37 0,qx 44 37 1,qx 45 37 2,qx 46 37 3,qa 12 [.nl 1,.nl 3],qa 13 [.nl 1,.nl 1],
 qa 14 [.nl 1,.nl 1],qs 2 12 43,qs 2 13 44,qs 2 14 45,qm 15 46]
@[go_sem] def c_r10_Cocone_r11 : LL := [qm 47 15,qk .neq 48 47 0]
@[go_sem] def c_r10_Cocone_r12 : LL := [qm 49 15,qm 8 49]
@[go_sem] def c_r10_Cocone_r13 (F : Fn) : LL := [qf 50 6 4,qL 51 2 50,qL 52 2 6,qc 53 (F "r06.Then") [.t 51,.t 52],qf 54 8 4,qL 55 2 54,qL 56 2 7,qc 57 (F "r06.Then") [.t 55,.t 56],qc 58 (F "r06.Same") [.t 53,.t 57],qv 59 58]
@[go_sem] def c_r10_Cocone_r14 : LL := [qi 8 11]
@[go_sem] def c_r10_Cocone_r15 : LL := [qi 8 0]
@[go_sem] def c_r10_Cocone (F : Fn) : LC := (.seq (.reg c_r10_Cocone_r0 [4,5,6,7]) (.seq (.seq (.reg (c_r10_Cocone_r1 F) [4,5,6,7,9]) (.seq (.reg c_r10_Cocone_r2 [4,5,6,7,9,19]) (.cond (.t 19) (.seq (.reg c_r10_Cocone_r3 [8]) .ret) .skip))) (.seq (.seq (.reg (c_r10_Cocone_r4 F) [4,5,6,7,10]) (.seq (.reg c_r10_Cocone_r5 [4,5,6,7,10,27]) (.cond (.t 27) (.seq (.reg c_r10_Cocone_r6 [8]) .ret) .skip))) (.seq (.seq (.reg (c_r10_Cocone_r7 F) [4,6,7,11]) (.seq (.reg c_r10_Cocone_r8 [4,6,7,11,35]) (.cond (.t 35) (.seq (.reg c_r10_Cocone_r9 [8]) .ret) .skip))) (.seq (.seq (.reg (c_r10_Cocone_r10 F) [4,6,7,15]) (.seq (.reg c_r10_Cocone_r11 [4,6,7,15,48]) (.cond (.t 48) (.seq (.reg c_r10_Cocone_r12 [8]) .ret) .skip))) (.seq (.seq (.dreg [(3,none,[],true),(5,(some 16),[3],false),(6,(some 0),[3],false)] (c_r10_Cocone_r13 F) [59]) (.cond (.t 59) (.seq (.reg c_r10_Cocone_r14 [8]) .ret) .skip)) (.seq (.reg c_r10_Cocone_r15 [8]) .ret)))))))
def h_r10_Cocone : Hints := hOf [] (c_r10_Cocone fun _ => 0)
@[go_sem] def c_r10_onto_r0 : LL := [qn 10 1]
@[go_sem] def c_r10_onto_r1 : LL := [qm 14 0,⟨some 15,.makeSl 1 8 (.int .i64 (0)) (.t 14),none⟩,qm 11 15]
@[go_sem] def c_r10_onto_r2 : LL := [qi 12 0]
@[go_sem] def c_r10_onto_r3 : LL := [qm 16 12,qm 17 1,qz 18 17,qo .lss 19 16 18]
@[go_sem] def c_r10_onto_r4 : LL := [qm 22 11,qm 23 1,qm 24 12,qd 25 1 23 24,ql 26 1 25,qm 27 2,qm 28 12,qd 29 1 27 28,ql 30 1 29,qd 31 1 22 26,qs 1 31 30]
@[go_sem] def c_r10_onto_r5 : LL := [qm 20 12,qk .add 21 20 1,qm 12 21]
def c_r10_onto_b6 : LC := (.seq (.seq (.reg c_r10_onto_r3 [1,2,3,4,11,12,19]) (.cond (.t 19) .skip (.exit 0))) (.seq (.block 1 (.dreg [] c_r10_onto_r4 [1,2,3,4,11,12])) (.reg c_r10_onto_r5 [1,2,3,4,11,12])))
@[go_sem] def c_r10_onto_r7 : LL := [qi 13 0]
@[go_sem] def c_r10_onto_r8 : LL := [qm 32 13,qm 33 3,qz 34 33,qo .lss 35 32 34]
@[go_sem] def c_r10_onto_r9 : LL := [qm 38 11,qm 39 3,qm 40 13,qd 41 1 39 40,ql 42 1 41,qm 43 4,qm 44 13,qd 45 1 43 44,ql 46 1 45,qd 47 1 38 42,qs 1 47 46]
@[go_sem] def c_r10_onto_r10 : LL := [qm 36 13,qk .add 37 36 1,qm 13 37]
def c_r10_onto_b11 : LC := (.seq (.seq (.reg c_r10_onto_r8 [3,4,11,13,35]) (.cond (.t 35) .skip (.exit 2))) (.seq (.block 3 (.dreg [] c_r10_onto_r9 [3,4,11,13])) (.reg c_r10_onto_r10 [3,4,11,13])))
@[go_sem] def c_r10_onto_r12 : LL := [qm 48 11,qm 10 48]
@[go_sem] def c_r10_onto (F : Fn) : LC := (.seq (.reg c_r10_onto_r0 [0,1,2,3,4]) (.seq (.reg c_r10_onto_r1 [1,2,3,4,11]) (.seq (.seq (.reg c_r10_onto_r2 [1,2,3,4,11,12]) (.block 0 (.loop [1,2,3,4,11,12] c_r10_onto_b6))) (.seq (.seq (.reg c_r10_onto_r7 [3,4,11,13]) (.block 2 (.loop [3,4,11,13] c_r10_onto_b11))) (.seq (.reg c_r10_onto_r12 [10]) .ret)))))
def h_r10_onto : Hints := hOf [] (c_r10_onto fun _ => 0)
@[go_sem] def c_r10_Mediate_r0 : LL := [qB 4 0,qB 5 1,qB 6 2,qB 7 3,qa 8 [.nl 1,.nl 1],qi 9 0]
@[go_sem] def c_r10_Mediate_r1 (F : Fn) : LL := [qL 15 10 4,qL 16 2 5,qL 17 2 6,qL 18 2 7,qc 19 (F "r10.Cocone") [.t 15,.t 16,.t 17,.t 18],qm 10 19]
@[go_sem] def c_r10_Mediate_r2 : LL := [qm 20 10,qk .neq 21 20 0]
@[go_sem] def c_r10_Mediate_r3 : LL := [qu 22 [.nl 1,.nl 1] [],qm 23 10,qs 2 8 22,qm 9 23]
@[go_sem] def c_r10_Mediate_r4 (F : Fn) : LL := [qL 25 10 4,qc 26 (F "r10.Of") [.t 25],qm 24 26,qx 27 24 0,qx 28 24 1,qx 29 24 2,qx 30 24 3,qa 11 [.nl 1,.nl 3],qa 12 [.nl 1,.nl 1],qa 13 [.nl 1,.nl 1],qs 2 11 27,qs 2 12 28,qs 2 13 29,
 qm 14 30]
@[go_sem] def c_r10_Mediate_r5 : LL := [qm 31 14,qk .neq 32 31 0]
@[go_sem] def c_r10_Mediate_r6 : LL := [qu 33 [.nl 1,.nl 1] [],qm 34 14,qs 2 8 33,qm 9 34]
@[go_sem] def c_r10_Mediate_r7 (F : Fn) : LL := [qf 35 0 11,ql 36 1 35,qz 37 36,qf 38 0 12,ql 39 1 38,qf 40 0 6,ql 41 1 40,qf 42 0 13,ql 43 1 42,qf 44 0 7,ql 45 1 44,qc 46 (F "r10.onto") [.t 37,.t 39,.t 41,.t 43,.t 45],qf 47 1 11,
 ql 48 1 47,qz 49 48,qf 50 1 12,ql 51 1 50,qf 52 1 6,ql 53 1 52,qf 54 1 13,ql 55 1 54,qf 56 1 7,ql 57 1 56,qc 58 (F "r10.onto") [.t 49,.t 51,.t 53,.t 55,.t 57],
 qu 59 [.nl 1,.nl 1] [(0,1,.t 46),(1,1,.t 58)],qs 2 8 59,qi 9 0]
@[go_sem] def c_r10_Mediate (F : Fn) : LC := (.seq (.reg c_r10_Mediate_r0 [4,5,6,7,8]) (.seq (.seq (.reg (c_r10_Mediate_r1 F) [4,6,7,8,10]) (.seq (.reg c_r10_Mediate_r2 [4,6,7,8,10,21]) (.cond (.t 21) (.seq (.reg c_r10_Mediate_r3 [8,9]) .ret) .skip))) (.seq (.reg (c_r10_Mediate_r4 F) [6,7,8,11,12,13,14]) (.seq (.seq (.reg c_r10_Mediate_r5 [6,7,8,11,12,13,14,32]) (.cond (.t 32) (.seq (.reg c_r10_Mediate_r6 [8,9]) .ret) .skip)) (.seq (.dreg [(11,none,[],true),(13,(some 4096),[11],false),(16,(some 32768),[11],false),(18,(some 131072),[11],false),(20,(some 524288),[11],false),(22,(some 2097152),[11],false)] (c_r10_Mediate_r7 F) [8,9]) .ret)))))
def h_r10_Mediate : Hints := hOf [] (c_r10_Mediate fun _ => 0)
@[go_sem] def c_r10_Check_r0 : LL := [qB 4 0,qB 5 1,qB 6 2,qB 7 3,qb 8 false]
@[go_sem] def c_r10_Check_r1 (F : Fn) : LL := [qL 15 10 4,qL 16 2 5,qL 17 2 6,qL 18 2 7,qc 19 (F "r10.Mediate") [.t 15,.t 16,.t 17,.t 18],qm 14 19,qx 20 14 0,qx 21 14 1,qa 9 [.nl 1,.nl 1],qs 2 9 20,qm 10 21]
@[go_sem] def c_r10_Check_r2 : LL := [qm 22 10,qk .neq 23 22 0]
@[go_sem] def c_r10_Check_r3 : LL := [qb 8 false]
@[go_sem] def c_r10_Check_r4 (F : Fn) : LL := [qL 25 10 4,qc 26 (F "r10.Of") [.t 25],qm 24 26,qx 27 24 0,qx 28 24 1,qx 29 24 2,qx 30 24 3,qa 11 [.nl 1,.nl 3],qa 12 [.nl 1,.nl 1],qa 13 [.nl 1,.nl 1],qs 2 11 27,qs 2 12 28,qs 2 13 29,
 qm 10 30]
@[go_sem] def c_r10_Check_r5 : LL := [qm 31 10,qk .neq 32 31 0]
@[go_sem] def c_r10_Check_r6 : LL := [qb 8 false]
@[go_sem] def c_r10_Check_r7 (F : Fn) : LL := [qL 34 2 11,qL 35 2 5,qL 36 2 9,qc 37 (F "r06.Inverse") [.t 34,.t 35,.t 36],qm 33 37,qx 38 33 0,qx 39 33 1,qm 10 39]
@[go_sem] def c_r10_Check_r8 : LL := [qm 40 10,qk .eql 41 40 0,qm 8 41]
@[go_sem] def c_r10_Check (F : Fn) : LC := (.seq (.reg c_r10_Check_r0 [4,5,6,7]) (.seq (.reg (c_r10_Check_r1 F) [4,5,9,10]) (.seq (.seq (.reg c_r10_Check_r2 [4,5,9,23]) (.cond (.t 23) (.seq (.reg c_r10_Check_r3 [8]) .ret) .skip)) (.seq (.reg (c_r10_Check_r4 F) [5,9,10,11]) (.seq (.seq (.reg c_r10_Check_r5 [5,9,11,32]) (.cond (.t 32) (.seq (.reg c_r10_Check_r6 [8]) .ret) .skip)) (.seq (.reg (c_r10_Check_r7 F) [10]) (.seq (.reg c_r10_Check_r8 [8]) .ret)))))))
def h_r10_Check : Hints := hOf [] (c_r10_Check fun _ => 0)
section
variable (P : Program) (F : String → Nat)
def K_r10_Span : Prop := ∀ s : Sp, FC P (F "r10.Span") [spD s] (.int .i64 (spE s)) []
def K_r10_Of : Prop := ∀ s : Sp, FC P (F "r10.Of") [spD s] (poD (poR s)) []
def K_r10_onto : Prop := ∀ (n : Nat) (p h q k : List Int), n ≤ 1000 → OnOk n p h → OnOk n q k → FC P (F "r10.onto") [.int .i64 n, .lst 1 (ints p), .lst 1 (ints h), .lst 1 (ints q), .lst 1 (ints k)] (.arr 1 (ints (ontoL n p h q k))) []
def K_r10_Cocone : Prop := ∀ (s : Sp) (x : G) (h k : Mo), FC P (F "r10.Cocone") [spD s, gD x, mD h, mD k] (.int .i64 (cocE s x h k)) []
def K_r10_Mediate : Prop := ∀ (s : Sp) (x : G) (h k : Mo), FC P (F "r10.Mediate") [spD s, gD x, mD h, mD k] (.tup [mA (medP s x h k).1, .int .i64 (medP s x h k).2]) []
def K_r10_Check : Prop := ∀ (s : Sp) (x : G) (h k : Mo), FC P (F "r10.Check") [spD s, gD x, mD h, mD k] (.bool (chkP s x h k)) []
end
section
variable {P : Program} {F : String → Nat} {α : Type}
theorem w_r10_Span (hv : K_r06_Valid P F) (s : Sp) : W P (c_r10_Span F) (Done [.t 2] [] (.int .i64 (spE s)) []) (init [spD s]) := by
 refine W_of ?_
 have r1 := hv s.a s.b s.f
 have r2 := hv s.a s.c s.g
 have : spE s = if validM s.a s.b s.f ≠ 0 then validM s.a s.b s.f else validM s.a s.c s.g := rfl
 rw [this]
 generalize validM s.a s.b s.f = u at *
 generalize validM s.a s.c s.g = v at *
 simp only [gD, mD] at r1 r2
 simp (disch := omega) only [go_sem, ↓reduceIte, spD]
 refine call_by r1 ?_
 simp (disch := omega) only [go_sem, ↓reduceIte]
 refine bran_ndec (fun c => ?_) (fun c => ?_)
 ·simp (disch := omega) only [go_sem, ↓reduceIte]
  try simp [c]
 ·subst c
  simp (disch := omega) only [go_sem, ↓reduceIte]
  refine call_by r2 ?_
  simp (disch := omega) only [go_sem, ↓reduceIte]
  try simp
set_option maxHeartbeats 1000000 in
theorem w_r10_Of (hp : K_r10_Span P F) (hu : K_r05_Union P F) (ht : K_r06_Then P F) (hg : K_r10_glue P F) (s : Sp) : W P (c_r10_Of F) (Done [.c 2 true 2, .c 3 true 2, .c 4 true 2, .t 5] [] (poD (poR s)) []) (init [spD s]) := by
 refine W_of ?_
 have r0 := hp s
 by_cases he : spE s = 0
 ·obtain ⟨hf, hgg⟩ := spE_ok.1 he
  rw [he] at r0
  have r1 := hu s.b s.c
  rw [uniG_ok hf.vb hgg.vb] at r1
  by_cases hb : Big s.b s.c
  ·rw [if_pos hb] at r1
   rw [poR_big he hb]
   simp only [uniD, gD, gA, mA, g0, m0, spD] at *
   simp (disch := omega) only [go_sem, ↓reduceIte]
   refine call_by r0 ?_
   simp (disch := omega) only [go_sem, ↓reduceIte]
   refine call_by r1 ?_
   simp (disch := omega) only [go_sem, ↓reduceIte]
   refine bran_ndec (fun _ => ?_) (fun h => absurd h (by decide))
   simp (disch := omega) only [go_sem, ↓reduceIte]
   simp [poD, g0, m0, gA, mA, ints, eds]
  ·rw [if_neg hb] at r1
   have hs : SOk s := ⟨hf, hgg, hb⟩
   rw [poR_ok hs]
   have il := inL_ok hf.vb hgg.vb hb
   have ir := inR_ok hf.vb hgg.vb hb
   have va := valid_spec hf.va
   have vb := valid_spec hf.vb
   have vc := valid_spec hgg.vb
   have ln := hf.ln
   have le := hf.le
   have mn := hgg.ln
   have me := hgg.le
   have bf := validM_bd (mok.2 hf)
   have bg := validM_bd (mok.2 hgg)
   have bi := validM_bd (mok.2 il)
   have br := validM_bd (mok.2 ir)
   have iln := il.ln
   have ile := il.le
   have irn := ir.ln
   have ire := ir.le
   have t1 := ht s.f (idM s.b) (by omega) (by omega) (by rw [iln]; exact bf.1) (by rw [ile]; exact bf.2)
   have t2 := ht s.g (inR s.b s.c) (by omega) (by omega) (by rw [irn]; exact bg.1) (by rw [ire]; exact bg.2)
   have q := hg s.a (unG s.b s.c) (poF s) (poH s) hs.uF hs.uH
   rw [show gluG (unG s.b s.c) (poF s) (poH s) = poG s from rfl, show gluM (unG s.b s.c) (poF s) (poH s) = poQ s from rfl] at q
   have qn := hs.q.ln
   have qe := hs.q.le
   have t3 := ht (idM s.b) (poQ s) (by omega) (by omega) (by rw [qn]; exact bi.1) (by rw [qe]; exact bi.2)
   have t4 := ht (inR s.b s.c) (poQ s) (by omega) (by omega) (by rw [qn]; exact br.1) (by rw [qe]; exact br.2)
   rw [show thenM (idM s.b) (poQ s) = poP s from rfl] at t3
   rw [show thenM (inR s.b s.c) (poQ s) = poK s from rfl] at t4
   rw [show thenM s.f (idM s.b) = poF s from rfl] at t1
   rw [show thenM s.g (inR s.b s.c) = poH s from rfl] at t2
   clear bf bg bi br il ir hs va vb vc hf hgg he hb iln ile irn ire qn qe
   generalize poG s = d at *
   generalize poQ s = qq at *
   generalize poP s = pp at *
   generalize poK s = kk at *
   generalize poF s = ff at *
   generalize poH s = hh at *
   generalize unG s.b s.c = uu at *
   generalize idM s.b = ii at *
   generalize inR s.b s.c = jj at *
   obtain ⟨dn, de⟩ := d
   obtain ⟨un, ue⟩ := uu
   obtain ⟨qn, qe⟩ := qq
   obtain ⟨pn, pe⟩ := pp
   obtain ⟨kn, ke⟩ := kk
   obtain ⟨i1, i2⟩ := ii
   obtain ⟨j1, j2⟩ := jj
   obtain ⟨f1, f2⟩ := ff
   obtain ⟨h1, h2⟩ := hh
   simp only [uniD, gD, gA, mD, mA, spD, poD] at *
   simp (disch := omega) only [go_sem, ↓reduceIte]
   refine call_by r0 ?_
   simp (disch := omega) only [go_sem, ↓reduceIte]
   refine call_by r1 ?_
   simp (disch := omega) only [go_sem, ↓reduceIte]
   refine call_by t1 ?_
   simp (disch := omega) only [go_sem, ↓reduceIte]
   refine call_by t2 ?_
   simp (disch := omega) only [go_sem, ↓reduceIte]
   refine call_by q ?_
   simp (disch := omega) only [go_sem, ↓reduceIte]
   refine call_by t3 ?_
   simp (disch := omega) only [go_sem, ↓reduceIte]
   refine call_by t4 ?_
   simp (disch := omega) only [go_sem, ↓reduceIte]
   try rfl
 ·have : poR s = (g0, m0, m0, spE s) := by
   have : poErr s = spE s := by unfold poErr; rw [if_pos he]
   unfold poR; rw [this, if_neg he]
  rw [this]
  generalize spE s = e at *
  simp only [spD] at *
  simp (disch := omega) only [go_sem, ↓reduceIte]
  refine call_by r0 ?_
  simp (disch := omega) only [go_sem, ↓reduceIte, he]
  simp [poD, g0, m0, gA, mA, ints, eds]
theorem w_r10_onto (n : Nat) (p h q k : List Int) (hn : n ≤ 1000) (h1 : OnOk n p h) (h2 : OnOk n q k) :
  W P (c_r10_onto F) (Done [.t 10] [] (.arr 1 (ints (ontoL n p h q k))) []) (init [.int .i64 n, .lst 1 (ints p), .lst 1 (ints h), .lst 1 (ints q), .lst 1 (ints k)]) := by
 refine W_of ?_
 obtain ⟨p1, p2, p3⟩ := h1
 obtain ⟨q1, q2, q3⟩ := h2
 have sl : ∀ (x y z : List Int) (i : Nat), (setL x y z i).length = z.length := fun x y z i => setL_len x y z i
 have ss : ∀ (x y z : List Int) (i : Nat), setL x y z (i + 1) = (setL x y z i).set (gt y i).toNat (gt x i) := fun x y z i => rfl
 have rl : (List.replicate n (0 : Int)).length = n := by simp
 have aE : ontoL n p h q k = setL k q (setL h p (List.replicate n 0) p.length) q.length := rfl
 rw [aE]
 clear aE
 simp (disch := omega) only [go_sem, ↓reduceIte]
 generalize List.replicate n (0 : Int) = z0 at *
 refine W_loop (fun i : Nat => ⟨[(1, .lst 1 (ints p)), (2, .lst 1 (ints h)), (3, .lst 1 (ints q)), (4, .lst 1 (ints k)), (11, .sl 0 0 n), (12, .int .i64 i)], [(0, .arr 1 (ints (setL h p z0 i)))], 1⟩) (fun i => i ≤ p.length) (fun i => p.length - i) 0 ?_ ?_ ?_
 ·simp (disch := omega) only [go_sem, ↓reduceIte, setL, rl]
  rfl
 ·simp
 ·intro j hj
  have lj := sl h p z0 j
  rw [rl] at lj
  have sj := ss h p z0 j
  by_cases c : j < p.length
  ·have g1 : decide ((j : Int) < p.length) = true := decide_eq_true (by omega)
   obtain ⟨b1, b2⟩ := p3 j c
   generalize setL h p z0 j = z at *
   simp (disch := omega) only [go_sem, ↓reduceIte, c_r10_onto_b6, g1, lj]
   exact ⟨j + 1, by simp [sj], by omega, by omega⟩
  ·have g1 : decide ((j : Int) < p.length) = false := decide_eq_false (by omega)
   obtain rfl : j = p.length := by omega
   simp (disch := omega) only [go_sem, ↓reduceIte, c_r10_onto_b6, g1, lj]
   generalize setL h p z0 p.length = z1 at *
   refine W_loop (fun i : Nat => ⟨[(3, .lst 1 (ints q)), (4, .lst 1 (ints k)), (11, .sl 0 0 n), (13, .int .i64 i)], [(0, .arr 1 (ints (setL k q z1 i)))], 1⟩) (fun i => i ≤ q.length) (fun i => q.length - i) 0 ?_ ?_ ?_
   ·simp (disch := omega) only [go_sem, ↓reduceIte, setL, lj]
    rfl
   ·simp
   ·intro j hj
    have lj2 := sl k q z1 j
    rw [lj] at lj2
    have sj := ss k q z1 j
    by_cases c : j < q.length
    ·have g1 : decide ((j : Int) < q.length) = true := decide_eq_true (by omega)
     obtain ⟨b1, b2⟩ := q3 j c
     generalize setL k q z1 j = z at *
     simp (disch := omega) only [go_sem, ↓reduceIte, c_r10_onto_b11, g1, lj2]
     exact ⟨j + 1, by simp [sj], by omega, by omega⟩
    ·have g1 : decide ((j : Int) < q.length) = false := decide_eq_false (by omega)
     obtain rfl : j = q.length := by omega
     simp (disch := omega) only [go_sem, ↓reduceIte, c_r10_onto_b11, g1, lj2]
end
end Go.Am
