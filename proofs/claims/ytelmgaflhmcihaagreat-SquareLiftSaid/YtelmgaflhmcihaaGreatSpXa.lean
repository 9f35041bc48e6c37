/- The graph package and its reference: parts. -/
import Derived.Test.YtelmgaflhmcihaaGreatSpPa
import Derived.Test.YtelmgaflhmcihaaGreatSpPb
import Derived.Test.YtelmgaflhmcihaaGreatSpPc
import Derived.Test.YtelmgaflhmcihaaGreatSpPd
import Derived.Test.YtelmgaflhmcihaaGreatSpPe
namespace Go.Am
open Go
set_option linter.unusedVariables false
set_option linter.unusedSimpArgs false
@[go_sem] def c_r05_Few_r0 : LL := [qB 1 0,qb 2 false]
@[go_sem] def c_r05_Few_r1 : LL := [qf 3 0 1,ql 4 1 3,qz 5 4,qk .leq 6 5 45,qm 7 6,qg 7 true (qf 8 1 1),qg 7 true (ql 9 1 8),qg 7 true (qz 10 9),qg 7 true (qk .leq 11 10 90),qP 12 7 11,qm 2 12]
@[go_sem] def c_r05_Few (F : Fn) : LC := (.seq (.reg c_r05_Few_r0 [1]) (.seq (.reg c_r05_Few_r1 [2]) .ret))
def h_r05_Few : Hints := hOf [] (c_r05_Few fun _ => 0)
def few (g : G) : Bool := decide (g.n.length ≤ 45) && decide (g.e.length ≤ 90)
section
variable (P : Program) (F : String → Nat)
def K_r05_Few : Prop := ∀ g : G, FC P (F "r05.Few") [gD g] (.bool (few g)) []
end
section
variable {P : Program} {F : String → Nat} {α : Type}
theorem w_r05_Few (g : G) : W P (c_r05_Few F) (Done [.t 2] [] (.bool (few g)) []) (init [gD g]) := by
 refine W_of ?_
 obtain ⟨ns, es⟩ := g
 simp (disch := omega) only [go_sem, ↓reduceIte, gD]
 refine bran_dec (fun a => ?_) (fun a => ?_)
 ·simp (disch := omega) only [go_sem, ↓reduceIte, a]
  have : ns.length ≤ 45 := by omega
  simp [few, this]
  omega
 ·simp (disch := omega) only [go_sem, ↓reduceIte, a]
  have : ¬ ns.length ≤ 45 := by omega
  simp [few, this]
end
section
variable (P : Program) (F : String → Nat)
end
def shI : Sh := .int .i64
def shIs : Sh := .slc 1 8 shI
def shE : Sh := .cat [shI, shI, shI]
def shG : Sh := .cat [shIs, .slc 3 24 shE]
theorem rd_int {x : D} (h : HasEl shI x) : ∃ n : Int, x = .int .i64 n ∧ IntKind.i64.min ≤ n ∧ n ≤ IntKind.i64.max := by
 simpa only [shI, HasEl] using h
theorem rd_intl : ∀ {xs : List D}, (∀ y ∈ xs, HasEl shI y) → ∃ l : List Int, xs = ints l
 | [], _ => ⟨[], rfl⟩
 | x :: xs, h => by
  obtain ⟨l, rfl⟩ := rd_intl (xs := xs) fun y hy => h y (by simp [hy])
  obtain ⟨n, rfl, _⟩ := rd_int (h x (by simp))
  exact ⟨n :: l, rfl⟩
theorem rd_ints {x : D} (h : HasEl shIs x) : ∃ l : List Int, x = .lst 1 (ints l) ∧ l.length ≤ 20000000000000 := by
 simp only [shIs, HasEl] at h
 obtain ⟨xs, rfl, h1, h2⟩ := h
 obtain ⟨l, rfl⟩ := rd_intl h2
 refine ⟨l, rfl, ?_⟩
 rw [ints_length] at h1
 unfold reachBytes at h1
 omega
theorem rd_edge {x : D} (h : HasEl shE x) : ∃ e : E, x = edD e := by
 simp only [shE, HasEl] at h
 obtain ⟨ds, rfl, h⟩ := h
 simp only [shI, HasShs, HasEl] at h
 obtain ⟨_, _, rfl, ⟨a, rfl, _⟩, _, _, rfl, ⟨b, rfl, _⟩, _, _, rfl, ⟨c, rfl, _⟩, rfl⟩ := h
 exact ⟨⟨a, b, c⟩, rfl⟩
theorem rd_edl : ∀ {xs : List D}, (∀ y ∈ xs, HasEl shE y) → ∃ l : List E, xs = eds l
 | [], _ => ⟨[], rfl⟩
 | x :: xs, h => by
  obtain ⟨l, rfl⟩ := rd_edl (xs := xs) fun y hy => h y (by simp [hy])
  obtain ⟨n, rfl⟩ := rd_edge (h x (by simp))
  exact ⟨n :: l, rfl⟩
theorem rd_graph {x : D} (h : HasEl shG x) : ∃ g : G, x = gD g := by
 simp only [shG, HasEl] at h
 obtain ⟨ds, rfl, h⟩ := h
 have h' : ∃ a b, ds = a :: b ∧ HasEl shIs a ∧ HasShs [.slc 3 24 shE] b := by simpa only [shIs, HasShs] using h
 obtain ⟨a, _, rfl, h1, h'⟩ := h'
 obtain ⟨l, rfl, _⟩ := rd_ints h1
 simp only [HasShs, HasEl] at h'
 obtain ⟨_, _, rfl, ⟨xs, rfl, _, h3⟩, rfl⟩ := h'
 obtain ⟨es, rfl⟩ := rd_edl h3
 exact ⟨⟨l, es⟩, rfl⟩
def shEs : Sh := .slc 3 24 shE
theorem rd_edges {x : D} (h : HasEl shEs x) : ∃ l : List E, x = .lst 3 (eds l) := by
 simp only [shEs, HasEl] at h
 obtain ⟨xs, rfl, _, h3⟩ := h
 obtain ⟨es, rfl⟩ := rd_edl h3
 exact ⟨es, rfl⟩
theorem hasShs_slc {z b : Nat} {e : Sh} {l : List Sh} {ds : List D} (h : HasShs (.slc z b e :: l) ds) : ∃ a b', ds = a :: b' ∧ HasEl (.slc z b e) a ∧ HasShs l b' := by simpa only [HasShs] using h
theorem hasShs_cat {l' : List Sh} {l : List Sh} {ds : List D} (h : HasShs (.cat l' :: l) ds) : ∃ a b, ds = a ++ b ∧ HasShs l' a ∧ HasShs l b := by simpa only [HasShs] using h
theorem hasShs_nil {ds : List D} (h : HasShs [] ds) : ds = [] := by simpa only [HasShs] using h
def gL (g : G) : List D := [.lst 1 (ints g.n), .lst 3 (eds g.e)]
def moL (m : Mo) : List D := [.lst 1 (ints m.n), .lst 1 (ints m.e)]
def shM : Sh := .cat [shIs, shIs]
theorem rd_gl {ds : List D} (h : HasShs [shIs, .slc 3 24 shE] ds) : ∃ g : G, ds = gL g := by
 obtain ⟨_, _, rfl, h1, h⟩ := hasShs_slc h
 obtain ⟨_, _, rfl, h2, h⟩ := hasShs_slc h
 obtain rfl := hasShs_nil h
 obtain ⟨n, rfl, _⟩ := rd_ints h1
 obtain ⟨e, rfl⟩ := rd_edges h2
 exact ⟨⟨n, e⟩, rfl⟩
theorem rd_ml {ds : List D} (h : HasShs [shIs, shIs] ds) : ∃ m : Mo, ds = moL m ∧ m.sm := by
 obtain ⟨_, _, rfl, h1, h⟩ := hasShs_slc h
 obtain ⟨_, _, rfl, h2, h⟩ := hasShs_slc h
 obtain rfl := hasShs_nil h
 obtain ⟨n, rfl, l1⟩ := rd_ints h1
 obtain ⟨e, rfl, l2⟩ := rd_ints h2
 exact ⟨⟨n, e⟩, rfl, by simp only [maxL]; omega, by simp only [maxL]; omega⟩
theorem rd_morph {x : D} (h : HasEl shM x) : ∃ m : Mo, x = mD m ∧ m.sm := by
 simp only [shM, HasEl] at h
 obtain ⟨ds, rfl, h⟩ := h
 obtain ⟨m, rfl, h2⟩ := rd_ml h
 exact ⟨m, rfl, h2⟩
section
variable {P : Program} {F : String → Nat} {α : Type}
end
@[go_sem] def c_r02_SameInts_r0 : LL := [qb 4 false]
@[go_sem] def c_r02_SameInts_r1 : LL := [qm 6 0,qz 7 6,qm 8 1,qz 9 8,qo .neq 10 7 9]
@[go_sem] def c_r02_SameInts_r2 : LL := [qb 4 false]
@[go_sem] def c_r02_SameInts_r3 : LL := [qi 5 0]
@[go_sem] def c_r02_SameInts_r4 : LL := [qm 11 5,qm 12 0,qz 13 12,qo .lss 14 11 13]
@[go_sem] def c_r02_SameInts_r5 : LL := [qm 17 0,qm 18 5,qd 19 1 17 18,ql 20 1 19,qm 21 1,qm 22 5,qd 23 1 21 22,ql 24 1 23,qo .neq 25 20 24]
@[go_sem] def c_r02_SameInts_r6 : LL := [qb 4 false]
@[go_sem] def c_r02_SameInts_r7 : LL := [qm 15 5,qk .add 16 15 1,qm 5 16]
def c_r02_SameInts_b8 : LC := (.seq (.seq (.reg c_r02_SameInts_r4 [0,1,5,14]) (.cond (.t 14) .skip (.exit 0))) (.seq (.block 1 (.seq (.dreg [] c_r02_SameInts_r5 [0,1,5,25]) (.cond (.t 25) (.seq (.reg c_r02_SameInts_r6 [4]) .ret) .skip))) (.reg c_r02_SameInts_r7 [0,1,5])))
@[go_sem] def c_r02_SameInts_r9 : LL := [qb 4 true]
@[go_sem] def c_r02_SameInts (F : Fn) : LC := (.seq (.reg c_r02_SameInts_r0 [0,1]) (.seq (.seq (.reg c_r02_SameInts_r1 [0,1,10]) (.cond (.t 10) (.seq (.reg c_r02_SameInts_r2 [4]) .ret) .skip)) (.seq (.seq (.reg c_r02_SameInts_r3 [0,1,5]) (.block 0 (.loop [0,1,5] c_r02_SameInts_b8))) (.seq (.reg c_r02_SameInts_r9 [4]) .ret))))
def h_r02_SameInts : Hints := hn [] [(0,[0,1]),(1,[0,1,10]),(2,[4]),(3,[0,1,5]),(4,[0,1,5,14]),(5,[0,1,5]),(6,[0,1,5,25]),(7,[4]),(8,[4])] [(4,[0,1,5])]
@[go_sem] def c_r06_Same_r0 : LL := [qB 2 0,qB 3 1,qb 4 false]
@[go_sem] def c_r06_Same_r1 (F : Fn) : LL := [qf 5 0 2,ql 6 1 5,qf 7 0 3,ql 8 1 7,qc 9 (F "r02.SameInts") [.t 6,.t 8],qm 10 9,qg 10 true (qf 11 1 2),qg 10 true (ql 12 1 11),qg 10 true (qf 13 1 3),qg 10 true (ql 14 1 13),
 qg 10 true (qc 15 (F "r02.SameInts") [.t 12,.t 14]),qP 16 10 15,qm 4 16]
@[go_sem] def c_r06_Same (F : Fn) : LC := (.seq (.reg c_r06_Same_r0 [2,3]) (.seq (.reg (c_r06_Same_r1 F) [4]) .ret))
def h_r06_Same : Hints := hOf [] (c_r06_Same fun _ => 0)
@[go_sem] def c_r06_Few_r0 : LL := [qB 2 0,qb 4 false]
@[go_sem] def c_r06_Few_r1 : LL := [qf 5 0 2,ql 6 1 5,qz 7 6,qf 8 1 2,ql 9 1 8,qz 10 9,qo .add 11 7 10,qm 12 1,qo .leq 13 11 12,qm 4 13]
@[go_sem] def c_r06_Few (F : Fn) : LC := (.seq (.reg c_r06_Few_r0 [1,2]) (.seq (.reg c_r06_Few_r1 [4]) .ret))
def h_r06_Few : Hints := hOf [] (c_r06_Few fun _ => 0)
def fewM (m : Mo) (n : Int) : Bool := decide ((m.n.length : Int) + m.e.length ≤ n)
section
variable (P : Program) (F : String → Nat)
def K_r02_SameInts : Prop := ∀ a b : List Int, a.length ≤ maxL → FC P (F "r02.SameInts") [.lst 1 (ints a), .lst 1 (ints b)] (.bool (decide (a = b))) []
def K_r06_Same : Prop := ∀ a b : Mo, a.n.length ≤ maxL → a.e.length ≤ maxL → FC P (F "r06.Same") [mD a, mD b] (.bool (decide (a = b))) []
def K_r06_Few : Prop := ∀ (m : Mo) (n : Int), m.n.length ≤ maxL → m.e.length ≤ maxL → FC P (F "r06.Few") [mD m, .int .i64 n] (.bool (fewM m n)) []
end
section
variable {P : Program} {F : String → Nat} {α : Type}
theorem w_r02_SameInts (a b : List Int) (hl : a.length ≤ maxL) : W P (c_r02_SameInts F) (Done [.t 4] [] (.bool (decide (a = b))) []) (init [.lst 1 (ints a), .lst 1 (ints b)]) := by
 refine W_of ?_
 unfold maxL at hl
 simp (disch := omega) only [go_sem, ↓reduceIte]
 refine bran_ndec (fun h => ?_) (fun h => ?_)
 ·simp (disch := omega) only [go_sem, ↓reduceIte]
  have : a ≠ b := fun e => h (by rw [e])
  simp [this]
 ·have h' : a.length = b.length := by omega
  simp (disch := omega) only [go_sem, ↓reduceIte]
  refine W_loop (fun i : Nat => ⟨[(0, .lst 1 (ints a)), (1, .lst 1 (ints b)), (5, .int .i64 i)], [], 0⟩) (fun i => i ≤ a.length ∧ a.take i = b.take i) (fun i => a.length - i) 0 ?_ ?_ ?_
  ·simp (disch := omega) only [go_sem, ↓reduceIte]
   rfl
  ·simp
  ·intro i hi
   simp (disch := omega) only [go_sem, ↓reduceIte, c_r02_SameInts_b8]
   refine bran_dec (fun c => ?_) (fun c => ?_)
   ·simp (disch := omega) only [go_sem, ↓reduceIte]
    refine bran_ndec (fun d => ?_) (fun d => ?_)
    ·simp (disch := omega) only [go_sem, ↓reduceIte]
     have : a ≠ b := fun e => d (by rw [e])
     simp [this]
    ·simp (disch := omega) only [go_sem, ↓reduceIte]
     exact ⟨i + 1, by simp, ⟨by omega, by rw [take_gt (by omega), take_gt (by omega), hi.2, d]⟩, by omega⟩
   ·simp (disch := omega) only [go_sem, ↓reduceIte]
    obtain rfl : i = a.length := by omega
    have := hi.2
    rw [List.take_length, List.take_of_length_le (by omega)] at this
    simp [this]
theorem w_r06_Same (hs : K_r02_SameInts P F) (a b : Mo) (h1 : a.n.length ≤ maxL) (h2 : a.e.length ≤ maxL) : W P (c_r06_Same F) (Done [.t 4] [] (.bool (decide (a = b))) []) (init [mD a, mD b]) := by
 refine W_of ?_
 obtain ⟨an, ae⟩ := a
 obtain ⟨bn, be⟩ := b
 simp only at h1 h2
 simp (disch := omega) only [go_sem, ↓reduceIte, mD]
 refine call_by (hs _ _ h1) ?_
 simp (disch := omega) only [go_sem, ↓reduceIte]
 refine bran_dec (fun c => ?_) (fun c => ?_)
 ·subst c
  simp (disch := omega) only [go_sem, ↓reduceIte]
  refine call_by (hs _ _ h2) ?_
  simp (disch := omega) only [go_sem, ↓reduceIte]
  simp
 ·simp (disch := omega) only [go_sem, ↓reduceIte, c]
  simp [c]
theorem w_r06_Few (m : Mo) (n : Int) (h1 : m.n.length ≤ maxL) (h2 : m.e.length ≤ maxL) : W P (c_r06_Few F) (Done [.t 4] [] (.bool (fewM m n)) []) (init [mD m, .int .i64 n]) := by
 refine W_of ?_
 obtain ⟨mn, me⟩ := m
 simp only [maxL] at h1 h2
 simp (disch := omega) only [go_sem, ↓reduceIte, mD, fewM]
end
@[go_sem] def c_r11_pairs_r0 : LL := [qn 6 2]
@[go_sem] def c_r11_pairs_r1 : LL := [qn 7 2]
@[go_sem] def c_r11_pairs_r2 : LL := [qi 8 0]
@[go_sem] def c_r11_pairs_r3 : LL := [qm 10 8,qm 11 0,qz 12 11,qo .lss 13 10 12]
@[go_sem] def c_r11_pairs_r4 : LL := [qi 9 0]
@[go_sem] def c_r11_pairs_r5 : LL := [qm 16 9,qm 17 1,qz 18 17,qo .lss 19 16 18]
@[go_sem] def c_r11_pairs_r6 : LL := [qm 22 0,qm 23 8,qd 24 1 22 23,ql 25 1 24,qm 26 1,qm 27 9,qd 28 1 26 27,ql 29 1 28,qo .eql 30 25 29,qm 31 30,qg 31 true (qm 32 7),qg 31 true (qz 33 32),qg 31 true (qm 34 2),
 qg 31 true (qo .leq 35 33 34),qP 36 31 35]
@[go_sem] def c_r11_pairs_r7 : LL := [qm 37 7,qm 38 8,qm 39 9,qu 40 [.int .i64 (0),.int .i64 (0)] [(0,1,.t 38),(1,1,.t 39)],⟨some 41,.buildSl 2 16 (.agg [.int .i64 (0),.int .i64 (0)]) 1 [(0,.t 40)],none⟩,
 qp 42 2 16 37 41,qm 7 42]
@[go_sem] def c_r11_pairs_r8 : LL := [qm 20 9,qk .add 21 20 1,qm 9 21]
def c_r11_pairs_b9 : LC := (.seq (.seq (.reg c_r11_pairs_r5 [0,1,2,7,8,9,19]) (.cond (.t 19) .skip (.exit 2))) (.seq (.block 3 (.seq (.dreg [] c_r11_pairs_r6 [0,1,2,7,8,9,36]) (.cond (.t 36) (.reg c_r11_pairs_r7 [0,1,2,7,8,9]) .skip))) (.reg c_r11_pairs_r8 [0,1,2,7,8,9])))
@[go_sem] def c_r11_pairs_r10 : LL := [qm 14 8,qk .add 15 14 1,qm 8 15]
def c_r11_pairs_b11 : LC := (.seq (.seq (.reg c_r11_pairs_r3 [0,1,2,7,8,13]) (.cond (.t 13) .skip (.exit 0))) (.seq (.block 1 (.seq (.reg c_r11_pairs_r4 [0,1,2,7,8,9]) (.block 2 (.loop [0,1,2,7,8,9] c_r11_pairs_b9)))) (.reg c_r11_pairs_r10 [0,1,2,7,8])))
@[go_sem] def c_r11_pairs_r12 : LL := [qm 43 7,qm 6 43]
@[go_sem] def c_r11_pairs (F : Fn) : LC := (.seq (.reg c_r11_pairs_r0 [0,1,2]) (.seq (.reg c_r11_pairs_r1 [0,1,2,7]) (.seq (.seq (.reg c_r11_pairs_r2 [0,1,2,7,8]) (.block 0 (.loop [0,1,2,7,8] c_r11_pairs_b11))) (.seq (.reg c_r11_pairs_r12 [6]) .ret))))
def h_r11_pairs : Hints := hn [] [(0,[0,1,2]),(1,[0,1,2,7]),(2,[0,1,2,7,8]),(3,[0,1,2,7,8,13]),(4,[0,1,2,7,8]),(5,[0,1,2,7,8,9]),(6,[0,1,2,7,8,9,19]),(7,[0,1,2,7,8,9]),(8,[0,1,2,7,8,9,36]),(9,[0,1,2,7,8,9]),(10,[6])] [(3,[0,1,2,7,8]),(6,[0,1,2,7,8,9])]
@[go_sem] def c_r11_sides_r0 : LL := [qn 2 1,qn 3 1]
@[go_sem] def c_r11_sides_r1 : LL := [qn 4 1,qn 5 1]
@[go_sem] def c_r11_sides_r2 : LL := [qi 6 0]
@[go_sem] def c_r11_sides_r3 : LL := [qm 7 6,qm 8 0,qz 9 8,qo .lss 10 7 9]
@[go_sem] def c_r11_sides_r4 : LL := [qm 13 4,qm 14 0,qm 15 6,qd 16 2 14 15,qf 17 0 16,ql 18 1 17,⟨some 19,.buildSl 1 8 (.int .i64 (0)) 1 [(0,.t 18)],none⟩,qp 20 1 8 13 19,qm 21 5,qm 22 0,qm 23 6,qd 24 2 22 23,
 qf 25 1 24,ql 26 1 25,⟨some 27,.buildSl 1 8 (.int .i64 (0)) 1 [(0,.t 26)],none⟩,qp 28 1 8 21 27,qm 4 20,qm 5 28]
@[go_sem] def c_r11_sides_r5 : LL := [qm 11 6,qk .add 12 11 1,qm 6 12]
def c_r11_sides_b6 : LC := (.seq (.seq (.reg c_r11_sides_r3 [0,4,5,6,10]) (.cond (.t 10) .skip (.exit 0))) (.seq (.block 1 (.dreg [(3,none,[],true),(5,none,[],true),(6,none,[],true),(7,none,[],true),(11,(some 1536),[6,7],false),(13,(some 7680),[6,7],false),(14,(some 15872),[3,5,6,7],false)] c_r11_sides_r4 [0,4,5,6])) (.reg c_r11_sides_r5 [0,4,5,6])))
@[go_sem] def c_r11_sides_r7 : LL := [qm 29 4,qm 30 5,qm 2 29,qm 3 30]
@[go_sem] def c_r11_sides (F : Fn) : LC := (.seq (.reg c_r11_sides_r0 [0]) (.seq (.reg c_r11_sides_r1 [0,4,5]) (.seq (.seq (.reg c_r11_sides_r2 [0,4,5,6]) (.block 0 (.loop [0,4,5,6] c_r11_sides_b6))) (.seq (.reg c_r11_sides_r7 [2,3]) .ret))))
def h_r11_sides : Hints := hOf [] (c_r11_sides fun _ => 0)
@[go_sem] def c_r11_place_r0 : LL := [qi 6 0]
@[go_sem] def c_r11_place_r1 : LL := [qi 7 0]
@[go_sem] def c_r11_place_r2 : LL := [qm 8 7,qm 9 0,qz 10 9,qo .lss 11 8 10]
@[go_sem] def c_r11_place_r3 : LL := [qm 14 0,qm 15 7,qd 16 2 14 15,qf 17 0 16,ql 18 1 17,qm 19 1,qo .eql 20 18 19,qm 21 20,qg 21 true (qm 22 0),qg 21 true (qm 23 7),qg 21 true (qd 24 2 22 23),qg 21 true (qf 25 1 24),
 qg 21 true (ql 26 1 25),qg 21 true (qm 27 2),qg 21 true (qo .eql 28 26 27),qP 29 21 28]
@[go_sem] def c_r11_place_r4 : LL := [qm 30 7,qm 6 30]
@[go_sem] def c_r11_place_r5 : LL := [qm 12 7,qk .add 13 12 1,qm 7 13]
def c_r11_place_b6 : LC := (.seq (.seq (.reg c_r11_place_r2 [0,1,2,7,11]) (.cond (.t 11) .skip (.exit 0))) (.seq (.block 1 (.seq (.reg c_r11_place_r3 [0,1,2,7,29]) (.cond (.t 29) (.seq (.reg c_r11_place_r4 [6]) .ret) .skip))) (.reg c_r11_place_r5 [0,1,2,7])))
@[go_sem] def c_r11_place_r7 : LL := [qi 6 (-1)]
@[go_sem] def c_r11_place (F : Fn) : LC := (.seq (.reg c_r11_place_r0 [0,1,2]) (.seq (.seq (.reg c_r11_place_r1 [0,1,2,7]) (.block 0 (.loop [0,1,2,7] c_r11_place_b6))) (.seq (.reg c_r11_place_r7 [6]) .ret)))
def h_r11_place : Hints := hn [] [(0,[0,1,2]),(1,[0,1,2,7]),(2,[0,1,2,7,11]),(3,[0,1,2,7]),(4,[0,1,2,7,29]),(5,[6]),(6,[6])] [(2,[0,1,2,7])]
@[go_sem] def c_r11_first_r0 : LL := [qi 8 0]
@[go_sem] def c_r11_first_r1 : LL := [qi 9 0]
@[go_sem] def c_r11_first_r2 : LL := [qm 10 9,qm 11 0,qz 12 11,qo .lss 13 10 12]
@[go_sem] def c_r11_first_r3 : LL := [qm 16 0,qm 17 9,qd 18 1 16 17,ql 19 1 18,qm 20 2,qo .eql 21 19 20,qm 22 21,qg 22 true (qm 23 1),qg 22 true (qm 24 9),qg 22 true (qd 25 1 23 24),qg 22 true (ql 26 1 25),
 qg 22 true (qm 27 3),qg 22 true (qo .eql 28 26 27),qP 29 22 28]
@[go_sem] def c_r11_first_r4 : LL := [qm 30 9,qm 8 30]
@[go_sem] def c_r11_first_r5 : LL := [qm 14 9,qk .add 15 14 1,qm 9 15]
def c_r11_first_b6 : LC := (.seq (.seq (.reg c_r11_first_r2 [0,1,2,3,9,13]) (.cond (.t 13) .skip (.exit 0))) (.seq (.block 1 (.seq (.reg c_r11_first_r3 [0,1,2,3,9,29]) (.cond (.t 29) (.seq (.reg c_r11_first_r4 [8]) .ret) .skip))) (.reg c_r11_first_r5 [0,1,2,3,9])))
@[go_sem] def c_r11_first_r7 : LL := [qi 8 (-1)]
@[go_sem] def c_r11_first (F : Fn) : LC := (.seq (.reg c_r11_first_r0 [0,1,2,3]) (.seq (.seq (.reg c_r11_first_r1 [0,1,2,3,9]) (.block 0 (.loop [0,1,2,3,9] c_r11_first_b6))) (.seq (.reg c_r11_first_r7 [8]) .ret)))
def h_r11_first : Hints := hn [] [(0,[0,1,2,3]),(1,[0,1,2,3,9]),(2,[0,1,2,3,9,13]),(3,[0,1,2,3,9]),(4,[0,1,2,3,9,29]),(5,[8]),(6,[8])] [(2,[0,1,2,3,9])]
def at2 (p q : List Int) (a b : Int) : List Int → Int → Int
 | [], _ => -1
 | _ :: l, i => if gt p i = a ∧ gt q i = b then i else at2 p q a b l (i + 1)
section
variable (P : Program) (F : String → Nat)
def K_r11_pairs : Prop := ∀ (f g : List Int) (m : Nat), f.length ≤ 10000 → g.length ≤ 10000 → m ≤ 10000 → FC P (F "r11.pairs") [.lst 1 (ints f), .lst 1 (ints g), .int .i64 m] (.arr 2 (prs ((pairsL f g).take (m + 1)))) []
def K_r11_sides : Prop := ∀ l : List Pr, l.length ≤ 10000 → FC P (F "r11.sides") [.lst 2 (prs l)] (.tup [.arr 1 (ints (asA l)), .arr 1 (ints (asB l))]) []
def K_r11_place : Prop := ∀ (l : List Pr) (a b : Int), l.length ≤ maxL → FC P (F "r11.place") [.lst 2 (prs l), .int .i64 a, .int .i64 b] (.int .i64 (idx (fun p => decide (p = ⟨a, b⟩)) l 0)) []
def K_r11_first : Prop := ∀ (p q : List Int) (a b : Int), p.length ≤ maxL → q.length = p.length → FC P (F "r11.first") [.lst 1 (ints p), .lst 1 (ints q), .int .i64 a, .int .i64 b] (.int .i64 (at2 p q a b p 0)) []
end
section
variable {P : Program} {F : String → Nat} {α : Type}
theorem w_r11_pairs (f g : List Int) (m : Nat) (hf : f.length ≤ 10000) (hg : g.length ≤ 10000) (hm : m ≤ 10000) : W P (c_r11_pairs F) (Done [.t 6] [] (.arr 2 (prs ((pairsL f g).take (m + 1)))) []) (init [.lst 1 (ints f), .lst 1 (ints g), .int .i64 m]) := by
 refine W_of ?_
 simp (disch := omega) only [go_sem, ↓reduceIte]
 refine W_loop (fun i : Nat => ⟨[(0, .lst 1 (ints f)), (1, .lst 1 (ints g)), (2, .int .i64 m), (7, .sl 0 0 ((pairsI f g i).take (m + 1)).length), (8, .int .i64 i)], [(0, .arr 2 (prs ((pairsI f g i).take (m + 1))))], 1⟩) (fun i => i ≤ f.length) (fun i => f.length - i) 0 ?_ ?_ ?_
 ·simp (disch := omega) only [go_sem, ↓reduceIte, pairsI_zero]
  rfl
 ·simp
 ·intro i hi
  simp (disch := omega) only [go_sem, ↓reduceIte, c_r11_pairs_b11]
  refine bran_dec (fun c => ?_) (fun c => ?_)
  ·simp (disch := omega) only [go_sem, ↓reduceIte]
   refine W_loop (fun k : Nat => ⟨[(0, .lst 1 (ints f)), (1, .lst 1 (ints g)), (2, .int .i64 m), (7, .sl 0 0 ((accP f g i k).take (m + 1)).length), (8, .int .i64 i), (9, .int .i64 k)],
    [(0, .arr 2 (prs ((accP f g i k).take (m + 1))))], 1⟩) (fun k => k ≤ g.length) (fun k => g.length - k) 0 ?_ ?_ ?_
   ·simp (disch := omega) only [go_sem, ↓reduceIte, accP_zero]
    rfl
   ·simp
   ·intro k hk
    have b1 : ((accP f g i k).take (m + 1)).length = min (m + 1) (accP f g i k).length := by simp
    simp (disch := omega) only [go_sem, ↓reduceIte, c_r11_pairs_b9]
    refine bran_dec (fun d => ?_) (fun d => ?_)
    ·have hs := accP_succ f g i k
     simp (disch := omega) only [go_sem, ↓reduceIte]
     refine bran_dec (fun e => ?_) (fun e => ?_)
     ·rw [if_pos e] at hs
      simp (disch := omega) only [go_sem, ↓reduceIte, e]
      refine bran_dec (fun h => ?_) (fun h => ?_)
      ·have e1 : (accP f g i k).take (m + 1) = accP f g i k := List.take_of_length_le (by omega)
       have e2 : (accP f g i (k + 1)).take (m + 1) = accP f g i k ++ [⟨i, k⟩] := by rw [hs]; exact List.take_of_length_le (by simp; omega)
       rw [e1] at h b1
       simp (disch := omega) only [go_sem, ↓reduceIte, e1]
       exact ⟨k + 1, by rw [e2]; simp, by omega, by omega⟩
      ·have e2 : (accP f g i (k + 1)).take (m + 1) = (accP f g i k).take (m + 1) := by
        rw [hs]; exact List.take_append_of_le_length (by omega)
       simp (disch := omega) only [go_sem, ↓reduceIte, h]
       exact ⟨k + 1, by rw [e2]; simp, by omega, by omega⟩
     ·rw [if_neg e] at hs
      simp (disch := omega) only [go_sem, ↓reduceIte, e]
      exact ⟨k + 1, by simp [hs], by omega, by omega⟩
    ·obtain rfl : k = g.length := by omega
     simp (disch := omega) only [go_sem, ↓reduceIte]
     exact ⟨i + 1, by simp [accP_end], by omega, by omega⟩
  ·obtain rfl : i = f.length := by omega
   simp (disch := omega) only [go_sem, ↓reduceIte]
   rfl
theorem w_r11_sides (l : List Pr) (hl : l.length ≤ 10000) : W P (c_r11_sides F) (Done [.t 2, .t 3] [] (.tup [.arr 1 (ints (asA l)), .arr 1 (ints (asB l))]) []) (init [.lst 2 (prs l)]) := by
 refine W_of ?_
 simp (disch := omega) only [go_sem, ↓reduceIte]
 refine W_loop (fun i : Nat => ⟨[(0, .lst 2 (prs l)), (4, .sl 0 0 i), (5, .sl 1 0 i), (6, .int .i64 i)], [(0, .arr 1 (ints (asA (l.take i)))), (1, .arr 1 (ints (asB (l.take i))))], 2⟩) (fun i => i ≤ l.length) (fun i => l.length - i) 0 ?_ ?_ ?_
 ·simp (disch := omega) only [go_sem, ↓reduceIte]
  rfl
 ·simp
 ·intro i hi
  have e1 := asA_len hi
  have e2 := asB_len hi
  simp (disch := omega) only [go_sem, ↓reduceIte, c_r11_sides_b6]
  refine bran_dec (fun c => ?_) (fun c => ?_)
  ·simp (disch := omega) only [go_sem, ↓reduceIte, e1, e2]
   exact ⟨i + 1, by simp [asA_take (show i < l.length by omega), asB_take (show i < l.length by omega)], by omega, by omega⟩
  ·simp (disch := omega) only [go_sem, ↓reduceIte, e1, e2]
   rw [List.take_of_length_le (by omega)]
end
section
variable {P : Program} {F : String → Nat} {α : Type}
theorem w_r11_place (l : List Pr) (a b : Int) (hl : l.length ≤ maxL) : W P (c_r11_place F) (Done [.t 6] [] (.int .i64 (idx (fun p => decide (p = ⟨a, b⟩)) l 0)) []) (init [.lst 2 (prs l), .int .i64 a, .int .i64 b]) := by
 refine W_of ?_
 unfold maxL at hl
 simp (disch := omega) only [go_sem, ↓reduceIte]
 refine W_loop (fun i : Nat => ⟨[(0, .lst 2 (prs l)), (1, .int .i64 a), (2, .int .i64 b), (7, .int .i64 i)], [], 0⟩) (fun i => i ≤ l.length ∧ idx (fun p => decide (p = ⟨a, b⟩)) l 0 = idx (fun p => decide (p = ⟨a, b⟩)) (l.drop i) i) (fun i => l.length - i) 0 ?_ ?_ ?_
 ·simp (disch := omega) only [go_sem, ↓reduceIte]
  rfl
 ·simp
 ·rintro i ⟨hi, he⟩
  simp (disch := omega) only [go_sem, ↓reduceIte, c_r11_place_b6]
  refine bran_dec (fun h => ?_) (fun h => ?_)
  ·have hd := idx_drop (fun p => decide (p = ⟨a, b⟩)) l i (by omega)
   simp (disch := omega) only [go_sem, ↓reduceIte]
   refine bran_dec (fun h2 => ?_) (fun h2 => ?_)
   ·simp (disch := omega) only [go_sem, ↓reduceIte, h2]
    refine bran_dec (fun h3 => ?_) (fun h3 => ?_)
    ·simp (disch := omega) only [go_sem, ↓reduceIte]
     rw [he, hd, if_pos (by simp [eqPr, h2, h3])]
    ·simp (disch := omega) only [go_sem, ↓reduceIte]
     exact ⟨i + 1, by simp, ⟨by omega, by rw [he, hd, if_neg (by simp [eqPr, h3])]⟩, by omega⟩
   ·simp (disch := omega) only [go_sem, ↓reduceIte, h2]
    exact ⟨i + 1, by simp, ⟨by omega, by rw [he, hd, if_neg (by simp [eqPr, h2])]⟩, by omega⟩
  ·simp (disch := omega) only [go_sem, ↓reduceIte]
   rw [he, List.drop_of_length_le (by omega)]
   rfl
theorem at2_step (p q : List Int) (a b : Int) (l : List Int) (i : Nat) (h : i < l.length) : at2 p q a b (l.drop i) i = if gt p i = a ∧ gt q i = b then (i : Int) else at2 p q a b (l.drop (i + 1)) ((i + 1 : Nat) : Int) := by
 rw [drop_gt h, at2]; rfl
theorem w_r11_first (p q : List Int) (a b : Int) (hp : p.length ≤ maxL) (hq : q.length = p.length) : W P (c_r11_first F) (Done [.t 8] [] (.int .i64 (at2 p q a b p 0)) []) (init [.lst 1 (ints p), .lst 1 (ints q), .int .i64 a, .int .i64 b]) := by
 refine W_of ?_
 unfold maxL at hp
 simp (disch := omega) only [go_sem, ↓reduceIte]
 refine W_loop (fun i : Nat => ⟨[(0, .lst 1 (ints p)), (1, .lst 1 (ints q)), (2, .int .i64 a), (3, .int .i64 b), (9, .int .i64 i)], [], 0⟩) (fun i => i ≤ p.length ∧ at2 p q a b p 0 = at2 p q a b (p.drop i) i) (fun i => p.length - i) 0 ?_ ?_ ?_
 ·simp (disch := omega) only [go_sem, ↓reduceIte]
  rfl
 ·simp
 ·rintro i ⟨hi, he⟩
  simp (disch := omega) only [go_sem, ↓reduceIte, c_r11_first_b6]
  refine bran_dec (fun h => ?_) (fun h => ?_)
  ·have hd := at2_step p q a b p i (by omega)
   simp (disch := omega) only [go_sem, ↓reduceIte]
   refine bran_dec (fun h2 => ?_) (fun h2 => ?_)
   ·simp (disch := omega) only [go_sem, ↓reduceIte, h2]
    refine bran_dec (fun h3 => ?_) (fun h3 => ?_)
    ·simp (disch := omega) only [go_sem, ↓reduceIte]
     rw [he, hd, if_pos ⟨h2, h3⟩]
    ·simp (disch := omega) only [go_sem, ↓reduceIte]
     exact ⟨i + 1, by simp, ⟨by omega, by rw [he, hd, if_neg (fun h => h3 h.2)]⟩, by omega⟩
   ·simp (disch := omega) only [go_sem, ↓reduceIte, h2]
    exact ⟨i + 1, by simp, ⟨by omega, by rw [he, hd, if_neg (fun h => h2 h.1)]⟩, by omega⟩
  ·simp (disch := omega) only [go_sem, ↓reduceIte]
   rw [he, List.drop_of_length_le (by omega)]
   rfl
end
@[go_sem] def c_r11_Valid_r0 : LL := [qB 1 0,qi 2 0]
@[go_sem] def c_r11_Valid_r1 (F : Fn) : LL := [qf 4 0 1,qL 5 2 4,qf 6 4 1,qL 7 2 6,qf 8 6 1,qL 9 2 8,qc 10 (F "r06.Valid") [.t 5,.t 7,.t 9],qm 3 10]
@[go_sem] def c_r11_Valid_r2 : LL := [qm 11 3,qk .neq 12 11 0]
@[go_sem] def c_r11_Valid_r3 : LL := [qm 13 3,qm 2 13]
@[go_sem] def c_r11_Valid_r4 (F : Fn) : LL := [qf 14 2 1,qL 15 2 14,qf 16 4 1,qL 17 2 16,qf 18 8 1,qL 19 2 18,qc 20 (F "r06.Valid") [.t 15,.t 17,.t 19],qm 2 20]
@[go_sem] def c_r11_Valid (F : Fn) : LC := (.seq (.reg c_r11_Valid_r0 [1]) (.seq (.seq (.reg (c_r11_Valid_r1 F) [1,3]) (.seq (.reg c_r11_Valid_r2 [1,3,12]) (.cond (.t 12) (.seq (.reg c_r11_Valid_r3 [2]) .ret) .skip))) (.seq (.reg (c_r11_Valid_r4 F) [2]) .ret)))
def h_r11_Valid : Hints := hOf [] (c_r11_Valid fun _ => 0)
@[go_sem] def c_r11_Of_r0 : LL := [qB 1 0,qa 2 [.nl 1,.nl 3],qa 3 [.nl 1,.nl 1],qa 4 [.nl 1,.nl 1],qi 5 0]
@[go_sem] def c_r11_Of_r1 (F : Fn) : LL := [qL 16 10 1,qc 17 (F "r11.Valid") [.t 16],qm 6 17]
@[go_sem] def c_r11_Of_r2 : LL := [qm 18 6,qk .neq 19 18 0]
@[go_sem] def c_r11_Of_r3 : LL := [qu 20 [.nl 1,.nl 3] [],qu 21 [.nl 1,.nl 1] [],qu 22 [.nl 1,.nl 1] [],qm 23 6,qs 2 2 20,qs 2 3 21,qs 2 4 22,qm 5 23]
@[go_sem] def c_r11_Of_r4 (F : Fn) : LL := [qf 24 6 1,qf 25 0 24,ql 26 1 25,qf 27 8 1,qf 28 0 27,ql 29 1 28,qc 30 (F "r11.pairs") [.t 26,.t 29,.k (.int .i64 (40))],qf 31 6 1,qf 32 1 31,ql 33 1 32,qf 34 8 1,qf 35 1 34,ql 36 1 35,
 qc 37 (F "r11.pairs") [.t 33,.t 36,.k (.int .i64 (80))],qm 7 30,qm 8 37]
@[go_sem] def c_r11_Of_r5 : LL := [qm 38 7,qz 39 38,qk .gtr 40 39 40,qm 41 40,qg 41 false (qm 42 8),qg 41 false (qz 43 42),qg 41 false (qk .gtr 44 43 80),qQ 45 41 44]
@[go_sem] def c_r11_Of_r6 : LL := [qu 46 [.nl 1,.nl 3] [],qu 47 [.nl 1,.nl 1] [],qu 48 [.nl 1,.nl 1] [],qs 2 2 46,qs 2 3 47,qs 2 4 48,qi 5 3]
@[go_sem] def c_r11_Of_r7 : LL := [qa 9 [.nl 1,.nl 3]]
@[go_sem] def c_r11_Of_r8 : LL := [qi 10 0]
@[go_sem] def c_r11_Of_r9 : LL := [qm 49 10,qm 50 7,qz 51 50,qo .lss 52 49 51]
@[go_sem] def c_r11_Of_r10 : LL := [qf 55 0 9,ql 56 1 55,qf 57 0 1,qf 58 0 57,ql 59 1 58,qm 60 7,qm 61 10,qd 62 2 60 61,qf 63 0 62,ql 64 1 63,qd 65 1 59 64,ql 66 1 65,
 ⟨some 67,.buildSl 1 8 (.int .i64 (0)) 1 [(0,.t 66)],none⟩,qp 68 1 8 56 67,qf 69 0 9,qs 1 69 68]
@[go_sem] def c_r11_Of_r11 : LL := [qm 53 10,qk .add 54 53 1,qm 10 54]
def c_r11_Of_b12 : LC := (.seq (.seq (.reg c_r11_Of_r9 [1,2,3,4,7,8,9,10,52]) (.cond (.t 52) .skip (.exit 0))) (.seq (.block 1 (.dreg [(1,none,[],true),(12,none,[1],false)] c_r11_Of_r10 [1,2,3,4,7,8,9,10])) (.reg c_r11_Of_r11 [1,2,3,4,7,8,9,10])))
@[go_sem] def c_r11_Of_r13 : LL := [qi 11 0]
@[go_sem] def c_r11_Of_r14 : LL := [qm 70 11,qm 71 8,qz 72 71,qo .lss 73 70 72]
@[go_sem] def c_r11_Of_r15 : LL := [qf 76 0 1,qf 77 1 76,ql 78 1 77,qm 79 8,qm 80 11,qd 81 2 79 80,qf 82 0 81,ql 83 1 82,qd 84 3 78 83,qL 85 3 84,qf 86 2 1,qf 87 1 86,ql 88 1 87,qm 89 8,qm 90 11,qd 91 2 89 90,
 qf 92 1 91,ql 93 1 92,qd 94 3 88 93,qL 95 3 94,qa 12 [.int .i64 (0),.int .i64 (0),.int .i64 (0)],qa 13 [.int .i64 (0),.int .i64 (0),.int .i64 (0)],qs 3 12 85,qs 3 13 95]
@[go_sem] def c_r11_Of_r16 (F : Fn) : LL := [qf 96 1 9,ql 97 1 96,qf 98 0 12,ql 99 1 98,qm 100 7,qf 101 1 12,ql 102 1 101,qf 103 1 13,ql 104 1 103,qc 105 (F "r11.place") [.t 100,.t 102,.t 104],qm 106 7,qf 107 2 12,ql 108 1 107,
 qf 109 2 13,ql 110 1 109,qc 111 (F "r11.place") [.t 106,.t 108,.t 110],qu 112 [.int .i64 (0),.int .i64 (0),.int .i64 (0)] [(0,1,.t 99),(1,1,.t 105),(2,1,.t 111)],
 ⟨some 113,.buildSl 3 24 (.agg [.int .i64 (0),.int .i64 (0),.int .i64 (0)]) 1 [(0,.t 112)],none⟩,qp 114 3 24 97 113,qf 115 1 9,qs 1 115 114]
@[go_sem] def c_r11_Of_r17 : LL := [qm 74 11,qk .add 75 74 1,qm 11 75]
def c_r11_Of_b18 (F : Fn) : LC := (.seq (.seq (.reg c_r11_Of_r14 [1,2,3,4,7,8,9,11,73]) (.cond (.t 73) .skip (.exit 2))) (.seq (.block 3 (.seq (.dreg [(12,none,[],true),(15,none,[],true),(17,none,[],true),(18,none,[],true),(19,none,[],true),(22,none,[12,15,17,18,19],false)] c_r11_Of_r15 [1,2,3,4,7,8,9,11,12,13]) (.dreg [(1,none,[],true),(3,none,[],true),(9,none,[1,3],true),(12,(some 2048),[9],false),(14,(some 8192),[9],false),(15,none,[1,3],false),(17,none,[1],false)] (c_r11_Of_r16 F) [1,2,3,4,7,8,9,11]))) (.reg c_r11_Of_r17 [1,2,3,4,7,8,9,11])))
@[go_sem] def c_r11_Of_r19 : LL := [qa 14 [.nl 1,.nl 1],qa 15 [.nl 1,.nl 1]]
@[go_sem] def c_r11_Of_r20 (F : Fn) : LL := [qm 117 7,qc 118 (F "r11.sides") [.t 117],qm 116 118,qx 119 116 0,qx 120 116 1,qf 121 0 14,qs 1 121 119,qf 122 0 15,qs 1 122 120]
@[go_sem] def c_r11_Of_r21 (F : Fn) : LL := [qm 124 8,qc 125 (F "r11.sides") [.t 124],qm 123 125,qx 126 123 0,qx 127 123 1,qf 128 1 14,qs 1 128 126,qf 129 1 15,qs 1 129 127]
@[go_sem] def c_r11_Of_r22 : LL := [qL 130 2 9,qL 131 2 14,qL 132 2 15,qs 2 2 130,qs 2 3 131,qs 2 4 132,qi 5 0]
@[go_sem] def c_r11_Of (F : Fn) : LC := (.seq (.reg c_r11_Of_r0 [1,2,3,4]) (.seq (.seq (.reg (c_r11_Of_r1 F) [1,2,3,4,6]) (.seq (.reg c_r11_Of_r2 [1,2,3,4,6,19]) (.cond (.t 19) (.seq (.reg c_r11_Of_r3 [2,3,4,5]) .ret) .skip))) (.seq (.dreg [(6,none,[],true),(9,(some 384),[6],false),(12,(some 3072),[6],false)] (c_r11_Of_r4 F) [1,2,3,4,7,8]) (.seq (.seq (.reg c_r11_Of_r5 [1,2,3,4,7,8,45]) (.cond (.t 45) (.seq (.reg c_r11_Of_r6 [2,3,4,5]) .ret) .skip)) (.seq (.reg c_r11_Of_r7 [1,2,3,4,7,8,9]) (.seq (.seq (.reg c_r11_Of_r8 [1,2,3,4,7,8,9,10]) (.block 0 (.loop [1,2,3,4,7,8,9,10] c_r11_Of_b12))) (.seq (.seq (.reg c_r11_Of_r13 [1,2,3,4,7,8,9,11]) (.block 2 (.loop [1,2,3,4,7,8,9,11] (c_r11_Of_b18 F)))) (.seq (.reg c_r11_Of_r19 [2,3,4,7,8,9,14,15]) (.seq (.reg (c_r11_Of_r20 F) [2,3,4,8,9,14,15]) (.seq (.reg (c_r11_Of_r21 F) [2,3,4,9,14,15]) (.seq (.dreg [(1,none,[],true),(2,none,[],true),(3,none,[1,2],false),(4,none,[2],false)] c_r11_Of_r22 [2,3,4,5]) .ret)))))))))))
def h_r11_Of : Hints := hn [] [(0,[1,2,3,4]),(1,[1,2,3,4,6]),(2,[1,2,3,4,6,19]),(3,[2,3,4,5]),(4,[1,2,3,4,7,8]),(5,[1,2,3,4,7,8,45]),(6,[2,3,4,5]),(7,[1,2,3,4,7,8,9]),(8,[1,2,3,4,7,8,9,10]),(9,[1,2,3,4,7,8,9,10,52]),(10,[1,2,3,4,7,8,9,10]),(11,[1,2,3,4,7,8,9,10]),(12,[1,2,3,4,7,8,9,11]),(13,[1,2,3,4,7,8,9,11,73]),(14,[1,2,3,4,7,8,9,11]),(15,[1,2,3,4,7,8,9,11,12,13]),(16,[1,2,3,4,7,8,9,11]),(17,[2,3,4,7,8,9,14,15]),(18,[2,3,4,8,9,14,15]),(19,[2,3,4,9,14,15]),(20,[2,3,4,5])] [(9,[1,2,3,4,7,8,9,10]),(13,[1,2,3,4,7,8,9,11])]
@[go_sem] def c_r11_Mediate_r0 : LL := [qB 4 0,qB 5 1,qB 6 2,qB 7 3,qa 8 [.nl 1,.nl 1],qi 9 0]
@[go_sem] def c_r11_Mediate_r1 (F : Fn) : LL := [qL 20 10 4,qc 21 (F "r11.Of") [.t 20],qm 19 21,qx 22 19 0,qx 23 19 1,qx 24 19 2,qx 25 19 3,qa 10 [.nl 1,.nl 3],qa 11 [.nl 1,.nl 1],qa 12 [.nl 1,.nl 1],qs 2 10 22,qs 2 11 23,qs 2 12 24,
 qm 13 25]
@[go_sem] def c_r11_Mediate_r2 : LL := [qm 26 13,qk .neq 27 26 0]
@[go_sem] def c_r11_Mediate_r3 : LL := [qu 28 [.nl 1,.nl 1] [],qm 29 13,qs 2 8 28,qm 9 29]
@[go_sem] def c_r11_Mediate_r4 (F : Fn) : LL := [qL 30 2 5,qf 31 0 4,qL 32 2 31,qL 33 2 6,qc 34 (F "r06.Valid") [.t 30,.t 32,.t 33],qm 14 34]
@[go_sem] def c_r11_Mediate_r5 : LL := [qm 35 14,qk .neq 36 35 0]
@[go_sem] def c_r11_Mediate_r6 : LL := [qu 37 [.nl 1,.nl 1] [],qm 38 14,qs 2 8 37,qm 9 38]
@[go_sem] def c_r11_Mediate_r7 (F : Fn) : LL := [qL 39 2 5,qf 40 2 4,qL 41 2 40,qL 42 2 7,qc 43 (F "r06.Valid") [.t 39,.t 41,.t 42],qm 15 43]
@[go_sem] def c_r11_Mediate_r8 : LL := [qm 44 15,qk .neq 45 44 0]
@[go_sem] def c_r11_Mediate_r9 : LL := [qu 46 [.nl 1,.nl 1] [],qm 47 15,qs 2 8 46,qm 9 47]
@[go_sem] def c_r11_Mediate_r10 (F : Fn) : LL := [qL 48 2 6,qf 49 6 4,qL 50 2 49,qc 51 (F "r06.Then") [.t 48,.t 50],qL 52 2 7,qf 53 8 4,qL 54 2 53,qc 55 (F "r06.Then") [.t 52,.t 54],qc 56 (F "r06.Same") [.t 51,.t 55],qv 57 56]
@[go_sem] def c_r11_Mediate_r11 : LL := [qu 58 [.nl 1,.nl 1] [],qs 2 8 58,qi 9 11]
@[go_sem] def c_r11_Mediate_r12 : LL := [qa 16 [.nl 1,.nl 1]]
@[go_sem] def c_r11_Mediate_r13 : LL := [qi 17 0]
@[go_sem] def c_r11_Mediate_r14 : LL := [qm 59 17,qf 60 0 6,ql 61 1 60,qz 62 61,qo .lss 63 59 62]
@[go_sem] def c_r11_Mediate_r15 (F : Fn) : LL := [qf 66 0 16,ql 67 1 66,qf 68 0 11,ql 69 1 68,qf 70 0 12,ql 71 1 70,qf 72 0 6,ql 73 1 72,qm 74 17,qd 75 1 73 74,ql 76 1 75,qf 77 0 7,ql 78 1 77,qm 79 17,qd 80 1 78 79,ql 81 1 80,
 qc 82 (F "r11.first") [.t 69,.t 71,.t 76,.t 81],⟨some 83,.buildSl 1 8 (.int .i64 (0)) 1 [(0,.t 82)],none⟩,qp 84 1 8 67 83,qf 85 0 16,qs 1 85 84]
@[go_sem] def c_r11_Mediate_r16 : LL := [qm 64 17,qk .add 65 64 1,qm 17 65]
def c_r11_Mediate_b17 (F : Fn) : LC := (.seq (.seq (.reg c_r11_Mediate_r14 [6,7,8,11,12,16,17,63]) (.cond (.t 63) .skip (.exit 0))) (.seq (.block 1 (.dreg [(1,none,[],true),(16,none,[1],false),(17,none,[1],false)] (c_r11_Mediate_r15 F) [6,7,8,11,12,16,17])) (.reg c_r11_Mediate_r16 [6,7,8,11,12,16,17])))
@[go_sem] def c_r11_Mediate_r18 : LL := [qi 18 0]
@[go_sem] def c_r11_Mediate_r19 : LL := [qm 86 18,qf 87 1 6,ql 88 1 87,qz 89 88,qo .lss 90 86 89]
@[go_sem] def c_r11_Mediate_r20 (F : Fn) : LL := [qf 93 1 16,ql 94 1 93,qf 95 1 11,ql 96 1 95,qf 97 1 12,ql 98 1 97,qf 99 1 6,ql 100 1 99,qm 101 18,qd 102 1 100 101,ql 103 1 102,qf 104 1 7,ql 105 1 104,qm 106 18,qd 107 1 105 106,
 ql 108 1 107,qc 109 (F "r11.first") [.t 96,.t 98,.t 103,.t 108],⟨some 110,.buildSl 1 8 (.int .i64 (0)) 1 [(0,.t 109)],none⟩,qp 111 1 8 94 110,qf 112 1 16,qs 1 112 111]
@[go_sem] def c_r11_Mediate_r21 : LL := [qm 91 18,qk .add 92 91 1,qm 18 92]
def c_r11_Mediate_b22 (F : Fn) : LC := (.seq (.seq (.reg c_r11_Mediate_r19 [6,7,8,11,12,16,18,90]) (.cond (.t 90) .skip (.exit 2))) (.seq (.block 3 (.dreg [(1,none,[],true),(16,none,[1],false),(17,none,[1],false)] (c_r11_Mediate_r20 F) [6,7,8,11,12,16,18])) (.reg c_r11_Mediate_r21 [6,7,8,11,12,16,18])))
@[go_sem] def c_r11_Mediate_r23 : LL := [qL 113 2 16,qs 2 8 113,qi 9 0]
@[go_sem] def c_r11_Mediate (F : Fn) : LC := (.seq (.reg c_r11_Mediate_r0 [4,5,6,7,8]) (.seq (.reg (c_r11_Mediate_r1 F) [4,5,6,7,8,11,12,13]) (.seq (.seq (.reg c_r11_Mediate_r2 [4,5,6,7,8,11,12,13,27]) (.cond (.t 27) (.seq (.reg c_r11_Mediate_r3 [8,9]) .ret) .skip)) (.seq (.seq (.reg (c_r11_Mediate_r4 F) [4,5,6,7,8,11,12,14]) (.seq (.reg c_r11_Mediate_r5 [4,5,6,7,8,11,12,14,36]) (.cond (.t 36) (.seq (.reg c_r11_Mediate_r6 [8,9]) .ret) .skip))) (.seq (.seq (.reg (c_r11_Mediate_r7 F) [4,6,7,8,11,12,15]) (.seq (.reg c_r11_Mediate_r8 [4,6,7,8,11,12,15,45]) (.cond (.t 45) (.seq (.reg c_r11_Mediate_r9 [8,9]) .ret) .skip))) (.seq (.seq (.dreg [(3,none,[],true),(4,(some 0),[3],false),(6,(some 32),[3],false)] (c_r11_Mediate_r10 F) [6,7,8,11,12,57]) (.cond (.t 57) (.seq (.reg c_r11_Mediate_r11 [8,9]) .ret) .skip)) (.seq (.reg c_r11_Mediate_r12 [6,7,8,11,12,16]) (.seq (.seq (.reg c_r11_Mediate_r13 [6,7,8,11,12,16,17]) (.block 0 (.loop [6,7,8,11,12,16,17] (c_r11_Mediate_b17 F)))) (.seq (.seq (.reg c_r11_Mediate_r18 [6,7,8,11,12,16,18]) (.block 2 (.loop [6,7,8,11,12,16,18] (c_r11_Mediate_b22 F)))) (.seq (.reg c_r11_Mediate_r23 [8,9]) .ret))))))))))
def h_r11_Mediate : Hints := hOf [] (c_r11_Mediate fun _ => 0)
section
variable (P : Program) (F : String → Nat)
def K_r11_Valid : Prop := ∀ s : Cs, FC P (F "r11.Valid") [csD s] (.int .i64 (givenE s)) []
def K_r11_Of : Prop := ∀ s : Cs, FC P (F "r11.Of") [csD s] (.tup [gA (pbG s), mA (pbP s), mA (pbQ s), .int .i64 (pbErr s)]) []
end
section
variable {P : Program} {F : String → Nat} {α : Type}
theorem w_r11_Valid (hv : K_r06_Valid P F) (s : Cs) : W P (c_r11_Valid F) (Done [.t 2] [] (.int .i64 (givenE s)) []) (init [csD s]) := by
 refine W_of ?_
 have r1 := hv s.b s.d s.f
 have r2 := hv s.c s.d s.g
 have : givenE s = if validM s.b s.d s.f ≠ 0 then validM s.b s.d s.f else validM s.c s.d s.g := rfl
 rw [this]
 generalize validM s.b s.d s.f = u at *
 generalize validM s.c s.d s.g = v at *
 simp only [gD, mD] at r1 r2
 simp (disch := omega) only [go_sem, ↓reduceIte, csD]
 refine call_by r1 ?_
 simp (disch := omega) only [go_sem, ↓reduceIte]
 refine bran_ndec (fun c => ?_) (fun c => ?_)
 ·simp (disch := omega) only [go_sem, ↓reduceIte]
  try simp [c]
 ·subst c
  simp (disch := omega) only [go_sem, ↓reduceIte]
  refine call_by r2 ?_
  simp (disch := omega) only [go_sem, ↓reduceIte]
  try simp
end
section
variable {P : Program} {F : String → Nat} {α : Type}
theorem w_r11_Of (hv : K_r11_Valid P F) (hp : K_r11_pairs P F) (hx : K_r11_place P F) (hs : K_r11_sides P F) (s : Cs) :
  W P (c_r11_Of F) (Done [.c 2 true 2, .c 3 true 2, .c 4 true 2, .t 5] [] (.tup [gA (pbG s), mA (pbP s), mA (pbQ s), .int .i64 (pbErr s)]) []) (init [csD s]) := by
 refine W_of ?_
 have rg := hv s
 have hs1 := @givenE_spec s
 have hE : pbErr s = if givenE s ≠ 0 then givenE s else if 40 < (pbN s).length ∨ 80 < (pbE s).length then 3 else 0 := rfl
 have hG : pbErr s = 0 → pbG s = ⟨(pbN s).map fun p => gt s.b.n p.a, (pbE s).map (pbEdge s.b.e s.c.e (pbN s))⟩ := fun h => by simp [pbG, h, pbG0]
 have hZ : pbErr s ≠ 0 → pbG s = g0 := fun h => by simp [pbG, h]
 have hP : pbP s = if pbErr s = 0 then ⟨asA (pbN s), asA (pbE s)⟩ else m0 := rfl
 have hQ : pbQ s = if pbErr s = 0 then ⟨asB (pbN s), asB (pbE s)⟩ else m0 := rfl
 generalize pbErr s = er at *
 generalize pbG s = gg at *
 generalize pbP s = pp at *
 generalize pbQ s = qq at *
 generalize givenE s = ge at *
 simp only [csD] at rg
 simp (disch := omega) only [go_sem, ↓reduceIte, csD]
 refine call_by rg ?_
 simp (disch := omega) only [go_sem, ↓reduceIte]
 refine bran_ndec (fun c => ?_) (fun c => ?_)
 ·rw [if_pos c] at hE
  have hne : ¬ (er = 0) := by omega
  rw [if_neg hne] at hP hQ
  simp (disch := omega) only [go_sem, ↓reduceIte]
  rw [hZ hne, hE, hP, hQ]
  simp [g0, m0, gA, mA, ints, eds]
 ·subst c
  rw [if_neg (by simp)] at hE
  obtain ⟨v1, v2⟩ := hs1 rfl
  obtain ⟨a1, a2, a3, a4, _⟩ := validM_len v1
  obtain ⟨b1, b2, b3, b4, _⟩ := validM_len v2
  obtain ⟨_, _, a5, a6, _⟩ := validM_spec v1
  obtain ⟨_, _, b5, b6, _⟩ := validM_spec v2
  have r1 := hp s.f.n s.g.n 40 (by omega) (by omega) (by omega)
  have r2 := hp s.f.e s.g.e 80 (by omega) (by omega) (by omega)
  have l1 : (pbN s).length ≤ 10000 := pairsL_len (by omega) (by omega)
  have l2 : (pbE s).length ≤ 10000 := pairsL_len (by omega) (by omega)
  have m1 : ∀ p ∈ pbN s, (0 ≤ p.a ∧ p.a < s.b.n.length) := fun p hp => by have := pairsL_bd hp; omega
  have m2 : ∀ p ∈ pbE s, (0 ≤ p.a ∧ p.a < s.b.e.length) ∧ (0 ≤ p.b ∧ p.b < s.c.e.length) := fun p hp => by have := pairsL_bd hp; omega
  change FC P _ _ (.arr 2 (prs ((pbN s).take (40 + 1)))) _ at r1
  change FC P _ _ (.arr 2 (prs ((pbE s).take (80 + 1)))) _ at r2
  generalize pbN s = ns at *
  generalize pbE s = es at *
  obtain ⟨⟨bn, be⟩, ⟨cn, ce⟩, ⟨dn, de⟩, ⟨fn, fe⟩, ⟨gn, ge⟩⟩ := s
  simp only at *
  have t1 : (ns.take (40 + 1)).length = min 41 ns.length := by simp
  have t2 : (es.take (80 + 1)).length = min 81 es.length := by simp
  have t3 : ns.length ≤ 40 → ns.take (40 + 1) = ns := fun h => List.take_of_length_le (by omega)
  have t4 : es.length ≤ 80 → es.take (80 + 1) = es := fun h => List.take_of_length_le (by omega)
  generalize ns.take (40 + 1) = ns' at *
  generalize es.take (80 + 1) = es' at *
  simp (disch := omega) only [go_sem, ↓reduceIte]
  refine call_by r1 ?_
  simp (disch := omega) only [go_sem, ↓reduceIte]
  refine call_by r2 ?_
  simp (disch := omega) only [go_sem, ↓reduceIte]
  have fitN : ∀ i, i ≤ ns.length → ((ns.take i).map fun p => gt bn p.a).length = i := fun i hi => by simp; omega
  have fitE : ∀ i, i ≤ es.length → ((es.take i).map (pbEdge be ce ns)).length = i := fun i hi => by simp; omega
  refine bran_dec (fun c1 => ?_) (fun c1 => ?_)
  ·rw [if_pos (by omega)] at hE
   have hne : ¬ (er = 0) := by omega
   rw [if_neg hne] at hP hQ
   simp (disch := omega) only [go_sem, ↓reduceIte, c1]
   rw [hZ hne, hE, hP, hQ]
   simp [g0, m0, gA, mA, ints, eds]
  ·simp (disch := omega) only [go_sem, ↓reduceIte, c1]
   refine bran_dec (fun c2 => ?_) (fun c2 => ?_)
   ·rw [if_pos (by omega)] at hE
    have hne : ¬ (er = 0) := by omega
    rw [if_neg hne] at hP hQ
    simp (disch := omega) only [go_sem, ↓reduceIte, c1, c2]
    rw [hZ hne, hE, hP, hQ]
    simp [g0, m0, gA, mA, ints, eds]
   ·rw [if_neg (by omega)] at hE
    obtain rfl := t3 (by omega)
    obtain rfl := t4 (by omega)
    subst hE
    rw [if_pos rfl] at hP hQ
    have hG := hG rfl
    subst hG hP hQ
    clear t1 t2 t3 t4
    simp (disch := omega) only [go_sem, ↓reduceIte, c1, c2]
    refine W_loop (fun i : Nat => ⟨[(1, D.pt 0 0), (2, D.pt 3 0), (3, D.pt 6 0), (4, D.pt 9 0), (7, D.sl 10 0 ns'.length), (8, D.sl 11 0 es'.length), (9, D.pt 14 0), (10, D.int IntKind.i64 i)],
     [(0, Ent.box [D.lst 1 (ints bn), D.lst 3 (eds be), D.lst 1 (ints cn), D.lst 3 (eds ce), D.lst 1 (ints dn), D.lst 3 (eds de), D.lst 1 (ints fn), D.lst 1 (ints fe), D.lst 1 (ints gn), D.lst 1 (ints ge)]),
      (1, Ent.arr 1 []), (2, Ent.arr 3 []), (3, Ent.box [D.sl 1 0 0, D.sl 2 0 0]), (4, Ent.arr 1 []), (5, Ent.arr 1 []), (6, Ent.box [D.sl 4 0 0, D.sl 5 0 0]), (7, Ent.arr 1 []), (8, Ent.arr 1 []),
      (9, Ent.box [D.sl 7 0 0, D.sl 8 0 0]), (10, Ent.arr 2 (prs ns')), (11, Ent.arr 2 (prs es')), (12, Ent.arr 1 (ints ((ns'.take i).map fun p => gt bn p.a))), (13, Ent.arr 3 []), (14, Ent.box [D.sl 12 0 i, D.sl 13 0 0])], 15⟩) (fun i => i ≤ ns'.length) (fun i => ns'.length - i) 0 ?_ ?_ ?_
    ·simp (disch := omega) only [go_sem, ↓reduceIte]
     rfl
    ·simp
    ·intro i hi
     have e1 := fitN i hi
     simp (disch := omega) only [go_sem, ↓reduceIte, c_r11_Of_b12]
     refine bran_dec (fun c => ?_) (fun c => ?_)
     ·have hm := m1 _ (gt_mem (l := ns') (j := i) (by omega) (by omega))
      simp (disch := omega) only [go_sem, ↓reduceIte, e1]
      exact ⟨i + 1, by rw [take_gt (by omega)]; simp, by omega, by omega⟩
     ·obtain rfl : i = ns'.length := by omega
      rw [List.take_length] at e1
      simp (disch := omega) only [go_sem, ↓reduceIte, e1]
      refine W_loop (fun j : Nat => ⟨[(1, D.pt 0 0), (2, D.pt 3 0), (3, D.pt 6 0), (4, D.pt 9 0), (7, D.sl 10 0 ns'.length), (8, D.sl 11 0 es'.length), (9, D.pt 14 0), (11, D.int IntKind.i64 j)],
       [(0, Ent.box [D.lst 1 (ints bn), D.lst 3 (eds be), D.lst 1 (ints cn), D.lst 3 (eds ce), D.lst 1 (ints dn), D.lst 3 (eds de), D.lst 1 (ints fn), D.lst 1 (ints fe), D.lst 1 (ints gn), D.lst 1 (ints ge)]),
      (1, Ent.arr 1 []), (2, Ent.arr 3 []), (3, Ent.box [D.sl 1 0 0, D.sl 2 0 0]), (4, Ent.arr 1 []), (5, Ent.arr 1 []), (6, Ent.box [D.sl 4 0 0, D.sl 5 0 0]), (7, Ent.arr 1 []), (8, Ent.arr 1 []),
      (9, Ent.box [D.sl 7 0 0, D.sl 8 0 0]), (10, Ent.arr 2 (prs ns')), (11, Ent.arr 2 (prs es')), (12, Ent.arr 1 (ints (ns'.map fun p => gt bn p.a))), (13, Ent.arr 3 (eds ((es'.take j).map (pbEdge be ce ns')))), (14, Ent.box [D.sl 12 0 ns'.length, D.sl 13 0 j])], 15⟩) (fun j => j ≤ es'.length) (fun j => es'.length - j) 0 ?_ ?_ ?_
      ·simp (disch := omega) only [go_sem, ↓reduceIte]
       rfl
      ·simp
      ·intro j hj
       have e2 := fitE j hj
       simp (disch := omega) only [go_sem, ↓reduceIte, c_r11_Of_b18]
       refine bran_dec (fun c => ?_) (fun c => ?_)
       ·have hm := m2 _ (gt_mem (l := es') (j := j) (by omega) (by omega))
        have q1 := hx ns' (gt be (gt es' j).a).f (gt ce (gt es' j).b).f (by unfold maxL; omega)
        have q2 := hx ns' (gt be (gt es' j).a).o (gt ce (gt es' j).b).o (by unfold maxL; omega)
        simp (disch := omega) only [go_sem, ↓reduceIte, e2]
        refine call_by q1 ?_
        simp (disch := omega) only [go_sem, ↓reduceIte, e2]
        refine call_by q2 ?_
        simp (disch := omega) only [go_sem, ↓reduceIte, e2]
        exact ⟨j + 1, by rw [take_gt (by omega)]; simp [pbEdge], by omega, by omega⟩
       ·obtain rfl : j = es'.length := by omega
        rw [List.take_length] at e2
        simp (disch := omega) only [go_sem, ↓reduceIte, e1, e2]
        refine call_by (hs ns' (by omega)) ?_
        simp (disch := omega) only [go_sem, ↓reduceIte, e1, e2]
        refine call_by (hs es' (by omega)) ?_
        simp (disch := omega) only [go_sem, ↓reduceIte, e1, e2]
        simp [gA, mA, asA, asB]
end
section
variable (P : Program) (F : String → Nat)
def K_r11_Mediate : Prop := ∀ (s : Cs) (x : G) (h k : Mo), FC P (F "r11.Mediate") [csD s, gD x, mD h, mD k] (.tup [mA (medM s x h k).1, .int .i64 (medM s x h k).2]) []
end
section
variable {P : Program} {F : String → Nat} {α : Type}
theorem meet_thr {f g h k : List Int} (hl : k.length = h.length) (hh : ∀ x ∈ h, 0 ≤ x ∧ x < f.length) (hk : ∀ x ∈ k, 0 ≤ x ∧ x < g.length) : meetOk (pairsL f g) h k = decide (thr h f = thr k g) := by
 rw [Bool.eq_iff_iff, decide_eq_true_eq, meetOk, List.all_eq_true]
 have key : ∀ i : Nat, i < h.length → (0 ≤ idx (fun p => decide (p = ⟨gt h i, gt k i⟩)) (pairsL f g) 0 ↔ gt (thr h f) i = gt (thr k g) i) := fun i hi => by
  rw [idx_mem, pairsL_in (hh _ (gt_mem (by omega) (by omega))) (hk _ (gt_mem (by omega) (by omega))), thr_gt hi, thr_gt (by omega)]
 simp only [meetL, meetI, List.mem_map, List.mem_range, decide_eq_true_eq, forall_exists_index, and_imp, forall_apply_eq_imp_iff₂]
 constructor
 ·intro hall
  exact list_ext_gt (by rw [thr_len, thr_len, hl]) fun i hi => (key i (by rwa [thr_len] at hi)).1 (hall i (by rwa [thr_len] at hi))
 ·intro he i hi
  rw [key i hi, he]
theorem at2_idx (l : List Pr) (a b : Int) : ∀ (n i : Nat), n = l.length - i → i ≤ l.length → at2 (asA l) (asB l) a b ((asA l).drop i) i = idx (fun p => decide (p = ⟨a, b⟩)) (l.drop i) i
 | 0, i, hn, hi => by
  rw [List.drop_of_length_le (by simp [asA]; omega), List.drop_of_length_le (by omega)]
  rfl
 | n + 1, i, hn, hi => by
  have hA : (asA l).length = l.length := by simp [asA]
  have hB : (asB l).length = l.length := by simp [asB]
  have h1 := at2_step (asA l) (asB l) a b (asA l) i (by omega)
  have h2 := idx_drop (fun p => decide (p = (⟨a, b⟩ : Pr))) l i (by omega)
  rw [h1, h2, at2_idx l a b n (i + 1) (by omega) (by omega)]
  have e1 : gt (asA l) i = (gt l i).a := by rw [gt_nat (by omega), gt_nat (by omega)]; simp [asA]
  have e2 : gt (asB l) i = (gt l i).b := by rw [gt_nat (by omega), gt_nat (by omega)]; simp [asB]
  rw [e1, e2]
  simp only [decide_eq_true_eq, eqPr]
theorem at2_all (l : List Pr) (a b : Int) : at2 (asA l) (asB l) a b (asA l) 0 = idx (fun p => decide (p = ⟨a, b⟩)) l 0 := by
 have := at2_idx l a b l.length 0 (by omega) (by omega)
 simpa using this
set_option maxHeartbeats 2000000 in
theorem w_r11_Mediate (ho : K_r11_Of P F) (hv : K_r06_Valid P F) (ht : K_r06_Then P F) (hs : K_r06_Same P F) (hx : K_r11_first P F) (s : Cs) (x : G) (h k : Mo) :
  W P (c_r11_Mediate F) (Done [.c 8 true 2, .t 9] [] (.tup [mA (medM s x h k).1, .int .i64 (medM s x h k).2]) []) (init [csD s, gD x, mD h, mD k]) := by
 refine W_of ?_
 have ro := ho s
 have r1 := hv x s.b h
 have r2 := hv x s.c k
 have hl := @pbN_len s
 have hl1 := @validM_len x s.b h
 have hl2 := @validM_len x s.c k
 have hs1 := @validM_spec x s.b h
 have hs2 := @validM_spec x s.c k
 have hb1 := @validM_bd x s.b h
 have hb2 := @validM_bd x s.c k
 have hgv := @givenE_spec s
 have hmd : medM s x h k = if medErr s x h k ≠ 0 then (m0, medErr s x h k) else
  if meetOk (pbN s) h.n k.n = true ∧ meetOk (pbE s) h.e k.e = true then (⟨meetL (pbN s) h.n k.n, meetL (pbE s) h.e k.e⟩, 0) else (m0, 11) := rfl
 have hE : medErr s x h k = if pbErr s ≠ 0 then pbErr s else if validM x s.b h ≠ 0 then validM x s.b h else validM x s.c k := rfl
 have hP : pbP s = if pbErr s = 0 then ⟨asA (pbN s), asA (pbE s)⟩ else m0 := rfl
 have hQ : pbQ s = if pbErr s = 0 then ⟨asB (pbN s), asB (pbE s)⟩ else m0 := rfl
 generalize medErr s x h k = er at *
 generalize medM s x h k = md at *
 generalize pbErr s = e0 at *
 generalize hw1 : validM x s.b h = e1 at *
 generalize hw2 : validM x s.c k = e2 at *
 generalize pbG s = gg at *
 generalize pbP s = pp at *
 generalize pbQ s = qq at *
 by_cases c0 : e0 = 0
 ·subst c0
  rw [if_neg (by simp)] at hE
  rw [if_pos rfl] at hP hQ
  subst hP hQ
  obtain ⟨p1, p2, hg0⟩ := hl rfl
  obtain ⟨gv1, gv2⟩ := hgv hg0
  by_cases c1 : e1 = 0
  ·subst c1
   rw [if_neg (by simp)] at hE
   subst hE
   by_cases c2 : er = 0
   ·subst c2
    rw [if_neg (by simp)] at hmd
    obtain ⟨q1, q2, _⟩ := hl1 rfl
    obtain ⟨q1', q2', _⟩ := hl2 rfl
    obtain ⟨_, _, q3, q4, _⟩ := hs1 rfl
    obtain ⟨_, _, q5, q6, _⟩ := hs2 rfl
    obtain ⟨b1, b2⟩ := hb1 rfl
    obtain ⟨b3, b4⟩ := hb2 rfl
    obtain ⟨_, _, z1, z2, _⟩ := validM_spec gv1
    obtain ⟨_, _, z3, z4, _⟩ := validM_spec gv2
    rw [← z1] at b1
    rw [← z2] at b2
    rw [← z3] at b3
    rw [← z4] at b4
    have m1 := meet_thr (f := s.f.n) (g := s.g.n) (by omega) b1 b3
    have m2 := meet_thr (f := s.f.e) (g := s.g.e) (by omega) b2 b4
    change meetOk (pbN s) h.n k.n = _ at m1
    change meetOk (pbE s) h.e k.e = _ at m2
    have t1 := ht h s.f (by omega) (by omega) b1 b2
    have t2 := ht k s.g (by omega) (by omega) b3 b4
    have hsm := hs (thenM h s.f) (thenM k s.g) (by simp only [thenM, thr_len, maxL]; omega) (by simp only [thenM, thr_len, maxL]; omega)
    have hc : decide (thenM h s.f = thenM k s.g) = (meetOk (pbN s) h.n k.n && meetOk (pbE s) h.e k.e) := by
     rw [m1, m2, Bool.eq_iff_iff]
     simp [thenM]
    rw [hc] at hsm
    have hA : ∀ l : List Pr, (asA l).length = l.length := fun l => by simp [asA]
    have hB : ∀ l : List Pr, (asB l).length = l.length := fun l => by simp [asB]
    have f1 : ∀ i : Nat, FC P (F "r11.first") [.lst 1 (ints (asA (pbN s))), .lst 1 (ints (asB (pbN s))), .int .i64 (gt h.n i), .int .i64 (gt k.n i)] (.int .i64 (idx (fun p => decide (p = ⟨gt h.n i, gt k.n i⟩)) (pbN s) 0)) [] := fun i => by
     have := hx (asA (pbN s)) (asB (pbN s)) (gt h.n i) (gt k.n i) (by rw [hA]; unfold maxL; omega) (by rw [hA, hB])
     rwa [at2_all] at this
    have f2 : ∀ i : Nat, FC P (F "r11.first") [.lst 1 (ints (asA (pbE s))), .lst 1 (ints (asB (pbE s))), .int .i64 (gt h.e i), .int .i64 (gt k.e i)] (.int .i64 (idx (fun p => decide (p = ⟨gt h.e i, gt k.e i⟩)) (pbE s) 0)) [] := fun i => by
     have := hx (asA (pbE s)) (asB (pbE s)) (gt h.e i) (gt k.e i) (by rw [hA]; unfold maxL; omega) (by rw [hA, hB])
     rwa [at2_all] at this
    have hAn := hA (pbN s)
    have hBn := hB (pbN s)
    have hAe := hA (pbE s)
    have hBe := hB (pbE s)
    clear hA hB m1 m2 hc
    have hm1 := meetI_succ (pbN s) h.n k.n
    have hm2 := meetI_succ (pbE s) h.e k.e
    have hm3 := meetI_len (pbN s) h.n k.n
    have hm4 := meetI_len (pbE s) h.e k.e
    rw [show meetL (pbN s) h.n k.n = meetI (pbN s) h.n k.n h.n.length from rfl, show meetL (pbE s) h.e k.e = meetI (pbE s) h.e k.e h.e.length from rfl] at hmd
    generalize meetOk (pbN s) h.n k.n = o1 at *
    generalize meetOk (pbE s) h.e k.e = o2 at *
    generalize thenM h s.f = tf at *
    generalize thenM k s.g = tg at *
    obtain ⟨tfn, tfe⟩ := tf
    obtain ⟨tgn, tge⟩ := tg
    generalize hAA : asA (pbN s) = an at *
    generalize hBB : asB (pbN s) = bbn at *
    generalize hAA2 : asA (pbE s) = ae at *
    generalize hBB2 : asB (pbE s) = bbe at *
    generalize pbN s = ns at *
    generalize pbE s = es at *
    obtain ⟨⟨bn, be⟩, ⟨cn, ce⟩, ⟨dn, de⟩, ⟨fn, fe⟩, ⟨gn, ge⟩⟩ := s
    obtain ⟨xn, xe⟩ := x
    obtain ⟨hn, he⟩ := h
    obtain ⟨kn, ke⟩ := k
    obtain ⟨ggn, gge⟩ := gg
    simp only [csD, gD, mD, gA, mA] at *
    simp (disch := omega) only [go_sem, ↓reduceIte]
    refine call_by ro ?_
    simp (disch := omega) only [go_sem, ↓reduceIte]
    refine call_by r1 ?_
    simp (disch := omega) only [go_sem, ↓reduceIte]
    refine call_by r2 ?_
    simp (disch := omega) only [go_sem, ↓reduceIte]
    refine call_by t1 ?_
    simp (disch := omega) only [go_sem, ↓reduceIte]
    refine call_by t2 ?_
    simp (disch := omega) only [go_sem, ↓reduceIte]
    refine call_by hsm ?_
    cases o1
    ·rw [if_neg (by simp)] at hmd
     subst hmd
     simp (disch := omega) only [go_sem, ↓reduceIte]
     simp [m0, mA, ints]
    ·cases o2
     ·rw [if_neg (by simp)] at hmd
      subst hmd
      simp (disch := omega) only [go_sem, ↓reduceIte]
      simp [m0, mA, ints]
     ·rw [if_pos (by simp)] at hmd
      subst hmd
      simp (disch := omega) only [go_sem, ↓reduceIte]
      refine W_loop (fun i : Nat => ⟨[(6, D.pt 0 0), (7, D.pt 1 0), (8, D.pt 4 0), (11, D.pt 7 0), (12, D.pt 10 0), (16, D.pt 13 0), (17, D.int IntKind.i64 i)],
       [(0, Ent.box [D.lst 1 (ints hn), D.lst 1 (ints he)]), (1, Ent.box [D.lst 1 (ints kn), D.lst 1 (ints ke)]),
        (2, Ent.arr 1 []), (3, Ent.arr 1 []), (4, Ent.box [D.sl 2 0 0, D.sl 3 0 0]), (5, Ent.arr 1 (ints an)), (6, Ent.arr 1 (ints ae)), (7, Ent.box [D.sl 5 0 an.length, D.sl 6 0 ae.length]), (8, Ent.arr 1 (ints bbn)),
        (9, Ent.arr 1 (ints bbe)), (10, Ent.box [D.sl 8 0 bbn.length, D.sl 9 0 bbe.length]), (11, Ent.arr 1 (ints (meetI ns hn kn i))), (12, Ent.arr 1 []), (13, Ent.box [D.sl 11 0 i, D.sl 12 0 0])], 14⟩) (fun i => i ≤ hn.length) (fun i => hn.length - i) 0 ?_ ?_ ?_
      ·simp (disch := omega) only [go_sem, ↓reduceIte, meetI_zero]
       rfl
      ·simp
      ·intro i hi
       have w1 := hm1 i
       have w2 := hm3 i
       have w3 := f1 i
       generalize idx (fun p => decide (p = ⟨gt hn i, gt kn i⟩)) ns 0 = y at *
       simp (disch := omega) only [go_sem, ↓reduceIte, c_r11_Mediate_b17]
       refine bran_dec (fun c => ?_) (fun c => ?_)
       ·simp (disch := omega) only [go_sem, ↓reduceIte, w2]
        refine call_by w3 ?_
        simp (disch := omega) only [go_sem, ↓reduceIte, w2]
        exact ⟨i + 1, by rw [w1]; simp, by omega, by omega⟩
       ·obtain rfl : i = hn.length := by omega
        simp (disch := omega) only [go_sem, ↓reduceIte, w2]
        refine W_loop (fun i : Nat => ⟨[(6, D.pt 0 0), (7, D.pt 1 0), (8, D.pt 4 0), (11, D.pt 7 0), (12, D.pt 10 0), (16, D.pt 13 0), (18, D.int IntKind.i64 i)],
         [(0, Ent.box [D.lst 1 (ints hn), D.lst 1 (ints he)]), (1, Ent.box [D.lst 1 (ints kn), D.lst 1 (ints ke)]),
        (2, Ent.arr 1 []), (3, Ent.arr 1 []), (4, Ent.box [D.sl 2 0 0, D.sl 3 0 0]), (5, Ent.arr 1 (ints an)), (6, Ent.arr 1 (ints ae)), (7, Ent.box [D.sl 5 0 an.length, D.sl 6 0 ae.length]), (8, Ent.arr 1 (ints bbn)),
        (9, Ent.arr 1 (ints bbe)), (10, Ent.box [D.sl 8 0 bbn.length, D.sl 9 0 bbe.length]), (11, Ent.arr 1 (ints (meetI ns hn kn hn.length))), (12, Ent.arr 1 (ints (meetI es he ke i))), (13, Ent.box [D.sl 11 0 hn.length, D.sl 12 0 i])], 14⟩) (fun i => i ≤ he.length) (fun i => he.length - i) 0 ?_ ?_ ?_
        ·simp (disch := omega) only [go_sem, ↓reduceIte, meetI_zero]
         rfl
        ·simp
        ·intro i hi
         have w1 := hm2 i
         have w4 := hm4 i
         have w3 := f2 i
         generalize idx (fun p => decide (p = ⟨gt he i, gt ke i⟩)) es 0 = y at *
         simp (disch := omega) only [go_sem, ↓reduceIte, c_r11_Mediate_b22]
         refine bran_dec (fun c => ?_) (fun c => ?_)
         ·simp (disch := omega) only [go_sem, ↓reduceIte, w2, w4]
          refine call_by w3 ?_
          simp (disch := omega) only [go_sem, ↓reduceIte, w2, w4]
          exact ⟨i + 1, by rw [w1]; simp, by omega, by omega⟩
         ·obtain rfl : i = he.length := by omega
          simp (disch := omega) only [go_sem, ↓reduceIte, w2, w4]
          simp [mA]
   ·rw [if_pos c2] at hmd
    subst hmd
    obtain ⟨ggn, gge⟩ := gg
    simp only [csD, gD, mD, gA, mA] at *
    simp (disch := omega) only [go_sem, ↓reduceIte]
    refine call_by ro ?_
    simp (disch := omega) only [go_sem, ↓reduceIte]
    refine call_by r1 ?_
    simp (disch := omega) only [go_sem, ↓reduceIte]
    refine call_by r2 ?_
    simp (disch := omega) only [go_sem, ↓reduceIte, c2]
    simp [m0, mA, ints]
  ·rw [if_pos c1] at hE
   subst hE
   rw [if_pos c1] at hmd
   subst hmd
   obtain ⟨ggn, gge⟩ := gg
   simp only [csD, gD, mD, gA, mA] at *
   simp (disch := omega) only [go_sem, ↓reduceIte]
   refine call_by ro ?_
   simp (disch := omega) only [go_sem, ↓reduceIte]
   refine call_by r1 ?_
   simp (disch := omega) only [go_sem, ↓reduceIte, c1]
   simp [m0, mA, ints]
 ·rw [if_pos c0] at hE
  subst hE
  rw [if_pos c0] at hmd
  subst hmd
  obtain ⟨ggn, gge⟩ := gg
  obtain ⟨ppn, ppe⟩ := pp
  obtain ⟨qqn, qqe⟩ := qq
  simp only [csD, gD, mD, gA, mA] at *
  simp (disch := omega) only [go_sem, ↓reduceIte]
  refine call_by ro ?_
  simp (disch := omega) only [go_sem, ↓reduceIte, c0]
  simp [m0, mA, ints]
end
section
section
variable {s : Sp}
def Sp.sw (s : Sp) : Sp := ⟨s.a, s.c, s.b, s.g, s.f⟩
theorem SOk.sw (hs : SOk s) : SOk s.sw := ⟨hs.g, hs.f, fun h => hs.s (by simp only [Big, Sp.sw] at *; omega)⟩
end
end
attribute [local irreducible] W
@[go_sem] def c_r14_Valid_r0 : LL := [qB 1 0,qi 2 0]
@[go_sem] def c_r14_Valid_r1 (F : Fn) : LL := [qf 6 0 1,qL 7 2 6,qf 8 2 1,qL 9 2 8,qf 10 8 1,qL 11 2 10,qc 12 (F "r06.Valid") [.t 7,.t 9,.t 11],qm 3 12]
@[go_sem] def c_r14_Valid_r2 : LL := [qm 13 3,qk .neq 14 13 0]
@[go_sem] def c_r14_Valid_r3 : LL := [qm 15 3,qm 2 15]
@[go_sem] def c_r14_Valid_r4 (F : Fn) : LL := [qf 16 0 1,qL 17 2 16,qf 18 4 1,qL 19 2 18,qf 20 10 1,qL 21 2 20,qc 22 (F "r06.Valid") [.t 17,.t 19,.t 21],qm 4 22]
@[go_sem] def c_r14_Valid_r5 : LL := [qm 23 4,qk .neq 24 23 0]
@[go_sem] def c_r14_Valid_r6 : LL := [qm 25 4,qm 2 25]
@[go_sem] def c_r14_Valid_r7 (F : Fn) : LL := [qf 26 2 1,qL 27 2 26,qf 28 6 1,qL 29 2 28,qf 30 12 1,qL 31 2 30,qc 32 (F "r06.Valid") [.t 27,.t 29,.t 31],qm 5 32]
@[go_sem] def c_r14_Valid_r8 : LL := [qm 33 5,qk .neq 34 33 0]
@[go_sem] def c_r14_Valid_r9 : LL := [qm 35 5,qm 2 35]
@[go_sem] def c_r14_Valid_r10 (F : Fn) : LL := [qf 36 4 1,qL 37 2 36,qf 38 6 1,qL 39 2 38,qf 40 14 1,qL 41 2 40,qc 42 (F "r06.Valid") [.t 37,.t 39,.t 41],qm 2 42]
@[go_sem] def c_r14_Valid (F : Fn) : LC := (.seq (.reg c_r14_Valid_r0 [1]) (.seq (.seq (.reg (c_r14_Valid_r1 F) [1,3]) (.seq (.reg c_r14_Valid_r2 [1,3,14]) (.cond (.t 14) (.seq (.reg c_r14_Valid_r3 [2]) .ret) .skip))) (.seq (.seq (.reg (c_r14_Valid_r4 F) [1,4]) (.seq (.reg c_r14_Valid_r5 [1,4,24]) (.cond (.t 24) (.seq (.reg c_r14_Valid_r6 [2]) .ret) .skip))) (.seq (.seq (.reg (c_r14_Valid_r7 F) [1,5]) (.seq (.reg c_r14_Valid_r8 [1,5,34]) (.cond (.t 34) (.seq (.reg c_r14_Valid_r9 [2]) .ret) .skip))) (.seq (.reg (c_r14_Valid_r10 F) [2]) .ret)))))
def h_r14_Valid : Hints := hOf [] (c_r14_Valid fun _ => 0)
@[go_sem] def c_r14_commutes_r0 : LL := [qB 1 0,qb 2 false]
@[go_sem] def c_r14_commutes_r1 (F : Fn) : LL := [qf 3 8 1,qL 4 2 3,qf 5 12 1,qL 6 2 5,qc 7 (F "r06.Then") [.t 4,.t 6],qf 8 10 1,qL 9 2 8,qf 10 14 1,qL 11 2 10,qc 12 (F "r06.Then") [.t 9,.t 11],qc 13 (F "r06.Same") [.t 7,.t 12],qm 2 13]
@[go_sem] def c_r14_commutes (F : Fn) : LC := (.seq (.reg c_r14_commutes_r0 [1]) (.seq (.dreg [(4,none,[],true),(6,(some 32),[4],false),(8,(some 128),[4],false)] (c_r14_commutes_r1 F) [2]) .ret))
def h_r14_commutes : Hints := hOf [] (c_r14_commutes fun _ => 0)
@[go_sem] def c_r14_Same_r0 : LL := [qB 2 0,qB 3 1,qb 4 false]
@[go_sem] def c_r14_Same_r1 (F : Fn) : LL := [qf 6 0 2,qL 7 2 6,qf 8 0 3,qL 9 2 8,qc 10 (F "r05.Same") [.t 7,.t 9],qm 11 10,qg 11 true (qf 12 2 2),qg 11 true (qL 13 2 12),qg 11 true (qf 14 2 3),qg 11 true (qL 15 2 14),
 qg 11 true (qc 16 (F "r05.Same") [.t 13,.t 15]),qP 17 11 16,qm 18 17,qg 18 true (qf 19 4 2),qg 18 true (qL 20 2 19),qg 18 true (qf 21 4 3),qg 18 true (qL 22 2 21),
 qg 18 true (qc 23 (F "r05.Same") [.t 20,.t 22]),qP 24 18 23,qm 25 24,qg 25 true (qf 26 6 2),qg 25 true (qL 27 2 26),qg 25 true (qf 28 6 3),qg 25 true (qL 29 2 28),
 qg 25 true (qc 30 (F "r05.Same") [.t 27,.t 29]),qP 31 25 30,qm 5 31]
@[go_sem] def c_r14_Same_r2 (F : Fn) : LL := [qm 32 5,qm 33 32,qg 33 true (qf 34 8 2),qg 33 true (qL 35 2 34),qg 33 true (qf 36 8 3),qg 33 true (qL 37 2 36),qg 33 true (qc 38 (F "r06.Same") [.t 35,.t 37]),qP 39 33 38,qm 40 39,
 qg 40 true (qf 41 10 2),qg 40 true (qL 42 2 41),qg 40 true (qf 43 10 3),qg 40 true (qL 44 2 43),qg 40 true (qc 45 (F "r06.Same") [.t 42,.t 44]),qP 46 40 45,qm 47 46,qg 47 true (qf 48 12 2),
 qg 47 true (qL 49 2 48),qg 47 true (qf 50 12 3),qg 47 true (qL 51 2 50),qg 47 true (qc 52 (F "r06.Same") [.t 49,.t 51]),qP 53 47 52,qm 54 53,qg 54 true (qf 55 14 2),qg 54 true (qL 56 2 55),
 qg 54 true (qf 57 14 3),qg 54 true (qL 58 2 57),qg 54 true (qc 59 (F "r06.Same") [.t 56,.t 58]),qP 60 54 59,qm 4 60]
@[go_sem] def c_r14_Same (F : Fn) : LC := (.seq (.reg c_r14_Same_r0 [2,3]) (.seq (.reg (c_r14_Same_r1 F) [2,3,5]) (.seq (.reg (c_r14_Same_r2 F) [4]) .ret)))
def h_r14_Same : Hints := hOf [] (c_r14_Same fun _ => 0)
@[go_sem] def c_r14_Few_r0 : LL := [qB 1 0,qb 2 false]
@[go_sem] def c_r14_Few_r1 (F : Fn) : LL := [qf 4 0 1,qL 5 2 4,qc 6 (F "r05.Few") [.t 5],qm 7 6,qg 7 true (qf 8 2 1),qg 7 true (qL 9 2 8),qg 7 true (qc 10 (F "r05.Few") [.t 9]),qP 11 7 10,qm 12 11,qg 12 true (qf 13 4 1),qg 12 true (qL 14 2 13),
 qg 12 true (qc 15 (F "r05.Few") [.t 14]),qP 16 12 15,qm 17 16,qg 17 true (qf 18 6 1),qg 17 true (qL 19 2 18),qg 17 true (qc 20 (F "r05.Few") [.t 19]),qP 21 17 20,qm 3 21]
@[go_sem] def c_r14_Few_r2 (F : Fn) : LL := [qm 22 3,qm 23 22,qg 23 true (qf 24 8 1),qg 23 true (qL 25 2 24),qg 23 true (qc 26 (F "r06.Few") [.t 25,.k (.int .i64 (140))]),qP 27 23 26,qm 28 27,qg 28 true (qf 29 10 1),
 qg 28 true (qL 30 2 29),qg 28 true (qc 31 (F "r06.Few") [.t 30,.k (.int .i64 (140))]),qP 32 28 31,qm 33 32,qg 33 true (qf 34 12 1),qg 33 true (qL 35 2 34),
 qg 33 true (qc 36 (F "r06.Few") [.t 35,.k (.int .i64 (140))]),qP 37 33 36,qm 38 37,qg 38 true (qf 39 14 1),qg 38 true (qL 40 2 39),qg 38 true (qc 41 (F "r06.Few") [.t 40,.k (.int .i64 (140))]),
 qP 42 38 41,qm 2 42]
@[go_sem] def c_r14_Few (F : Fn) : LC := (.seq (.reg c_r14_Few_r0 [1]) (.seq (.reg (c_r14_Few_r1 F) [1,3]) (.seq (.reg (c_r14_Few_r2 F) [2]) .ret)))
def h_r14_Few : Hints := hOf [] (c_r14_Few fun _ => 0)
def fewSq (s : Sq) : Bool := few s.a && (few s.b && (few s.c && (few s.d && (fewM s.f 140 && (fewM s.g 140 && (fewM s.h 140 && fewM s.k 140))))))
section
variable (P : Program) (F : String → Nat)
def K_r14_Valid : Prop := ∀ s : Sq, FC P (F "r14.Valid") [sqD s] (.int .i64 (sqE s)) []
def K_r14_commutes : Prop := ∀ s : Sq, sqE s = 0 → FC P (F "r14.commutes") [sqD s] (.bool (comB s)) []
def SqBd (s : Sq) : Prop := (s.a.n.length ≤ maxL ∧ s.a.e.length ≤ maxL) ∧ (s.b.n.length ≤ maxL ∧ s.b.e.length ≤ maxL) ∧ (s.c.n.length ≤ maxL ∧ s.c.e.length ≤ maxL) ∧ (s.d.n.length ≤ maxL ∧ s.d.e.length ≤ maxL) ∧ s.sm
def K_r14_Same : Prop := ∀ s t : Sq, SqBd s → FC P (F "r14.Same") [sqD s, sqD t] (.bool (decide (s = t))) []
def K_r14_Few : Prop := ∀ s : Sq, s.sm → FC P (F "r14.Few") [sqD s] (.bool (fewSq s)) []
end
section
variable {P : Program} {F : String → Nat} {α : Type}
theorem w_r14_Valid (hv : K_r06_Valid P F) (s : Sq) : W P (c_r14_Valid F) (Done [.t 2] [] (.int .i64 (sqE s)) []) (init [sqD s]) := by
 refine W_of ?_
 have r1 := hv s.a s.b s.f
 have r2 := hv s.a s.c s.g
 have r3 := hv s.b s.d s.h
 have r4 := hv s.c s.d s.k
 unfold sqE
 generalize validM s.a s.b s.f = v1 at *
 generalize validM s.a s.c s.g = v2 at *
 generalize validM s.b s.d s.h = v3 at *
 generalize validM s.c s.d s.k = v4 at *
 simp only [gD, mD, sqD] at *
 simp (disch := omega) only [go_sem, ↓reduceIte]
 refine call_by r1 ?_
 simp (disch := omega) only [go_sem, ↓reduceIte]
 refine bran_ndec (fun c => ?_) (fun c => ?_)
 ·simp (disch := omega) only [go_sem, ↓reduceIte]
  try rw [if_pos c]
 rw [if_neg (by simp [c])]
 simp (disch := omega) only [go_sem, ↓reduceIte]
 refine call_by r2 ?_
 simp (disch := omega) only [go_sem, ↓reduceIte]
 refine bran_ndec (fun c => ?_) (fun c => ?_)
 ·simp (disch := omega) only [go_sem, ↓reduceIte]
  try rw [if_pos c]
 rw [if_neg (by simp [c])]
 simp (disch := omega) only [go_sem, ↓reduceIte]
 refine call_by r3 ?_
 simp (disch := omega) only [go_sem, ↓reduceIte]
 refine bran_ndec (fun c => ?_) (fun c => ?_)
 ·simp (disch := omega) only [go_sem, ↓reduceIte]
  try rw [if_pos c]
 rw [if_neg (by simp [c])]
 simp (disch := omega) only [go_sem, ↓reduceIte]
 refine call_by r4 ?_
 simp (disch := omega) only [go_sem, ↓reduceIte]
theorem w_r14_commutes (ht : K_r06_Then P F) (hs : K_r06_Same P F) (s : Sq) (h0 : sqE s = 0) : W P (c_r14_commutes F) (Done [.t 2] [] (.bool (comB s)) []) (init [sqD s]) := by
 refine W_of ?_
 have q := sqE_ok.1 h0
 have f1 := q.f.fit q.h
 have f2 := q.g.fit q.k
 have r1 := ht s.f s.h (by omega) (by omega) f1.2.1 f1.2.2
 have r2 := ht s.g s.k (by omega) (by omega) f2.2.1 f2.2.2
 have e1 : (thenM s.f s.h).n.length = s.f.n.length := thr_len _ _
 have e2 : (thenM s.f s.h).e.length = s.f.e.length := thr_len _ _
 have r3 := hs (thenM s.f s.h) (thenM s.g s.k) (by unfold maxL; omega) (by unfold maxL; omega)
 unfold comB
 clear e1 e2 f1 f2 q h0
 generalize thenM s.f s.h = x at *
 generalize thenM s.g s.k = y at *
 obtain ⟨xn, xe⟩ := x
 obtain ⟨yn, ye⟩ := y
 simp only [mA, mD, sqD] at *
 simp (disch := omega) only [go_sem, ↓reduceIte]
 refine call_by r1 ?_
 simp (disch := omega) only [go_sem, ↓reduceIte]
 refine call_by r2 ?_
 simp (disch := omega) only [go_sem, ↓reduceIte]
 refine call_by r3 ?_
 simp (disch := omega) only [go_sem, ↓reduceIte]
end
section
variable (P : Program) (F : String → Nat)
end
section
variable {P : Program} {F : String → Nat} {α : Type}
theorem eqSq (s t : Sq) : s = t ↔ (s.a = t.a ∧ s.b = t.b ∧ s.c = t.c ∧ s.d = t.d) ∧ (s.f = t.f ∧ s.g = t.g ∧ s.h = t.h ∧ s.k = t.k) := by
 cases s; cases t; simp [and_assoc]
set_option maxHeartbeats 1000000 in
theorem w_r14_Same (hg : K_r05_Same P F) (hm : K_r06_Same P F) (s t : Sq) (h : SqBd s) : W P (c_r14_Same F) (Done [.t 4] [] (.bool (decide (s = t))) []) (init [sqD s, sqD t]) := by
 refine W_of ?_
 obtain ⟨⟨a1, a2⟩, ⟨b1, b2⟩, ⟨c1, c2⟩, ⟨d1, d2⟩, f, g, hh, k⟩ := h
 have ra := hg s.a t.a a1 a2
 have rb := hg s.b t.b b1 b2
 have rc := hg s.c t.c c1 c2
 have rd := hg s.d t.d d1 d2
 have rf := hm s.f t.f f.1 f.2
 have rg := hm s.g t.g g.1 g.2
 have rh := hm s.h t.h hh.1 hh.2
 have rk := hm s.k t.k k.1 k.2
 have e : decide (s = t) = ((decide (s.a = t.a) && (decide (s.b = t.b) && (decide (s.c = t.c) && decide (s.d = t.d)))) && (decide (s.f = t.f) && (decide (s.g = t.g) && (decide (s.h = t.h) && decide (s.k = t.k))))) := by
  rw [Bool.eq_iff_iff]; simp [eqSq]
 rw [e]
 clear e
 generalize decide (s.a = t.a) = za at *
 generalize decide (s.b = t.b) = zb at *
 generalize decide (s.c = t.c) = zc at *
 generalize decide (s.d = t.d) = zd at *
 generalize decide (s.f = t.f) = zf at *
 generalize decide (s.g = t.g) = zg at *
 generalize decide (s.h = t.h) = zh at *
 generalize decide (s.k = t.k) = zk at *
 simp only [gD, mD, sqD] at *
 cases za
 ·simp (disch := omega) only [go_sem, ↓reduceIte]
  refine call_by ra ?_
  simp (disch := omega) only [go_sem, ↓reduceIte]
  try simp
 cases zb
 ·simp (disch := omega) only [go_sem, ↓reduceIte]
  refine call_by ra ?_
  simp (disch := omega) only [go_sem, ↓reduceIte]
  refine call_by rb ?_
  simp (disch := omega) only [go_sem, ↓reduceIte]
  try simp
 cases zc
 ·simp (disch := omega) only [go_sem, ↓reduceIte]
  refine call_by ra ?_
  simp (disch := omega) only [go_sem, ↓reduceIte]
  refine call_by rb ?_
  simp (disch := omega) only [go_sem, ↓reduceIte]
  refine call_by rc ?_
  simp (disch := omega) only [go_sem, ↓reduceIte]
  try simp
 cases zd
 ·simp (disch := omega) only [go_sem, ↓reduceIte]
  refine call_by ra ?_
  simp (disch := omega) only [go_sem, ↓reduceIte]
  refine call_by rb ?_
  simp (disch := omega) only [go_sem, ↓reduceIte]
  refine call_by rc ?_
  simp (disch := omega) only [go_sem, ↓reduceIte]
  refine call_by rd ?_
  simp (disch := omega) only [go_sem, ↓reduceIte]
  try simp
 cases zf
 ·simp (disch := omega) only [go_sem, ↓reduceIte]
  refine call_by ra ?_
  simp (disch := omega) only [go_sem, ↓reduceIte]
  refine call_by rb ?_
  simp (disch := omega) only [go_sem, ↓reduceIte]
  refine call_by rc ?_
  simp (disch := omega) only [go_sem, ↓reduceIte]
  refine call_by rd ?_
  simp (disch := omega) only [go_sem, ↓reduceIte]
  refine call_by rf ?_
  simp (disch := omega) only [go_sem, ↓reduceIte]
  try simp
 cases zg
 ·simp (disch := omega) only [go_sem, ↓reduceIte]
  refine call_by ra ?_
  simp (disch := omega) only [go_sem, ↓reduceIte]
  refine call_by rb ?_
  simp (disch := omega) only [go_sem, ↓reduceIte]
  refine call_by rc ?_
  simp (disch := omega) only [go_sem, ↓reduceIte]
  refine call_by rd ?_
  simp (disch := omega) only [go_sem, ↓reduceIte]
  refine call_by rf ?_
  simp (disch := omega) only [go_sem, ↓reduceIte]
  refine call_by rg ?_
  simp (disch := omega) only [go_sem, ↓reduceIte]
  try simp
 cases zh
 ·simp (disch := omega) only [go_sem, ↓reduceIte]
  refine call_by ra ?_
  simp (disch := omega) only [go_sem, ↓reduceIte]
  refine call_by rb ?_
  simp (disch := omega) only [go_sem, ↓reduceIte]
  refine call_by rc ?_
  simp (disch := omega) only [go_sem, ↓reduceIte]
  refine call_by rd ?_
  simp (disch := omega) only [go_sem, ↓reduceIte]
  refine call_by rf ?_
  simp (disch := omega) only [go_sem, ↓reduceIte]
  refine call_by rg ?_
  simp (disch := omega) only [go_sem, ↓reduceIte]
  refine call_by rh ?_
  simp (disch := omega) only [go_sem, ↓reduceIte]
  try simp
 cases zk
 ·simp (disch := omega) only [go_sem, ↓reduceIte]
  refine call_by ra ?_
  simp (disch := omega) only [go_sem, ↓reduceIte]
  refine call_by rb ?_
  simp (disch := omega) only [go_sem, ↓reduceIte]
  refine call_by rc ?_
  simp (disch := omega) only [go_sem, ↓reduceIte]
  refine call_by rd ?_
  simp (disch := omega) only [go_sem, ↓reduceIte]
  refine call_by rf ?_
  simp (disch := omega) only [go_sem, ↓reduceIte]
  refine call_by rg ?_
  simp (disch := omega) only [go_sem, ↓reduceIte]
  refine call_by rh ?_
  simp (disch := omega) only [go_sem, ↓reduceIte]
  refine call_by rk ?_
  simp (disch := omega) only [go_sem, ↓reduceIte]
  try simp
 ·simp (disch := omega) only [go_sem, ↓reduceIte]
  refine call_by ra ?_
  simp (disch := omega) only [go_sem, ↓reduceIte]
  refine call_by rb ?_
  simp (disch := omega) only [go_sem, ↓reduceIte]
  refine call_by rc ?_
  simp (disch := omega) only [go_sem, ↓reduceIte]
  refine call_by rd ?_
  simp (disch := omega) only [go_sem, ↓reduceIte]
  refine call_by rf ?_
  simp (disch := omega) only [go_sem, ↓reduceIte]
  refine call_by rg ?_
  simp (disch := omega) only [go_sem, ↓reduceIte]
  refine call_by rh ?_
  simp (disch := omega) only [go_sem, ↓reduceIte]
  refine call_by rk ?_
  simp (disch := omega) only [go_sem, ↓reduceIte]
  try simp
set_option maxHeartbeats 1000000 in
theorem w_r14_Few (hg : K_r05_Few P F) (hm : K_r06_Few P F) (s : Sq) (h : s.sm) : W P (c_r14_Few F) (Done [.t 2] [] (.bool (fewSq s)) []) (init [sqD s]) := by
 refine W_of ?_
 obtain ⟨f, g, hh, k⟩ := h
 have ra := hg s.a
 have rb := hg s.b
 have rc := hg s.c
 have rd := hg s.d
 have rf := hm s.f 140 f.1 f.2
 have rg := hm s.g 140 g.1 g.2
 have rh := hm s.h 140 hh.1 hh.2
 have rk := hm s.k 140 k.1 k.2
 unfold fewSq
 generalize few s.a = za at *
 generalize few s.b = zb at *
 generalize few s.c = zc at *
 generalize few s.d = zd at *
 generalize fewM s.f 140 = zf at *
 generalize fewM s.g 140 = zg at *
 generalize fewM s.h 140 = zh at *
 generalize fewM s.k 140 = zk at *
 simp only [gD, mD, sqD] at *
 cases za
 ·simp (disch := omega) only [go_sem, ↓reduceIte]
  refine call_by ra ?_
  simp (disch := omega) only [go_sem, ↓reduceIte]
  try simp
 cases zb
 ·simp (disch := omega) only [go_sem, ↓reduceIte]
  refine call_by ra ?_
  simp (disch := omega) only [go_sem, ↓reduceIte]
  refine call_by rb ?_
  simp (disch := omega) only [go_sem, ↓reduceIte]
  try simp
 cases zc
 ·simp (disch := omega) only [go_sem, ↓reduceIte]
  refine call_by ra ?_
  simp (disch := omega) only [go_sem, ↓reduceIte]
  refine call_by rb ?_
  simp (disch := omega) only [go_sem, ↓reduceIte]
  refine call_by rc ?_
  simp (disch := omega) only [go_sem, ↓reduceIte]
  try simp
 cases zd
 ·simp (disch := omega) only [go_sem, ↓reduceIte]
  refine call_by ra ?_
  simp (disch := omega) only [go_sem, ↓reduceIte]
  refine call_by rb ?_
  simp (disch := omega) only [go_sem, ↓reduceIte]
  refine call_by rc ?_
  simp (disch := omega) only [go_sem, ↓reduceIte]
  refine call_by rd ?_
  simp (disch := omega) only [go_sem, ↓reduceIte]
  try simp
 cases zf
 ·simp (disch := omega) only [go_sem, ↓reduceIte]
  refine call_by ra ?_
  simp (disch := omega) only [go_sem, ↓reduceIte]
  refine call_by rb ?_
  simp (disch := omega) only [go_sem, ↓reduceIte]
  refine call_by rc ?_
  simp (disch := omega) only [go_sem, ↓reduceIte]
  refine call_by rd ?_
  simp (disch := omega) only [go_sem, ↓reduceIte]
  refine call_by rf ?_
  simp (disch := omega) only [go_sem, ↓reduceIte]
  try simp
 cases zg
 ·simp (disch := omega) only [go_sem, ↓reduceIte]
  refine call_by ra ?_
  simp (disch := omega) only [go_sem, ↓reduceIte]
  refine call_by rb ?_
  simp (disch := omega) only [go_sem, ↓reduceIte]
  refine call_by rc ?_
  simp (disch := omega) only [go_sem, ↓reduceIte]
  refine call_by rd ?_
  simp (disch := omega) only [go_sem, ↓reduceIte]
  refine call_by rf ?_
  simp (disch := omega) only [go_sem, ↓reduceIte]
  refine call_by rg ?_
  simp (disch := omega) only [go_sem, ↓reduceIte]
  try simp
 cases zh
 ·simp (disch := omega) only [go_sem, ↓reduceIte]
  refine call_by ra ?_
  simp (disch := omega) only [go_sem, ↓reduceIte]
  refine call_by rb ?_
  simp (disch := omega) only [go_sem, ↓reduceIte]
  refine call_by rc ?_
  simp (disch := omega) only [go_sem, ↓reduceIte]
  refine call_by rd ?_
  simp (disch := omega) only [go_sem, ↓reduceIte]
  refine call_by rf ?_
  simp (disch := omega) only [go_sem, ↓reduceIte]
  refine call_by rg ?_
  simp (disch := omega) only [go_sem, ↓reduceIte]
  refine call_by rh ?_
  simp (disch := omega) only [go_sem, ↓reduceIte]
  try simp
 cases zk
 ·simp (disch := omega) only [go_sem, ↓reduceIte]
  refine call_by ra ?_
  simp (disch := omega) only [go_sem, ↓reduceIte]
  refine call_by rb ?_
  simp (disch := omega) only [go_sem, ↓reduceIte]
  refine call_by rc ?_
  simp (disch := omega) only [go_sem, ↓reduceIte]
  refine call_by rd ?_
  simp (disch := omega) only [go_sem, ↓reduceIte]
  refine call_by rf ?_
  simp (disch := omega) only [go_sem, ↓reduceIte]
  refine call_by rg ?_
  simp (disch := omega) only [go_sem, ↓reduceIte]
  refine call_by rh ?_
  simp (disch := omega) only [go_sem, ↓reduceIte]
  refine call_by rk ?_
  simp (disch := omega) only [go_sem, ↓reduceIte]
  try simp
 ·simp (disch := omega) only [go_sem, ↓reduceIte]
  refine call_by ra ?_
  simp (disch := omega) only [go_sem, ↓reduceIte]
  refine call_by rb ?_
  simp (disch := omega) only [go_sem, ↓reduceIte]
  refine call_by rc ?_
  simp (disch := omega) only [go_sem, ↓reduceIte]
  refine call_by rd ?_
  simp (disch := omega) only [go_sem, ↓reduceIte]
  refine call_by rf ?_
  simp (disch := omega) only [go_sem, ↓reduceIte]
  refine call_by rg ?_
  simp (disch := omega) only [go_sem, ↓reduceIte]
  refine call_by rh ?_
  simp (disch := omega) only [go_sem, ↓reduceIte]
  refine call_by rk ?_
  simp (disch := omega) only [go_sem, ↓reduceIte]
  try simp
end
section
variable (P : Program) (F : String → Nat)
end
section
variable {P : Program} {F : String → Nat} {α : Type}
def shSq : Sh := .cat [shG, shG, shG, shG, shM, shM, shM, shM]
theorem rd_sq {x : D} (h : HasEl shSq x) : ∃ s : Sq, x = sqD s ∧ s.sm := by
 simp only [shSq, HasEl] at h
 obtain ⟨ds, rfl, h⟩ := h
 obtain ⟨_, _, rfl, h1, h⟩ := hasShs_cat h
 obtain ⟨_, _, rfl, h2, h⟩ := hasShs_cat h
 obtain ⟨_, _, rfl, h3, h⟩ := hasShs_cat h
 obtain ⟨_, _, rfl, h4, h⟩ := hasShs_cat h
 obtain ⟨_, _, rfl, h5, h⟩ := hasShs_cat h
 obtain ⟨_, _, rfl, h6, h⟩ := hasShs_cat h
 obtain ⟨_, _, rfl, h7, h⟩ := hasShs_cat h
 obtain ⟨_, _, rfl, h8, h⟩ := hasShs_cat h
 obtain rfl := hasShs_nil h
 obtain ⟨a, rfl⟩ := rd_gl h1
 obtain ⟨b, rfl⟩ := rd_gl h2
 obtain ⟨c, rfl⟩ := rd_gl h3
 obtain ⟨d, rfl⟩ := rd_gl h4
 obtain ⟨f, rfl, k1⟩ := rd_ml h5
 obtain ⟨g, rfl, k2⟩ := rd_ml h6
 obtain ⟨hh, rfl, k3⟩ := rd_ml h7
 obtain ⟨k, rfl, k4⟩ := rd_ml h8
 exact ⟨⟨a, b, c, d, f, g, hh, k⟩, rfl, k1, k2, k3, k4⟩
end
section
variable (P : Program) (F : String → Nat)
end
section
variable {P : Program} {F : String → Nat} {α : Type}
theorem sq0_bd : SqBd sq0 := by
 refine ⟨⟨?_, ?_⟩, ⟨?_, ?_⟩, ⟨?_, ?_⟩, ⟨?_, ?_⟩, ⟨?_, ?_⟩, ⟨?_, ?_⟩, ⟨?_, ?_⟩, ?_, ?_⟩ <;> simp [sq0, g0, m0]
end
section
theorem idx_spec {l : List Pr} {q : Pr} (h : q ∈ l) : (0 ≤ idx (fun p => decide (p = q)) l 0 ∧ idx (fun p => decide (p = q)) l 0 < l.length) ∧ gt l (idx (fun p => decide (p = q)) l 0) = q := by
 have h0 := idx_mem.2 h
 obtain ⟨k, h1, h2, h3, _⟩ := idx_some (fun p => decide (p = q)) l 0 (by omega)
 rw [h1]
 refine ⟨by omega, ?_⟩
 simpa using h3
theorem nodup_flatMap_range {α : Type} {f : Nat → List α} : ∀ n, (∀ i, i < n → (f i).Nodup) → (∀ i j, i < j → j < n → ∀ x ∈ f i, x ∉ f j) → ((List.range n).flatMap f).Nodup
 | 0, _, _ => by simp
 | n + 1, h1, h2 => by
  rw [List.range_succ, List.flatMap_append, List.nodup_append]
  refine ⟨nodup_flatMap_range n (fun i hi => h1 i (by omega)) fun i j hij hj => h2 i j hij (by omega), by simpa using h1 n (by omega), ?_⟩
  intro a ha b hb hab
  subst hab
  simp only [List.flatMap_cons, List.flatMap_nil, List.append_nil] at hb
  obtain ⟨i, hi, hai⟩ := List.mem_flatMap.1 ha
  exact h2 i n (by simpa using hi) (by omega) a hai hb
theorem rowP_nodup (f g : List Int) (i k : Nat) : (rowP f g i k).Nodup := by
 unfold rowP List.Nodup
 rw [List.pairwise_map]
 exact ((List.nodup_range (n := k)).filter _).imp fun h e => by simp at e; omega
theorem pairsL_nodup (f g : List Int) : (pairsL f g).Nodup := by
 unfold pairsL pairsI
 refine nodup_flatMap_range _ (fun i _ => rowP_nodup f g i _) fun i j hij _ x hx hy => ?_
 unfold rowP at hx hy
 obtain ⟨k, _, rfl⟩ := List.mem_map.1 hx
 obtain ⟨k', _, h⟩ := List.mem_map.1 hy
 simp at h; omega
structure PB (s : Cs) : Prop where
 f : MOk s.b s.d s.f
 g : MOk s.c s.d s.g
 p : MOk (pbG0 s) s.b ⟨asA (pbN s), asA (pbE s)⟩
 q : MOk (pbG0 s) s.c ⟨asB (pbN s), asB (pbE s)⟩
theorem pbN_in {s : Cs} (hf : MOk s.b s.d s.f) (hg : MOk s.c s.d s.g) {a b : Int} (ha : 0 ≤ a ∧ a < s.b.n.length) (hb : 0 ≤ b ∧ b < s.c.n.length) : (⟨a, b⟩ : Pr) ∈ pbN s ↔ gt s.f.n a = gt s.g.n b := by
 unfold pbN
 exact pairsL_in (by rw [hf.ln]; exact ha) (by rw [hg.ln]; exact hb)
theorem pbE_in {s : Cs} (hf : MOk s.b s.d s.f) (hg : MOk s.c s.d s.g) {a b : Int} (ha : 0 ≤ a ∧ a < s.b.e.length) (hb : 0 ≤ b ∧ b < s.c.e.length) : (⟨a, b⟩ : Pr) ∈ pbE s ↔ gt s.f.e a = gt s.g.e b := by
 unfold pbE
 exact pairsL_in (by rw [hf.le]; exact ha) (by rw [hg.le]; exact hb)
theorem pbN_bd {s : Cs} (hf : MOk s.b s.d s.f) (hg : MOk s.c s.d s.g) {p : Pr} (h : p ∈ pbN s) : (0 ≤ p.a ∧ p.a < s.b.n.length) ∧ (0 ≤ p.b ∧ p.b < s.c.n.length) ∧ gt s.f.n p.a = gt s.g.n p.b := by
 have hb := pairsL_bd h
 rw [hf.ln, hg.ln] at hb
 exact ⟨hb.1, hb.2, (pbN_in hf hg hb.1 hb.2).1 h⟩
theorem pbE_bd {s : Cs} (hf : MOk s.b s.d s.f) (hg : MOk s.c s.d s.g) {p : Pr} (h : p ∈ pbE s) : (0 ≤ p.a ∧ p.a < s.b.e.length) ∧ (0 ≤ p.b ∧ p.b < s.c.e.length) ∧ gt s.f.e p.a = gt s.g.e p.b := by
 have hb := pairsL_bd h
 rw [hf.le, hg.le] at hb
 exact ⟨hb.1, hb.2, (pbE_in hf hg hb.1 hb.2).1 h⟩
theorem pb_ends {s : Cs} (hf : MOk s.b s.d s.f) (hg : MOk s.c s.d s.g) {p : Pr} (h : p ∈ pbE s) : (⟨(gt s.b.e p.a).f, (gt s.c.e p.b).f⟩ : Pr) ∈ pbN s ∧ (⟨(gt s.b.e p.a).o, (gt s.c.e p.b).o⟩ : Pr) ∈ pbN s ∧ (gt s.b.e p.a).t = (gt s.c.e p.b).t := by
 obtain ⟨ha, hb, he⟩ := pbE_bd hf hg h
 obtain ⟨_, b1, b2⟩ := edge_fits hf.va ha
 obtain ⟨_, c1, c2⟩ := edge_fits hg.va hb
 obtain ⟨i, hi, hi2⟩ := gtI ha
 obtain ⟨k, hk, hk2⟩ := gtI hb
 obtain ⟨_, f1, f2, f3⟩ := hf.ed i hi
 obtain ⟨_, g1, g2, g3⟩ := hg.ed k hk
 rw [← hi2] at f1 f2 f3
 rw [← hk2] at g1 g2 g3
 refine ⟨(pbN_in hf hg b1 c1).2 ?_, (pbN_in hf hg b2 c2).2 ?_, ?_⟩
 ·rw [f2, g2, he]
 ·rw [f3, g3, he]
 ·rw [f1, g1, he]
theorem pb_of {s : Cs} (h : pbErr s = 0) : PB s := by
 obtain ⟨l1, l2, hg0⟩ := pbN_len h
 obtain ⟨v1, v2⟩ := givenE_spec hg0
 have hf := mok.1 v1
 have hg := mok.1 v2
 have vb := valid_spec hf.va
 have hnl : (pbG0 s).n.length = (pbN s).length := by simp [pbG0]
 have hel : (pbG0 s).e.length = (pbE s).length := by simp [pbG0]
 have hedge : ∀ i : Nat, i < (pbE s).length → gt (pbG0 s).e i = pbEdge s.b.e s.c.e (pbN s) (gt (pbE s) i) := fun i hi => gt_map hi
 have hA : ∀ (l : List Pr) (i : Nat), i < l.length → gt (asA l) i = (gt l i).a := fun l i hi => gt_map hi
 have hB : ∀ (l : List Pr) (i : Nat), i < l.length → gt (asB l) i = (gt l i).b := fun l i hi => gt_map hi
 have va : validG (pbG0 s) = 0 := by
  refine valid_mk (by omega) (by omega) (fun x hx => ?_) (fun x hx => ?_)
  ·simp only [pbG0, List.mem_map] at hx
   obtain ⟨p, hp, rfl⟩ := hx
   have := pbN_bd hf hg hp
   exact vb.2.2.1 _ (gt_mem this.1.1 this.1.2)
  ·simp only [pbG0, List.mem_map] at hx
   obtain ⟨p, hp, rfl⟩ := hx
   obtain ⟨ha, hb, _⟩ := pbE_bd hf hg hp
   obtain ⟨e1, e2, _⟩ := pb_ends hf hg hp
   have t1 := edge_fits hf.va ha
   have i1 := idx_spec e1
   have i2 := idx_spec e2
   rw [hnl]
   exact fits_mk t1.1 i1.1 i2.1
 have hend : ∀ i : Nat, i < (pbE s).length → (gt (pbN s) (gt (pbG0 s).e i).f = ⟨(gt s.b.e (gt (pbE s) i).a).f, (gt s.c.e (gt (pbE s) i).b).f⟩ ∧ 0 ≤ (gt (pbG0 s).e i).f ∧ (gt (pbG0 s).e i).f < (pbN s).length) ∧
   gt (pbN s) (gt (pbG0 s).e i).o = ⟨(gt s.b.e (gt (pbE s) i).a).o, (gt s.c.e (gt (pbE s) i).b).o⟩ ∧ 0 ≤ (gt (pbG0 s).e i).o ∧ (gt (pbG0 s).e i).o < (pbN s).length := fun i hi => by
  obtain ⟨e1, e2, _⟩ := pb_ends hf hg (gt_mem (l := pbE s) (j := i) (by omega) (by omega))
  have i1 := idx_spec e1
  have i2 := idx_spec e2
  rw [hedge i hi]
  exact ⟨⟨i1.2, i1.1⟩, ⟨i2.2, i2.1⟩⟩
 refine ⟨hf, hg, ⟨va, hf.va, by simp [asA, hnl], by simp [asA, hel], fun i hi => ?_, fun i hi => ?_⟩, ⟨va, hg.va, by simp [asB, hnl], by simp [asB, hel], fun i hi => ?_, fun i hi => ?_⟩⟩
 ·rw [hnl] at hi
  have := pbN_bd hf hg (gt_mem (l := pbN s) (j := i) (by omega) (by omega))
  simp only
  rw [hA _ i hi]
  have e : gt (pbG0 s).n i = gt s.b.n (gt (pbN s) i).a := gt_map hi
  exact ⟨this.1, e.symm⟩
 ·rw [hel] at hi
  have hm := gt_mem (l := pbE s) (j := i) (by omega) (by omega)
  have hb := pbE_bd hf hg hm
  obtain ⟨⟨n1, n2⟩, n3, n4⟩ := hend i hi
  simp only
  rw [hA _ i hi]
  refine ⟨hb.1, by rw [hedge i hi]; rfl, ?_, ?_⟩
  ·obtain ⟨j, hj, hj2⟩ := gtI n2
   rw [hj2] at n1 ⊢
   rw [hA _ j hj, n1]
  ·obtain ⟨j, hj, hj2⟩ := gtI n4
   rw [hj2] at n3 ⊢
   rw [hA _ j hj, n3]
 ·rw [hnl] at hi
  have hb := pbN_bd hf hg (gt_mem (l := pbN s) (j := i) (by omega) (by omega))
  simp only
  rw [hB _ i hi]
  refine ⟨hb.2.1, ?_⟩
  have e : gt (pbG0 s).n i = gt s.b.n (gt (pbN s) i).a := gt_map hi
  rw [e]
  obtain ⟨k, hk, hk2⟩ := gtI hb.2.1
  obtain ⟨j, hj, hj2⟩ := gtI hb.1
  have := hb.2.2
  rw [hk2, hj2] at *
  rw [← (hg.nd k hk).2, ← (hf.nd j hj).2, this]
 ·rw [hel] at hi
  have hm := gt_mem (l := pbE s) (j := i) (by omega) (by omega)
  have hb := pbE_bd hf hg hm
  obtain ⟨_, _, ht⟩ := pb_ends hf hg hm
  obtain ⟨⟨n1, n2⟩, n3, n4⟩ := hend i hi
  simp only
  rw [hB _ i hi]
  refine ⟨hb.2.1, by rw [← ht, hedge i hi]; rfl, ?_, ?_⟩
  ·obtain ⟨j, hj, hj2⟩ := gtI n2
   rw [hj2] at n1 ⊢
   rw [hB _ j hj, n1]
  ·obtain ⟨j, hj, hj2⟩ := gtI n4
   rw [hj2] at n3 ⊢
   rw [hB _ j hj, n3]
end
end Go.Am
